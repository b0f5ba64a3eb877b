/-
  WHAT IS PROVED: contracts of functions, and the plain law, for this proof. No further conditions.
-/
import Derived.Test.YtnbddjghhmbmcaaGreatDoorMapM
set_option linter.unusedVariables false
set_option linter.unusedSimpArgs false
namespace Go.D
open Go
variable {κ α : Type} [DecidableEq κ]
theorem BL (k : κ) (a : α) : ∀ al : List (κ × α), (putL al k a).map (·.1) = if (lookL al k).isSome then al.map (·.1) else al.map (·.1) ++ [k]
 | [] => by simp [putL, lookL]
 | (k0, a0) :: r => by
  rw [putL, lookL]
  by_cases h : k = k0
  ·subst h; rw [if_pos rfl, if_pos rfl]; simp
  ·rw [if_neg h, if_neg h, List.map_cons, BL k a r, List.map_cons]
   split <;> simp
theorem nq {al : List (κ × α)} {k : κ} {a : α} (h : lookL al k = some a) : (k, a) ∈ al := by
 induction al with
 | nil => simp [lookL] at h
 | cons p r ih =>
  obtain ⟨k0, a0⟩ := p
  rw [lookL] at h
  split at h
  ·rename_i hk; subst hk; cases h; simp
  ·exact List.mem_cons_of_mem _ (ih h)
theorem BM {al : List (κ × α)} {k : κ} : (lookL al k).isSome = true ↔ k ∈ al.map (·.1) := by
 induction al with
 | nil => simp [lookL]
 | cons p r ih =>
  obtain ⟨k0, a0⟩ := p
  rw [lookL, List.map_cons, List.mem_cons]
  by_cases h : k = k0
  ·simp [h]
  ·rw [if_neg h, ih]; simp [h]
theorem zR {al : List (κ × α)} {k : κ} : lookL al k = none ↔ k ∉ al.map (·.1) := by
 rw [<- BM]; cases lookL al k <;> simp
theorem BN {al : List (κ × α)} (hn : (al.map (·.1)).Nodup) {k : κ} {a : α} (h : (k, a) ∈ al) : lookL al k = some a := by
 induction al with
 | nil => simp at h
 | cons p r ih =>
  obtain ⟨k0, a0⟩ := p
  rw [List.map_cons, List.nodup_cons] at hn
  rw [lookL]
  rcases List.mem_cons.1 h with h1 | h1
  ·cases h1; rw [if_pos rfl]
  ·have : k ≠ k0 := by
    rintro rfl
    exact hn.1 (List.mem_map.2 ⟨(k, a), h1, rfl⟩)
   rw [if_neg this]
   exact ih hn.2 h1
theorem Em {al : List (κ × α)} (hn : (al.map (·.1)).Nodup) (k : κ) (a : α) : ((putL al k a).map (·.1)).Nodup := by
 rw [BL]
 split
 ·exact hn
 ·rename_i h
  rw [Bool.not_eq_true, Option.isSome_eq_false_iff, Option.isNone_iff_eq_none] at h
  rw [List.nodup_append]
  exact ⟨hn, by simp, fun x hx y hy => by rw [List.mem_singleton] at hy; subst hy; rintro rfl; exact zR.1 h hx⟩
theorem AF (k : κ) : ∀ al : List (κ × α), (jZ al k).Sublist al
 | [] => by simp [jZ]
 | (k0, a0) :: r => by
  rw [jZ]
  split
  ·exact List.sublist_cons_self _ _
  ·exact (AF k r).cons_cons _
theorem zS {al : List (κ × α)} (hn : (al.map (·.1)).Nodup) (k : κ) : ((jZ al k).map (·.1)).Nodup := hn.sublist ((AF k al).map _)
theorem tC (k k' : κ) : ∀ {al : List (κ × α)}, (al.map (·.1)).Nodup -> lookL (jZ al k) k' = if k' = k then none else lookL al k'
 | [], _ => by simp [jZ, lookL]
 | (k0, a0) :: r, hn => by
  rw [List.map_cons, List.nodup_cons] at hn
  rw [jZ]
  by_cases h : k = k0
  ·subst h
   rw [if_pos rfl]
   by_cases h2 : k' = k
   ·subst h2; rw [if_pos rfl]; exact zR.2 hn.1
   ·rw [if_neg h2, lookL, if_neg h2]
  ·rw [if_neg h, lookL, lookL, tC k k' hn.2]
   by_cases h2 : k' = k0
   ·subst h2; rw [if_pos rfl, if_pos rfl, if_neg (fun e => h e.symm)]
   ·rw [if_neg h2, if_neg h2]
structure CS (es : List MapEntry) (ck : Nat) : Prop where
 nd : (es.map (·.born)).Nodup
 lt : ∀ e ∈ es, e.born < ck
structure iI (M : KV κ α) (w : World) (r : Nat) (al : List (κ × α)) : Prop where
 at' : ∃ es ck, w.heap[r]? = some (.map es ck) /\ Rep M es.toList al /\ CS es.toList ck
 nd : (al.map (·.1)).Nodup
theorem iI.at {M : KV κ α} {w : World} {r : Nat} {al : List (κ × α)} (h : iI M w r al) : xy M w r al := by
 obtain ⟨es, ck, h1, h2, _⟩ := h.at'
 exact ⟨es, ck, h1, h2⟩
theorem iI.ext {M : KV κ α} {N : Nat -> Prop} {w w' : World} {r : Nat} {al : List (κ × α)} (h : iI M w r al) (he : Ext N w w') (hm : ¬ N r) : iI M w' r al := by
 obtain ⟨es, ck, h1, h2⟩ := h.at'
 exact ⟨⟨es, ck, he.heap h1 hm, h2⟩, h.nd⟩
theorem iI.ae {M : KV κ α} {w w' : World} {r : Nat} {al : List (κ × α)} (h : iI M w r al) (he : ah w w') : iI M w' r al := h.ext he (fun h => h)
theorem iI.lt {M : KV κ α} {w : World} {r : Nat} {al : List (κ × α)} (h : iI M w r al) : r < w.heap.size := h.at.lt
theorem iI.new {M : KV κ α} {w : World} {r ck : Nat} (h : w.heap[r]? = some (.map #[] ck)) : iI M w r [] := ⟨⟨#[], ck, h, rfl, ⟨by simp, by simp⟩⟩, by simp⟩
theorem iI.put {M : KV κ α} {w : World} {r : Nat} {al : List (κ × α)} (h : iI M w r al) (k : κ) (a : α) :
  ∃ es ck es' ck', w.heap[r]? = some (.map es ck) /\ mapPut M.kd (M.kv k) (M.vv a) es ck = some (es', ck') /\
   ∀ w1, w1 = bu w r (.map es' ck') -> iI M w1 r (putL al k a) /\ Ext (fun x => x = r) w w1 /\ w1.heap.size = w.heap.size := by
 obtain ⟨es, ck, h1, h2, h5⟩ := h.at'
 obtain ⟨es', ck', h3, h4⟩ := CR h2 k a ck
 refine ⟨es, ck, es', ck', h1, h3, ?_⟩
 rintro w1 rfl
 have hlt := bL h1
 have hS : CS es'.toList ck' := by
  unfold mapPut at h3
  cases hf : Instr.findNow M.kd (M.kv k) es.toList 0 with
  | none => rw [hf] at h3; cases h3
  | some q =>
   rw [hf, Option.map_some] at h3
   cases q with
   | none =>
    simp only [Option.some.injEq, Prod.mk.injEq] at h3
    obtain ⟨rfl, rfl⟩ := h3
    refine ⟨?_, ?_⟩
    ·rw [Array.toList_push, List.map_append, List.nodup_append]
     refine ⟨h5.nd, by simp, fun x hx y hy => ?_⟩
     obtain ⟨e, he, rfl⟩ := List.mem_map.1 hx
     simp at hy
     have := h5.lt e he
     omega
    ·intro e he
     rw [Array.toList_push, List.mem_append, List.mem_singleton] at he
     rcases he with he | rfl
     ·have := h5.lt e he; omega
     ·show ck < ck + 1; omega
   | some jv =>
    obtain ⟨j, v⟩ := jv
    simp only [Option.some.injEq, Prod.mk.injEq] at h3
    obtain ⟨rfl, rfl⟩ := h3
    have hb : (es.modify j fun e => { e with key := M.kv k, val := M.vv a }).toList.map (·.born) = es.toList.map (·.born) := by
     rw [Array.toList_modify]
     apply List.ext_getElem?
     intro i
     simp only [List.getElem?_map, List.getElem?_modify]
     cases es.toList[i]? with
     | none => rfl
     | some e => simp only [Option.map_some, Option.some.injEq]; split <;> rfl
    refine ⟨by rw [hb]; exact h5.nd, fun e he => ?_⟩
    have : e.born ∈ es.toList.map (·.born) := by rw [<- hb]; exact List.mem_map.2 ⟨e, he, rfl⟩
    obtain ⟨e', he', h6⟩ := List.mem_map.1 this
    rw [<- h6]; exact h5.lt e' he'
 exact ⟨⟨⟨es', ck', by simp [bu, hlt], h4, hS⟩, Em h.nd k a⟩, mG, by simp [bu]⟩
theorem iI.del {M : KV κ α} {w : World} {r : Nat} {al : List (κ × α)} (h : iI M w r al) (k : κ) :
  ∃ es ck es', w.heap[r]? = some (.map es ck) /\ mX M.kd (M.kv k) es = some es' /\
   ∀ w1, w1 = bu w r (.map es' ck) -> iI M w1 r (jZ al k) /\ Ext (fun x => x = r) w w1 /\ w1.heap.size = w.heap.size := by
 obtain ⟨es, ck, h1, h2, h5⟩ := h.at'
 obtain ⟨es', h3, h4⟩ := xw h2 k
 refine ⟨es, ck, es', h1, h3, ?_⟩
 rintro w1 rfl
 have hlt := bL h1
 have hsub : es'.toList.Sublist es.toList := by
  unfold mX at h3
  cases hf : Instr.findNow M.kd (M.kv k) es.toList 0 with
  | none => rw [hf] at h3; cases h3
  | some q =>
   rw [hf, Option.map_some] at h3
   cases q with
   | none => simp only [Option.some.injEq] at h3; subst h3; exact List.Sublist.refl _
   | some jv =>
    simp only [Option.some.injEq] at h3; subst h3
    have e : (es.eraseIdxIfInBounds jv.1).toList = es.toList.eraseIdx jv.1 := by simp
    rw [e]; exact List.eraseIdx_sublist _ _
 exact ⟨⟨⟨es', ck, by simp [bu, hlt], h4, ⟨h5.nd.sublist (hsub.map _), fun e he => h5.lt e (hsub.subset he)⟩⟩, zS h.nd k⟩, mG, by simp [bu]⟩
theorem iI.get {M : KV κ α} {w : World} {r : Nat} {al : List (κ × α)} (h : iI M w r al) : ∃ es, mapIs w (some r) es /\ ∀ k, iw M.kd (M.kv k) es = some ((lookL al k).map M.vv) := h.at.get
def kl (M : KV κ α) (w : World) (r m : Nat) (al : List (κ × α)) (ks : List κ) : Prop :=
 ∃ (since last : Nat) (ds : List MapEntry) (seen : Array Nat) (es : Array MapEntry) (ck : Nat), w.heap[r]? = some (.mapIter (some m) since seen last) /\ w.heap[m]? = some (.map es ck) /\ Rep M es.toList al /\ CS es.toList ck /\
  since <= last /\ ck = since /\ seen.toList = ds.map (·.born) /\ ds.map (·.key) = ks.map M.kv /\ (∀ d ∈ ds, ∀ e ∈ es.toList, d.born = e.born ↔ d.key = e.key)
theorem iI.range {M : KV κ α} {w : World} {m : Nat} {al : List (κ × α)} (h : iI M w m al) {K : Nat -> World -> Prop}
  (hK : ∀ r w1, r = w.heap.size -> kl M w1 r m al [] -> ah w w1 -> w1.heap.size = r + 1 -> K r w1) : ∃ it : Obj, Ap w (some m) it /\ aA w it K := by
 obtain ⟨es, ck, h1, h2, h3⟩ := h.at'
 refine ⟨_, .inr ⟨m, es, ck, rfl, h1, rfl⟩, ao (fun r w1 hr hb k hs => hK r w1 hr ?_ k hs)⟩
 exact ⟨ck, ck, [], #[], es, ck, hb, k.heap h1, h2, h3, Nat.le_refl _, rfl, rfl, rfl, fun d hd => by simp at hd⟩
theorem GM {M : KV κ α} {es : List MapEntry} {al : List (κ × α)} (h : Rep M es al) {e : MapEntry} (he : e ∈ es) : ∃ p ∈ al, e.key = M.kv p.1 /\ e.val = M.vv p.2 := by
 have : (e.key, e.val) ∈ es.map (fun e => (e.key, e.val)) := List.mem_map.2 ⟨e, he, rfl⟩
 rw [h] at this
 obtain ⟨p, hp, h2⟩ := List.mem_map.1 this
 obtain ⟨h3, h4⟩ := Prod.mk.inj h2
 exact ⟨p, hp, h3.symm, h4.symm⟩
theorem Fk (M : KV κ α) {a b : κ} (h : M.kv a = M.kv b) : a = b := by
 have h1 := M.ok a b
 have h2 := M.ok b b
 rw [h, h2] at h1
 simpa using h1
theorem qU {β γ : Type} (f : β -> γ) : ∀ {l : List β}, (l.map f).Nodup -> ∀ {a b : β}, a ∈ l -> b ∈ l -> f a = f b -> a = b
 | [], _, _, _, h, _, _ => by simp at h
 | x :: l, hn, a, b, ha, hb, hab => by
  rw [List.map_cons, List.nodup_cons] at hn
  rcases List.mem_cons.1 ha with rfl | ha'
  ·rcases List.mem_cons.1 hb with rfl | hb'
   ·rfl
   ·exact absurd (List.mem_map.2 ⟨b, hb', hab.symm⟩) hn.1
  ·rcases List.mem_cons.1 hb with rfl | hb'
   ·exact absurd (List.mem_map.2 ⟨a, ha', hab⟩) hn.1
   ·exact qU f hn.2 ha' hb' hab
theorem zT {β γ : Type} (f : β -> γ) (hf : ∀ a b, f a = f b -> a = b) : ∀ {l : List β}, l.Nodup -> (l.map f).Nodup
 | [], _ => by simp
 | x :: l, hn => by
  rw [List.nodup_cons] at hn
  rw [List.map_cons, List.nodup_cons]
  refine ⟨fun hm => ?_, zT f hf hn.2⟩
  obtain ⟨y, hy, hxy⟩ := List.mem_map.1 hm
  exact hn.1 (hf _ _ hxy ▸ hy)
theorem GN {M : KV κ α} {es : List MapEntry} {al : List (κ × α)} (h : Rep M es al) (hn : (al.map (·.1)).Nodup) : ∀ e ∈ es, ∀ e' ∈ es, e.key = e'.key -> e = e' := by
 have hk : es.map (·.key) = (al.map (·.1)).map M.kv := by
  have := congrArg (List.map Prod.fst) h
  simpa [List.map_map, Function.comp_def] using this
 have hnd : (es.map (·.key)).Nodup := by
  rw [hk]
  exact zT M.kv (fun a b h => Fk M h) hn
 intro e he e' he' hee
 exact qU (·.key) hnd he he' hee
theorem kl.next {M : KV κ α} {w : World} {r m : Nat} {al : List (κ × α)} {ks : List κ} (h : kl M w r m al ks) (hn : (al.map (·.1)).Nodup) {KT : Value -> Value -> World -> Prop} {KF : Prop}
  (hF : (∀ p ∈ al, p.1 ∈ ks) -> KF)
  (hT : ∀ k a w1, (k, a) ∈ al -> k ∉ ks -> kl M w1 r m al (ks ++ [k]) -> Ext (fun x => x = r) w w1 -> w1.heap.size = w.heap.size -> wq w1 r (.tuple #[M.kv k, M.vv a]) -> KT (M.kv k) (M.vv a) w1) : Dw w r KT KF := by
 obtain ⟨since, last, ds, seen, es, ck, h1, h2, h3, h4, h5, rfl, h7, h8, h9⟩ := h
 have hcon : ∀ e ∈ es.toList, seen.contains e.born = true -> ∃ d ∈ ds, d.born = e.born /\ d.key = e.key := by
  intro e he hc
  have : e.born ∈ seen.toList := by simpa using hc
  rw [h7] at this
  obtain ⟨d, hd, hdb⟩ := List.mem_map.1 this
  exact ⟨d, hd, hdb, (h9 d hd e he).1 hdb⟩
 refine .inr ⟨m, ck, seen, last, es, ck, h1, h2, h5, fun e he => h4.lt e he, fun hall => hF (fun p hp => ?_), ?_⟩
 ·have : (M.kv p.1, M.vv p.2) ∈ es.toList.map (fun e => (e.key, e.val)) := by rw [h3]; exact List.mem_map.2 ⟨p, hp, rfl⟩
  obtain ⟨e, he, hee⟩ := List.mem_map.1 this
  obtain ⟨e1, e2⟩ := Prod.mk.inj hee
  obtain ⟨d, hd, _, hdk⟩ := hcon e he (hall e he)
  have : d.key ∈ ds.map (·.key) := List.mem_map.2 ⟨d, hd, rfl⟩
  rw [h8, hdk, e1] at this
  obtain ⟨k, hk, hkk⟩ := List.mem_map.1 this
  rw [<- Fk M hkk]; exact hk
 ·intro e he hc w0 w1 hw0 hw1
  obtain ⟨p, hp, hpk, hpv⟩ := GM h3 he
  rw [hpk, hpv]
  have hlt := bL h1
  have hrm : r ≠ m := by
   rintro rfl
   rw [h1] at h2; cases h2
  have hx0 : Ext (fun x => x = r) w w0 := by rcases hw0 with rfl | rfl; exact Ext.refl _ _; exact Ext.drew _ _
  have hx : Ext (fun x => x = r) w w1 := by
   rw [hw1]
   exact hx0.trans mG (fun _ h => h) (fun _ h => .inl h)
  have hs0 : w0.heap.size = w.heap.size := by rcases hw0 with rfl | rfl <;> rfl
  have hs1 : w1.heap.size = w.heap.size := by rw [hw1]; simp [bu, hs0]
  have hr1 : w1.heap[r]? = some (.mapIter (some m) ck (seen.push e.born) ck) := by
   rw [hw1]
   have : r < w0.heap.size := by omega
   simp [bu, this]
  have hm1 : w1.heap[m]? = some (.map es ck) := hx.heap h2 (fun hh => hrm hh.symm)
  have hfind : es.find? (fun e' => e'.born == e.born) = some e := by
   rw [<- Array.find?_toList]
   cases hq : es.toList.find? (fun e' => e'.born == e.born) with
   | none =>
    rw [List.find?_eq_none] at hq
    exact absurd (beq_self_eq_true e.born) (hq e he)
   | some e' =>
    have h10 := List.find?_some hq
    have h11 := List.mem_of_find?_eq_some hq
    have h12 : e'.born = e.born := by simpa using h10
    rw [qU (·.born) h4.nd h11 he h12]
  refine hT p.1 p.2 w1 hp (fun hin => ?_) ?_ hx hs1 ⟨m, ck, seen.push e.born, es, ck, e.born, e, hr1, hm1, by simp, hfind, by rw [hpk, hpv]⟩
  ·-- its key has been: then it is the same entry
   have : M.kv p.1 ∈ ks.map M.kv := List.mem_map.2 ⟨_, hin, rfl⟩
   rw [<- h8] at this
   obtain ⟨d, hd, hdk⟩ := List.mem_map.1 this
   have hdb := (h9 d hd e he).2 (hdk.trans hpk.symm)
   have : e.born ∈ seen.toList := by rw [h7]; exact List.mem_map.2 ⟨d, hd, hdb⟩
   rw [show seen.contains e.born = true by simpa using this] at hc
   cases hc
  ·refine ⟨ck, ck, ds ++ [e], seen.push e.born, es, ck, hr1, hm1, h3, h4, Nat.le_refl _, rfl, ?_, ?_, ?_⟩
   ·rw [Array.toList_push, h7]; simp
   ·rw [List.map_append, h8, List.map_append]; simp [hpk]
   ·intro d hd e' he'
    rcases List.mem_append.1 hd with hd | hd
    ·exact h9 d hd e' he'
    ·rw [List.mem_singleton] at hd; subst hd
     exact ⟨fun hb => by rw [qU (·.born) h4.nd he he' hb], fun hk => by rw [GN h3 hn _ he _ he' hk]⟩
theorem kl.Is {M : KV κ α} {w : World} {r m : Nat} {al : List (κ × α)} {ks : List κ} (h : kl M w r m al ks) (hn : (al.map (·.1)).Nodup) : iI M w m al := by
 obtain ⟨since, last, ds, seen, es, ck, h1, h2, h3, h4, _⟩ := h
 exact ⟨⟨es, ck, h2, h3, h4⟩, hn⟩
theorem kl.del {M : KV κ α} {w : World} {r m : Nat} {al : List (κ × α)} {ks : List κ} (h : kl M w r m al ks) (k : κ) :
  ∃ es ck es', w.heap[m]? = some (.map es ck) /\ mX M.kd (M.kv k) es = some es' /\
   ∀ w1, w1 = bu w m (.map es' ck) -> kl M w1 r m (jZ al k) ks /\ Ext (fun x => x = m) w w1 /\ w1.heap.size = w.heap.size := by
 obtain ⟨since, last, ds, seen, es, ck, h1, h2, h3, h4, h5, h6, h7, h8, h9⟩ := h
 obtain ⟨es', g3, g4⟩ := xw h3 k
 refine ⟨es, ck, es', h2, g3, ?_⟩
 rintro w1 rfl
 have hlt := bL h2
 have hrm : r ≠ m := by
  rintro rfl
  rw [h1] at h2; cases h2
 have hsub : es'.toList.Sublist es.toList := by
  unfold mX at g3
  cases hf : Instr.findNow M.kd (M.kv k) es.toList 0 with
  | none => rw [hf] at g3; cases g3
  | some q =>
   rw [hf, Option.map_some] at g3
   cases q with
   | none => simp only [Option.some.injEq] at g3; subst g3; exact List.Sublist.refl _
   | some jv =>
    simp only [Option.some.injEq] at g3; subst g3
    have e : (es.eraseIdxIfInBounds jv.1).toList = es.toList.eraseIdx jv.1 := by simp
    rw [e]; exact List.eraseIdx_sublist _ _
 have hx : Ext (fun x => x = m) w (bu w m (.map es' ck)) := mG
 exact ⟨⟨since, last, ds, seen, es', ck, hx.heap h1 hrm, by simp [bu, hlt], g4, ⟨h4.nd.sublist (hsub.map _), fun e he => h4.lt e (hsub.subset he)⟩, h5, h6, h7, h8, fun d hd e he => h9 d hd e (hsub.subset he)⟩, hx, by simp [bu]⟩
def Fl (w : World) (r : Nat) : Nat := match w.heap[r]? with | some (.mapIter _ _ seen _) => seen.size | _ => 0
theorem kl.seen {M : KV κ α} {w : World} {r m : Nat} {al : List (κ × α)} {ks : List κ} (h : kl M w r m al ks) : Fl w r = ks.length := by
 obtain ⟨since, last, ds, seen, es, ck, h1, _, _, _, _, _, h7, h8, _⟩ := h
 unfold Fl
 rw [h1]
 have e1 := congrArg List.length h7
 have e2 := congrArg List.length h8
 simp at e1 e2
 simp only
 omega
end Go.D

