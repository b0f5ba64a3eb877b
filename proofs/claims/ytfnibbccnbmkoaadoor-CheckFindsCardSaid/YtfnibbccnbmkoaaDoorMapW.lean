/-
  WHAT IS PROVED: contracts of functions, and the plain law, for this proof. No further conditions.
-/
import Derived.Test.YtfnibbccnbmkoaaDoorMapI
set_option linter.unusedVariables false
set_option linter.unusedSimpArgs false
namespace Go.D
open Go
structure KW (κ α : Type) where
 kv : κ -> Value
 vv : α -> Value
 inj : ∀ a b, kv a = kv b -> a = b
variable {κ α : Type}
theorem lL (M : KW κ α) {a b : κ} (h : M.kv a = M.kv b) : a = b := M.inj a b h
def lM (M : KW κ α) (es : List MapEntry) (al : List (κ × α)) : Prop := es.map (fun e => (e.key, e.val)) = al.map fun p => (M.kv p.1, M.vv p.2)
structure cH (M : KW κ α) (w : World) (r : Nat) (al : List (κ × α)) : Prop where
 at' : ∃ es ck, w.heap[r]? = some (.map es ck) /\ lM M es.toList al /\ lK es.toList ck
 nd : (al.map (·.1)).Nodup
theorem cH.ext {M : KW κ α} {N : Nat -> Prop} {w w' : World} {r : Nat} {al : List (κ × α)} (h : cH M w r al) (he : Ext N w w') (hm : ¬ N r) : cH M w' r al := by
 obtain ⟨es, ck, h1, h2⟩ := h.at'
 exact ⟨⟨es, ck, he.heap h1 hm, h2⟩, h.nd⟩
theorem cH.ah {M : KW κ α} {w w' : World} {r : Nat} {al : List (κ × α)} (h : cH M w r al) (he : av w w') : cH M w' r al := h.ext he (fun h => h)
theorem cH.lt {M : KW κ α} {w : World} {r : Nat} {al : List (κ × α)} (h : cH M w r al) : r < w.heap.size := by
 obtain ⟨es, ck, h1, _⟩ := h.at'
 exact bH h1
theorem cH.new {M : KW κ α} {w : World} {r ck : Nat} (h : w.heap[r]? = some (.map #[] ck)) : cH M w r [] := ⟨⟨#[], ck, h, rfl, ⟨by simp, by simp⟩⟩, by simp⟩
theorem cH.told {M : KW κ α} {w : World} {r : Nat} {al al' : List (κ × α)} (h : cH M w r al) (e : al'.map (fun p => (p.1, M.vv p.2)) = al.map (fun p => (p.1, M.vv p.2))) : cH M w r al' := by
 obtain ⟨es, ck, h1, h2, h3⟩ := h.at'
 have e1 : al'.map (·.1) = al.map (·.1) := by
  have := congrArg (List.map Prod.fst) e
  simpa [List.map_map, Function.comp_def] using this
 refine ⟨⟨es, ck, h1, ?_, h3⟩, by rw [e1]; exact h.nd⟩
 have := congrArg (List.map (fun q : κ × Value => (M.kv q.1, q.2))) e
 simp only [List.map_map, Function.comp_def] at this
 rw [lM, this]
 exact h2
def gA (M : KW κ α) (w : World) (r m : Nat) (al : List (κ × α)) (ks : List κ) : Prop :=
 ∃ (since last : Nat) (ds : List MapEntry) (seen : Array Nat) (es : Array MapEntry) (ck : Nat), w.heap[r]? = some (.mapIter (some m) since seen last) /\ w.heap[m]? = some (.map es ck) /\ lM M es.toList al /\ lK es.toList ck /\
  since <= last /\ ck = since /\ seen.toList = ds.map (·.born) /\ ds.map (·.key) = ks.map M.kv /\ (∀ d ∈ ds, ∀ e ∈ es.toList, d.born = e.born ↔ d.key = e.key)
theorem gA.ext {M : KW κ α} {N : Nat -> Prop} {w w' : World} {r m : Nat} {al : List (κ × α)} {ks : List κ} (h : gA M w r m al ks) (he : Ext N w w') (h1 : ¬ N r) (h2 : ¬ N m) : gA M w' r m al ks := by
 obtain ⟨since, last, ds, seen, es, ck, g1, g2, g3⟩ := h
 exact ⟨since, last, ds, seen, es, ck, he.heap g1 h1, he.heap g2 h2, g3⟩
theorem cH.range {M : KW κ α} {w : World} {m : Nat} {al : List (κ × α)} (h : cH M w m al) {K : Nat -> World -> Prop}
  (hK : ∀ r w1, r = w.heap.size -> gA M w1 r m al [] -> av w w1 -> w1.heap.size = r + 1 -> K r w1) : ∃ it : Obj, ly w (some m) it /\ aK w it K := by
 obtain ⟨es, ck, h1, h2, h3⟩ := h.at'
 refine ⟨_, .inr ⟨m, es, ck, rfl, h1, rfl⟩, ai (fun r w1 hr hb k hs => hK r w1 hr ?_ k hs)⟩
 exact ⟨ck, ck, [], #[], es, ck, hb, k.heap h1, h2, h3, Nat.le_refl _, rfl, rfl, rfl, fun d hd => by simp at hd⟩
theorem iv {M : KW κ α} {es : List MapEntry} {al : List (κ × α)} (h : lM M es al) {e : MapEntry} (he : e ∈ es) : ∃ p ∈ al, e.key = M.kv p.1 /\ e.val = M.vv p.2 := by
 have : (e.key, e.val) ∈ es.map (fun e => (e.key, e.val)) := List.mem_map.2 ⟨e, he, rfl⟩
 rw [h] at this
 obtain ⟨p, hp, h2⟩ := List.mem_map.1 this
 obtain ⟨h3, h4⟩ := Prod.mk.inj h2
 exact ⟨p, hp, h3.symm, h4.symm⟩
theorem qb {M : KW κ α} {es : List MapEntry} {al : List (κ × α)} (h : lM M es al) (hn : (al.map (·.1)).Nodup) : ∀ e ∈ es, ∀ e' ∈ es, e.key = e'.key -> e = e' := by
 have hk : es.map (·.key) = (al.map (·.1)).map M.kv := by
  have := congrArg (List.map Prod.fst) h
  simpa [List.map_map, Function.comp_def] using this
 have hnd : (es.map (·.key)).Nodup := by
  rw [hk]
  exact iR M.kv (fun a b h => lL M h) hn
 intro e he e' he' hee
 exact gH (·.key) hnd he he' hee
theorem gA.next {M : KW κ α} {w : World} {r m : Nat} {al : List (κ × α)} {ks : List κ} (h : gA M w r m al ks) (hn : (al.map (·.1)).Nodup) {KT : Value -> Value -> World -> Prop} {KF : Prop}
  (hF : (∀ p ∈ al, p.1 ∈ ks) -> KF)
  (hT : ∀ k a w1, (k, a) ∈ al -> k ∉ ks -> gA M w1 r m al (ks ++ [k]) -> Ext (fun x => x = r) w w1 -> w1.heap.size = w.heap.size -> ju w1 r (.tuple #[M.kv k, M.vv a]) -> KT (M.kv k) (M.vv a) w1) : oh w r KT KF := by
 obtain ⟨since, last, ds, seen, es, ck, h1, h2, h3, h4, h5, rfl, h7, h8, h9⟩ := h
 have hcon : ∀ e ∈ es.toList, seen.contains e.born = true -> ∃ d ∈ ds, d.born = e.born /\ d.key = e.key := by
  intro e he hc
  have : e.born ∈ seen.toList := by simpa using hc
  rw [h7] at this
  obtain ⟨d, hd, hdb⟩ := List.mem_map.1 this
  exact ⟨d, hd, hdb, (h9 d hd e he).1 hdb⟩
 refine .inr ⟨m, ck, seen, last, es, ck, h1, h2, h5, fun e he => h4.lt e he, fun hall => hF (fun p hp => ?_), ?_⟩
 ·have : (M.kv p.1, M.vv p.2) ∈ es.toList.map (fun e => (e.key, e.val)) := by rw [h3]; exact List.mem_map.2 ⟨p, hp, rfl⟩
  obtain ⟨e, he, hee⟩ := List.mem_map.1 this
  obtain ⟨e1, e2⟩ := Prod.mk.inj hee
  obtain ⟨d, hd, _, hdk⟩ := hcon e he (hall e he)
  have : d.key ∈ ds.map (·.key) := List.mem_map.2 ⟨d, hd, rfl⟩
  rw [h8, hdk, e1] at this
  obtain ⟨k, hk, hkk⟩ := List.mem_map.1 this
  rw [<- lL M hkk]; exact hk
 ·intro e he hc w0 w1 hw0 hw1
  obtain ⟨p, hp, hpk, hpv⟩ := iv h3 he
  rw [hpk, hpv]
  have hlt := bH h1
  have hrm : r ≠ m := by
   rintro rfl
   rw [h1] at h2; cases h2
  have hx0 : Ext (fun x => x = r) w w0 := by rcases hw0 with rfl | rfl; exact Ext.refl _ _; exact Ext.drew _ _
  have hx : Ext (fun x => x = r) w w1 := by
   rw [hw1]
   exact hx0.trans gz (fun _ h => h) (fun _ h => .inl h)
  have hs0 : w0.heap.size = w.heap.size := by rcases hw0 with rfl | rfl <;> rfl
  have hs1 : w1.heap.size = w.heap.size := by rw [hw1]; simp [aQ, hs0]
  have hr1 : w1.heap[r]? = some (.mapIter (some m) ck (seen.push e.born) ck) := by
   rw [hw1]
   have : r < w0.heap.size := by omega
   simp [aQ, this]
  have hm1 : w1.heap[m]? = some (.map es ck) := hx.heap h2 (fun hh => hrm hh.symm)
  have hfind : es.find? (fun e' => e'.born == e.born) = some e := by
   rw [<- Array.find?_toList]
   cases hq : es.toList.find? (fun e' => e'.born == e.born) with
   | none =>
    rw [List.find?_eq_none] at hq
    exact absurd (beq_self_eq_true e.born) (hq e he)
   | some e' =>
    have h10 := List.find?_some hq
    have h11 := List.mem_of_find?_eq_some hq
    have h12 : e'.born = e.born := by simpa using h10
    rw [gH (·.born) h4.nd h11 he h12]
  refine hT p.1 p.2 w1 hp (fun hin => ?_) ?_ hx hs1 ⟨m, ck, seen.push e.born, es, ck, e.born, e, hr1, hm1, by simp, hfind, by rw [hpk, hpv]⟩
  ·-- its key has been: then it is the same entry
   have : M.kv p.1 ∈ ks.map M.kv := List.mem_map.2 ⟨_, hin, rfl⟩
   rw [<- h8] at this
   obtain ⟨d, hd, hdk⟩ := List.mem_map.1 this
   have hdb := (h9 d hd e he).2 (hdk.trans hpk.symm)
   have : e.born ∈ seen.toList := by rw [h7]; exact List.mem_map.2 ⟨d, hd, hdb⟩
   rw [show seen.contains e.born = true by simpa using this] at hc
   cases hc
  ·refine ⟨ck, ck, ds ++ [e], seen.push e.born, es, ck, hr1, hm1, h3, h4, Nat.le_refl _, rfl, ?_, ?_, ?_⟩
   ·rw [Array.toList_push, h7]; simp
   ·rw [List.map_append, h8, List.map_append]; simp [hpk]
   ·intro d hd e' he'
    rcases List.mem_append.1 hd with hd | hd
    ·exact h9 d hd e' he'
    ·rw [List.mem_singleton] at hd; subst hd
     exact ⟨fun hb => by rw [gH (·.born) h4.nd he he' hb], fun hk => by rw [qb h3 hn _ he _ he' hk]⟩
theorem gA.seen {M : KW κ α} {w : World} {r m : Nat} {al : List (κ × α)} {ks : List κ} (h : gA M w r m al ks) : qa w r = ks.length := by
 obtain ⟨since, last, ds, seen, es, ck, h1, _, _, _, _, _, h7, h8, _⟩ := h
 unfold qa
 rw [h1]
 have e1 := congrArg List.length h7
 have e2 := congrArg List.length h8
 simp at e1 e2
 simp only
 omega
theorem qc {M : KW κ α} {es : List MapEntry} {al : List (κ × α)} (h : lM M es al) {k : κ} (hk : k ∈ al.map (·.1)) : ∃ e ∈ es, e.key = M.kv k := by
 obtain ⟨p, hp, rfl⟩ := List.mem_map.1 hk
 have : (M.kv p.1, M.vv p.2) ∈ es.map (fun e => (e.key, e.val)) := by rw [h]; exact List.mem_map.2 ⟨p, hp, rfl⟩
 obtain ⟨e, he, hee⟩ := List.mem_map.1 this
 exact ⟨e, he, (Prod.mk.inj hee).1⟩
theorem kU {M : KW κ α} {P : Program} {t : TypeId} {es : Array MapEntry} {al : List (κ × α)} (h : lM M es.toList al) (hk : ∀ p ∈ al, (keyOf P t (M.kv p.1)).isSome = true) {k : κ} (h1 : (keyOf P t (M.kv k)).isSome = true) : eu P t (M.kv k) es :=
 ⟨fun e he => by
  obtain ⟨p, hp, e1, _⟩ := iv h he
  rw [e1]; exact hk p hp, h1⟩
variable [DecidableEq κ]
theorem mP {M : KW κ α} {es : Array MapEntry} {al : List (κ × α)} (h : lM M es.toList al) (hn : (al.map (·.1)).Nodup) (k : κ) : kB (M.kv k) es ((lookL al k).map M.vv) := by
 cases hl : lookL al k with
 | none =>
  intro e he hek
  obtain ⟨p, hp, h1, _⟩ := iv h he
  rw [hek] at h1
  exact fo.1 hl (List.mem_map.2 ⟨p, hp, (lL M h1).symm⟩)
 | some a =>
  refine ⟨qc h (eU.1 (by rw [hl]; rfl)), fun e he hek => ?_⟩
  obtain ⟨⟨k', a'⟩, hp, h1, h2⟩ := iv h he
  rw [hek] at h1
  have := lL M h1
  subst this
  rw [eC hn hp] at hl
  cases hl
  exact h2
theorem cH.get {M : KW κ α} {P : Program} {t : TypeId} {w : World} {r : Nat} {al : List (κ × α)} (h : cH M w r al) (hk : ∀ p ∈ al, (keyOf P t (M.kv p.1)).isSome = true) {k : κ} (h1 : (keyOf P t (M.kv k)).isSome = true) :
  ∃ es, mapIs w (some r) es /\ eu P t (M.kv k) es /\ kB (M.kv k) es ((lookL al k).map M.vv) := by
 obtain ⟨es, ck, g1, g2, g3⟩ := h.at'
 exact ⟨es, ⟨ck, g1⟩, kU g2 hk h1, mP g2 h.nd k⟩
theorem cH.push {M : KW κ α} {P : Program} {t : TypeId} {w : World} {r : Nat} {al : List (κ × α)} (h : cH M w r al) (hk : ∀ p ∈ al, (keyOf P t (M.kv p.1)).isSome = true) {k : κ} (a : α) (h1 : (keyOf P t (M.kv k)).isSome = true) (hl : lookL al k = none) :
  ∃ es ck es' ck', w.heap[r]? = some (.map es ck) /\ eu P t (M.kv k) es /\ rm (M.kv k) (M.vv a) es ck es' ck' /\
   ∀ w1, w1 = aQ w r (.map es' ck') -> cH M w1 r (al ++ [(k, a)]) /\ Ext (fun x => x = r) w w1 /\ w1.heap.size = w.heap.size := by
 obtain ⟨es, ck, g1, g2, g3⟩ := h.at'
 have hg := mP g2 h.nd k
 rw [hl] at hg
 refine ⟨es, ck, _, _, g1, kU g2 hk h1, .inl ⟨hg, rfl, rfl⟩, ?_⟩
 rintro w1 rfl
 have hlt := bH g1
 refine ⟨⟨⟨es.push { key := M.kv k, val := M.vv a, born := ck }, ck + 1, by simp [aQ, hlt], ?_, ?_, ?_⟩, ?_⟩, gz, by simp [aQ]⟩
 ·rw [lM, Array.toList_push, List.map_append, List.map_append, g2]; rfl
 ·rw [Array.toList_push, List.map_append, List.nodup_append]
  refine ⟨g3.nd, by simp, fun x hx y hy => ?_⟩
  obtain ⟨e, he, rfl⟩ := List.mem_map.1 hx
  simp at hy
  have := g3.lt e he
  omega
 ·intro e he
  rw [Array.toList_push, List.mem_append, List.mem_singleton] at he
  rcases he with he | rfl
  ·have := g3.lt e he; omega
  ·show ck < ck + 1; omega
 ·rw [List.map_append, List.nodup_append]
  refine ⟨h.nd, by simp, fun x hx y hy => ?_⟩
  simp at hy
  subst hy
  rintro rfl
  exact fo.1 hl hx
end Go.D

