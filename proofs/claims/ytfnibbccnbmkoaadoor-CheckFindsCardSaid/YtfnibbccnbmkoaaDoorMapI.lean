/-
  WHAT IS PROVED: contracts of functions, and the plain law, for this proof. No further conditions.
-/
import Derived.Test.YtfnibbccnbmkoaaDoorMapM
set_option linter.unusedVariables false
set_option linter.unusedSimpArgs false
namespace Go.D
open Go
variable {κ α : Type} [DecidableEq κ]
theorem mO (k : κ) (a : α) : ∀ al : List (κ × α), (putL al k a).map (·.1) = if (lookL al k).isSome then al.map (·.1) else al.map (·.1) ++ [k]
 | [] => by simp [putL, lookL]
 | (k0, a0) :: r => by
  rw [putL, lookL]
  by_cases h : k = k0
  ·subst h; rw [if_pos rfl, if_pos rfl]; simp
  ·rw [if_neg h, if_neg h, List.map_cons, mO k a r, List.map_cons]
   split <;> simp
theorem bY {al : List (κ × α)} {k : κ} {a : α} (h : lookL al k = some a) : (k, a) ∈ al := by
 induction al with
 | nil => simp [lookL] at h
 | cons p r ih =>
  obtain ⟨k0, a0⟩ := p
  rw [lookL] at h
  split at h
  ·rename_i hk; subst hk; cases h; simp
  ·exact List.mem_cons_of_mem _ (ih h)
theorem eU {al : List (κ × α)} {k : κ} : (lookL al k).isSome = true ↔ k ∈ al.map (·.1) := by
 induction al with
 | nil => simp [lookL]
 | cons p r ih =>
  obtain ⟨k0, a0⟩ := p
  rw [lookL, List.map_cons, List.mem_cons]
  by_cases h : k = k0
  ·simp [h]
  ·rw [if_neg h, ih]; simp [h]
theorem fo {al : List (κ × α)} {k : κ} : lookL al k = none ↔ k ∉ al.map (·.1) := by
 rw [<- eU]; cases lookL al k <;> simp
theorem eC {al : List (κ × α)} (hn : (al.map (·.1)).Nodup) {k : κ} {a : α} (h : (k, a) ∈ al) : lookL al k = some a := by
 induction al with
 | nil => simp at h
 | cons p r ih =>
  obtain ⟨k0, a0⟩ := p
  rw [List.map_cons, List.nodup_cons] at hn
  rw [lookL]
  rcases List.mem_cons.1 h with h1 | h1
  ·cases h1; rw [if_pos rfl]
  ·have : k ≠ k0 := by
    rintro rfl
    exact hn.1 (List.mem_map.2 ⟨(k, a), h1, rfl⟩)
   rw [if_neg this]
   exact ih hn.2 h1
theorem pc {al : List (κ × α)} (hn : (al.map (·.1)).Nodup) (k : κ) (a : α) : ((putL al k a).map (·.1)).Nodup := by
 rw [mO]
 split
 ·exact hn
 ·rename_i h
  rw [Bool.not_eq_true, Option.isSome_eq_false_iff, Option.isNone_iff_eq_none] at h
  rw [List.nodup_append]
  exact ⟨hn, by simp, fun x hx y hy => by rw [List.mem_singleton] at hy; subst hy; rintro rfl; exact fo.1 h hx⟩
structure lK (es : List MapEntry) (ck : Nat) : Prop where
 nd : (es.map (·.born)).Nodup
 lt : ∀ e ∈ es, e.born < ck
structure dU (M : KV κ α) (w : World) (r : Nat) (al : List (κ × α)) : Prop where
 at' : ∃ es ck, w.heap[r]? = some (.map es ck) /\ Rep M es.toList al /\ lK es.toList ck
 nd : (al.map (·.1)).Nodup
theorem dU.at {M : KV κ α} {w : World} {r : Nat} {al : List (κ × α)} (h : dU M w r al) : j1 M w r al := by
 obtain ⟨es, ck, h1, h2, _⟩ := h.at'
 exact ⟨es, ck, h1, h2⟩
theorem dU.ext {M : KV κ α} {N : Nat -> Prop} {w w' : World} {r : Nat} {al : List (κ × α)} (h : dU M w r al) (he : Ext N w w') (hm : ¬ N r) : dU M w' r al := by
 obtain ⟨es, ck, h1, h2⟩ := h.at'
 exact ⟨⟨es, ck, he.heap h1 hm, h2⟩, h.nd⟩
theorem dU.ah {M : KV κ α} {w w' : World} {r : Nat} {al : List (κ × α)} (h : dU M w r al) (he : av w w') : dU M w' r al := h.ext he (fun h => h)
theorem dU.lt {M : KV κ α} {w : World} {r : Nat} {al : List (κ × α)} (h : dU M w r al) : r < w.heap.size := h.at.lt
theorem dU.new {M : KV κ α} {w : World} {r ck : Nat} (h : w.heap[r]? = some (.map #[] ck)) : dU M w r [] := ⟨⟨#[], ck, h, rfl, ⟨by simp, by simp⟩⟩, by simp⟩
theorem dU.put {M : KV κ α} {w : World} {r : Nat} {al : List (κ × α)} (h : dU M w r al) (k : κ) (a : α) :
  ∃ es ck es' ck', w.heap[r]? = some (.map es ck) /\ mapPut M.kd (M.kv k) (M.vv a) es ck = some (es', ck') /\
   ∀ w1, w1 = aQ w r (.map es' ck') -> dU M w1 r (putL al k a) /\ Ext (fun x => x = r) w w1 /\ w1.heap.size = w.heap.size := by
 obtain ⟨es, ck, h1, h2, h5⟩ := h.at'
 obtain ⟨es', ck', h3, h4⟩ := nJ h2 k a ck
 refine ⟨es, ck, es', ck', h1, h3, ?_⟩
 rintro w1 rfl
 have hlt := bH h1
 have hS : lK es'.toList ck' := by
  unfold mapPut at h3
  cases hf : Instr.findNow M.kd (M.kv k) es.toList 0 with
  | none => rw [hf] at h3; cases h3
  | some q =>
   rw [hf, Option.map_some] at h3
   cases q with
   | none =>
    simp only [Option.some.injEq, Prod.mk.injEq] at h3
    obtain ⟨rfl, rfl⟩ := h3
    refine ⟨?_, ?_⟩
    ·rw [Array.toList_push, List.map_append, List.nodup_append]
     refine ⟨h5.nd, by simp, fun x hx y hy => ?_⟩
     obtain ⟨e, he, rfl⟩ := List.mem_map.1 hx
     simp at hy
     have := h5.lt e he
     omega
    ·intro e he
     rw [Array.toList_push, List.mem_append, List.mem_singleton] at he
     rcases he with he | rfl
     ·have := h5.lt e he; omega
     ·show ck < ck + 1; omega
   | some jv =>
    obtain ⟨j, v⟩ := jv
    simp only [Option.some.injEq, Prod.mk.injEq] at h3
    obtain ⟨rfl, rfl⟩ := h3
    have hb : (es.modify j fun e => { e with key := M.kv k, val := M.vv a }).toList.map (·.born) = es.toList.map (·.born) := by
     rw [Array.toList_modify]
     apply List.ext_getElem?
     intro i
     simp only [List.getElem?_map, List.getElem?_modify]
     cases es.toList[i]? with
     | none => rfl
     | some e => simp only [Option.map_some, Option.some.injEq]; split <;> rfl
    refine ⟨by rw [hb]; exact h5.nd, fun e he => ?_⟩
    have : e.born ∈ es.toList.map (·.born) := by rw [<- hb]; exact List.mem_map.2 ⟨e, he, rfl⟩
    obtain ⟨e', he', h6⟩ := List.mem_map.1 this
    rw [<- h6]; exact h5.lt e' he'
 exact ⟨⟨⟨es', ck', by simp [aQ, hlt], h4, hS⟩, pc h.nd k a⟩, gz, by simp [aQ]⟩
theorem dU.get {M : KV κ α} {w : World} {r : Nat} {al : List (κ × α)} (h : dU M w r al) : ∃ es, mapIs w (some r) es /\ ∀ k, bw M.kd (M.kv k) es = some ((lookL al k).map M.vv) := h.at.get
theorem gH {β γ : Type} (f : β -> γ) : ∀ {l : List β}, (l.map f).Nodup -> ∀ {a b : β}, a ∈ l -> b ∈ l -> f a = f b -> a = b
 | [], _, _, _, h, _, _ => by simp at h
 | x :: l, hn, a, b, ha, hb, hab => by
  rw [List.map_cons, List.nodup_cons] at hn
  rcases List.mem_cons.1 ha with rfl | ha'
  ·rcases List.mem_cons.1 hb with rfl | hb'
   ·rfl
   ·exact absurd (List.mem_map.2 ⟨b, hb', hab.symm⟩) hn.1
  ·rcases List.mem_cons.1 hb with rfl | hb'
   ·exact absurd (List.mem_map.2 ⟨a, ha', hab⟩) hn.1
   ·exact gH f hn.2 ha' hb' hab
theorem iR {β γ : Type} (f : β -> γ) (hf : ∀ a b, f a = f b -> a = b) : ∀ {l : List β}, l.Nodup -> (l.map f).Nodup
 | [], _ => by simp
 | x :: l, hn => by
  rw [List.nodup_cons] at hn
  rw [List.map_cons, List.nodup_cons]
  refine ⟨fun hm => ?_, iR f hf hn.2⟩
  obtain ⟨y, hy, hxy⟩ := List.mem_map.1 hm
  exact hn.1 (hf _ _ hxy ▸ hy)
def qa (w : World) (r : Nat) : Nat := match w.heap[r]? with | some (.mapIter _ _ seen _) => seen.size | _ => 0
end Go.D

