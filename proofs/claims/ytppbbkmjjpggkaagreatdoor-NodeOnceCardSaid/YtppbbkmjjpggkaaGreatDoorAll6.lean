/-
  WHAT IS PROVED: contracts of functions, and the plain law, for this proof. No further conditions.
-/
import Derived.Test.YtppbbkmjjpggkaaGreatDoorAll5
import Derived.Test.YtppbbkmjjpggkaaGreatDoorAll4
set_option linter.unusedVariables false
set_option linter.unusedSimpArgs false
namespace Go.D
open Go Go.Proofs
abbrev HsT := List (Nat × UInt8)
def xj (j : Nat) (z : Nat × UInt8) : List UInt8 := bn (aU [1, 7 + (j : Int), 1, 0, (z.1 : Int)] [z.2])
def sR (x : NdE) : Bool := decide (x.f = 0)
def MOk (H : HsT) (T : List NdE) (y : Int × Int × List UInt8) : Prop :=
 (y.1 = 0 /\ y.2.1 = 1 /\ ∃ (j : Nat) (h : j < H.length), y.2.2 = xj j H[j]) \/ (y.1 = 1 /\ y.2.1 = 0 /\ ∃ x ∈ T, x.f = 0 /\ y.2.2 = x.msg)
def FC (x y : NdE) : Prop := ¬ (x.f = y.f /\ x.t = y.t)
structure jt (i : Nat) (H : HsT) (c : Nat) (busy : Bool) (W : HsT) (pg : Nat -> Option UInt8) (T : List NdE) (tB : Nat) (ms : List (Int × Int × List UInt8)) : Prop where
 h9 : ∀ x ∈ H, x.1 < 10
 hc : H.length = c + (if busy = true then 1 else 0)
 t0 : ∀ x ∈ T, x.f = 0 -> ∃ j, j < H.length /\ x.t = 7 + (j : Int) /\ x.n = 0 /\ x.d = [] /\ (x.e = none \/ x.e = some 8)
 t1 : ∀ x ∈ T, x.f ≠ 0 -> 1000 <= x.f /\ x.f < 1000 + (i : Int)
 m : ∀ y ∈ ms, MOk H T y
 w : ∀ z ∈ W, ∃ (j : Nat) (h : j < H.length), H[j] = z /\ ∃ x ∈ T, x.f = 0 /\ x.t = 7 + (j : Int)
 wl : (W.map (·.1)).Nodup
 p1 : ∀ a b, pg a = some b -> pgW W a = some b
 p2 : ∀ j (h : j < H.length), j < c -> (pg (H[j]).1).isSome = true
 e : ∀ (h : c < H.length), ∀ x ∈ T, x.f = 0 -> x.t = 7 + (c : Int) -> ((pg (H[c]).1).isSome = true -> x.e = some 8) /\ ((pg (H[c]).1).isSome = false -> x.e = none /\ pgW W (H[c]).1 = some (H[c]).2)
 cnt : H.length + c + T.countP sR <= i
 cb : busy = true -> tB <= T.length /\ c <= (T.take tB).countP sR /\ (∀ x ∈ T.drop tB, x.f = 0) /\ (∀ x ∈ T.take tB, x.t = 7 + (c : Int) -> x.f ≠ 0)
 cf : c <= T.countP sR
 nd : (fe T).Pairwise FC
theorem jt.init : jt 0 [] 0 false [] (fun _ => none) [] 0 [] :=
 ⟨by simp, rfl, by simp, by simp, by simp, by simp, by simp, by simp, (fun j h => by simp at h), (fun h => by simp at h), by simp, (fun h => by cases h), by simp, by simp [fe]⟩
section
variable {i : Nat} {H : HsT} {c : Nat} {busy : Bool} {W : HsT} {pg : Nat -> Option UInt8} {T : List NdE} {tB : Nat} {ms ms' : List (Int × Int × List UInt8)}
theorem jt.idle (h : jt i H c busy W pg T tB ms) (hm : ∀ y ∈ ms', y ∈ ms) : jt (i + 1) H c busy W pg T tB ms' :=
 ⟨h.h9, h.hc, h.t0, fun x hx hf => by have := h.t1 x hx hf; omega, fun y hy => h.m y (hm y hy), h.w, h.wl, h.p1, h.p2, h.e, by have := h.cnt; omega, h.cb, h.cf, h.nd⟩
theorem jt.more (h : jt i H c busy W pg T tB ms) (hm : ∀ y ∈ ms', y ∈ ms \/ MOk H T y) : jt i H c busy W pg T tB ms' :=
 ⟨h.h9, h.hc, h.t0, h.t1, fun y hy => (hm y hy).elim (h.m y) (fun g => g), h.w, h.wl, h.p1, h.p2, h.e, h.cnt, h.cb, h.cf, h.nd⟩
theorem MOk.mono {H H' : HsT} {T T' : List NdE} {y : Int × Int × List UInt8} (h : MOk H T y) (hH : ∀ j (hj : j < H.length), ∃ hj' : j < H'.length, H'[j] = H[j]) (hT : ∀ x ∈ T, x ∈ T') : MOk H' T' y := by
 rcases h with ⟨h1, h2, j, hj, h3⟩ | ⟨h1, h2, x, hx, h3⟩
 ·obtain ⟨hj', e⟩ := hH j hj
  exact .inl ⟨h1, h2, j, hj', by rw [e]; exact h3⟩
 ·exact .inr ⟨h1, h2, x, hT x hx, h3⟩
theorem jt.ask (h : jt i H c false W pg T tB ms) (z : Nat × UInt8) (hz : z.1 < 10) : jt (i + 1) (H ++ [z]) c true W pg T T.length (ms ++ [(0, 1, xj c z)]) := by
 have hc : H.length = c := by have := h.hc; simpa using this
 have old : ∀ j (hj : j < H.length), ∃ hj' : j < (H ++ [z]).length, (H ++ [z])[j] = H[j] := fun j hj => ⟨by simp; omega, List.getElem_append_left hj⟩
 have eH : ∀ (hj : c < (H ++ [z]).length), (H ++ [z])[c] = z := fun hj => by rw [List.getElem_append_right (by omega)]; simp [hc]
 have noc : ∀ x ∈ T, x.f = 0 -> x.t ≠ 7 + (c : Int) := fun x hx hf => by obtain ⟨j, hj, h2, _⟩ := h.t0 x hx hf; omega
 refine ⟨fun x hx => ?_, by simp [hc], fun x hx hf => ?_, fun x hx hf => by have := h.t1 x hx hf; omega, fun y hy => ?_, fun u hu => ?_, h.wl, h.p1, fun j hj hjc => ?_, fun hl x hx hf ht => absurd ht (noc x hx hf), ?_, fun _ => ⟨Nat.le_refl _, ?_, ?_, fun x hx ht hf => noc x (List.mem_of_mem_take hx) hf ht⟩, h.cf, h.nd⟩
 ·rcases List.mem_append.1 hx with g | g
  ·exact h.h9 x g
  ·rw [List.mem_singleton] at g; rw [g]; exact hz
 ·obtain ⟨j, hj, g⟩ := h.t0 x hx hf
  exact ⟨j, by simp; omega, g⟩
 ·rcases List.mem_append.1 hy with g | g
  ·exact (h.m y g).mono old (fun x hx => hx)
  ·rw [List.mem_singleton] at g; subst g
   exact .inl ⟨rfl, rfl, c, by simp; omega, by rw [eH]⟩
 ·obtain ⟨j, hj, g1, g2⟩ := h.w u hu
  obtain ⟨hj', e⟩ := old j hj
  exact ⟨j, hj', by rw [e]; exact g1, g2⟩
 ·have hj' : j < H.length := by omega
  rw [List.getElem_append_left hj']; exact h.p2 j hj' hjc
 ·have := h.cnt; simp; omega
 ·rw [List.take_length]; exact h.cf
 ·rw [List.drop_length]; intro x hx; simp at hx
theorem Gq {x : NdE} {T : List NdE} (h : x ∈ T) : ∃ (p : Nat) (hp : p < T.length), T[p] = x := by
 obtain ⟨p, hp, e⟩ := List.getElem_of_mem h
 exact ⟨p, hp, e⟩
theorem yz (T : List NdE) (n : Nat) : T.countP sR = (T.take n).countP sR + (T.drop n).countP sR := by
 rw [<- List.countP_append, List.take_append_drop]
theorem jt.kept (h : jt i H c busy W pg T tB ms) (hi : i <= 100) (hb : busy = true) (hno : ∀ y ∈ fe T, y.f = 0 -> y.t ≠ 7 + (c : Int)) : ∀ x ∈ T, x.f = 0 -> x.t ≠ 7 + (c : Int) := by
 intro x hx hf ht
 obtain ⟨b1, b2, b3, b4⟩ := h.cb hb
 obtain ⟨p, hp, rfl⟩ := Gq hx
 have hpB : tB <= p := by
  refine Nat.le_of_not_lt (fun hlt => ?_)
  have : T[p] ∈ T.take tB := List.mem_take_iff_getElem.2 ⟨p, by omega, rfl⟩
  exact b4 _ this ht hf
 by_cases hnew : T.length - 32 <= p
 ·exact hno _ (List.mem_drop_iff_getElem.2 ⟨p - (T.length - 32), by omega, by congr 1; omega⟩) hf ht
 have hlen : (fe T).length = 32 := by rw [wZ]; omega
 have hall : ∀ y ∈ fe T, y.f = 0 := fun y hy => by
  obtain ⟨k, hk, rfl⟩ := List.mem_drop_iff_getElem.1 hy
  exact b3 _ (List.mem_drop_iff_getElem.2 ⟨T.length - 32 + k - tB, by omega, by congr 1; omega⟩)
 have hcl : H.length = c + 1 := by have := h.hc; rw [if_pos hb] at this; exact this
 have htag : ∀ y ∈ fe T, ∃ j : Nat, j < c /\ y.t = 7 + (j : Int) := fun y hy => by
  obtain ⟨j, hj, g, _⟩ := h.t0 y (sL hy) (hall y hy)
  have := hno y hy (hall y hy)
  exact ⟨j, by omega, g⟩
 have hnd : ((fe T).map fun y => (y.t - 7).toNat).Nodup := by
  refine List.pairwise_map.2 (h.nd.imp_of_mem (fun {y z} hy hz hd e => hd ⟨by rw [hall y hy, hall z hz], ?_⟩))
  obtain ⟨j, _, e1⟩ := htag y hy
  obtain ⟨j2, _, e2⟩ := htag z hz
  omega
 have h32 := mV hnd (b := List.range c) (fun v hv => by
  obtain ⟨y, hy, rfl⟩ := List.mem_map.1 hv
  obtain ⟨j, hj, e1⟩ := htag y hy
  exact List.mem_range.2 (by omega))
 rw [List.length_map, hlen, List.length_range] at h32
 have hd : (T.drop tB).countP sR = (T.drop tB).length := List.countP_eq_length.2 (fun y hy => by unfold sR; exact decide_eq_true (b3 y hy))
 have hsp := yz T tB
 have hcnt := h.cnt
 rw [List.length_drop] at hd
 omega
theorem CZ {T : List NdE} {x : NdE} (h : (fe T).Pairwise FC) (hno : ∀ y ∈ fe T, FC y x) : (fe (T ++ [x])).Pairwise FC := by
 have hp : (fe T ++ [x]).Pairwise FC := List.pairwise_append.2 ⟨h, List.pairwise_singleton _ _, fun y hy z hz => by rw [List.mem_singleton] at hz; rw [hz]; exact hno y hy⟩
 rw [tU]
 split
 ·exact hp.sublist (List.eraseIdx_sublist _ _)
 ·exact hp
theorem FD {f t : Int} {T : List NdE} (h : nO f t T = none) : ∀ y ∈ fe T, ¬ (y.f = f /\ y.t = t) := fun y hy => by
 have := List.find?_eq_none.1 h y hy
 simpa using this
theorem xk (j : Nat) (z : Nat × UInt8) (hj : j <= 1000) (hz : z.1 < 10) : readR (xj j z) = .ok (.ask (7 + (j : Int)) 1 0 (z.1 : Int) [z.2]) :=
 tW ⟨by omega, by omega, by omega, by omega, by simp, .inr rfl⟩
theorem jt.exec (h : jt i H c busy W pg T tB ms) (hi : i <= 100) (hm : ∀ y ∈ ms', y ∈ ms) (j : Nat) (hj : j < H.length) :
  ∃ x W' T', ndStep 3 (cS W) T 0 (xj j H[j]) = (some x, cS W', T') /\ jt (i + 1) H c busy W' pg T' tB (ms' ++ [(1, 0, x.msg)]) /\ x ∈ T' /\ x.f = 0 := by
 have hz := h.h9 _ (List.getElem_mem hj)
 have hcnt := h.cnt
 have hR := xk j H[j] (by omega) hz
 have step : ∀ o, nO 0 (7 + (j : Int)) T = o -> ndStep 3 (cS W) T 0 (xj j H[j]) = match o with
  | some x => (some x, cS W, T)
  | none => (some ⟨0, 7 + (j : Int), (writeP 3 (cS W) 0 ((H[j]).1 : Int) [(H[j]).2]).1, 0, []⟩, (writeP 3 (cS W) 0 ((H[j]).1 : Int) [(H[j]).2]).2, T ++ [⟨0, 7 + (j : Int), (writeP 3 (cS W) 0 ((H[j]).1 : Int) [(H[j]).2]).1, 0, []⟩]) := by
  intro o ho
  unfold ndStep
  rw [hR]
  dsimp only
  rw [ho]
  cases o with
  | some x => rfl
  | none => rfl
 cases hfo : nO 0 (7 + (j : Int)) T with
 | some x =>
  have hp := List.find?_some hfo
  have hx : x.f = 0 /\ x.t = 7 + (j : Int) := by simpa using hp
  exact ⟨x, W, T, step _ hfo, (h.idle hm).more (fun y hy => (List.mem_append.1 hy).imp (fun g => g) (fun g => by rw [List.mem_singleton] at g; subst g; exact .inr ⟨rfl, rfl, x, yq hfo, hx.1, rfl⟩)), yq hfo, hx.1⟩
 | none =>
  have hno := FD hfo
  have hst := step _ hfo
  dsimp only at hst
  -- a request that is waited for has not been done
  have hfresh : j = c -> ∀ x ∈ T, x.f = 0 -> x.t ≠ 7 + (c : Int) := fun e => by
   subst e
   have hb : busy = true := by
    have := h.hc
    cases busy with
    | true => rfl
    | false => simp at this; omega
   exact h.kept hi hb (fun y hy hf ht => hno y hy ⟨hf, ht⟩)
  have hjc : j < c \/ j = c := by
   have := h.hc
   have : (if busy = true then 1 else 0) <= 1 := by split <;> omega
   omega
  -- what is appended
  have fin : ∀ (ev : Option Nat) (W' : HsT), (ev = none \/ ev = some 8) -> (∀ z ∈ W', ∃ (j' : Nat) (h' : j' < H.length), H[j'] = z /\ ∃ x ∈ T ++ [⟨0, 7 + (j : Int), ev, 0, []⟩], x.f = 0 /\ x.t = 7 + (j' : Int)) -> (W'.map (·.1)).Nodup -> (∀ a b, pgW W a = some b -> pgW W' a = some b) ->
    (j = c -> ((pg (H[j]).1).isSome = true -> ev = some 8) /\ ((pg (H[j]).1).isSome = false -> ev = none /\ pgW W' (H[j]).1 = some (H[j]).2)) ->
    jt (i + 1) H c busy W' pg (T ++ [⟨0, 7 + (j : Int), ev, 0, []⟩]) tB (ms' ++ [(1, 0, (⟨0, 7 + (j : Int), ev, 0, []⟩ : NdE).msg)]) := by
   intro ev W' hev hw hwl hp he
   refine ⟨h.h9, h.hc, fun x hx hf => ?_, fun x hx hf => ?_, fun y hy => ?_, hw, hwl, fun a b hab => hp a b (h.p1 a b hab), h.p2, fun hl x hx hf ht => ?_, ?_, fun hb => ?_, ?_, CZ h.nd (fun y hy hd => hno y hy ⟨hd.1, hd.2⟩)⟩
   ·rcases List.mem_append.1 hx with g | g
    ·exact h.t0 x g hf
    ·rw [List.mem_singleton] at g; subst g; exact ⟨j, hj, rfl, rfl, rfl, hev⟩
   ·rcases List.mem_append.1 hx with g | g
    ·have := h.t1 x g hf; omega
    ·rw [List.mem_singleton] at g; subst g; exact absurd rfl hf
   ·rcases List.mem_append.1 hy with g | g
    ·exact (h.m y (hm y g)).mono (fun j' hj' => ⟨hj', rfl⟩) (fun x hx => List.mem_append.2 (.inl hx))
    ·rw [List.mem_singleton] at g; subst g; exact .inr ⟨rfl, rfl, _, by simp, rfl, rfl⟩
   ·rcases List.mem_append.1 hx with g | g
    ·by_cases e : j = c
     ·exact absurd ht (hfresh e x g hf)
     ·obtain ⟨q1, q2⟩ := h.e hl x g hf ht
      exact ⟨q1, fun hn => ⟨(q2 hn).1, hp _ _ (q2 hn).2⟩⟩
    ·rw [List.mem_singleton] at g; subst g
     have e : j = c := by
      have : 7 + (j : Int) = 7 + (c : Int) := ht
      omega
     subst e
     exact he rfl
   ·rw [List.countP_append]; have : List.countP sR [(⟨0, 7 + (j : Int), ev, 0, []⟩ : NdE)] = 1 := rfl; omega
   ·obtain ⟨b1, b2, b3, b4⟩ := h.cb hb
    refine ⟨by simp; omega, by rw [List.take_append_of_le_length b1]; exact b2, fun x hx => ?_, fun x hx => by rw [List.take_append_of_le_length b1] at hx; exact b4 x hx⟩
    rw [List.drop_append_of_le_length b1] at hx
    rcases List.mem_append.1 hx with g | g
    ·exact b3 x g
    ·rw [List.mem_singleton] at g; subst g; rfl
   ·rw [List.countP_append]; have := h.cf; omega
  have hw0 : ∀ ev, ∀ z ∈ W, ∃ (j' : Nat) (h' : j' < H.length), H[j'] = z /\ ∃ x ∈ T ++ [(⟨0, 7 + (j : Int), ev, 0, []⟩ : NdE)], x.f = 0 /\ x.t = 7 + (j' : Int) := fun ev z hz => by
   obtain ⟨j', h', e1, x, hx, e2⟩ := h.w z hz
   exact ⟨j', h', e1, x, List.mem_append.2 (.inl hx), e2⟩
  by_cases hs : (pgW W (H[j]).1).isSome = true
  ·have hwr := Cq (b := (H[j]).2) (by omega : (H[j]).1 < 4096) hs
   rw [hwr] at hst
   refine ⟨_, W, _, hst, fin (some 8) W (.inr rfl) (hw0 _) h.wl (fun a b g => g) (fun e => ⟨fun _ => rfl, fun hn => ?_⟩), by simp, rfl⟩
   exfalso
   obtain ⟨b, hb⟩ := Option.isSome_iff_exists.1 hs
   obtain ⟨j', h', e1, x, hx, hf, ht⟩ := h.w _ (Gn hb)
   by_cases e' : j' < c
   ·have := h.p2 j' h' e'
    rw [e1] at this
    rw [this] at hn; cases hn
   ·have hc := h.hc
    have : (if busy = true then 1 else 0) <= 1 := by split <;> omega
    have e2 : j' = c := by omega
    subst e2
    exact hfresh e x hx hf ht
  ·have hnone : ∀ z ∈ W, z.1 ≠ (H[j]).1 := fun z hz e => hs (FA hz e)
   have hW9 : ∀ z ∈ W, z.1 < 10 := fun z hz => by
    obtain ⟨j', h', e1, _⟩ := h.w z hz
    rw [<- e1]; exact h.h9 _ (List.getElem_mem h')
   have hWl : W.length <= 10 := by
    have := mV h.wl (b := List.range 10) (fun v hv => by
     obtain ⟨z, hz, rfl⟩ := List.mem_map.1 hv
     exact List.mem_range.2 (hW9 z hz))
    simpa using this
   have hwr := Cr (b := (H[j]).2) (by omega : (H[j]).1 < 128) hnone (by omega) (fun z hz => by have := hW9 z hz; omega)
   rw [hwr] at hst
   have e : j = c := by
    refine hjc.resolve_left (fun hlt => hs ?_)
    obtain ⟨b, hb⟩ := Option.isSome_iff_exists.1 (h.p2 j hj hlt)
    rw [h.p1 _ _ hb]; rfl
   refine ⟨_, W ++ [((H[j]).1, (H[j]).2)], _, hst, fin none _ (.inl rfl) (fun z hz => ?_) ?_ (fun a b g => FB g _) (fun _ => ⟨fun hp => ?_, fun _ => ⟨rfl, Gp hnone⟩⟩), by simp, rfl⟩
   ·rcases List.mem_append.1 hz with g | g
    ·exact hw0 _ z g
    ·rw [List.mem_singleton] at g; subst g
     exact ⟨j, hj, rfl, ⟨0, 7 + (j : Int), none, 0, []⟩, by simp, rfl, rfl⟩
   ·rw [List.map_append]
    refine List.nodup_append.2 ⟨h.wl, by simp, fun a ha b hb => ?_⟩
    obtain ⟨z, hz, rfl⟩ := List.mem_map.1 ha
    simp at hb
    rw [hb]; exact hnone z hz
   ·obtain ⟨b, hb⟩ := Option.isSome_iff_exists.1 hp
    exact absurd (by rw [h.p1 _ _ hb]; rfl) hs
def Bm (i a : Nat) : List UInt8 := bn (aU [1, (i : Int), 2, 0, (a : Int)] [])
theorem jt.HV (h : jt i H c true W pg T tB ms) (hi : i <= 100) (hm : ∀ y ∈ ms', y ∈ ms) (hcl : c < H.length) {x : NdE} (hx : x ∈ T) (hf : x.f = 0) (ht : x.t = 7 + (c : Int)) :
  ((pg (H[c]).1).isSome = true -> x.e = some 8) /\ ((pg (H[c]).1).isSome = false -> x.e = none) /\
  ndStep 3 (cS W) T (1000 + (i : Int)) (Bm i (H[c]).1) = (some ⟨1000 + (i : Int), (i : Int), none, 0, [(pg (H[c]).1).getD (H[c]).2]⟩, cS W, T ++ [⟨1000 + (i : Int), (i : Int), none, 0, [(pg (H[c]).1).getD (H[c]).2]⟩]) /\
  jt (i + 1) H (c + 1) false W (fun a => if a = (H[c]).1 then some ((pg (H[c]).1).getD (H[c]).2) else pg a) (T ++ [⟨1000 + (i : Int), (i : Int), none, 0, [(pg (H[c]).1).getD (H[c]).2]⟩]) tB ms' := by
 obtain ⟨q1, q2⟩ := h.e hcl x hx hf ht
 have hold : pgW W (H[c]).1 = some ((pg (H[c]).1).getD (H[c]).2) := by
  cases hp : pg (H[c]).1 with
  | none => exact (q2 (by rw [hp]; rfl)).2
  | some b => exact h.p1 _ _ hp
 have hz := h.h9 _ (List.getElem_mem hcl)
 have hHl : H.length = c + 1 := by have := h.hc; simpa using this
 have hfar : ∀ y ∈ T, y.f ≠ 1000 + (i : Int) := fun y hy e => by
  by_cases g : y.f = 0
  ·omega
  ·have := h.t1 y hy g; omega
 refine ⟨q1, fun g => (q2 g).1, ?_, ?_⟩
 ·have hR : readR (Bm i (H[c]).1) = .ok (.ask (i : Int) 2 0 ((H[c]).1 : Int) []) := tW ⟨by omega, by omega, by omega, by omega, by simp, .inl rfl⟩
  have hn : nO (1000 + (i : Int)) (i : Int) T = none := by
   unfold nO
   rw [List.find?_eq_none]
   intro y hy
   simpa using fun g => absurd g (hfar y (sL hy))
  unfold ndStep
  rw [hR]
  dsimp only
  rw [hn, HA (by omega) hold]
 ·generalize hr : (⟨1000 + (i : Int), (i : Int), none, 0, [(pg (H[c]).1).getD (H[c]).2]⟩ : NdE) = r
  have hrf : r.f = 1000 + (i : Int) := by rw [<- hr]
  have hrf0 : sR r = false := by unfold sR; exact decide_eq_false (by omega)
  obtain ⟨b1, b2, b3, b4⟩ := h.cb rfl
  refine ⟨h.h9, by simp [hHl], fun y hy hyf => ?_, fun y hy hyf => ?_, fun y hy => (h.m y (hm y hy)).mono (fun j' hj' => ⟨hj', rfl⟩) (fun u hu => List.mem_append.2 (.inl hu)), fun z hz => ?_, h.wl, fun a b hab => ?_, fun j hj hjc => ?_, fun hl => by omega, ?_, (fun hb => by cases hb), ?_, CZ h.nd (fun y hy hd => hfar y (sL hy) (by rw [<- hrf]; exact hd.1))⟩
  ·rcases List.mem_append.1 hy with g | g
   ·exact h.t0 y g hyf
   ·rw [List.mem_singleton] at g; subst g; omega
  ·rcases List.mem_append.1 hy with g | g
   ·have := h.t1 y g hyf; omega
   ·rw [List.mem_singleton] at g; subst g; omega
  ·obtain ⟨j', h', e1, u, hu, e2⟩ := h.w z hz
   exact ⟨j', h', e1, u, List.mem_append.2 (.inl hu), e2⟩
  ·split at hab
   ·rename_i e; injection hab with hab; rw [e, <- hab]; exact hold
   ·exact h.p1 a b hab
  ·split
   ·rfl
   ·rename_i hne
    by_cases e : j = c
    ·subst e; exact absurd rfl hne
    ·exact h.p2 j hj (by omega)
  ·rw [List.countP_append]
   have : List.countP sR [r] = 0 := by simp [List.countP_cons, hrf0]
   have := h.cnt
   omega
  ·rw [List.countP_append]
   have hsp := yz T tB
   have hxd : x ∈ T.drop tB := by
    have : x ∈ T.take tB ++ T.drop tB := by rw [List.take_append_drop]; exact hx
    rcases List.mem_append.1 this with g | g
    ·exact absurd hf (b4 x g ht)
    ·exact g
   have : 0 < (T.drop tB).countP sR := List.countP_pos_iff.2 ⟨x, hxd, by unfold sR; exact decide_eq_true hf⟩
   omega
end
end Go.D
set_option maxRecDepth 8000
namespace Go.D
open Go Go.Proofs
theorem Gr {x : Int} (h : inR .u8 x) : ∃ b : UInt8, (b.toNat : Int) = x := by
 have h0 : 0 <= x := h.1
 have h1 : x <= 255 := h.2
 refine ⟨UInt8.ofNat x.toNat, ?_⟩
 rw [UInt8.toNat_ofNat']
 omega
abbrev K8 : KV Int UInt8 := KV.int fun b => .int .u8 (b.toNat : Int)
def AkR (sm sd : Slc) (j : Nat) : Prop := (0 < sm.l /\ au sm j) \/ (0 < sd.l /\ au sd j)
theorem jU.Ha {M : Nat -> Prop} {w w' : World} {ra : Nat} {sm sd : Slc} {a : AkS} (h : jU w ra sm sd a) (he : Ext M w w') (h0 : ¬ M ra) (h1 : ∀ j, AkR sm sd j -> ¬ M j) : jU w' ra sm sd a :=
 ⟨h.o.ext he h0, h.m, aR h.b he (fun g j hj => h1 j (.inl ⟨g, hj⟩)), aR h.d he (fun g j hj => h1 j (.inr ⟨g, hj⟩)), h.nm, h.nd, h.ml⟩
theorem jU.rlt {w : World} {ra : Nat} {sm sd : Slc} {a : AkS} (h : jU w ra sm sd a) : ra < w.heap.size /\ ∀ j, AkR sm sd j -> j < w.heap.size /\ j ≠ ra :=
 ⟨h.o.lt, fun j hj => hj.elim (fun g => ⟨cX h.b g.1 j g.2, fun e => h.nm (e ▸ g.2)⟩) (fun g => ⟨cX h.d g.1 j g.2, fun e => h.nd (e ▸ g.2)⟩)⟩
theorem cj.yb {w : World} {n0 rn r rd : Nat} {f : UnF} {d : aP} {s : UnS} {m : Nat} {p : NdP} {T : List NdE} (h : cj w n0 rn r rd f d s m p T) : ∀ j, NY f p j -> ¬ NB rn r rd f p j := by
 rintro j (hj | hj) (hh | hh)
 ·exact h.U.qW j hj hh
 ·exact (h.sm j hh).2 hj
 ·exact h.sf j hj hh
 ·rcases hh with rfl | hh
  ·exact h.N.df _ hj rfl
  ·exact h.N.t.sep j hj hh
def RO (f : UnF) (p : NdP) (sm sd : Slc) (q : jz) (j : Nat) : Prop := NY f p j \/ AkR sm sd j \/ tX q j
structure HW (rn r rd ra rt rm : Nat) (f : UnF) (p : NdP) (sm sd : Slc) (q : jz) : Prop where
 n1 : ∀ j, NB rn r rd f p j -> j ≠ ra /\ ¬ pQ rt q j /\ j ≠ rm
 n2 : ∀ j, pQ rt q j -> j ≠ ra /\ j ≠ rm
 n3 : ra ≠ rm
 r1 : ∀ j, RO f p sm sd q j -> ¬ NB rn r rd f p j /\ j ≠ ra /\ ¬ pQ rt q j /\ j ≠ rm
structure OM (w0 w : World) (rn r rd ra rt rm : Nat) (f : UnF) (d : aP) (m : Nat) (s : UnS) (p : NdP) (T : List NdE) (a : AkS) (sm sd : Slc) (q : jz) (ms : List jr) (nx : Int) (al : List (Int × UInt8)) : Prop where
 N : cj w w0.heap.size rn r rd f d s m p T
 k : d.n / 64 = 3
 st : d.stops = false
 A : jU w ra sm sd a
 Q : bG w rt q (upN 2) ms nx
 M : gp K8 w rm al
 kp : ai w0 w
 lo : w0.heap.size <= ra /\ (∀ j, pQ rt q j -> w0.heap.size <= j) /\ w0.heap.size <= rm
 S : HW rn r rd ra rt rm f p sm sd q
section
variable {w0 w w' : World} {rn r rd ra rt rm : Nat} {f f' : UnF} {d d' : aP} {m m' : Nat} {s s' : UnS} {p p' : NdP} {T T' : List NdE} {a a' : AkS} {sm sd sm' sd' : Slc} {q q' : jz} {ms ms' : List jr} {nx nx' : Int} {al al' : List (Int × UInt8)}
theorem OM.af (h : OM w0 w rn r rd ra rt rm f d m s p T a sm sd q ms nx al) (hk : ai w w') : OM w0 w' rn r rd ra rt rm f d m s p T a sm sd q ms nx al :=
 ⟨h.N.af hk, h.k, h.st, h.A.af hk, h.Q.af hk, h.M.af hk, h.kp.trans hk, h.lo, h.S⟩
theorem OM.up (h : OM w0 w rn r rd ra rt rm f d m s p T a sm sd q ms nx al) (hm : m <= m') : OM w0 w rn r rd ra rt rm f d m' s p T a sm sd q ms nx al :=
 ⟨h.N.up hm, h.k, h.st, h.A, h.Q, h.M, h.kp, h.lo, h.S⟩
theorem OM.GC (h : OM w0 w rn r rd ra rt rm f d m s p T a sm sd q ms nx al) (hA : jU w' ra sm' sd' a') (hx : Ext (fun j => j = ra) w w') (hf : ∀ j, AkR sm' sd' j -> AkR sm sd j \/ w.heap.size <= j) : OM w0 w' rn r rd ra rt rm f d m s p T a' sm' sd' q ms nx al := by
 have lN := h.N.lt
 have lA := h.A.rlt
 have lm := h.M.lt
 refine ⟨h.N.ext hx (fun j hj hh => (h.S.n1 j hj).1 hh) (fun j hj hh => (h.S.r1 j (.inl hj)).2.1 hh), h.k, h.st, hA, h.Q.ext hx (fun j hj hh => (h.S.n2 j hj).1 hh) (fun j hj hh => (h.S.r1 j (.inr (.inr hj))).2.1 hh), h.M.ext hx (fun hh => h.S.n3 hh.symm), h.kp.ext hx (fun j hj => by have e : j = ra := hj; have := h.lo.1; omega), h.lo, ⟨h.S.n1, h.S.n2, h.S.n3, fun j hj => ?_⟩⟩
 rcases hj with hj | hj | hj
 ·exact h.S.r1 j (.inl hj)
 ·rcases hf j hj with g | g
  ·exact h.S.r1 j (.inr (.inl g))
  ·exact ⟨fun hh => by have := lN.1 j hh; omega, by omega, fun hh => by have := h.Q.lt j hh; omega, by omega⟩
 ·exact h.S.r1 j (.inr (.inr hj))
theorem OM.net (h : OM w0 w rn r rd ra rt rm f d m s p T a sm sd q ms nx al) (hQ : bG w' rt q' (upN 2) ms' nx') (ht : lh rt q q' w w') : OM w0 w' rn r rd ra rt rm f d m s p T a sm sd q' ms' nx' al := by
 have lN := h.N.lt
 have lA := h.A.rlt
 have lm := h.M.lt
 have z0 := h.kp.size
 have hx := ht.1.1
 have key : ∀ j, pQ rt q' j -> ¬ NB rn r rd f p j /\ ¬ NY f p j /\ j ≠ ra /\ ¬ AkR sm sd j /\ j ≠ rm := fun j hj => by
  rcases ht.1.2 j hj with g | g
  ·exact ⟨fun hh => (h.S.n1 j hh).2.1 g, fun hh => (h.S.r1 j (.inl hh)).2.2.1 g, (h.S.n2 j g).1, fun hh => (h.S.r1 j (.inr (.inl hh))).2.2.1 g, (h.S.n2 j g).2⟩
  ·exact ⟨fun hh => by have := lN.1 j hh; omega, fun hh => by have := lN.2 j hh; omega, by have := lA.1; omega, fun hh => by have := (lA.2 j hh).1; omega, by omega⟩
 refine ⟨h.N.ext hx (fun j hj hh => (h.S.n1 j hj).2.1 hh) (fun j hj hh => (h.S.r1 j (.inl hj)).2.2.1 hh), h.k, h.st, h.A.Ha hx (fun hh => (h.S.n2 _ hh).1 rfl) (fun j hj hh => (h.S.r1 j (.inr (.inl hj))).2.2.1 hh), hQ, h.M.ext hx (fun hh => (h.S.n2 _ hh).2 rfl), h.kp.ext hx h.lo.2.1, ⟨h.lo.1, fun j hj => (ht.1.2 j hj).elim (h.lo.2.1 j) (fun g => by omega), h.lo.2.2⟩, ⟨fun j hj => ⟨(h.S.n1 j hj).1, fun hh => (key j hh).1 hj, (h.S.n1 j hj).2.2⟩, fun j hj => ⟨(key j hj).2.2.1, (key j hj).2.2.2.2⟩, h.S.n3, fun j hj => ?_⟩⟩
 rcases hj with hj | hj | hj
 ·obtain ⟨g1, g2, g3, g4⟩ := h.S.r1 j (.inl hj)
  exact ⟨g1, g2, fun hh => (key j hh).2.1 hj, g4⟩
 ·obtain ⟨g1, g2, g3, g4⟩ := h.S.r1 j (.inr (.inl hj))
  exact ⟨g1, g2, fun hh => (key j hh).2.2.2.1 hj, g4⟩
 ·rcases ht.2 j hj with g | g
  ·obtain ⟨g1, g2, g3, g4⟩ := h.S.r1 j (.inr (.inr g))
   exact ⟨g1, g2, hQ.fm j hj, g4⟩
  ·exact ⟨fun hh => by have := lN.1 j hh; omega, by have := lA.1; omega, hQ.fm j hj, by omega⟩
theorem OM.node (h : OM w0 w rn r rd ra rt rm f d m s p T a sm sd q ms nx al) (hN : cj w' w0.heap.size rn r rd f' d' s' m' p' T') (ht : NTo rn r rd f p f' p' w w') (hn : d'.n = d.n) (hst : d'.stops = false) : OM w0 w' rn r rd ra rt rm f' d' m' s' p' T' a sm sd q ms nx al := by
 have lA := h.A.rlt
 have lm := h.M.lt
 have hx := ht.1.1
 have lQ := h.Q.lt
 have lF := h.Q.flt
 refine ⟨hN, by rw [hn]; exact h.k, hst, h.A.Ha hx (fun hh => (h.S.n1 _ hh).1 rfl) (fun j hj hh => (h.S.r1 j (.inr (.inl hj))).1 hh), h.Q.ext hx (fun j hj hh => (h.S.n1 j hh).2.1 hj) (fun j hj hh => (h.S.r1 j (.inr (.inr hj))).1 hh), h.M.ext hx (fun hh => (h.S.n1 _ hh).2.2 rfl), h.kp.ext hx h.N.gB, h.lo, ⟨fun j hj => ?_, h.S.n2, h.S.n3, fun j hj => ?_⟩⟩
 ·rcases ht.1.2 j hj with g | g
  ·exact h.S.n1 j g
  ·exact ⟨by have := lA.1; omega, fun hh => by have := lQ j hh; omega, by omega⟩
 ·rcases hj with hj | hj | hj
  ·refine ⟨hN.yb j hj, ?_⟩
   rcases ht.2 j hj with g | g
   ·exact (h.S.r1 j (.inl g)).2
   ·exact ⟨by have := lA.1; omega, fun hh => by have := lQ j hh; omega, by omega⟩
  ·obtain ⟨g1, g2⟩ := h.S.r1 j (.inr (.inl hj))
   exact ⟨fun hh => (ht.1.2 j hh).elim g1 (fun g => by have := (lA.2 j hj).1; omega), g2⟩
  ·obtain ⟨g1, g2⟩ := h.S.r1 j (.inr (.inr hj))
   exact ⟨fun hh => (ht.1.2 j hh).elim g1 (fun g => by have := lF j hj; omega), g2⟩
theorem OM.E4 (h : OM w0 w rn r rd ra rt rm f d m s p T a sm sd q ms nx al) (hM : gp K8 w' rm al') (hx : Ext (fun j => j = rm) w w') : OM w0 w' rn r rd ra rt rm f d m s p T a sm sd q ms nx al' :=
 ⟨h.N.ext hx (fun j hj hh => (h.S.n1 j hj).2.2 hh) (fun j hj hh => (h.S.r1 j (.inl hj)).2.2.2 hh), h.k, h.st, h.A.Ha hx h.S.n3 (fun j hj hh => (h.S.r1 j (.inr (.inl hj))).2.2.2 hh), h.Q.ext hx (fun j hj hh => (h.S.n2 j hj).2 hh) (fun j hj hh => (h.S.r1 j (.inr (.inr hj))).2.2.2 hh), hM, h.kp.ext hx (fun j hj => by have e : j = rm := hj; have := h.lo.2.2; omega), h.lo, h.S⟩
end
end Go.D
namespace Go.D
open Go Go.Proofs
structure OL (t : Nat) (av bv : Int) (a : AkS) (ms : List jr) (nx : Int) (al : List (Int × UInt8)) (H : HsT) (c : Nat) (busy : Bool) (W : HsT) (T : List NdE) (tB : Nat) : Prop where
 O : jt t H c busy W (fun x => lookL al (x : Int)) T tB (ms.map (·.2))
 anx : a.nx = 7 + (H.length : Int)
 FE : busy = true -> ∃ h : c < H.length, a.msg = some (xj c H[c]) /\ a.tag = 7 + (c : Int) /\ av = ((H[c]).1 : Int) /\ bv = ((H[c]).2.toNat : Int)
 Bn : busy = false -> a.msg = none
 ql : ms.length <= t /\ 0 <= nx /\ nx <= t
theorem OL.net {t : Nat} {av bv : Int} {a : AkS} {ms ms' : List jr} {nx nx' : Int} {al : List (Int × UInt8)} {H : HsT} {c : Nat} {busy : Bool} {W : HsT} {T : List NdE} {tB : Nat} (h : OL t av bv a ms nx al H c busy W T tB) (hm : ∀ y ∈ ms'.map (·.2), y ∈ ms.map (·.2) \/ MOk H T y) (hl : ms'.length <= t + 1) (hn : 0 <= nx' /\ nx' <= (t : Int) + 1) : OL (t + 1) av bv a ms' nx' al H c busy W T tB :=
 ⟨(h.O.more hm).idle (fun y hy => hy), h.anx, h.FE, h.Bn, hl, hn.1, by omega⟩
def OX (w0 w : World) (rn r rd ra rt rm t : Nat) (av bv : Int) : Prop := ∃ f d W p T a sm sd q ms nx al H c busy tB, OM w0 w rn r rd ra rt rm f d t (cS W) p T a sm sd q ms nx al /\ OL t av bv a ms nx al H c busy W T tB
theorem sS (j : Nat) (z : Nat × UInt8) (hj : j <= 1000) (hz : z.1 < 10) : (xj j z).length <= 2054 := by
 unfold xj
 rw [bz]
 have := ky (t := 7 + (j : Int)) (k := 1) (e := 0) (a := (z.1 : Int)) (d := [z.2]) ⟨by omega, by omega, by omega, by omega, by simp, .inr rfl⟩
 omega
theorem sT {x : NdE} (h : gl x.t (eN x.e) x.n x.d.length) : x.msg.length <= 2054 := by
 unfold NdE.msg
 rw [bz]
 have := sK h
 omega
theorem jt.right {i : Nat} {H : HsT} {c : Nat} {busy : Bool} {W : HsT} {pg : Nat -> Option UInt8} {T : List NdE} {tB : Nat} {ms : List (Int × Int × List UInt8)} (h : jt i H c busy W pg T tB ms) (hi : i <= 200) {x : NdE} (hx : x ∈ T) (hf : x.f = 0) : gl x.t (eN x.e) x.n x.d.length := by
 obtain ⟨j, hj, h1, h2, h3, h4⟩ := h.t0 x hx hf
 have := h.cnt
 rw [h1, h2, h3]
 refine ⟨⟨by omega, by omega⟩, ?_, ⟨by omega, by omega⟩, by simp⟩
 rcases h4 with e | e <;> rw [e] <;> exact ⟨by decide, by decide⟩
theorem Gs (f t : Int) (b : List UInt8) (hf : (f = 0 /\ t = 1) \/ (f = 1 /\ t = 0)) (hb : b.length <= 4096) : Bi (upN 2) f t b = none := by
 unfold Bi
 rcases hf with ⟨rfl, rfl⟩ | ⟨rfl, rfl⟩
 ·rw [if_pos ⟨by decide, by decide⟩, if_neg (by omega)]; rfl
 ·rw [if_pos ⟨by decide, by decide⟩, if_neg (by omega)]; rfl
theorem Bo (s : Slc) (x : NdE) (v : UInt8) (w : World) (hb : ag w s x.msg) (hr : gl x.t (eN x.e) x.n x.d.length) (hc : s.l <= s.c) (he : x.e = none) (hd : x.d = [v]) :
  Calls Tryz.prog eQ ⟨[s.v, .int .u8 (v.toNat : Int)]⟩ w fun e w' => e = .returned (.bool true) /\ ai w w' := by
 refine mN _ _ ?_
 unfold jJ
 have hml := sT hr
 have hsl := hb.1
 refine (xc s x.msg w hb (by omega) hc).mono ?_
 rintro e w4 ⟨qv, pv, kind, ec, rfl, hres, k4⟩
 have hR : readR x.msg = .ok (.tell x.t (eN x.e) x.n x.d) := na hr
 rw [hR] at hres
 obtain ⟨u, rfl, hbu, huc, huf, rfl, rfl, rfl⟩ := hres
 refine ⟨_, _, _, _, _, _, _, _, _, _, _, rfl, aq (fun r16 w17 hr16 hb16 k16 hs16 => aq (fun r18 w19 hr18 hb18 k18 hs18 => ?_))⟩
 obtain ⟨a1, a2⟩ := ((ak.bO hb16).af k18).cx (n := 5) (cs := Z5) rfl rfl
 refine ⟨a1, fun w20 hw20 => ?_⟩
 obtain ⟨o16, e16, z20⟩ := a2 w20 hw20
 obtain ⟨b1, b2⟩ := ((ak.bO hb18).ext e16 (by omega)).cx (n := 4) (cs := fT x.t (eN x.e) x.n u) rfl rfl
 refine ⟨b1, fun w21 hw21 => ?_⟩
 obtain ⟨o18, e18, z21⟩ := b2 w21 hw21
 have z4 := k4.size
 have z17 := k16.size
 have k21 : ai w4 w21 := ((k16.trans k18).ext e16 (fun j hj => by omega)).ext e18 (fun j hj => by omega)
 have hbu21 := aj hbu k21
 rw [he] at o18
 have hul : u.l = 1 := by rw [hbu.1, hd]; rfl
 obtain ⟨ad, had, hcell⟩ := vj hbu21 (i := 0) (by rw [hd]; simp)
 have hv : d8 x.d 0 = v.toNat := by rw [hd]; rfl
 refine ae (fun _ => ae (fun _ => ⟨_, o18.cell 1 (by simp), ae (fun _ => ⟨u, o18.cell 3 (by simp), ae (fun _ => ⟨u, o18.cell 3 (by simp), aa had ⟨by omega, by omega, (d8 x.d 0 : Int), ?_, ?_, k4.trans k21⟩⟩) (fun hh => absurd (by rw [hul]; rfl) hh)⟩) (fun hh => absurd rfl hh)⟩) (fun hh => absurd rfl hh)) (fun hh => absurd rfl hh)
 ·rw [<- Ft ad, hcell]
 ·rw [hv, decide_eq_true rfl]
structure C0 where
 k : Int
 a : Int
 n : Int
 b : UInt8
def kz (x : C0) : List Value := [.int .i64 x.k, .int .i64 x.a, .int .i64 x.n, .int .u8 (x.b.toNat : Int)]
def Bp (w : World) (s : Slc) (xs : List C0) : Prop := s.l = xs.length /\ ∀ i (h : i < xs.length), ∃ a : Addr, s.p = some a /\ rowAt w (a.add (i * 4)) 0 (kz xs[i])
section
variable {w0 w w' : World} {rn r rd ra rt rm t : Nat} {av bv : Int}
theorem pr (A : Nat -> Addr) {f : UnF} {d : aP} {m : Nat} {s : UnS} {p : NdP} {T : List NdE} {a : AkS} {sm sd : Slc} {q : jz} {ms : List jr} {nx : Int} {al : List (Int × UInt8)} (h : OM w0 w rn r rd ra rt rm f d m s p T a sm sd q ms nx al) (hE : aY A w0.heap.size w0) (hms : ms.length < 4096) (hnx : 0 <= nx /\ nx <= 2 ^ 40) (fr to : Int) (hft : (fr = 0 /\ to = 1) \/ (fr = 1 /\ to = 0)) (sl : Slc) (b : List UInt8) (hb : ag w sl b) (hbl : b.length <= 4096) :
  Calls Tryz.prog dE ⟨[aA rt, .int .i64 fr, .int .i64 to, sl.v]⟩ w fun e w' => e = .returned (.tuple ⟨[.int .i64 nx, .nilIface]⟩) /\ ∃ q', OM w0 w' rn r rd ra rt rm f d m s p T a sm sd q' (ms ++ [(nx, fr, to, b)]) (nx + 1) al := by
 refine (DS A w0.heap.size h.Q fr to sl b hb hms hnx (hE.af h.kp)).mono ?_
 rw [Gs fr to b hft hbl]
 rintro e w' ⟨rfl, q', hQ, ht⟩
 exact ⟨rfl, q', h.net hQ ht⟩
end
end Go.D
namespace Go.D
open Go Go.Proofs
theorem sV {ms : List jr} {k : Nat} : ∀ y ∈ (ms.eraseIdx k).map (·.2), y ∈ ms.map (·.2) := fun y hy => by
 obtain ⟨z, hz, rfl⟩ := List.mem_map.1 hy
 exact List.mem_map.2 ⟨z, List.mem_of_mem_eraseIdx hz, rfl⟩
section
variable {w0 w w' : World} {rn r rd ra rt rm t : Nat} {av bv : Int}
theorem jt.told {i : Nat} {H : HsT} {c : Nat} {busy : Bool} {W : HsT} {pg : Nat -> Option UInt8} {T : List NdE} {tB : Nat} {ms : List (Int × Int × List UInt8)} (h : jt i H c busy W pg T tB ms) (hi : i <= 200) {y : Int × Int × List UInt8} (hy : y ∈ ms) {a a' : AkS} (ha : hearS a y.2.2 = some a') :
  a.msg.isSome = true /\ ∃ x ∈ T, x.f = 0 /\ x.t = a.tag /\ a' = { a with msg := none, rt := x.t, re := eN x.e, rn := x.n, rd := x.d, has := true } := by
 rcases h.m y hy with ⟨_, _, j, hj, e⟩ | ⟨_, _, x, hx, hf, e⟩
 ·rw [e] at ha
  have hz := h.h9 _ (List.getElem_mem hj)
  have hcnt := h.cnt
  unfold hearS at ha
  rw [xk j _ (by omega) hz] at ha
  cases ha
 ·rw [e] at ha
  unfold hearS at ha
  rw [show readR x.msg = .ok (.tell x.t (eN x.e) x.n x.d) from na (h.right hi hx hf)] at ha
  dsimp only at ha
  split at ha
  ·rename_i g
   injection ha with ha
   exact ⟨g.1, x, hx, hf, g.2, ha.symm⟩
  ·cases ha
theorem Hb (x : Option UInt8) : x.map K8.vv = Option.map (Sh.v (Sh.int .u8)) (x.map fun b => (b.toNat : Int)) := by cases x <;> rfl
theorem xL (A : Nat -> Addr) (sl0 : Slc) (xs : List C0) (w : World) (hl : Bp w sl0 xs) (hE : bA A w) :
  Calls Tryz.prog dc ⟨[sl0.v]⟩ w fun e w' => e = .returned (.bool true) /\ ai w w' := by
 refine kh _ ?_
 unfold gV
 have hB : aY A w.heap.size w := hE.b
 have hll := hl.1
 refine (zD A w hE).mono ?_
 rintro e w3 ⟨rfl, k3⟩
 refine ⟨_, rfl, ao (fun h => by cases h) (fun _ => ae (fun h100 => ⟨rfl, k3⟩) (fun h100 => (sN A w w3 hE k3).mono ?_))⟩
 rintro e w6 ⟨rn, r, rd, rn2, r2, f, d, p, fr, q, rfl, hL, hNB, k6⟩
 have kk6 := k3.trans k6
 refine ⟨_, _, rfl, (qh A 7 w6 (hE.af kk6)).mono ?_⟩
 rintro e w10 ⟨k10, hc⟩
 rcases hc with ⟨hbad, _⟩ | ⟨_, ra, rfl, hA, hra⟩
 ·omega
 have kk10 := kk6.trans k10
 refine ⟨_, _, rfl, (Fw A w.heap.size 2 w10 (hB.af kk10)).mono ?_⟩
 rintro e w14 (⟨hbad, _⟩ | ⟨_, _, rt, qn, rfl, hQ, k14, hQM, hQF⟩)
 ·exact absurd (by omega) hbad
 refine ⟨_, _, rfl, fun w2 => w2 = w14, ao (fun h => by cases h) (fun _ => ⟨trivial, ao (fun h => by cases h) (fun _ => ⟨trivial, ao (fun h => by cases h) (fun _ => rfl)⟩)⟩), ?_⟩
 rintro w18 rfl
 intros
 refine aq (fun rm w31 hrm hbm k31 hsm => ?_)
 have z3 := k3.size
 have z6 := k6.size
 have z10 := k10.size
 have z14 := k14.size
 have lra := hA.o.lt
 have lN := hL.N.lt
 have nilO : ∀ x, ¬ au (⟨none, 0, 0⟩ : Slc) x := by rintro x ⟨a, ha, _⟩; cases ha
 have lQ := hQ.lt
 have kN : ai w6 w31 := (k10.trans k14).trans k31
 have M0 : OM w w31 rn r rd ra rt rm f d 0 (cS []) p [] ⟨7, none, 0, 0, 0, 0, [], false⟩ ⟨none, 0, 0⟩ ⟨none, 0, 0⟩ qn [] 0 [] := by
  refine ⟨hL.N.af kN, hL.k, hL.st, (hA.af k14).af k31, hQ.af k31, gp.new hbm, kk10.trans (k14.trans k31), ⟨by omega, fun j hj => by have := hQM j hj; omega, by omega⟩, ⟨fun j hj => ?_, fun j hj => ?_, by omega, fun j hj => ?_⟩⟩
  ·have := lN.1 j hj
   exact ⟨by omega, fun hh => by have := hQM j hh; omega, by omega⟩
  ·have := hQM j hj; have := lQ j hj
   exact ⟨by omega, by omega⟩
  ·rcases hj with hj | (⟨_, hj⟩ | ⟨_, hj⟩) | hj
   ·have := lN.2 j hj
    exact ⟨hL.N.yb j hj, by omega, fun hh => by have := hQM j hh; omega, by omega⟩
   ·exact (nilO j hj).elim
   ·exact (nilO j hj).elim
   ·exact (hQF j hj).elim
 have L0 : OL 0 0 0 ⟨7, none, 0, 0, 0, 0, [], false⟩ [] 0 [] [] 0 false [] [] 0 := ⟨jt.init, rfl, (fun h => by cases h), fun _ => rfl, by simp, by omega, by omega⟩
 refine ⟨fun av bv i w2 => ∃ t : Nat, i = t /\ t <= xs.length /\ OX w w2 rn r rd ra rt rm t av bv, fun _ _ i _ => ((xs.length : Int) - i).toNat, ⟨0, rfl, by omega, f, d, [], p, [], _, _, _, qn, [], 0, [], [], 0, false, 0, M0, L0⟩, ?_⟩
 rintro av bv i w37 ⟨t, rfl, ht, f, d, W, p, T, a, sm, sd, q, ms, nx, al, H, c, busy, tB, hM, hO⟩
 intros
 refine ae (fun h1 => ?_) (fun h1 => ⟨rfl, hM.kp⟩)
 have htl : t < xs.length := by omega
 obtain ⟨a1, ha1, hrow⟩ := hl.2 t htl
 generalize hact : xs[t] = x at hrow
 refine aa ha1 ⟨by omega, h1, _, _, _, _, by rw [Int.toNat_natCast]; exact vJ hrow hM.kp, ?_⟩
 refine jY (cs := kz x) rfl rfl (fun r218 w220 hr218 o218 k220 hs220 => ?_)
 have M := hM.af k220
 have ql := hO.ql
 have hms : ms.length < 4096 := by omega
 have hnx : 0 <= nx /\ nx <= 2 ^ 40 := ⟨ql.2.1, by omega⟩
 have hEM := hB.af M.kp
 have hEup : aY A w220.heap.size w220 := hEM.up M.kp.size
 have hcnt := hO.O.cnt
 -- on with the next one
 have go : ∀ {w2 : World} {av bv : Int}, OX w w2 rn r rd ra rt rm (t + 1) av bv -> inR .i64 ((t : Int) + 1) /\ ((∃ t' : Nat, ((t : Int) + 1) = t' /\ t' <= xs.length /\ OX w w2 rn r rd ra rt rm t' av bv) /\ ((xs.length : Int) - ((t : Int) + 1)).toNat < ((xs.length : Int) - (t : Int)).toNat) := fun {w2 av bv} hh => ⟨aB (by omega), ⟨t + 1, by omega, htl, hh⟩, by omega⟩
 have idle : ∀ {w2 : World} {q' : jz} {ms' : List jr} {nx' : Int}, OM w w2 rn r rd ra rt rm f d t (cS W) p T a sm sd q' ms' nx' al -> (∀ y ∈ ms'.map (·.2), y ∈ ms.map (·.2) \/ MOk H T y) -> ms'.length <= t + 1 -> (0 <= nx' /\ nx' <= (t : Int) + 1) -> OX w w2 rn r rd ra rt rm (t + 1) av bv := fun {w2 q' ms' nx'} hm h1 h2 h3 => ⟨f, d, W, p, T, a, sm, sd, q', ms', nx', al, H, c, busy, tB, hm.up (by omega), hO.net h1 h2 h3⟩
 have stay : ∀ {w2 : World}, OM w w2 rn r rd ra rt rm f d t (cS W) p T a sm sd q ms nx al -> OX w w2 rn r rd ra rt rm (t + 1) av bv := fun {w2} hm => idle hm (fun y hy => .inl hy) (by omega) ⟨ql.2.1, by omega⟩
 refine ⟨_, o218.cell 0 (by simp [kz]), ae (fun g0 => ?_) (fun g0 => ae (fun g1 => ?_) (fun g1 => ae (fun g2 => ?_) (fun g2 => ae (fun g3 => ?_) (fun g3 => ae (fun g4 => ?_) (fun g4 => ae (fun g5 => ?_) (fun g5 => go (stay M)))))))⟩
 ·-- something is asked
  refine (mr M.A).mono ?_
  rintro e w223 ⟨rfl, rfl⟩
  refine ⟨_, rfl, ao (fun _ => go (stay M)) (fun hnb => ?_)⟩
  have hbf : busy = false := by
   cases hb : busy with
   | false => rfl
   | true => obtain ⟨_, g, _⟩ := hO.FE hb; rw [g] at hnb; cases hnb
  subst hbf
  obtain ⟨mz, hmz, hwm', hum⟩ := Dz x.a 10 (by omega) (by omega)
  have hwm : IntKind.wrap .i64 ((IntKind.wrap .u64 x.a) % (10 : Int)) = (mz : Int) := hwm'
  have kd : ai w223 (World.drew w223) := Ext.drew _ _
  refine ⟨_, (o218.af kd).cell 1 (by simp [kz]), hum, by omega, _, (o218.af kd).cell 3 (by simp [kz]), aq (fun r227 w228 hr227 hb227 k227 hs227 => ?_)⟩
  have hwm2 : IntKind.wrap .i64 ((IntKind.wrap .u64 ((kz x).getD 1 .nilIface |> fun _ => x.a)) % (10 : Int)) = (mz : Int) := hwm
  rw [show IntKind.wrap .i64 ((IntKind.wrap .u64 x.a) % (10 : Int)) = (mz : Int) from hwm]
  have M228 := (M.af kd).af k227
  have hby : ag w228 (⟨some ⟨r227, 0, none⟩, 1, 1⟩ : Slc) [x.b] := by
   refine ⟨rfl, .inr ⟨_, rfl, fun i hi => ?_⟩⟩
   have : i = 0 := by simp at hi; omega
   subst this
   rw [add_lit, cell_of hb227]; rfl
  have hHl : H.length = c := by have := hO.O.hc; simpa using this
  have anx := hO.anx
  have hrq : cP a.nx 1 0 (mz : Int) ([x.b] : List UInt8).length := ⟨by omega, by omega, by omega, by omega, by simp, .inr rfl⟩
  have hae : Be a 1 0 (mz : Int) ([x.b] : List UInt8).length = none := by
   unfold Be
   rw [hO.Bn rfl, if_neg (by simp), if_neg (by omega), if_pos hrq]
  refine (yv A M228.A ((hB.af M228.kp).up M228.kp.size) 1 0 (mz : Int) _ [x.b] hby).mono ?_
  rintro e w230 ⟨s231, rfl, _, hok⟩
  obtain ⟨hfb, hff, hfc, sm', hA', hsm', hx'⟩ := hok hae
  rw [hae]
  have M230 := M228.GC hA' hx' (fun j hj => hj.elim (fun g => .inr (hsm' j g.2)) (fun g => .inl (.inr g)))
  have hF : bn (aU [1, a.nx, 1, 0, (mz : Int)] [x.b]) = xj c (mz, x.b) := by unfold xj; rw [anx, hHl]
  rw [hF] at hfb
  refine ⟨s231, _, rfl, trivial, ao (fun _ => ?_) (fun hh => by cases hh)⟩
  refine (pr A M230 hB hms hnx 0 1 (.inl ⟨rfl, rfl⟩) s231 _ hfb (by have := sS c (mz, x.b) (by omega) hmz; omega)).mono ?_
  rintro e w234 ⟨rfl, q', M234⟩
  refine ⟨_, _, rfl, go ⟨f, d, W, p, T, _, sm', sd, q', _, _, al, H ++ [(mz, x.b)], c, true, T.length, M234.up (by omega), ?_, ?_, fun _ => ?_, (fun hh => by cases hh), ?_⟩⟩
  ·have := hO.O.ask (mz, x.b) hmz
   rw [List.map_append]; exact this
  ·show a.nx + 1 = 7 + ((H ++ [(mz, x.b)]).length : Int); rw [List.length_append, List.length_singleton]; omega
  ·refine ⟨by simp; omega, ?_, ?_, ?_, ?_⟩
   ·show some (bn (aU [1, a.nx, 1, 0, (mz : Int)] [x.b])) = _
    rw [hF, List.getElem_append_right (by omega)]
    simp [hHl]
   ·show a.nx = _; omega
   ·rw [List.getElem_append_right (by omega)]; simp [hHl]
   ·rw [List.getElem_append_right (by omega)]; simp [hHl]
  ·simp; omega
 ·-- it is sent again
  refine (Cn M.A).mono ?_
  rintro e w238 ⟨s239, rfl, hfb, hff, hfc, k238⟩
  have M238 := M.af k238
  refine ⟨s239, _, rfl, ao (fun hb => ?_) (fun _ => go (stay M238))⟩
  have hbt : busy = true := by
   cases hb' : busy with
   | true => rfl
   | false => rw [hO.Bn hb'] at hb; cases hb
  obtain ⟨hcl, hmsg, _⟩ := hO.FE hbt
  rw [hmsg] at hfb
  have hz := hO.O.h9 _ (List.getElem_mem hcl)
  refine (pr A M238 hB hms hnx 0 1 (.inl ⟨rfl, rfl⟩) s239 _ hfb (by have := sS c H[c] (by omega) hz; show (xj c H[c]).length <= 4096; omega)).mono ?_
  rintro e w242 ⟨rfl, q', M242⟩
  exact ⟨_, _, rfl, go (idle M242 (fun y hy => by
   rw [List.map_append] at hy
   exact (List.mem_append.1 hy).imp (fun g => g) (fun g => by
    rw [List.map_singleton, List.mem_singleton] at g; subst g
    exact .inl ⟨rfl, rfl, c, hcl, rfl⟩)) (by simp; omega) ⟨by omega, by omega⟩)⟩
 ·-- the node gets a message
  refine (xh M.Q 1 (by omega)).mono ?_
  rintro e w246 ⟨n247, rfl, k246, _⟩
  have M246 := M.af k246
  refine ⟨_, rfl, (sQ A w.heap.size M246.Q n247 hms (hEM.af k246) M246.kp.size).mono ?_⟩
  have bad : ∀ {w249 : World} {g : Nat}, ai w246 w249 -> ∃ (x250 x251 x252 : Int) (x253 : Slc) (e254 : Value), Ending.returned (Value.tuple ⟨[G8, fQ A (dt.getD g 0)]⟩) = .returned (.tuple ⟨[.agg ⟨[.int .i64 x250, .int .i64 x251, .int .i64 x252, x253.v]⟩, e254]⟩) /\ isI e254 /\ isNilI e254 = false /\ OM w w249 rn r rd ra rt rm f d t (cS W) p T a sm sd q ms nx al := fun {w249 g} hk => ⟨0, 0, 0, ⟨none, 0, 0⟩, _, rfl, trivial, rfl, M246.af hk⟩
  have skip : ∀ {w249 : World} {x250 x251 x252 : Int} {x253 : Slc} {e254 : Value}, isI e254 -> isNilI e254 = false -> OM w w249 rn r rd ra rt rm f d t (cS W) p T a sm sd q ms nx al -> ∀ w257, ai w249 w257 -> OX w w257 rn r rd ra rt rm (t + 1) av bv := fun {w249 _ _ _ _ _} _ _ hm w257 hk => stay (hm.af hk)
  rintro e w249 (⟨_, rfl, k249⟩ | ⟨_, _, _, _, rfl, k249⟩ | ⟨k, hk, _, _, s, q', rfl, hbs, ⟨hsc, hsf⟩, hQ', ht'⟩)
  ·refine ⟨0, 0, 0, ⟨none, 0, 0⟩, _, rfl, jY (cs := gr 0 0 0 ⟨none, 0, 0⟩) rfl rfl (fun r255 w257 hr255 o255 k257 hs257 => ⟨trivial, ao (fun hh => by cases hh) (fun _ => go (stay ((M246.af k249).af k257)))⟩)⟩
  ·refine ⟨0, 0, 0, ⟨none, 0, 0⟩, _, rfl, jY (cs := gr 0 0 0 ⟨none, 0, 0⟩) rfl rfl (fun r255 w257 hr255 o255 k257 hs257 => ⟨trivial, ao (fun hh => by cases hh) (fun _ => go (stay ((M246.af k249).af k257)))⟩)⟩
  have M249 := M246.net hQ' ht'
  refine ⟨_, _, _, s, _, rfl, jY (cs := gr ms[k].1 ms[k].2.1 ms[k].2.2.1 s) rfl rfl (fun r255 w257 hr255 o255 k257 hs257 => ⟨trivial, ao (fun _ => ?_) (fun hh => by cases hh)⟩)⟩
  have M257 := M249.af k257
  have hym : ms[k].2 ∈ ms.map (·.2) := List.mem_map.2 ⟨ms[k], List.getElem_mem hk, rfl⟩
  have hyl : ms[k].2.2.2.length <= 2054 := by
   rcases hO.O.m _ hym with ⟨_, _, j, hj, e⟩ | ⟨_, _, x', hx', hf', e⟩
   ·rw [e]; exact sS j _ (by omega) (hO.O.h9 _ (List.getElem_mem hj))
   ·rw [e]; exact sT (hO.O.right (by omega) hx' hf')
  have hsl := hbs.1
  refine ⟨s, o255.cell 3 (by simp [gr]), (lf A M257.N (hB.af M257.kp) M257.kp.size (by omega) M257.st 0 s _ (aj hbs k257) (by omega) hsc).mono ?_⟩
  rintro e w260 ⟨u, rfl, hu, huf, huc, f', d', p', N', hdn, hds, nto, nu⟩
  rw [M257.k] at hu N' ⊢
  have M260 := M257.node N' nto hdn hds
  have hel : (ms.eraseIdx k).length <= t := Nat.le_trans (List.length_eraseIdx_le ..) ql.1
  rcases hO.O.m _ hym with ⟨_, _, j, hj, e⟩ | ⟨_, _, x', hx', hf', e⟩
  ·obtain ⟨xr, W', T', hst, hO', hxT⟩ := hO.O.exec (by omega) (ms' := (ms.eraseIdx k).map (·.2)) sV j hj
   rw [e, hst] at hu M260 ⊢
   refine ⟨u, _, rfl, ao (fun _ => ?_) (fun hh => by cases hh)⟩
   have hxl : xr.msg.length <= 4096 := by have := sT (hO'.right (by omega) hxT.1 hxT.2); omega
   refine (pr A M260 hB (by omega) hnx 1 0 (.inr ⟨rfl, rfl⟩) u xr.msg hu hxl).mono ?_
   rintro e w264 ⟨rfl, q2, M264⟩
   refine ⟨_, _, rfl, go ⟨f', d', W', p', T', a, sm, sd, q2, _, _, al, H, c, busy, tB, M264, ?_, hO.anx, hO.FE, hO.Bn, ?_⟩⟩
   ·rw [List.map_append]; exact hO'
   ·rw [List.length_append, List.length_singleton]; omega
  ·have hst : ndStep 3 (cS W) T 0 x'.msg = (none, cS W, T) := by
    unfold ndStep
    rw [show readR x'.msg = .ok (.tell x'.t (eN x'.e) x'.n x'.d) from na (hO.O.right (by omega) hx' hf')]
   rw [e, hst] at M260 ⊢
   exact ⟨u, _, rfl, ao (fun hh => by cases hh) (fun _ => go ⟨f', d', W, p', T, a, sm, sd, q', _, nx, al, H, c, busy, tB, M260, hO.net (fun y hy => .inl (sV y hy)) (by omega) ⟨ql.2.1, by omega⟩⟩)⟩
 ·-- the asker gets a message
  refine (xh M.Q 0 (by omega)).mono ?_
  rintro e w268 ⟨n269, rfl, k268, _⟩
  have M268 := M.af k268
  refine ⟨_, rfl, (sQ A w.heap.size M268.Q n269 hms (hEM.af k268) M268.kp.size).mono ?_⟩
  rintro e w271 (⟨_, rfl, k271⟩ | ⟨_, _, _, _, rfl, k271⟩ | ⟨k, hk, _, _, s, q', rfl, hbs, ⟨hsc, hsf⟩, hQ', ht'⟩)
  ·refine ⟨0, 0, 0, ⟨none, 0, 0⟩, _, rfl, jY (cs := gr 0 0 0 ⟨none, 0, 0⟩) rfl rfl (fun r277 w279 hr277 o277 k277 hs277 => ⟨fun _ => False, ⟨trivial, ao (fun _ => go (stay ((M268.af k271).af k277))) (fun hh => by cases hh)⟩, fun _ hh => hh.elim⟩)⟩
  ·refine ⟨0, 0, 0, ⟨none, 0, 0⟩, _, rfl, jY (cs := gr 0 0 0 ⟨none, 0, 0⟩) rfl rfl (fun r277 w279 hr277 o277 k277 hs277 => ⟨fun _ => False, ⟨trivial, ao (fun _ => go (stay ((M268.af k271).af k277))) (fun hh => by cases hh)⟩, fun _ hh => hh.elim⟩)⟩
  have M271 := M268.net hQ' ht'
  have hym : ms[k].2 ∈ ms.map (·.2) := List.mem_map.2 ⟨ms[k], List.getElem_mem hk, rfl⟩
  have hel : (ms.eraseIdx k).length <= t := Nat.le_trans (List.length_eraseIdx_le ..) ql.1
  have hyl : ms[k].2.2.2.length <= 2054 := by
   rcases hO.O.m _ hym with ⟨_, _, j, hj, e⟩ | ⟨_, _, x', hx', hf', e⟩
   ·rw [e]; exact sS j _ (by omega) (hO.O.h9 _ (List.getElem_mem hj))
   ·rw [e]; exact sT (hO.O.right (by omega) hx' hf')
  have hsl := hbs.1
  refine ⟨_, _, _, s, _, rfl, jY (cs := gr ms[k].1 ms[k].2.1 ms[k].2.2.1 s) rfl rfl (fun r277 w279 hr277 o277 k277 hs277 => ?_)⟩
  have M279 := M271.af k277
  refine ⟨fun w2 => ∃ sd' a', hearS a ms[k].2.2.2 = some a' /\ OM w w2 rn r rd ra rt rm f d t (cS W) p T a' ⟨none, 0, 0⟩ sd' q' (ms.eraseIdx k) nx al, ⟨trivial, ao (fun hh => by cases hh) (fun _ => ⟨s, o277.cell 3 (by simp [gr]), (yw A M279.A ((hB.af M279.kp).up M279.kp.size) s _ (aj hbs k277) (by omega) hsc).mono ?_⟩)⟩, ?_⟩
  ·rintro e w283 ⟨rfl, hno, hyes⟩
   cases hS : hearS a ms[k].2.2.2 with
   | none => exact ⟨_, rfl, ao (fun _ => go (idle (M279.af (hno hS)) (fun y hy => .inl (sV y hy)) (by omega) ⟨ql.2.1, by omega⟩)) (fun hh => by cases hh)⟩
   | some a' =>
    obtain ⟨sd', hA', hf', hx'⟩ := hyes a' hS
    refine ⟨_, rfl, ao (fun hh => by cases hh) (fun _ => ⟨sd', a', rfl, M279.GC hA' hx' (fun j hj => ?_)⟩)⟩
    rcases hj with ⟨g, _⟩ | ⟨_, g⟩
    ·exact absurd g (by simp)
    ·exact .inr (hf' j g)
  rintro w285 ⟨sd', a', hS, M285⟩
  intros
  obtain ⟨hbz, xr, hxr, hxf, hxt, rfl⟩ := hO.O.told (by omega) hym hS
  have hbt : busy = true := by
   cases hb' : busy with
   | true => rfl
   | false => rw [hO.Bn hb'] at hbz; cases hbz
  subst hbt
  obtain ⟨hcl, hmsg, htag, hav, hbv⟩ := hO.FE rfl
  rw [htag] at hxt
  obtain ⟨q1, q2, hst, hO'⟩ := hO.O.HV (by omega) (ms' := (ms.eraseIdx k).map (·.2)) sV hcl hxr hxf hxt
  refine (DR M285.A).mono ?_
  rintro e w296 ⟨xv, rfl, k296, _, hyes⟩
  obtain ⟨u, rfl, hbu⟩ := hyes rfl
  have M296 := M285.af k296
  refine ⟨_, _, _, u, _, rfl, jY (cs := fT xr.t (eN xr.e) xr.n u) rfl rfl (fun r302 w304 hr302 o302 k302 hs302 => ?_)⟩
  have M304 := M296.af k302
  obtain ⟨es, hes, hget⟩ := M304.M.get
  have hgetv : fI (.int .i64) (Value.int .i64 av) es = some (Option.map (Sh.v (Sh.int .u8)) ((lookL al av).map fun b => (b.toNat : Int))) := (hget av).trans (congrArg some (Hb _))
  refine ⟨es, hes, (lookL al av).map fun b => (b.toNat : Int), hgetv, fun w2 => w2 = w304, ⟨_, o302.cell 1 (by simp), ?_⟩, ?_⟩
  ·rw [hav]
   cases hp : lookL al ((H[c]).1 : Int) with
   | none =>
    have hz : xr.e = none := q2 (by simp only [hp]; rfl)
    rw [hz] at o302 ⊢
    exact ao (fun hh => by simp at hh; exact absurd rfl hh) (fun _ => ⟨_, o302.cell 1 (by simp), bg (fun hh => absurd rfl hh) (fun _ => rfl)⟩)
   | some b =>
    have hz : xr.e = some 8 := q1 (by simp only [hp]; rfl)
    rw [hz] at o302 ⊢
    exact ao (fun hh => absurd (show (decide (eN (some 8) = 0) == true) = true from hh) (by decide)) (fun _ => ⟨_, o302.cell 1 (by simp), bg (fun _ => ⟨_, o302.cell 1 (by simp), bg (fun hh => absurd rfl hh) (fun _ => rfl)⟩) (fun hh => absurd hh (by decide))⟩)
  rintro w311 rfl
  intros
  refine ⟨fun old w2 => old = (((lookL al ((H[c]).1 : Int)).getD (H[c]).2).toNat : Int) /\ ∃ al', (fun y : Nat => lookL al' (y : Int)) = (fun y : Nat => if y = (H[c]).1 then some ((lookL al ((H[c]).1 : Int)).getD (H[c]).2) else lookL al (y : Int)) /\ OM w w2 rn r rd ra rt rm f d t (cS W) p T { a with msg := none, rt := xr.t, re := eN xr.e, rn := xr.n, rd := xr.d, has := true } ⟨none, 0, 0⟩ sd' q' (ms.eraseIdx k) nx al', ?_, ?_⟩
  ·rw [hav]
   cases hp : lookL al ((H[c]).1 : Int) with
   | some b =>
    refine ao (fun hh => by cases hh) (fun _ => ⟨rfl, al, ?_, M304⟩)
    funext y
    split
    ·rename_i e; rw [e, hp]; rfl
    ·rfl
   | none =>
    obtain ⟨es1, ck1, es2, ck2, g1, g2, g3⟩ := M304.M.put ((H[c]).1 : Int) (H[c]).2
    refine ao (fun _ => ⟨rm, es1, ck1, es2, ck2, rfl, g1, ?_, fun w334 hw => ?_⟩) (fun hh => by cases hh)
    ·rw [hbv]; exact g2
    ·obtain ⟨m1, m2, m3⟩ := g3 w334 hw
     refine ⟨by rw [hbv]; rfl, _, ?_, M304.E4 m1 m2⟩
     funext y
     rw [rE]
     by_cases e : y = (H[c]).1
     ·rw [if_pos (by rw [e]), if_pos e]; rfl
     ·rw [if_neg (fun g => e (by omega)), if_neg e]
  rintro old w336 ⟨rfl, al', hal, M336⟩
  intros
  have hz := hO.O.h9 _ (List.getElem_mem hcl)
  have hrq : cP (t : Int) 2 0 ((H[c]).1 : Int) ([] : List UInt8).length := ⟨by omega, by omega, by omega, by omega, by simp, .inl rfl⟩
  refine ⟨aB (by omega), ?_⟩
  rw [hav]
  refine Calls.mono (R := fun e w' => ∃ fz : Slc, e = .returned fz.v /\ ai w336 w' /\ aF w336 fz /\ fz.l <= fz.c /\ ag w' fz (Bm t (H[c]).1)) (mM _ _ ?_) ?_
  ·unfold jI
   refine (zx (t : Int) 2 0 ((H[c]).1 : Int) ⟨none, 0, 0⟩ [] w336 ⟨rfl, .inl rfl⟩ hrq).mono ?_
   rintro e w4 ⟨fz, rfl, h1, h2, h3, h4⟩
   exact ⟨fz, rfl, fz, rfl, h1, h2, h3, h4⟩
  rintro e w344 ⟨fz, rfl, k344, hff, hfc, hfb⟩
  have M344 := M336.af k344
  have hfl := hfb.1
  have hfl2 : (Bm t (H[c]).1).length <= 2054 := by unfold Bm; rw [bz]; have := ky hrq; omega
  refine ⟨fz, rfl, (lf A M344.N (hB.af M344.kp) M344.kp.size (by omega) M344.st (1000 + (t : Int)) fz _ hfb (by omega) hfc).mono ?_⟩
  rintro e w347 ⟨v, rfl, hv, hvf, hvc, f', d', p', N', hdn, hds, nto, nu⟩
  rw [M344.k, hst] at hv N' ⊢
  have M347 := M344.node N' nto hdn hds
  refine ⟨v, _, rfl, ao (fun hh => by cases hh) (fun _ => ?_)⟩
  have hr : gl (t : Int) (eN none) 0 ([(lookL al ((H[c]).1 : Int)).getD (H[c]).2] : List UInt8).length := ⟨by omega, by decide, by omega, by simp⟩
  refine (Bo v ⟨1000 + (t : Int), (t : Int), none, 0, [(lookL al ((H[c]).1 : Int)).getD (H[c]).2]⟩ ((lookL al ((H[c]).1 : Int)).getD (H[c]).2) w347 hv hr hvc rfl rfl).mono ?_
  rintro e w351 ⟨rfl, k351⟩
  refine ⟨_, rfl, ao (fun hh => by cases hh) (fun _ => go ⟨f', d', W, p', _, _, ⟨none, 0, 0⟩, sd', q', _, nx, al', H, c + 1, false, tB, M347.af k351, ?_, hO.anx, (fun hh => by cases hh), fun _ => rfl, by omega, ql.2.1, by omega⟩)⟩
  have hO2 := hO'
  rw [<- hal] at hO2
  exact hO2
 ·-- a message is dropped
  refine ⟨_, o218.cell 2 (by simp [kz]), (DT A w.heap.size M.Q _ hms hEM).mono ?_⟩
  rintro e w355 (⟨_, rfl, k355⟩ | ⟨k, hk, _, rfl, q', hQ', ht'⟩)
  ·exact ⟨_, rfl, go (stay (M.af k355))⟩
  ·exact ⟨_, rfl, go (idle (M.net hQ' ht') (fun y hy => .inl (sV y hy)) (by have := List.length_eraseIdx_le (l := ms) (i := k); omega) ⟨ql.2.1, by omega⟩)⟩
 ·-- a message is doubled
  refine ⟨_, o218.cell 2 (by simp [kz]), (Bj A w.heap.size M.Q _ hms hnx hEM).mono ?_⟩
  rintro e w359 (⟨_, rfl, k359⟩ | ⟨k, hk, _, rfl, q', hQ', ht'⟩)
  ·exact ⟨_, _, rfl, go (stay (M.af k359))⟩
  ·exact ⟨_, _, rfl, go (idle (M.net hQ' ht') (fun y hy => by
    rw [List.map_append] at hy
    exact .inl ((List.mem_append.1 hy).elim (fun g => g) (fun g => by
     rw [List.map_singleton, List.mem_singleton] at g; subst g
     exact List.mem_map.2 ⟨ms[k], List.getElem_mem hk, rfl⟩))) (by simp; omega) ⟨by omega, by omega⟩)⟩
theorem DW {w : World} {s : Slc} {xs : List (Int × Int × Int × Int)} (h : Af (Rd.pair (Rd.int .i64) (Rd.pair (Rd.int .i64) (Rd.pair (Rd.int .i64) (Rd.int .u8)))) w s xs) : ∃ ys, Bp w s ys := by
 obtain ⟨h1, h2, _, h3⟩ := h
 have key : ∀ x : Int × Int × Int × Int, inR .u8 x.2.2.2 -> ∃ y : C0, kz y = [.int .i64 x.1, .int .i64 x.2.1, .int .i64 x.2.2.1, .int .u8 x.2.2.2] := fun x hx => by
  obtain ⟨b, hb⟩ := Gr hx
  exact ⟨⟨x.1, x.2.1, x.2.2.1, b⟩, by unfold kz; rw [hb]⟩
 refine ⟨xs.map fun x => ⟨x.1, x.2.1, x.2.2.1, UInt8.ofNat x.2.2.2.toNat⟩, by rw [h1, List.length_map], fun i hi => ?_⟩
 have hi2 : i < xs.length := by simpa using hi
 obtain ⟨a, cs, ha, ⟨_, _, hcs, ⟨rfl, _⟩, ⟨_, _, rfl, ⟨rfl, _⟩, ⟨_, _, rfl, ⟨rfl, _⟩, ⟨rfl, hu⟩⟩⟩⟩, hrow⟩ := h3 i hi2
 subst hcs
 have h0 : 0 <= xs[i].2.2.2 := hu.1
 have h255 : xs[i].2.2.2 <= 255 := hu.2
 have e : ((UInt8.ofNat xs[i].2.2.2.toNat).toNat : Int) = xs[i].2.2.2 := by rw [UInt8.toNat_ofNat']; omega
 refine ⟨a, ha, ?_⟩
 rw [List.getElem_map]
 unfold kz
 rw [e]
 exact hrow
theorem za (sl0 : Slc) (xs : List (Int × Int × Int × Int)) (w : World) (hl : Af (Rd.pair (Rd.int .i64) (Rd.pair (Rd.int .i64) (Rd.pair (Rd.int .i64) (Rd.int .u8)))) w sl0 xs) (A : Nat -> Addr) (hE : bA A w) :
  Calls Tryz.prog dc ⟨[sl0.v]⟩ w fun e w' => e = .returned (.bool true) /\ ai w w' := by
 obtain ⟨ys, hys⟩ := DW hl
 exact xL A sl0 ys w hys hE
end
end Go.D

