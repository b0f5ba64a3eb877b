/-
  WHAT IS PROVED: contracts of functions, and the plain law, for this proof. No further conditions.
-/
import Derived.Test.YtbeciidagekppaaGreatDoorAll3
import Derived.Test.YtbeciidagekppaaGreatDoorVClaw09
import Derived.Test.YtbeciidagekppaaGreatDoorAll1
import Derived.Test.YtbeciidagekppaaGreatDoorVCstop
set_option linter.unusedVariables false
set_option linter.unusedSimpArgs false
set_option maxRecDepth 4000
namespace Go.D
open Go Go.Proofs

theorem le_sum9 : ∀ {l : List Nat} {n : Nat}, n ∈ l → n ≤ l.sum
  | [], n, h => by simp at h
  | x :: l, n, h => by
    rw [List.sum_cons]
    rcases List.mem_cons.1 h with rfl | h
    · omega
    · have := le_sum9 h; omega
structure UOk (k m : Nat) (s : UnS) : Prop where
  o : UnOk s.U s.tr s.ep s.T
  so : s.U.Pairwise fun g h => g.num < h.num
  N : ∀ g ∈ sU s.U, g.num < m
  sm : ∀ g ∈ sU s.U, sumN g.recs ≤ 64
  l : s.U.length ≤ 20
  k : k ≤ 2 ^ 20
  t : s.T ≤ 4096 ∧ s.ep ≤ 2 ^ 30
theorem UAt.ok {w : World} {n0 r rd m : Nat} {f : UnF} {d : DevS} {s : UnS} (h : UAt w n0 r rd f d s m) : UOk (d.n / 64) m s := by
  have hl := h.S.len
  have hk := h.S.k
  have e : (sU s.U).length = s.U.length := by simp
  refine ⟨h.O, pairwise_sU (R := fun a b => a < b) h.S.I.so, h.S.N, fun g hg => ?_, by omega, by omega, h.T⟩
  have hf := (h.S.I.on g hg).fin
  unfold SegS.fin at hf
  omega
structure RuS (w : World) (r k : Nat) (f : RuF) (P : List RuE) (top : Int) (s : UnS) : Prop where
  A : RuAt w r k f P s.tr s.ep top
  z : gL f.zs = sU s.U
  K : RefOk P top s
theorem RuS.keep {w w' : World} {r k : Nat} {f : RuF} {P : List RuE} {top : Int} {s : UnS} (h : RuS w r k f P top s) (he : Keep w w') : RuS w' r k f P top s := ⟨h.A.keep he, h.z, h.K⟩
theorem rfOk9 {zs : List Rz} {k m : Nat} {s : UnS} (hz : gL zs = sU s.U) (hu : UOk k m s) (hm : m ≤ 2 ^ 59) : RfOk zs := by
  have hl := hu.l
  have e : zs.length = s.U.length := by
    have := congrArg List.length hz
    simpa using this
  have mem : ∀ z ∈ zs, z.g ∈ sU s.U := fun z h => by rw [← hz]; exact List.mem_map.2 ⟨z, h, rfl⟩
  exact ⟨by omega, fun z h => by have := hu.N _ (mem z h); omega, fun z h => by have := hu.sm _ (mem z h); omega⟩
section
variable {w w' : World} {r k m : Nat} {f : RuF} {P : List RuE} {top : Int} {s : UnS}
theorem RuTo.store {sl' : Slc} {zs' : List Rz} (ht : RfTo f.rs f.sl sl' f.zs zs' w w') : RuTo r f { f with sl := sl', zs := zs' } w w' := by
  obtain ⟨t1, t2, t3⟩ := ht
  refine ⟨t1.mono (fun j hj => .inr (.inl hj)), ?_, ?_⟩
  · rintro j (hj | hj | hj | hj | hj)
    · exact .inl (.inl hj)
    · exact (t2 j hj).imp (fun h => .inr (.inl h)) (fun h => h)
    · exact .inl (.inr (.inr (.inl hj)))
    · exact .inl (.inr (.inr (.inr (.inl hj))))
    · exact .inl (.inr (.inr (.inr (.inr hj))))
  · rintro j (hj | hj)
    · exact (t3 j hj).imp .inl (fun h => h)
    · exact .inl (.inr hj)
/-- A record is written into the document's store. -/
theorem refRec_spec9 (h : RuS w r k f P top s) (hu : UOk k m s) (hm : m ≤ 2 ^ 59) (x : Rc) (hx : okR x) (sl : Slc) (hb : bytesAt w sl (encR x)) (hs : ∀ j, ownB sl j → ¬ RuW r f j) :
    Calls Tryz.prog fn_tidewaterref08_Store_Append ⟨[ptrR' f.rs, sl.v]⟩ w fun e w' => (appU k s.U x = none ∧ (∃ n : Int, e = .returned (.tuple ⟨[.int .i64 n, .int .i64 13]⟩)) ∧ ∃ sl' zs', RuS w' r k { f with sl := sl', zs := zs' } P top s ∧ RuTo r f { f with sl := sl', zs := zs' } w w') ∨
      (∃ n V, appU k s.U x = some (n, V) ∧ e = .returned (.tuple ⟨[.int .i64 (n : Int), .int .i64 0]⟩) ∧ ∃ sl' zs', gL zs' = sU V ∧ RuAt w' r k { f with sl := sl', zs := zs' } P s.tr s.ep top ∧ RuTo r f { f with sl := sl', zs := zs' } w w') := by
  have hel := encR_len hx
  refine (refAppend_spec8 h.A.R (rfOk9 h.z hu hm) hu.k sl (encR x) hb (by omega) (fun _ j hj hh => hs j hj (.inr (.inl hh)))).mono ?_
  rintro e w2 ⟨rfl, sl', zs', hg, hR, ht⟩
  have hok := appU_ok (k := k) (U := s.U) hx
  rw [h.z, hok] at hg ⊢
  have hA := h.A.store hR ht
  cases ha : appU k s.U x with
  | none =>
    rw [ha] at hg
    exact .inl ⟨rfl, ⟨_, rfl⟩, sl', zs', ⟨hA, hg, h.K⟩, RuTo.store ht⟩
  | some p =>
    obtain ⟨n, V⟩ := p
    rw [ha] at hg
    exact .inr ⟨n, V, rfl, rfl, sl', zs', hg, hA, RuTo.store ht⟩
theorem refWrite_vc {K : Value → World → Prop} (h : RuS w r k f P top s) (hu : UOk k m s) (hm : m ≤ 2 ^ 59) (hP : P.length < 2 ^ 20) (epoch a : Int) (b4 : Slc) (t : List UInt8) (hb : bytesAt w b4 t) (ht : t.length ≤ 2 ^ 20) (hs : ∀ j, ownB b4 j → ¬ RuW r f j)
    (hK : ∀ w' f' P' top', RuS w' r k f' P' top' (writeP k s epoch a t).2 → P'.length ≤ P.length + 1 → RuTo r f f' w w' → K (.int .i64 (eN (writeP k s epoch a t).1)) w') : tidewaterref09_Unit_Write (some ⟨r, 0, none⟩) epoch a b4 w K := by
  unfold tidewaterref09_Unit_Write
  have hbl := hb.1
  refine (refCheck_spec9 h.A epoch a 4095).mono ?_
  rintro e w6 ⟨rfl, rfl⟩
  unfold writeP at hK
  cases hc : checkE s.ep epoch a 4095 with
  | some c =>
    rw [hc] at hK
    have : eN (some c) ≠ 0 := by show ((c + 1 : Nat) : Int) ≠ 0; omega
    exact ⟨_, rfl, BIf_mk (fun _ => hK w6 f P top h (by omega) (RuTo.refl _ _ _)) (fun hh => by simp [this] at hh)⟩
  | none =>
    rw [hc] at hK
    simp only at hK
    have ha : 0 ≤ a ∧ a ≤ 4095 := by
      unfold checkE at hc
      split at hc
      · cases hc
      · split at hc
        · cases hc
        · omega
    obtain ⟨an, rfl⟩ : ∃ an : Nat, a = an := ⟨a.toNat, by omega⟩
    refine ⟨_, rfl, BIf_mk (fun hh => by simp [eN] at hh) (fun _ => ⟨fun w2 => ¬ (t.length = 0 ∨ 2048 < t.length) ∧ w2 = w6, BIf_dec (fun h0 => ?_) (fun h0 => BIf_dec (fun h1 => ?_) (fun h1 => ⟨by omega, rfl⟩)), ?_⟩)⟩
    · rw [if_pos (by omega)] at hK
      exact hK w6 f P top h (by omega) (RuTo.refl _ _ _)
    · rw [if_pos (by omega)] at hK
      exact hK w6 f P top h (by omega) (RuTo.refl _ _ _)
    rintro w9 ⟨h0, rfl⟩
    intros
    rw [if_neg h0] at hK
    refine needSome_mk rfl ⟨_, h.A.cs.2.2.2.2.1, BIf_dec (fun h1 => ?_) (fun h1 => ?_)⟩
    · rw [if_pos h1] at hK
      exact hK w9 f P top h (by omega) (RuTo.refl _ _ _)
    rw [if_neg h1] at hK
    refine (refHas_spec9 h.A (by omega) (an : Int)).mono ?_
    rintro e w22 ⟨rfl, rfl⟩
    rw [h.K.has an]
    refine ⟨_, rfl, BIf_mk (fun h2 => ?_) (fun h2 => ?_)⟩
    · rw [if_pos h2] at hK
      exact hK w22 f P top h (by omega) (RuTo.refl _ _ _)
    have hpn : pgM s.U s.tr (an : Int) = none := by simpa using h2
    rw [if_neg (by rw [h2]; decide), Int.toNat_natCast] at hK
    have hok : okR (.page an t) := ⟨by omega, by omega, by omega⟩
    have kd : Keep w22 (World.drew w22) := Ext.drew _ _
    have lt := h.A.lt
    have cell0 : ∀ {w3}, Keep w22 w3 → World.cell? w3 (⟨r, 0, none⟩ : Addr) = some (Value.pointer (some ⟨f.rs, 0, none⟩)) := fun hk => (h.A.keep hk).cs.1
    have hbk : ∀ {w3}, Keep w22 w3 → bytesAt w3 b4 t := fun hk => bytesAt_keep hb hk
    refine needSome_mk rfl ⟨_, cell0 kd, t, hbk kd, (ref04_Num_spec 1 _ (by omega)).mono ?_⟩
    rintro e w28 ⟨s29, rfl, o29, f29, k29⟩
    have k28 := kd.trans k29
    refine ⟨s29, rfl, ⟨t, hbk k28, rfl⟩, ⟨_, cell0 k28, rfl⟩, (ref04_Num_spec an _ (by omega)).mono ?_⟩
    rintro e w33 ⟨s34, rfl, o34, f34, k34⟩
    have k33 := k28.trans k34
    refine ⟨s34, rfl, ⟨t, hbk k33, rfl⟩, ⟨_, cell0 k33, rfl⟩, (ref04_Text_spec t _ ht).mono ?_⟩
    rintro e w38 ⟨s39, rfl, o39, f39, k39⟩
    have k38 := k33.trans k39
    refine ⟨s39, rfl, ⟨_, cell0 k38, rfl⟩, newS_mk (fun r41 w42 hr41 hb41 k42 hs42 => ⟨⟨_, cell0 (k38.trans k42), rfl⟩, ?_⟩)⟩
    have k42' := k38.trans k42
    have o29' := (o29.keep (k34.trans k39)).keep k42
    have o34' := (o34.keep k39).keep k42
    have o39' := o39.keep k42
    have z42 := k42.size
    have b29 : ∀ j, ownB s29 j → j < w38.heap.size := OwnLt (o29.keep (k34.trans k39))
    have b34 : ∀ j, ownB s34 j → j < w38.heap.size := OwnLt (o34.keep k39)
    have b39 : ∀ j, ownB s39 j → j < w38.heap.size := OwnLt o39
    have hrows := rows_byt (w := w42) [s29, s34, s39] [encN 1, encN an, encN t.length ++ t] hb41 rfl (fun i h h' => by
      match i, h with
      | 0, _ => exact o29'.bytes
      | 1, _ => exact o34'.bytes
      | 2, _ => exact o39'.bytes) (fun x hx j hj => by
      simp only [List.mem_cons, List.not_mem_nil, or_false] at hx
      rcases hx with rfl | rfl | rfl
      · have := b29 j hj; omega
      · have := b34 j hj; omega
      · have := b39 j hj; omega)
    have hl1 := o29.1
    have hl2 := o34.1
    have hl3 := o39.1
    have hel := encR_len hok
    have henc : [encN 1, encN an, encN t.length ++ t].flatten = encR (.page an t) := by simp [encR, numB, textB]
    have hlens : ∀ b ∈ [encN 1, encN an, encN t.length ++ t], b.length ≤ 2 ^ 20 := fun b hb9 => by
      have hle : b.length ≤ ([encN 1, encN an, encN t.length ++ t].flatten).length := by
        rw [List.length_flatten]
        exact le_sum9 (List.mem_map.2 ⟨b, hb9, rfl⟩)
      rw [henc] at hle; omega
    refine (row_spec9 _ _ _ hrows (by simp) hlens).mono ?_
    rintro e w45 ⟨s46, rfl, o46, f46, k46⟩
    rw [henc] at o46
    have k45 := k42'.trans k46
    have h45 := h.keep k45
    refine ⟨s46, rfl, ⟨_, cell0 k45, rfl⟩, (refRec_spec9 h45 hu hm (.page an t) hok s46 o46.bytes (fun j hj hh => ?_)).mono ?_⟩
    · have := f46 j hj
      have := lt.1 j hh
      have := k42'.size
      omega
    rintro e w49 (⟨ha1, ⟨n, rfl⟩, sl', zs', hS', hto⟩ | ⟨n, V, ha1, rfl, sl', zs', hg', hA', hto⟩)
    · rw [ha1] at hK
      exact ⟨_, _, rfl, BIf_mk (fun _ => hK w49 _ P top hS' (by omega) ((RuTo.keep k45).trans hto)) (fun hh => by simp at hh)⟩
    · rw [ha1] at hK
      simp only at hK
      refine ⟨_, _, rfl, BIf_mk (fun hh => by simp at hh) (fun _ => ?_)⟩
      have kd49 : Keep w49 (World.drew w49) := Ext.drew _ _
      have hA0 := hA'.keep kd49
      have hts := (RuTo.keep (r := r) (f := f) k45).trans hto
      have hb49 : bytesAt w49 b4 t := bytesAt_stayX hb hts.1 (fun _ j hj hh => hs j hj hh)
      have hb0 := bytesAt_keep hb49 kd49
      have hblt : ∀ j, ownB b4 j → j < w22.heap.size := fun j hj => bytesAt_ltX hb (by omega) j hj
      have H0 := PW.start hA0 hb0 (by omega) (fun j hj hh => (hts.2.1 j hh).elim (fun g => hs j hj g) (fun g => by have := hblt j hj; omega))
      have hl1 : (P.map fun e => (e.a : Int)).length < 2 ^ 30 := by rw [List.length_map]; omega
      have hl2 : (P.map (·.t)).length < 2 ^ 30 := by rw [List.length_map]; omega
      have hl3 : (P.map fun e => (e.n : Int)).length < 2 ^ 30 := by rw [List.length_map]; omega
      have ht2 := ht
      have hfin : ∀ w' f', RuAt w' r k f' (P ++ [(⟨an, t, n⟩ : RuE)]) s.tr s.ep (max top ((an : Int) + 1)) → gL f'.zs = sU V → RuTo r { f with sl := sl', zs := zs' } f' (World.drew w49) w' → K (.int .i64 0) w' := by
        intro w' f' hA9 hz9 ht9
        refine hK w' f' (P ++ [(⟨an, t, n⟩ : RuE)]) _ ⟨hA9, hz9, h.K.write ha1 hu.so (by omega) (by omega) hpn (by omega)⟩ (by simp) ((hts.trans (RuTo.keep kd49)).trans ht9)
      have fin : ∀ {w2 : World} {sa sp si : Slc} {css : List (List Value)} {X : List (Nat × List Value)} {B : List Slc}, PW (World.drew w49) r k { f with sl := sl', zs := zs' } s.tr s.ep top b4 t ⟨sa, (P.map fun e => (e.a : Int)) ++ [(an : Int)], sp, (P.map (·.t)) ++ [t], css, si, (P.map fun e => (e.n : Int)) ++ [(n : Int)], X, B⟩ w2 → _ :=
        fun H => H.fin (K := K) (by omega) (fun w' h1 h2 => hfin w' _ h1 hg' h2)
      refine needSome_mk rfl ⟨_, H0.c1, needSome_mk rfl ⟨_, H0.c2, needSome_mk rfl ⟨_, H0.c3, ?_⟩⟩⟩
      refine ⟨?_, ?_, ?_⟩
      · refine H0.new _ _ (fun r58 w59 H59 => ?_)
        refine ⟨⟨_, H59.c3, rfl⟩, ⟨_, H59.c2, rfl⟩, ⟨_, H59.c1, rfl⟩, ?_, ?_, ?_⟩
        · refine H59.addA (a := (an : Int)) (by simp) hl1 (fun s63 w64 H64 => ?_)
          refine ⟨⟨_, H64.c3, rfl⟩, ⟨_, H64.c2, rfl⟩, ?_, ?_⟩
          · refine H64.new _ _ (fun r67 w68 H68 => ?_)
            refine ⟨⟨_, H68.c3, rfl⟩, ⟨_, H68.c2, rfl⟩, ?_, ?_⟩
            · refine H68.addB (by simp) ht2 (fun s71 w72 H72 => ?_)
              refine ⟨⟨_, H72.c3, rfl⟩, ⟨_, H72.c2, rfl⟩, ?_, ?_⟩
              · refine H72.new _ _ (fun r75 w76 H76 => ?_)
                refine ⟨⟨_, H76.c3, rfl⟩, ⟨_, H76.c2, rfl⟩, ?_, ?_⟩
                · refine H76.addP (s9 := s71) (by simp) (by simp) hl2 (fun s79 w80 H80 => ?_)
                  refine ⟨⟨_, H80.c3, rfl⟩, ?_⟩
                  refine H80.new _ _ (fun r82 w83 H83 => ?_)
                  refine ⟨⟨_, H83.c3, rfl⟩, ?_⟩
                  refine H83.addI (a := (n : Int)) (by simp) hl3 (fun s85 w86 H86 => ?_)
                  exact fin H86
                · refine H76.new _ _ (fun r97 w98 H98 => ?_)
                  refine ⟨⟨_, H98.c3, rfl⟩, ⟨_, H98.c2, rfl⟩, ?_⟩
                  refine H98.addP (s9 := s71) (by simp) (by simp) hl2 (fun s101 w102 H102 => ?_)
                  refine ⟨⟨_, H102.c3, rfl⟩, ?_⟩
                  refine H102.addI (a := (n : Int)) (by simp) hl3 (fun s104 w105 H105 => ?_)
                  exact fin H105
              · refine H72.new _ _ (fun r116 w117 H117 => ?_)
                refine ⟨⟨_, H117.c3, rfl⟩, ⟨_, H117.c2, rfl⟩, ?_⟩
                refine H117.new _ _ (fun r120 w121 H121 => ?_)
                refine ⟨⟨_, H121.c3, rfl⟩, ⟨_, H121.c2, rfl⟩, ?_⟩
                refine H121.addP (s9 := s71) (by simp) (by simp) hl2 (fun s124 w125 H125 => ?_)
                refine ⟨⟨_, H125.c3, rfl⟩, ?_⟩
                refine H125.addI (a := (n : Int)) (by simp) hl3 (fun s127 w128 H128 => ?_)
                exact fin H128
            · refine H68.new _ _ (fun r139 w140 H140 => ?_)
              refine ⟨⟨_, H140.c3, rfl⟩, ⟨_, H140.c2, rfl⟩, ?_⟩
              refine H140.addB (by simp) ht2 (fun s143 w144 H144 => ?_)
              refine ⟨⟨_, H144.c3, rfl⟩, ⟨_, H144.c2, rfl⟩, ?_⟩
              refine H144.new _ _ (fun r147 w148 H148 => ?_)
              refine ⟨⟨_, H148.c3, rfl⟩, ⟨_, H148.c2, rfl⟩, ?_⟩
              refine H148.addP (s9 := s143) (by simp) (by simp) hl2 (fun s151 w152 H152 => ?_)
              refine ⟨⟨_, H152.c3, rfl⟩, ?_⟩
              refine H152.addI (a := (n : Int)) (by simp) hl3 (fun s154 w155 H155 => ?_)
              exact fin H155
          · refine H64.new _ _ (fun r166 w167 H167 => ?_)
            refine ⟨⟨_, H167.c3, rfl⟩, ⟨_, H167.c2, rfl⟩, ?_⟩
            refine H167.new _ _ (fun r170 w171 H171 => ?_)
            refine ⟨⟨_, H171.c3, rfl⟩, ⟨_, H171.c2, rfl⟩, ?_⟩
            refine H171.addB (by simp) ht2 (fun s174 w175 H175 => ?_)
            refine ⟨⟨_, H175.c3, rfl⟩, ⟨_, H175.c2, rfl⟩, ?_⟩
            refine H175.new _ _ (fun r178 w179 H179 => ?_)
            refine ⟨⟨_, H179.c3, rfl⟩, ⟨_, H179.c2, rfl⟩, ?_⟩
            refine H179.addP (s9 := s174) (by simp) (by simp) hl2 (fun s182 w183 H183 => ?_)
            refine ⟨⟨_, H183.c3, rfl⟩, ?_⟩
            refine H183.addI (a := (n : Int)) (by simp) hl3 (fun s185 w186 H186 => ?_)
            exact fin H186
        · refine H59.new _ _ (fun r197 w198 H198 => ?_)
          refine ⟨⟨_, H198.c3, rfl⟩, ⟨_, H198.c2, rfl⟩, ⟨_, H198.c1, rfl⟩, ?_, ?_⟩
          · refine H198.addA (a := (an : Int)) (by simp) hl1 (fun s202 w203 H203 => ?_)
            refine ⟨⟨_, H203.c3, rfl⟩, ⟨_, H203.c2, rfl⟩, ?_, ?_⟩
            · refine H203.addB (by simp) ht2 (fun s206 w207 H207 => ?_)
              refine ⟨⟨_, H207.c3, rfl⟩, ⟨_, H207.c2, rfl⟩, ?_, ?_⟩
              · refine H207.new _ _ (fun r210 w211 H211 => ?_)
                refine ⟨⟨_, H211.c3, rfl⟩, ⟨_, H211.c2, rfl⟩, ?_, ?_⟩
                · refine H211.addP (s9 := s206) (by simp) (by simp) hl2 (fun s214 w215 H215 => ?_)
                  refine ⟨⟨_, H215.c3, rfl⟩, ?_⟩
                  refine H215.new _ _ (fun r217 w218 H218 => ?_)
                  refine ⟨⟨_, H218.c3, rfl⟩, ?_⟩
                  refine H218.addI (a := (n : Int)) (by simp) hl3 (fun s220 w221 H221 => ?_)
                  exact fin H221
                · refine H211.new _ _ (fun r232 w233 H233 => ?_)
                  refine ⟨⟨_, H233.c3, rfl⟩, ⟨_, H233.c2, rfl⟩, ?_⟩
                  refine H233.addP (s9 := s206) (by simp) (by simp) hl2 (fun s236 w237 H237 => ?_)
                  refine ⟨⟨_, H237.c3, rfl⟩, ?_⟩
                  refine H237.addI (a := (n : Int)) (by simp) hl3 (fun s239 w240 H240 => ?_)
                  exact fin H240
              · refine H207.new _ _ (fun r251 w252 H252 => ?_)
                refine ⟨⟨_, H252.c3, rfl⟩, ⟨_, H252.c2, rfl⟩, ?_⟩
                refine H252.new _ _ (fun r255 w256 H256 => ?_)
                refine ⟨⟨_, H256.c3, rfl⟩, ⟨_, H256.c2, rfl⟩, ?_⟩
                refine H256.addP (s9 := s206) (by simp) (by simp) hl2 (fun s259 w260 H260 => ?_)
                refine ⟨⟨_, H260.c3, rfl⟩, ?_⟩
                refine H260.addI (a := (n : Int)) (by simp) hl3 (fun s262 w263 H263 => ?_)
                exact fin H263
            · refine H203.new _ _ (fun r274 w275 H275 => ?_)
              refine ⟨⟨_, H275.c3, rfl⟩, ⟨_, H275.c2, rfl⟩, ?_⟩
              refine H275.addB (by simp) ht2 (fun s278 w279 H279 => ?_)
              refine ⟨⟨_, H279.c3, rfl⟩, ⟨_, H279.c2, rfl⟩, ?_⟩
              refine H279.new _ _ (fun r282 w283 H283 => ?_)
              refine ⟨⟨_, H283.c3, rfl⟩, ⟨_, H283.c2, rfl⟩, ?_⟩
              refine H283.addP (s9 := s278) (by simp) (by simp) hl2 (fun s286 w287 H287 => ?_)
              refine ⟨⟨_, H287.c3, rfl⟩, ?_⟩
              refine H287.addI (a := (n : Int)) (by simp) hl3 (fun s289 w290 H290 => ?_)
              exact fin H290
          · refine H198.new _ _ (fun r301 w302 H302 => ?_)
            refine ⟨⟨_, H302.c3, rfl⟩, ⟨_, H302.c2, rfl⟩, ⟨_, H302.c1, rfl⟩, ?_⟩
            refine H302.addA (a := (an : Int)) (by simp) hl1 (fun s306 w307 H307 => ?_)
            refine ⟨⟨_, H307.c3, rfl⟩, ⟨_, H307.c2, rfl⟩, ?_⟩
            refine H307.addB (by simp) ht2 (fun s310 w311 H311 => ?_)
            refine ⟨⟨_, H311.c3, rfl⟩, ⟨_, H311.c2, rfl⟩, ?_⟩
            refine H311.new _ _ (fun r314 w315 H315 => ?_)
            refine ⟨⟨_, H315.c3, rfl⟩, ⟨_, H315.c2, rfl⟩, ?_⟩
            refine H315.addP (s9 := s310) (by simp) (by simp) hl2 (fun s318 w319 H319 => ?_)
            refine ⟨⟨_, H319.c3, rfl⟩, ?_⟩
            refine H319.addI (a := (n : Int)) (by simp) hl3 (fun s321 w322 H322 => ?_)
            exact fin H322
        · refine H59.new _ _ (fun r333 w334 H334 => ?_)
          refine ⟨⟨_, H334.c3, rfl⟩, ⟨_, H334.c2, rfl⟩, ⟨_, H334.c1, rfl⟩, ?_, ?_⟩
          · refine H334.addA (a := (an : Int)) (by simp) hl1 (fun s338 w339 H339 => ?_)
            refine ⟨⟨_, H339.c3, rfl⟩, ⟨_, H339.c2, rfl⟩, ?_⟩
            refine H339.new _ _ (fun r342 w343 H343 => ?_)
            refine ⟨⟨_, H343.c3, rfl⟩, ⟨_, H343.c2, rfl⟩, ?_⟩
            refine H343.addB (by simp) ht2 (fun s346 w347 H347 => ?_)
            refine ⟨⟨_, H347.c3, rfl⟩, ⟨_, H347.c2, rfl⟩, ?_⟩
            refine H347.new _ _ (fun r350 w351 H351 => ?_)
            refine ⟨⟨_, H351.c3, rfl⟩, ⟨_, H351.c2, rfl⟩, ?_⟩
            refine H351.addP (s9 := s346) (by simp) (by simp) hl2 (fun s354 w355 H355 => ?_)
            refine ⟨⟨_, H355.c3, rfl⟩, ?_⟩
            refine H355.addI (a := (n : Int)) (by simp) hl3 (fun s357 w358 H358 => ?_)
            exact fin H358
          · refine H334.new _ _ (fun r369 w370 H370 => ?_)
            refine ⟨⟨_, H370.c3, rfl⟩, ⟨_, H370.c2, rfl⟩, ⟨_, H370.c1, rfl⟩, ?_⟩
            refine H370.addA (a := (an : Int)) (by simp) hl1 (fun s374 w375 H375 => ?_)
            refine ⟨⟨_, H375.c3, rfl⟩, ⟨_, H375.c2, rfl⟩, ?_⟩
            refine H375.addB (by simp) ht2 (fun s378 w379 H379 => ?_)
            refine ⟨⟨_, H379.c3, rfl⟩, ⟨_, H379.c2, rfl⟩, ?_⟩
            refine H379.new _ _ (fun r382 w383 H383 => ?_)
            refine ⟨⟨_, H383.c3, rfl⟩, ⟨_, H383.c2, rfl⟩, ?_⟩
            refine H383.addP (s9 := s378) (by simp) (by simp) hl2 (fun s386 w387 H387 => ?_)
            refine ⟨⟨_, H387.c3, rfl⟩, ?_⟩
            refine H387.addI (a := (n : Int)) (by simp) hl3 (fun s389 w390 H390 => ?_)
            exact fin H390
      · refine H0.new _ _ (fun r401 w402 H402 => ?_)
        refine ⟨⟨_, H402.c3, rfl⟩, ⟨_, H402.c2, rfl⟩, ⟨_, H402.c1, rfl⟩, ?_, ?_⟩
        · refine H402.new _ _ (fun r406 w407 H407 => ?_)
          refine ⟨⟨_, H407.c3, rfl⟩, ⟨_, H407.c2, rfl⟩, ⟨_, H407.c1, rfl⟩, ?_, ?_⟩
          · refine H407.addA (a := (an : Int)) (by simp) hl1 (fun s411 w412 H412 => ?_)
            refine ⟨⟨_, H412.c3, rfl⟩, ⟨_, H412.c2, rfl⟩, ?_, ?_⟩
            · refine H412.addB (by simp) ht2 (fun s415 w416 H416 => ?_)
              refine ⟨⟨_, H416.c3, rfl⟩, ⟨_, H416.c2, rfl⟩, ?_, ?_⟩
              · refine H416.new _ _ (fun r419 w420 H420 => ?_)
                refine ⟨⟨_, H420.c3, rfl⟩, ⟨_, H420.c2, rfl⟩, ?_, ?_⟩
                · refine H420.addP (s9 := s415) (by simp) (by simp) hl2 (fun s423 w424 H424 => ?_)
                  refine ⟨⟨_, H424.c3, rfl⟩, ?_⟩
                  refine H424.new _ _ (fun r426 w427 H427 => ?_)
                  refine ⟨⟨_, H427.c3, rfl⟩, ?_⟩
                  refine H427.addI (a := (n : Int)) (by simp) hl3 (fun s429 w430 H430 => ?_)
                  exact fin H430
                · refine H420.new _ _ (fun r441 w442 H442 => ?_)
                  refine ⟨⟨_, H442.c3, rfl⟩, ⟨_, H442.c2, rfl⟩, ?_⟩
                  refine H442.addP (s9 := s415) (by simp) (by simp) hl2 (fun s445 w446 H446 => ?_)
                  refine ⟨⟨_, H446.c3, rfl⟩, ?_⟩
                  refine H446.addI (a := (n : Int)) (by simp) hl3 (fun s448 w449 H449 => ?_)
                  exact fin H449
              · refine H416.new _ _ (fun r460 w461 H461 => ?_)
                refine ⟨⟨_, H461.c3, rfl⟩, ⟨_, H461.c2, rfl⟩, ?_⟩
                refine H461.new _ _ (fun r464 w465 H465 => ?_)
                refine ⟨⟨_, H465.c3, rfl⟩, ⟨_, H465.c2, rfl⟩, ?_⟩
                refine H465.addP (s9 := s415) (by simp) (by simp) hl2 (fun s468 w469 H469 => ?_)
                refine ⟨⟨_, H469.c3, rfl⟩, ?_⟩
                refine H469.addI (a := (n : Int)) (by simp) hl3 (fun s471 w472 H472 => ?_)
                exact fin H472
            · refine H412.new _ _ (fun r483 w484 H484 => ?_)
              refine ⟨⟨_, H484.c3, rfl⟩, ⟨_, H484.c2, rfl⟩, ?_⟩
              refine H484.addB (by simp) ht2 (fun s487 w488 H488 => ?_)
              refine ⟨⟨_, H488.c3, rfl⟩, ⟨_, H488.c2, rfl⟩, ?_⟩
              refine H488.new _ _ (fun r491 w492 H492 => ?_)
              refine ⟨⟨_, H492.c3, rfl⟩, ⟨_, H492.c2, rfl⟩, ?_⟩
              refine H492.addP (s9 := s487) (by simp) (by simp) hl2 (fun s495 w496 H496 => ?_)
              refine ⟨⟨_, H496.c3, rfl⟩, ?_⟩
              refine H496.addI (a := (n : Int)) (by simp) hl3 (fun s498 w499 H499 => ?_)
              exact fin H499
          · refine H407.new _ _ (fun r510 w511 H511 => ?_)
            refine ⟨⟨_, H511.c3, rfl⟩, ⟨_, H511.c2, rfl⟩, ⟨_, H511.c1, rfl⟩, ?_⟩
            refine H511.addA (a := (an : Int)) (by simp) hl1 (fun s515 w516 H516 => ?_)
            refine ⟨⟨_, H516.c3, rfl⟩, ⟨_, H516.c2, rfl⟩, ?_⟩
            refine H516.addB (by simp) ht2 (fun s519 w520 H520 => ?_)
            refine ⟨⟨_, H520.c3, rfl⟩, ⟨_, H520.c2, rfl⟩, ?_⟩
            refine H520.new _ _ (fun r523 w524 H524 => ?_)
            refine ⟨⟨_, H524.c3, rfl⟩, ⟨_, H524.c2, rfl⟩, ?_⟩
            refine H524.addP (s9 := s519) (by simp) (by simp) hl2 (fun s527 w528 H528 => ?_)
            refine ⟨⟨_, H528.c3, rfl⟩, ?_⟩
            refine H528.addI (a := (n : Int)) (by simp) hl3 (fun s530 w531 H531 => ?_)
            exact fin H531
        · refine H402.new _ _ (fun r542 w543 H543 => ?_)
          refine ⟨⟨_, H543.c3, rfl⟩, ⟨_, H543.c2, rfl⟩, ⟨_, H543.c1, rfl⟩, ?_⟩
          refine H543.new _ _ (fun r547 w548 H548 => ?_)
          refine ⟨⟨_, H548.c3, rfl⟩, ⟨_, H548.c2, rfl⟩, ⟨_, H548.c1, rfl⟩, ?_⟩
          refine H548.addA (a := (an : Int)) (by simp) hl1 (fun s552 w553 H553 => ?_)
          refine ⟨⟨_, H553.c3, rfl⟩, ⟨_, H553.c2, rfl⟩, ?_⟩
          refine H553.addB (by simp) ht2 (fun s556 w557 H557 => ?_)
          refine ⟨⟨_, H557.c3, rfl⟩, ⟨_, H557.c2, rfl⟩, ?_⟩
          refine H557.new _ _ (fun r560 w561 H561 => ?_)
          refine ⟨⟨_, H561.c3, rfl⟩, ⟨_, H561.c2, rfl⟩, ?_⟩
          refine H561.addP (s9 := s556) (by simp) (by simp) hl2 (fun s564 w565 H565 => ?_)
          refine ⟨⟨_, H565.c3, rfl⟩, ?_⟩
          refine H565.addI (a := (n : Int)) (by simp) hl3 (fun s567 w568 H568 => ?_)
          exact fin H568
      · refine H0.new _ _ (fun r579 w580 H580 => ?_)
        refine ⟨⟨_, H580.c3, rfl⟩, ⟨_, H580.c2, rfl⟩, ⟨_, H580.c1, rfl⟩, ?_, ?_⟩
        · refine H580.new _ _ (fun r584 w585 H585 => ?_)
          refine ⟨⟨_, H585.c3, rfl⟩, ⟨_, H585.c2, rfl⟩, ⟨_, H585.c1, rfl⟩, ?_, ?_⟩
          · refine H585.addA (a := (an : Int)) (by simp) hl1 (fun s589 w590 H590 => ?_)
            refine ⟨⟨_, H590.c3, rfl⟩, ⟨_, H590.c2, rfl⟩, ?_⟩
            refine H590.new _ _ (fun r593 w594 H594 => ?_)
            refine ⟨⟨_, H594.c3, rfl⟩, ⟨_, H594.c2, rfl⟩, ?_⟩
            refine H594.addB (by simp) ht2 (fun s597 w598 H598 => ?_)
            refine ⟨⟨_, H598.c3, rfl⟩, ⟨_, H598.c2, rfl⟩, ?_⟩
            refine H598.new _ _ (fun r601 w602 H602 => ?_)
            refine ⟨⟨_, H602.c3, rfl⟩, ⟨_, H602.c2, rfl⟩, ?_⟩
            refine H602.addP (s9 := s597) (by simp) (by simp) hl2 (fun s605 w606 H606 => ?_)
            refine ⟨⟨_, H606.c3, rfl⟩, ?_⟩
            refine H606.addI (a := (n : Int)) (by simp) hl3 (fun s608 w609 H609 => ?_)
            exact fin H609
          · refine H585.new _ _ (fun r620 w621 H621 => ?_)
            refine ⟨⟨_, H621.c3, rfl⟩, ⟨_, H621.c2, rfl⟩, ⟨_, H621.c1, rfl⟩, ?_⟩
            refine H621.addA (a := (an : Int)) (by simp) hl1 (fun s625 w626 H626 => ?_)
            refine ⟨⟨_, H626.c3, rfl⟩, ⟨_, H626.c2, rfl⟩, ?_⟩
            refine H626.addB (by simp) ht2 (fun s629 w630 H630 => ?_)
            refine ⟨⟨_, H630.c3, rfl⟩, ⟨_, H630.c2, rfl⟩, ?_⟩
            refine H630.new _ _ (fun r633 w634 H634 => ?_)
            refine ⟨⟨_, H634.c3, rfl⟩, ⟨_, H634.c2, rfl⟩, ?_⟩
            refine H634.addP (s9 := s629) (by simp) (by simp) hl2 (fun s637 w638 H638 => ?_)
            refine ⟨⟨_, H638.c3, rfl⟩, ?_⟩
            refine H638.addI (a := (n : Int)) (by simp) hl3 (fun s640 w641 H641 => ?_)
            exact fin H641
        · refine H580.new _ _ (fun r652 w653 H653 => ?_)
          refine ⟨⟨_, H653.c3, rfl⟩, ⟨_, H653.c2, rfl⟩, ⟨_, H653.c1, rfl⟩, ?_⟩
          refine H653.new _ _ (fun r657 w658 H658 => ?_)
          refine ⟨⟨_, H658.c3, rfl⟩, ⟨_, H658.c2, rfl⟩, ⟨_, H658.c1, rfl⟩, ?_⟩
          refine H658.addA (a := (an : Int)) (by simp) hl1 (fun s662 w663 H663 => ?_)
          refine ⟨⟨_, H663.c3, rfl⟩, ⟨_, H663.c2, rfl⟩, ?_⟩
          refine H663.addB (by simp) ht2 (fun s666 w667 H667 => ?_)
          refine ⟨⟨_, H667.c3, rfl⟩, ⟨_, H667.c2, rfl⟩, ?_⟩
          refine H667.new _ _ (fun r670 w671 H671 => ?_)
          refine ⟨⟨_, H671.c3, rfl⟩, ⟨_, H671.c2, rfl⟩, ?_⟩
          refine H671.addP (s9 := s666) (by simp) (by simp) hl2 (fun s674 w675 H675 => ?_)
          refine ⟨⟨_, H675.c3, rfl⟩, ?_⟩
          refine H675.addI (a := (n : Int)) (by simp) hl3 (fun s677 w678 H678 => ?_)
          exact fin H678
theorem refWrite_spec9 (h : RuS w r k f P top s) (hu : UOk k m s) (hm : m ≤ 2 ^ 59) (hP : P.length < 2 ^ 20) (epoch a : Int) (b4 : Slc) (t : List UInt8) (hb : bytesAt w b4 t) (ht : t.length ≤ 2 ^ 20) (hs : ∀ j, ownB b4 j → ¬ RuW r f j) :
    Calls Tryz.prog fn_tidewaterref09_Unit_Write ⟨[ptrR' r, .int .i64 epoch, .int .i64 a, b4.v]⟩ w fun e w' => e = .returned (.int .i64 (eN (writeP k s epoch a t).1)) ∧ ∃ f' P' top', RuS w' r k f' P' top' (writeP k s epoch a t).2 ∧ P'.length ≤ P.length + 1 ∧ RuTo r f f' w w' :=
  tidewaterref09_Unit_Write_ok _ _ _ _ (refWrite_vc h hu hm hP epoch a b4 t hb ht hs (fun w' f' P' top' h1 h2 h3 => ⟨rfl, f', P', top', h1, h2, h3⟩))
end
end Go.D

set_option linter.unusedVariables false
set_option linter.unusedSimpArgs false
namespace Go.D
open Go Go.Proofs

section
variable {w w' : World} {r k m : Nat} {f : RuF} {P : List RuE} {top : Int} {s : UnS}
theorem RuAt.seto {tr ep tr' ep' : Int} (h : RuAt w r k f P tr ep top) (he : Ext (fun j => j = r) w w') (ho : ObjAt w' r [ptrR' f.rs, f.sa.v, f.sp.v, f.si.v, .int .i64 tr', .int .i64 ep', .int .i64 top]) : RuAt w' r k f P tr' ep' top := by
  obtain ⟨c, hc⟩ := h.c
  have no : ∀ j, c j ≠ 0 → ¬ j = r := fun j h1 h2 => h1 (by rw [h2]; exact hc.cr)
  exact ⟨ho, h.R.ext he (fun j hj => no j (by rw [hc.cf j hj]; omega)) (fun j hj => no j (by rw [hc.cy j (.inl hj)]; omega)), h.a.ext he (fun j hj => no j (by rw [hc.ca j hj]; omega)), h.p.ext he (fun j hj => no j (by rw [hc.cp j hj]; omega)) (fun j hj => no j (by rw [hc.cy j (.inr hj)]; omega)),
    h.i.ext he (fun j hj => no j (by rw [hc.ci j hj]; omega)), c, hc⟩
theorem RuTo.ext1 (he : Ext (fun j => j = r) w w') : RuTo r f f w w' := ⟨he.mono (fun j hj => .inl hj), fun j hj => .inl hj, fun j hj => .inl hj⟩
/-- A page is read, of the document's unit. -/
theorem refRead_spec9 (h : RuS w r k f P top s) (hP : P.length ≤ 2 ^ 20) (epoch a : Int) :
    Calls Tryz.prog fn_tidewaterref09_Unit_Read ⟨[ptrR' r, .int .i64 epoch, .int .i64 a]⟩ w fun e w' => ∃ t : Slc, e = .returned (.tuple ⟨[t.v, .int .i64 (eN (readE s.tr s.ep (pgM s.U s.tr) epoch a))]⟩) ∧ bytesAt w' t (if (readE s.tr s.ep (pgM s.U s.tr) epoch a).isNone then (pgM s.U s.tr a).getD [] else []) ∧ Keep w w' := by
  refine tidewaterref09_Unit_Read_ok _ _ _ ?_
  unfold tidewaterref09_Unit_Read
  have nilB : ∀ w2, bytesAt w2 (⟨none, 0, 0⟩ : Slc) [] := fun w2 => (show Own w2 ⟨none, 0, 0⟩ 1 (([] : List UInt8).map byteV) from Own.nil _ _).bytes
  refine (refCheck_spec9 h.A epoch a 4095).mono ?_
  rintro e w5 ⟨rfl, rfl⟩
  unfold readE
  cases hc : checkE s.ep epoch a 4095 with
  | some c =>
    have : eN (some c) ≠ 0 := by show ((c + 1 : Nat) : Int) ≠ 0; omega
    exact ⟨_, rfl, BIf_mk (fun _ => ⟨_, rfl, nilB _, Ext.refl _ _⟩) (fun hh => by simp [this] at hh)⟩
  | none =>
    have ha : 0 ≤ a ∧ a ≤ 4095 := by
      unfold checkE at hc
      split at hc
      · cases hc
      · split at hc
        · cases hc
        · omega
    obtain ⟨an, rfl⟩ : ∃ an : Nat, a = an := ⟨a.toNat, by omega⟩
    dsimp only
    refine ⟨_, rfl, BIf_mk (fun hh => by simp [eN] at hh) (fun _ => needSome_mk rfl ⟨_, h.A.cs.2.2.2.2.1, BIf_dec (fun h1 => ?_) (fun h1 => ?_)⟩)⟩
    · rw [if_pos h1]
      exact ⟨_, rfl, nilB _, Ext.refl _ _⟩
    rw [if_neg h1]
    refine (find_spec9 h.A hP (an : Int)).mono ?_
    rintro e w10 ⟨rfl, rfl⟩
    refine ⟨_, rfl, ?_⟩
    rcases h.K.get an with ⟨g1, g2⟩ | ⟨i, hi, g1, g2⟩
    · rw [g1, g2]
      exact BIf_dec (fun _ => ⟨_, rfl, nilB _, Ext.refl _ _⟩) (fun hh => absurd (by omega) hh)
    · rw [g1, g2]
      refine BIf_dec (fun hh => absurd hh (by omega)) (fun _ => newS_mk (fun r12 w13 hr12 hb12 k12 hs12 => ?_))
      have hA := h.A.keep k12
      have hic : i < f.css.length := by rw [hA.p.len, List.length_map]; exact hi
      obtain ⟨a16, ha16, _, hrow⟩ := hA.p.get (i := i) hic
      obtain ⟨s17, hcs, hb17⟩ := hA.p.row i hic (by simpa using hi)
      rw [hcs] at hrow
      rw [List.getElem_map] at hb17
      have hsl := hA.p.sl
      rw [List.length_map] at hsl
      have hok := (h.K.ok _ (List.getElem_mem hi)).2
      have hbl := hb17.1
      refine needSome_mk rfl ⟨_, hA.cs.2.2.1, needSome_mk ha16 ⟨by omega, by omega, s17, by rw [Int.toNat_natCast]; exact rowAt_c hrow 0 (by simp), ?_⟩⟩
      refine append_bytes (vs := []) (w0 := w10) (Own.new (sz := 1) (n := 0) hb12 (.inl (by simp)) rfl) rfl (Fresh.at (by omega)) k12 (srcAt_bytes hb17) (by simp only [Src.n]; omega) (fun s' w' q1 q2 q3 q4 => ?_)
      exact ⟨s', rfl, Own.bytes (by simpa using q1), q2⟩
theorem refSeal_spec9 (h : RuS w r k f P top s) (hu : UOk k m s) (hm : m ≤ 2 ^ 59) (epoch : Int) :
    Calls Tryz.prog fn_tidewaterref09_Unit_Seal ⟨[ptrR' r, .int .i64 epoch]⟩ w fun e w' => e = .returned (.tuple ⟨[.int .i64 (if (sealP k s epoch).1 = none then ((sealP k s epoch).2.T : Int) else 0), .int .i64 (eN (sealP k s epoch).1)]⟩) ∧ ∃ f', RuS w' r k f' P top (sealP k s epoch).2 ∧ RuTo r f f' w w' := by
  refine tidewaterref09_Unit_Seal_ok _ _ ?_
  unfold tidewaterref09_Unit_Seal
  have hep := hu.t.2
  have htt := h.K.t
  refine ⟨fun w2 => ¬ (epoch < 0 ∨ 1073741824 < epoch) ∧ w2 = w, BIf_dec (fun h0 => ?_) (fun h0 => BIf_dec (fun h1 => ?_) (fun h1 => ⟨by omega, rfl⟩)), ?_⟩
  · have hq : sealP k s epoch = (some 13, s) := by unfold sealP; rw [if_pos (.inl h0)]
    rw [hq]
    exact ⟨rfl, f, h, RuTo.refl _ _ _⟩
  · have hq : sealP k s epoch = (some 13, s) := by unfold sealP; rw [if_pos (.inr h1)]
    rw [hq]
    exact ⟨rfl, f, h, RuTo.refl _ _ _⟩
  rintro w4 ⟨h0, rfl⟩
  intros
  refine needSome_mk rfl ⟨_, h.A.cs.2.2.2.2.2.1, BIf_dec (fun h1 => ?_) (fun h1 => needSome_mk rfl ⟨_, h.A.cs.2.2.2.2.2.1, ?_⟩)⟩
  · have hq : sealP k s epoch = (some 7, s) := by unfold sealP; rw [if_neg h0, if_pos h1]
    rw [hq]
    exact ⟨rfl, f, h, RuTo.refl _ _ _⟩
  refine BIf_dec (fun h2 => ?_) (fun h2 => ?_)
  · obtain ⟨en, rfl⟩ : ∃ en : Nat, epoch = en := ⟨epoch.toNat, by omega⟩
    have hq : sealP k s (en : Int) = match appU k s.U (.shut en) with | none => (some 12, s) | some (n, V) => (none, ⟨V, s.tr, en, s.T⟩) := by
      unfold sealP; rw [if_neg h0, if_neg h1, if_neg (by omega), Int.toNat_natCast]; try rfl
    rw [hq]
    have hok : okR (.shut en) := show en ≤ 2 ^ 30 by omega
    have kd : Keep w4 (World.drew w4) := Ext.drew _ _
    have lt := h.A.lt
    have cell0 : ∀ {w3}, Keep w4 w3 → World.cell? w3 (⟨r, 0, none⟩ : Addr) = some (Value.pointer (some ⟨f.rs, 0, none⟩)) := fun hk => (h.A.keep hk).cs.1
    refine needSome_mk rfl ⟨_, cell0 kd, (ref04_Num_spec 3 _ (by omega)).mono ?_⟩
    rintro e w28 ⟨s29, rfl, o29, f29, k29⟩
    have k28 := kd.trans k29
    refine ⟨s29, rfl, ⟨_, cell0 k28, rfl⟩, (ref04_Num_spec en _ (by omega)).mono ?_⟩
    rintro e w33 ⟨s34, rfl, o34, f34, k34⟩
    have k33 := k28.trans k34
    refine ⟨s34, rfl, ⟨_, cell0 k33, rfl⟩, newS_mk (fun r41 w42 hr41 hb41 k42 hs42 => ⟨⟨_, cell0 (k33.trans k42), rfl⟩, ?_⟩)⟩
    have k42' := k33.trans k42
    have z42 := k42.size
    have b29 : ∀ j, ownB s29 j → j < w33.heap.size := OwnLt (o29.keep k34)
    have b34 : ∀ j, ownB s34 j → j < w33.heap.size := OwnLt o34
    have hrows := rows_byt (w := w42) [s29, s34] [encN 3, encN en] hb41 rfl (fun i h h' => by
      match i, h with
      | 0, _ => exact ((o29.keep k34).keep k42).bytes
      | 1, _ => exact (o34.keep k42).bytes) (fun x hx j hj => by
      simp only [List.mem_cons, List.not_mem_nil, or_false] at hx
      rcases hx with rfl | rfl
      · have := b29 j hj; omega
      · have := b34 j hj; omega)
    have hel := encR_len hok
    have henc : [encN 3, encN en].flatten = encR (.shut en) := by simp [encR, numB]
    have hlens : ∀ b ∈ [encN 3, encN en], b.length ≤ 2 ^ 20 := fun b hb9 => by
      have hle : b.length ≤ ([encN 3, encN en].flatten).length := by
        rw [List.length_flatten]
        exact le_sum9 (List.mem_map.2 ⟨b, hb9, rfl⟩)
      rw [henc] at hle; omega
    refine (row_spec9 _ _ _ hrows (by simp) hlens).mono ?_
    rintro e w45 ⟨s46, rfl, o46, f46, k46⟩
    rw [henc] at o46
    have k45 := k42'.trans k46
    have h45 := h.keep k45
    refine ⟨s46, rfl, ⟨_, cell0 k45, rfl⟩, (refRec_spec9 h45 hu hm (.shut en) hok s46 o46.bytes (fun j hj hh => ?_)).mono ?_⟩
    · have := f46 j hj
      have := lt.1 j hh
      have := k42'.size
      omega
    rintro e w49 (⟨ha1, ⟨n, rfl⟩, sl', zs', hS', hto⟩ | ⟨n, V, ha1, rfl, sl', zs', hg', hA', hto⟩)
    · rw [ha1]
      exact ⟨_, _, rfl, BIf_mk (fun _ => ⟨rfl, _, hS', (RuTo.keep k45).trans hto⟩) (fun hh => by simp at hh)⟩
    · rw [ha1]
      refine ⟨_, _, rfl, BIf_mk (fun hh => by simp at hh) (fun _ => needSome_mk rfl ?_)⟩
      obtain ⟨c1, c2⟩ := hA'.o.setOne 5 (by simp) (.int .i64 (en : Int))
      rw [add_lit]
      refine ⟨c1, fun w39 hw39 => ?_⟩
      obtain ⟨o39, e39, _⟩ := c2 w39 hw39
      have hA9 := hA'.seto e39 o39
      refine (refTail_spec9 hA9).mono ?_
      rintro e w41 ⟨rfl, k41⟩
      refine ⟨_, rfl, ?_, _, ⟨hA9.keep k41, hg', h.K.note ha1 hu.so (fun _ _ hh => by cases hh) (Nat.le_refl _) htt.2⟩, (((RuTo.keep k45).trans hto).trans (RuTo.ext1 e39)).trans (RuTo.keep k41)⟩
      rw [htt.2]; rfl
  · have hq : sealP k s epoch = (none, s) := by unfold sealP; rw [if_neg h0, if_neg h1, if_pos (by omega)]
    rw [hq]
    refine (refTail_spec9 h.A).mono ?_
    rintro e w44 ⟨rfl, k44⟩
    refine ⟨_, rfl, ?_, f, h.keep k44, RuTo.keep k44⟩
    rw [htt.2]; rfl
def muT (r : Nat) (w2 : World) : Nat := match w2.cell? ⟨r, 0, none⟩ with | some (.pointer (some a)) => (match w2.cell? (a.add 1) with | some (.slice _ l _) => l | _ => 0) | _ => 0
theorem refTrim_spec9 (h : RuS w r k f P top s) (hu : UOk k m s) (hm : m ≤ 2 ^ 59) (hP : P.length ≤ 2 ^ 20) (epoch to : Int) :
    Calls Tryz.prog fn_tidewaterref09_Unit_Trim ⟨[ptrR' r, .int .i64 epoch, .int .i64 to]⟩ w fun e w' => e = .returned (.int .i64 (eN (trimP k s epoch to).1)) ∧ ∃ f', RuS w' r k f' P top (trimP k s epoch to).2 ∧ RuTo r f f' w w' := by
  refine tidewaterref09_Unit_Trim_ok _ _ _ ?_
  unfold tidewaterref09_Unit_Trim
  have hep := hu.t.2
  have htt := h.K.t
  refine (refCheck_spec9 h.A epoch to 4096).mono ?_
  rintro e w5 ⟨rfl, rfl⟩
  unfold trimP
  cases hc : checkE s.ep epoch to 4096 with
  | some c =>
    have : eN (some c) ≠ 0 := by show ((c + 1 : Nat) : Int) ≠ 0; omega
    exact ⟨_, rfl, BIf_mk (fun _ => ⟨rfl, f, h, RuTo.refl _ _ _⟩) (fun hh => by simp [this] at hh)⟩
  | none =>
    have ha : 0 ≤ to ∧ to ≤ 4096 := by
      unfold checkE at hc
      split at hc
      · cases hc
      · split at hc
        · cases hc
        · omega
    obtain ⟨tn, rfl⟩ : ∃ tn : Nat, to = tn := ⟨to.toNat, by omega⟩
    dsimp only
    refine ⟨_, rfl, BIf_mk (fun hh => by simp [eN] at hh) (fun _ => needSome_mk rfl ⟨_, h.A.cs.2.2.2.2.1, BIf_dec (fun h1 => ?_) (fun h1 => ?_)⟩)⟩
    · rw [if_pos h1]
      exact ⟨rfl, f, h, RuTo.refl _ _ _⟩
    rw [if_neg h1, Int.toNat_natCast]
    have hok : okR (.trim tn s.ep) := ⟨by omega, by omega⟩
    have kd : Keep w5 (World.drew w5) := Ext.drew _ _
    have lt := h.A.lt
    have cell0 : ∀ {w3}, Keep w5 w3 → World.cell? w3 (⟨r, 0, none⟩ : Addr) = some (Value.pointer (some ⟨f.rs, 0, none⟩)) := fun hk => (h.A.keep hk).cs.1
    have cell5 : ∀ {w3}, Keep w5 w3 → World.cell? w3 ((⟨r, 0, none⟩ : Addr).add 5) = some (Value.int .i64 (s.ep : Int)) := fun hk => (h.A.keep hk).cs.2.2.2.2.2.1
    refine needSome_mk rfl ⟨_, cell0 kd, needSome_mk rfl ⟨_, cell5 kd, (ref04_Num_spec 2 _ (by omega)).mono ?_⟩⟩
    rintro e w28 ⟨s29, rfl, o29, f29, k29⟩
    have k28 := kd.trans k29
    refine ⟨s29, rfl, ⟨_, cell5 k28, rfl⟩, ⟨_, cell0 k28, rfl⟩, (ref04_Num_spec tn _ (by omega)).mono ?_⟩
    rintro e w33 ⟨s34, rfl, o34, f34, k34⟩
    have k33 := k28.trans k34
    refine ⟨s34, rfl, ⟨_, cell5 k33, rfl⟩, ⟨_, cell0 k33, rfl⟩, (ref04_Num_spec s.ep _ (by omega)).mono ?_⟩
    rintro e w38 ⟨s39, rfl, o39, f39, k39⟩
    have k38 := k33.trans k39
    refine ⟨s39, rfl, ⟨_, cell0 k38, rfl⟩, newS_mk (fun r41 w42 hr41 hb41 k42 hs42 => ⟨⟨_, cell0 (k38.trans k42), rfl⟩, ?_⟩)⟩
    have k42' := k38.trans k42
    have z42 := k42.size
    have b29 : ∀ j, ownB s29 j → j < w38.heap.size := OwnLt (o29.keep (k34.trans k39))
    have b34 : ∀ j, ownB s34 j → j < w38.heap.size := OwnLt (o34.keep k39)
    have b39 : ∀ j, ownB s39 j → j < w38.heap.size := OwnLt o39
    have hrows := rows_byt (w := w42) [s29, s34, s39] [encN 2, encN tn, encN s.ep] hb41 rfl (fun i h h' => by
      match i, h with
      | 0, _ => exact ((o29.keep (k34.trans k39)).keep k42).bytes
      | 1, _ => exact ((o34.keep k39).keep k42).bytes
      | 2, _ => exact (o39.keep k42).bytes) (fun x hx j hj => by
      simp only [List.mem_cons, List.not_mem_nil, or_false] at hx
      rcases hx with rfl | rfl | rfl
      · have := b29 j hj; omega
      · have := b34 j hj; omega
      · have := b39 j hj; omega)
    have hel := encR_len hok
    have henc : [encN 2, encN tn, encN s.ep].flatten = encR (.trim tn s.ep) := by simp [encR, numB]
    have hlens : ∀ b ∈ [encN 2, encN tn, encN s.ep], b.length ≤ 2 ^ 20 := fun b hb9 => by
      have hle : b.length ≤ ([encN 2, encN tn, encN s.ep].flatten).length := by
        rw [List.length_flatten]
        exact le_sum9 (List.mem_map.2 ⟨b, hb9, rfl⟩)
      rw [henc] at hle; omega
    refine (row_spec9 _ _ _ hrows (by simp) hlens).mono ?_
    rintro e w45 ⟨s46, rfl, o46, f46, k46⟩
    rw [henc] at o46
    have k45 := k42'.trans k46
    have h45 := h.keep k45
    refine ⟨s46, rfl, ⟨_, cell0 k45, rfl⟩, (refRec_spec9 h45 hu hm (.trim tn s.ep) hok s46 o46.bytes (fun j hj hh => ?_)).mono ?_⟩
    · have := f46 j hj
      have := lt.1 j hh
      have := k42'.size
      omega
    rintro e w49 (⟨ha1, ⟨n, rfl⟩, sl', zs', hS', hto⟩ | ⟨n, V, ha1, rfl, sl', zs', hg', hA', hto⟩)
    · rw [ha1]
      exact ⟨_, _, rfl, BIf_mk (fun _ => ⟨rfl, _, hS', (RuTo.keep k45).trans hto⟩) (fun hh => by simp at hh)⟩
    rw [ha1]
    refine ⟨_, _, rfl, BIf_mk (fun hh => by simp at hh) (fun _ => needSome_mk rfl ?_)⟩
    obtain ⟨c1, c2⟩ := hA'.o.setOne 4 (by simp) (.int .i64 (tn : Int))
    rw [add_lit]
    refine ⟨c1, fun w39 hw39 => ?_⟩
    obtain ⟨o39', e39, _⟩ := c2 w39 hw39
    have hA9 := hA'.seto e39 o39'
    have hto9 := ((RuTo.keep k45).trans hto).trans (RuTo.ext1 e39)
    have hK9 : RefOk P top ⟨V, tn, s.ep, max s.T tn⟩ := h.K.note ha1 hu.so (fun _ _ hh => by cases hh) (by omega) (by omega)
    -- what is left to be given back
    refine ⟨fun w2 => ∃ (f2 : RuF) (U2 : List USeg), RuS w2 r k f2 P top ⟨U2, tn, s.ep, max s.T tn⟩ ∧ reclaimU tn U2 = reclaimU tn V ∧ RuTo r f f2 w5 w2 ∧ U2.length ≤ 2 ^ 20, muT r,
      ⟨_, V, ⟨hA9, hg', hK9⟩, rfl, hto9, ?_⟩, ?_⟩
    · obtain ⟨M, g, hV, hM⟩ := (appU_qs ha1).2.2
      have hl := hu.l
      rcases hM with e | ⟨p, _, e, _⟩
      · have : V.length = s.U.length := by rw [hV, ← e]; simp
        omega
      · have : V.length = s.U.length + 1 := by rw [hV, e]; simp
        omega
    rintro w42 ⟨f2, U2, hS2, hrec, hto2, hl2⟩
    intros
    have hzl : f2.zs.length = U2.length := by
      have := congrArg List.length hS2.z
      simpa using this
    have hsl := hS2.A.R.s.sl
    have mu : ∀ {w9 : World} {f9 : RuF} {U9 : List USeg}, RuS w9 r k f9 P top ⟨U9, tn, s.ep, max s.T tn⟩ → muT r w9 = U9.length := by
      intro w9 f9 U9 h9
      have hz9 : f9.zs.length = U9.length := by
        have := congrArg List.length h9.z
        simpa using this
      unfold muT
      rw [h9.A.cs.1]
      simp only
      rw [h9.A.R.c1]
      simp only [Slc.v]
      rw [h9.A.R.s.sl, hz9]
    refine needSome_mk rfl ⟨_, hS2.A.cs.1, needSome_mk rfl ⟨_, hS2.A.R.c1, BIf_dec (fun h2 => ?_) (fun h2 => ?_)⟩⟩
    · obtain ⟨g, g', t', rfl⟩ : ∃ g g' t', U2 = g :: g' :: t' := by
        match U2, hzl with
        | [], e => simp at e; rw [e] at hsl; simp at hsl; omega
        | [g], e => simp at e; omega
        | g :: g' :: t', _ => exact ⟨g, g', t', rfl⟩
      have h0z : 0 < f2.zs.length := by rw [hzl]; simp
      obtain ⟨a105, ha105, hrow⟩ := hS2.A.R.at h0z
      have hz0 : f2.zs[0].g = g.s := by
        have e0 : (gL f2.zs)[0]'(by simpa using h0z) = f2.zs[0].g := List.getElem_map _
        have e1 : (gL f2.zs)[0]'(by simpa using h0z) = (sU (g :: g' :: t'))[0]'(by simp) := by simp only [hS2.z]
        rw [← e0, e1]; rfl
      have hc105 := rowAt_c hrow 1 (by simp [rzC])
      have e105 : (a105.add (0 * 4)).add 1 = a105.add 1 := by
        rw [Nat.zero_mul]
        have : a105.add 0 = a105 := by simp [Addr.add]
        rw [this]
      rw [e105] at hc105
      have hv : (rzC f2.zs[0])[1]'(by simp [rzC]) = .int .i64 (g.num : Int) := by simp [rzC, hz0, USeg.s]
      rw [hv] at hc105
      have hsi := Rows.sl hS2.A.i
      have hsa := Rows.sl hS2.A.a
      rw [List.length_map] at hsi hsa
      have hall := hS2.K.all (U := g' :: t') tn
      refine needSome_mk rfl ⟨_, hS2.A.cs.1, needSome_mk rfl ⟨_, hS2.A.R.c1, needSome_mk ha105 ⟨by omega, by omega, _, hc105, needSome_mk rfl ⟨_, hS2.A.cs.2.2.2.1, fun i w2 => ∃ n : Nat, i = n ∧ n ≤ P.length ∧ (∀ j (hj : j < P.length), j < n → P[j].n = g.num → P[j].a < tn) ∧ w2 = w42, fun i _ => ((P.length : Int) - i).toNat, ⟨0, rfl, by omega, fun j _ hj => by omega, rfl⟩, ?_⟩⟩⟩⟩
      rintro i w112 ⟨n9, rfl, hn, hno, rfl⟩
      intros
      refine BIf_dec (fun h3 => ?_) (fun h3 => ?_)
      · have hnl : n9 < P.length := by omega
        obtain ⟨a135, ha135, hc135⟩ := hS2.A.i.get (i := n9) (by simpa using hnl)
        obtain ⟨a139, ha139, hc139⟩ := hS2.A.a.get (i := n9) (by simpa using hnl)
        rw [List.getElem_map] at hc135 hc139
        have step : (P[n9].n = g.num → P[n9].a < tn) → ∀ j (hj : j < P.length), j < n9 + 1 → P[j].n = g.num → P[j].a < tn := fun hs j hj hjn => by
          by_cases e : j = n9
          · subst e; exact hs
          · exact hno j hj (by omega)
        refine needSome_mk ha135 ⟨by omega, h3, _, by rw [Int.toNat_natCast]; exact hc135, BIf_dec (fun h4 => needSome_mk rfl ⟨_, hS2.A.cs.2.1, needSome_mk ha139 ⟨by omega, by omega, _, by rw [Int.toNat_natCast]; exact hc139, BIf_dec (fun h5 => ?_) (fun h5 => ?_)⟩⟩) (fun h4 => ?_)⟩
        · refine ⟨rfl, f2, ?_, hto2⟩
          have hf : (pagesOf g.rs).all (fun y => decide (y.1 < tn)) = false := by
            rw [hall, Bool.eq_false_iff]
            intro hh
            have := List.all_eq_true.1 hh _ (List.getElem_mem hnl)
            rw [decide_eq_true_eq] at this
            have := this (by omega)
            omega
          have : reclaimU tn V = g :: g' :: t' := by
            rw [← hrec]
            show (if _ then _ else _) = _
            rw [hf, if_neg (by simp)]
          simp only
          rw [this]; exact hS2
        · exact ⟨inR64 (by omega), ⟨n9 + 1, rfl, hnl, step (fun _ => by omega), rfl⟩, by dsimp only; omega⟩
        · exact ⟨inR64 (by omega), ⟨n9 + 1, rfl, hnl, step (fun hh => absurd (by omega) h4), rfl⟩, by dsimp only; omega⟩
      · have hnn : n9 = P.length := by omega
        subst hnn
        have hf : (pagesOf g.rs).all (fun y => decide (y.1 < tn)) = true := by
          rw [hall, List.all_eq_true]
          intro e he
          obtain ⟨j, hj, rfl⟩ := List.getElem_of_mem he
          rw [decide_eq_true_eq]
          exact hno j hj hj
        refine needSome_mk rfl ⟨_, hS2.A.cs.1, (refDrop_spec8 hS2.A.R (by omega) (g.num : Int)).mono ?_⟩
        rintro e w144 ⟨rfl, sl', zs', hg3, hR3, ht3⟩
        have hz2 : gL f2.zs = sU (g :: g' :: t') := hS2.z
        rw [hz2, dropR_head] at hg3 ⊢
        have hS3 : RuS w144 r k { f2 with sl := sl', zs := zs' } P top ⟨g' :: t', tn, s.ep, max s.T tn⟩ := ⟨hS2.A.store hR3 ht3, hg3, hS2.K.drop (fun a ha => by
          have hp : pgU (g :: g' :: t') = pagesOf g.rs ++ pgU (g' :: t') := by unfold pgU; rw [show allR (g :: g' :: t') = g.rs ++ allR (g' :: t') by simp [allR], pagesOf_append]
          rw [hp, pageAt_append (fun x hx => by
            have := List.all_eq_true.1 hf x hx
            rw [decide_eq_true_eq] at this
            omega)])⟩
        refine ⟨_, rfl, ⟨_, g' :: t', hS3, ?_, hto2.trans (RuTo.store ht3), by simp at hl2 ⊢; omega⟩, ?_⟩
        · rw [← hrec]
          show _ = (if _ then _ else _)
          rw [hf, if_pos rfl]
        · rw [mu hS3, mu hS2]; simp
    · refine ⟨rfl, f2, ?_, hto2⟩
      have : reclaimU tn U2 = U2 := by
        match U2, hzl with
        | [], _ => rfl
        | [g], _ => rfl
        | g :: g' :: t', e => simp at e; omega
      simp only
      rw [← hrec, this]; exact hS2
end
end Go.D

set_option linter.unusedVariables false
set_option linter.unusedSimpArgs false
namespace Go.D
open Go Go.Proofs

section
variable {w w' : World} {r k m : Nat} {f : RuF} {P : List RuE} {top : Int} {s : UnS}
theorem refNew_spec9 (w : World) (k : Nat) :
    Calls Tryz.prog fn_tidewaterref09_New ⟨[.int .i64 (k : Int)]⟩ w fun e w' => ∃ r f, e = .returned (ptrR' r) ∧ RuS w' r k f [] 0 ⟨[], 0, 0, 0⟩ ∧ (∀ j, RuW r f j → w.heap.size ≤ j) ∧ (∀ j, ¬ RuY f j) ∧ Keep w w' := by
  refine tidewaterref09_New_ok _ ?_
  unfold tidewaterref09_New
  refine newS_mk (fun r2 w3 hr2 hb2 k2 hs2 => newS_mk (fun r4 w5 hr4 hb4 k4 hs4 => ?_))
  have nob : ∀ j, ¬ ownB (⟨none, 0, 0⟩ : Slc) j := by rintro j ⟨a, ha, _⟩; cases ha
  have R0 : RfAt w5 r2 k ⟨none, 0, 0⟩ [] := ⟨(ObjAt.new' hb2).keep k4, Rows.nil _ _, by simp, by simp, List.Pairwise.nil, nob _, by simp, by simp⟩
  have noW : ∀ j, RfW r2 ⟨none, 0, 0⟩ [] j → j = r2 := by
    rintro j (hj | hj | ⟨z, hz, _⟩)
    · exact hj
    · exact (nob j hj).elim
    · simp at hz
  have noY : ∀ j, ¬ RuY ⟨r2, ⟨none, 0, 0⟩, [], ⟨none, 0, 0⟩, ⟨none, 0, 0⟩, ⟨none, 0, 0⟩, []⟩ j := by
    rintro j (⟨z, hz, _⟩ | ⟨cs, hc, _⟩)
    · simp at hz
    · simp at hc
  have z2 := k2.size
  refine ⟨r4, ⟨r2, ⟨none, 0, 0⟩, [], ⟨none, 0, 0⟩, ⟨none, 0, 0⟩, ⟨none, 0, 0⟩, []⟩, rfl, ⟨⟨ObjAt.new' hb4, R0, IntsAt.nil _, Rows.nil _ _, IntsAt.nil _, fun j => if j = r4 then 0 else 1, ?_, fun j hj => ?_, fun j hj => (nob j hj).elim, fun j hj => (nob j hj).elim, fun j hj => (nob j hj).elim, fun j hj => (noY j hj).elim⟩, rfl, RefOk.nil⟩, ?_, noY, k2.trans k4⟩
  · rw [if_pos rfl]
  · have := noW j hj
    rw [if_neg (by omega)]
  · rintro j (hj | hj | hj | hj | hj)
    · omega
    · have := noW j hj; omega
    · exact (nob j hj).elim
    · exact (nob j hj).elim
    · exact (nob j hj).elim
theorem refUCopy_spec9 (h : RuS w r k f P top s) (hu : UOk k m s) (hm : m ≤ 2 ^ 59) (hP : P.length ≤ 2 ^ 20) :
    Calls Tryz.prog fn_tidewaterref09_Unit_Copy ⟨[ptrR' r]⟩ w fun e w' => ∃ r' f', e = .returned (ptrR' r') ∧ RuS w' r' k f' P top s ∧ (∀ j, RuW r' f' j → w.heap.size ≤ j) ∧ (∀ j, RuY f' j → RuY f j) ∧ Keep w w' := by
  refine tidewaterref09_Unit_Copy_ok _ ?_
  unfold tidewaterref09_Unit_Copy
  have lt := h.A.lt
  refine needSome_mk rfl ⟨_, _, _, _, _, _, _, h.A.o.row, ?_⟩
  refine var_mk (cs := [ptrR' f.rs, f.sa.v, f.sp.v, f.si.v, .int .i64 s.tr, .int .i64 s.ep, .int .i64 top]) rfl rfl (fun r10 w12 hr10 o10 k12 hs12 => ?_)
  have h12 := h.keep k12
  have z12 := k12.size
  refine needSome_mk rfl ⟨_, h12.A.cs.1, (refCopy_spec8 h12.A.R (rfOk9 h.z hu hm)).mono ?_⟩
  rintro e w16 ⟨rs', sl', zs', rfl, hR16, hg16, hW16, hY16, k16⟩
  have z16 := k16.size
  obtain ⟨c1, d1⟩ := (o10.keep k16).setOne 0 (by simp) (ptrR' rs')
  refine ⟨_, rfl, c1, fun w18 hw18 => ?_⟩
  obtain ⟨o18, e18, z18⟩ := d1 w18 hw18
  have nR : ∀ j, RfW rs' sl' zs' j → j ≠ r10 := fun j hj => by have := hW16 j hj; omega
  have nY : ∀ j, RfY zs' j → j < w.heap.size := fun j hj => lt.2 j (.inl (hY16 j hj))
  have hR18 := hR16.ext e18 (fun j hj hh => nR j hj hh) (fun j hj hh => by have := nY j hj; have h9 : j = r10 := hh; omega)
  have kk18 : Keep w w18 := (k12.trans k16).ext e18 (fun j hj => by rw [show j = r10 from hj]; omega)
  -- the addresses
  refine newS_mk (fun r19 w20 hr19 hb19 k19 hs19 => ?_)
  have h20 := h.keep (kk18.trans k19)
  have z19 := k19.size
  refine needSome_mk rfl ⟨_, h20.A.cs.2.1, Rows.clone (z := [.int .i64 0]) h20.A.a rfl hb19 (fun hh => footC_int hh) (by rw [List.length_map]; omega) (fun s23 w24 q1 q2 q3 => ?_)⟩
  have z24 := q2.size
  have b23 : ∀ j, ownB s23 j → w18.heap.size ≤ j ∧ j < w24.heap.size := fun j hj => ⟨by rcases q3 j hj with g | g <;> omega, q1.lt j hj⟩
  have k24 : Keep w18 w24 := k19.ext q2 (fun j hj => by omega)
  obtain ⟨c2, d2⟩ := (o18.keep k24).setOne 1 (by simp) s23.v
  refine ⟨c2, fun w25 hw25 => ?_⟩
  obtain ⟨o25, e25, z25⟩ := d2 w25 hw25
  have a25 : IntsAt w25 s23 (P.map fun e => (e.a : Int)) := (IntsAt.of q1).ext e25 (fun j hj hh => by have := b23 j hj; have h9 : j = r10 := hh; omega)
  have hR25 := (hR18.keep k24).ext e25 (fun j hj hh => nR j hj hh) (fun j hj hh => by have := nY j hj; have h9 : j = r10 := hh; omega)
  have kk25 : Keep w w25 := (kk18.trans k24).ext e25 (fun j hj => by rw [show j = r10 from hj]; omega)
  -- the pages
  refine newS_mk (fun r26 w27 hr26 hb26 k26 hs26 => ?_)
  have h27 := h.keep (kk25.trans k26)
  have z27 := k26.size
  refine needSome_mk rfl ⟨_, h27.A.cs.2.2.1, Rows.clone (z := [(⟨none, 0, 0⟩ : Slc).v]) h27.A.p rfl hb26 (fun hh => by have := lt.2 r26 (.inr hh); omega) (by rw [List.length_map]; omega) (fun s30 w31 q4 q5 q6 => ?_)⟩
  have z31 := q5.size
  have b30 : ∀ j, ownB s30 j → w25.heap.size ≤ j ∧ j < w31.heap.size := fun j hj => ⟨by rcases q6 j hj with g | g <;> omega, q4.lt j hj⟩
  have k31 : Keep w25 w31 := k26.ext q5 (fun j hj => by omega)
  obtain ⟨c3, d3⟩ := (o25.keep k31).setOne 2 (by simp) s30.v
  refine ⟨c3, fun w32 hw32 => ?_⟩
  obtain ⟨o32, e32, z32⟩ := d3 w32 hw32
  have nC : ∀ j, footC f.css j → j < w.heap.size := fun j hj => lt.2 j (.inr hj)
  have p32 := q4.ext e32 (fun j hj hh => by have := b30 j hj; have h9 : j = r10 := hh; omega) (fun j hj hh => by have := nC j hj; have h9 : j = r10 := hh; omega)
  have a32 := (a25.keep k31).ext e32 (fun j hj hh => by have := b23 j hj; have h9 : j = r10 := hh; omega)
  have hR32 := (hR25.keep k31).ext e32 (fun j hj hh => nR j hj hh) (fun j hj hh => by have := nY j hj; have h9 : j = r10 := hh; omega)
  have kk32 : Keep w w32 := (kk25.trans k31).ext e32 (fun j hj => by rw [show j = r10 from hj]; omega)
  -- the numbers
  refine newS_mk (fun r33 w34 hr33 hb33 k33 hs33 => ?_)
  have h34 := h.keep (kk32.trans k33)
  have z34 := k33.size
  refine needSome_mk rfl ⟨_, h34.A.cs.2.2.2.1, Rows.clone (z := [.int .i64 0]) h34.A.i rfl hb33 (fun hh => footC_int hh) (by rw [List.length_map]; omega) (fun s37 w38 q7 q8 q9 => ?_)⟩
  have z38 := q8.size
  have b37 : ∀ j, ownB s37 j → w32.heap.size ≤ j ∧ j < w38.heap.size := fun j hj => ⟨by rcases q9 j hj with g | g <;> omega, q7.lt j hj⟩
  have k38 : Keep w32 w38 := k33.ext q8 (fun j hj => by omega)
  obtain ⟨c4, d4⟩ := (o32.keep k38).setOne 3 (by simp) s37.v
  refine ⟨c4, fun w39 hw39 => ?_⟩
  obtain ⟨o39, e39, z39⟩ := d4 w39 hw39
  have i39 : IntsAt w39 s37 (P.map fun e => (e.n : Int)) := (IntsAt.of q7).ext e39 (fun j hj hh => by have := b37 j hj; have h9 : j = r10 := hh; omega)
  have p39 := (p32.keep k38).ext e39 (fun j hj hh => by have := b30 j hj; have h9 : j = r10 := hh; omega) (fun j hj hh => by have := nC j hj; have h9 : j = r10 := hh; omega)
  have a39 := (a32.keep k38).ext e39 (fun j hj hh => by have := b23 j hj; have h9 : j = r10 := hh; omega)
  have hR39 := (hR32.keep k38).ext e39 (fun j hj hh => nR j hj hh) (fun j hj hh => by have := nY j hj; have h9 : j = r10 := hh; omega)
  have kk39 : Keep w w39 := (kk32.trans k38).ext e39 (fun j hj => by rw [show j = r10 from hj]; omega)
  have hlt16 := hR16.lt.1
  refine ⟨r10, ⟨rs', sl', zs', s23, s30, s37, f.css⟩, rfl, ⟨⟨o39, hR39, a39, p39, i39, fun j => if j < w.heap.size then 5 else if j = r10 then 0 else if j < w18.heap.size then 1 else if j < w25.heap.size then 2 else if j < w32.heap.size then 3 else 4, ?_, fun j hj => ?_, fun j hj => ?_, fun j hj => ?_, fun j hj => ?_, fun j hj => ?_⟩, by rw [← h.z]; exact hg16, h.K⟩, ?_, ?_, kk39⟩
  · rw [if_neg (by omega), if_pos rfl]
  · have h1 := hW16 j hj
    have h2 := hlt16 j hj
    have h3 := nR j hj
    rw [if_neg (by omega), if_neg (by omega), if_pos (by omega)]
  · have h1 := b23 j hj
    rw [if_neg (by omega), if_neg (by omega), if_neg (by omega), if_pos (by omega)]
  · have h1 := b30 j hj
    rw [if_neg (by omega), if_neg (by omega), if_neg (by omega), if_neg (by omega), if_pos (by omega)]
  · have h1 := b37 j hj
    rw [if_neg (by omega), if_neg (by omega), if_neg (by omega), if_neg (by omega), if_neg (by omega)]
  · have h1 : j < w.heap.size := by
      rcases hj with hj | hj
      · exact nY j hj
      · exact nC j hj
    rw [if_pos h1]
  · rintro j (hj | hj | hj | hj | hj)
    · omega
    · have := hW16 j hj; omega
    · have := b23 j hj; omega
    · have := b30 j hj; omega
    · have := b37 j hj; omega
  · rintro j (hj | hj)
    · exact .inl (hY16 j hj)
    · exact .inr hj
end
end Go.D

set_option linter.unusedVariables false
set_option linter.unusedSimpArgs false
namespace Go.D
open Go Go.Proofs

def lenP (n : Int) : Nat := if n < 0 ∨ 2050 < n then 2050 else n.toNat
def pageA (n : Int) (b : UInt8) : List UInt8 := List.replicate (lenP n) b
theorem lenP_le (n : Int) : lenP n ≤ 2050 := by unfold lenP; split <;> omega
theorem pageA_le (n : Int) (b : UInt8) : (pageA n b).length ≤ 2 ^ 20 := by have := lenP_le n; simp [pageA]; omega
theorem repl_set9 {α : Type} {j : Nat} {l : List α} (hj : j < l.length) (x : α) (h : l.take j = List.replicate j x) : l.set j x = List.replicate (j + 1) x ++ l.drop (j + 1) := by
  rw [List.set_eq_take_append_cons_drop, if_pos hj, h, List.replicate_succ', List.append_assoc]; rfl
theorem page_spec9 (x1 x2 x3 n : Int) (b : UInt8) (w : World) :
    Calls Tryz.prog fn_tidewaterlaw09_Act_page ⟨[.agg ⟨[.int .i64 x1, .int .i64 x2, .int .i64 x3, .int .i64 n, .int .u8 (b.toNat : Int)]⟩]⟩ w fun e w' => ∃ t : Slc, e = .returned t.v ∧ Own w' t 1 ((pageA n b).map byteV) ∧ Fresh w t ∧ Keep w w' := by
  refine tidewaterlaw09_Act_page_ok _ _ _ _ _ ?_
  unfold tidewaterlaw09_Act_page
  refine newS_mk (fun r6 w7 hr hb k7 hs => ?_)
  have o6 := ObjAt.new' hb
  have hle := lenP_le n
  refine ⟨_, o6.cell 3 (by simp), fun i w2 => i = (lenP n : Int) ∧ w2 = w7, BIf_dec (fun h => ⟨by unfold lenP; rw [if_pos (.inl h)]; rfl, rfl⟩) (fun h => BIf_dec (fun h1 => ⟨by unfold lenP; rw [if_pos (.inr h1)]; rfl, rfl⟩) (fun h1 => ⟨by unfold lenP; rw [if_neg (by omega)]; omega, rfl⟩)), ?_⟩
  rintro n10 w11 ⟨rfl, rfl⟩
  intros
  refine ⟨by omega, by omega, by omega, newS_mk (fun r18 w19 hr18 hb18 k18 hs18 => ?_)⟩
  rw [Int.toNat_natCast] at hb18 ⊢
  rw [repl_bytes] at hb18
  have o18 := ObjAt.new' hb18
  refine ⟨fun i w2 => ∃ j : Nat, i = j ∧ j ≤ lenP n ∧ ObjAt w2 r18 ((List.replicate j b ++ List.replicate (lenP n - j) 0).map byteV) ∧ ObjAt w2 r6 [.int .i64 x1, .int .i64 x2, .int .i64 x3, .int .i64 n, .int .u8 (b.toNat : Int)] ∧ Keep w w2, fun i _ => ((lenP n : Int) - i).toNat,
    ⟨0, rfl, by omega, by simpa using o18, o6.keep k18, k7.trans k18⟩, ?_⟩
  rintro i w23 ⟨j, rfl, hj, ho, ho6, hk⟩
  intros
  have hlen : ((List.replicate j b ++ List.replicate (lenP n - j) 0).map byteV).length = lenP n := by simp; omega
  refine BIf_dec (fun h => ?_) (fun h => ?_)
  · rw [Int.toNat_natCast, Nat.mul_one, add_lit, Nat.zero_add]
    obtain ⟨c1, c2⟩ := ho.setOne j (by omega) (.int .u8 (b.toNat : Int))
    refine ⟨_, ho6.cell 4 (by simp), by omega, by omega, c1, fun w34 hw => ?_⟩
    obtain ⟨g1, g2, g3⟩ := c2 w34 hw
    refine ⟨inR64 (by omega), ⟨j + 1, rfl, by omega, ?_, ho6.ext g2 (fun hh => by omega), hk.ext g2 (fun k hk => by have := k7.size; omega)⟩, by dsimp only; omega⟩
    have e9 : (List.replicate j b ++ List.replicate (lenP n - j) 0).set j b = List.replicate (j + 1) b ++ List.replicate (lenP n - (j + 1)) 0 := by
      rw [repl_set9 (by simp; omega) b (by rw [List.take_append_of_le_length (by simp), List.take_of_length_le (by simp)])]
      congr 1
      rw [List.drop_append, List.drop_of_length_le (by simp), List.length_replicate, List.drop_replicate, List.nil_append]
      congr 1; omega
    rw [show Value.int .u8 (b.toNat : Int) = byteV b from rfl, ← List.map_set, e9] at g1
    exact g1
  · have hje : j = lenP n := by omega
    subst hje
    rw [Nat.sub_self] at ho
    obtain ⟨T, f, g4, g5⟩ := ho
    refine ⟨_, rfl, Own.new (sz := 1) (n := lenP n) (by simpa [pageA] using g4) (by simpa [pageA] using g5) (by simp [pageA]), Fresh.at (by have := k7.size; omega), hk⟩

/-! ### the codes of errors -/
theorem checkE_lt {ep epoch a most : Int} : ∀ j, checkE ep epoch a most = some j → j < 19 := by
  intro j hj
  unfold checkE at hj
  split at hj
  · cases hj; omega
  · split at hj
    · cases hj; omega
    · cases hj
theorem writeP_lt {k : Nat} {s : UnS} {epoch a : Int} {t : List UInt8} : ∀ j, (writeP k s epoch a t).1 = some j → j < 19 := by
  intro j hj
  unfold writeP at hj
  split at hj
  · rename_i c hc; cases hj; exact checkE_lt _ hc
  · split at hj
    · cases hj; omega
    · split at hj
      · cases hj; omega
      · split at hj
        · cases hj; omega
        · split at hj
          · cases hj; omega
          · cases hj
theorem sealP_lt {k : Nat} {s : UnS} {epoch : Int} : ∀ j, (sealP k s epoch).1 = some j → j < 19 := by
  intro j hj
  unfold sealP at hj
  split at hj
  · cases hj; omega
  · split at hj
    · cases hj; omega
    · split at hj
      · cases hj
      · split at hj
        · cases hj; omega
        · cases hj
theorem trimP_lt {k : Nat} {s : UnS} {epoch a : Int} : ∀ j, (trimP k s epoch a).1 = some j → j < 19 := by
  intro j hj
  unfold trimP at hj
  split at hj
  · rename_i c hc; cases hj; exact checkE_lt _ hc
  · split at hj
    · cases hj
    · split at hj
      · cases hj; omega
      · cases hj
theorem readE_lt {tr ep : Int} {pg : Int → Option (List UInt8)} {epoch a : Int} : ∀ j, readE tr ep pg epoch a = some j → j < 19 := by
  intro j hj
  unfold readE at hj
  split at hj
  · rename_i c hc; cases hj; exact checkE_lt _ hc
  · split at hj
    · cases hj; omega
    · split at hj
      · cases hj
      · cases hj; omega

theorem Outc.live {w w' : World} {n0 r rd m : Nat} {f : UnF} {d : DevS} {s : UnS} {p : Option Nat × UnS} {e' : Option Nat} (h : Outc w n0 r rd f d s m p e' w') (hst : d.stops = false) :
    e' = p.1 ∧ ∃ f' d', UAt w' n0 r rd f' d' p.2 (m + 1) ∧ d'.n = d.n ∧ d'.stops = false ∧ UFoot r rd f f' w w' := by
  rcases h with ⟨h1, f', d', h2, h3, h4, h5⟩ | ⟨_, h2, _⟩
  · exact ⟨h1, f', d', h2, h3, by rw [h4]; exact hst, h5⟩
  · rw [hst] at h2; cases h2

/-! ### a unit, its device, and the document's unit -/
structure Lw9 (w0 w : World) (rd r r2 k m : Nat) (f : UnF) (d : DevS) (fr : RuF) (P : List RuE) (top : Int) (s : UnS) : Prop where
  U : UAt w w0.heap.size r rd f d s m
  R : RuS w r2 k fr P top s
  k : d.n / 64 = k
  st : d.stops = false
  kp : Keep w0 w
  wn : ∀ j, RuW r2 fr j → w0.heap.size ≤ j
  ws : ∀ j, RuW r2 fr j → ¬ UB r rd f j ∧ ¬ UnY f.x j
  ys : ∀ j, RuY fr j → ¬ UB r rd f j
section
variable {w0 w w' : World} {rd r r2 r' k m m' : Nat} {f f' : UnF} {d d' : DevS} {fr fr' : RuF} {P P' : List RuE} {top top' : Int} {s s' : UnS}
theorem Lw9.keep (h : Lw9 w0 w rd r r2 k m f d fr P top s) (hk : Keep w w') : Lw9 w0 w' rd r r2 k m f d fr P top s := ⟨h.U.keep hk, h.R.keep hk, h.k, h.st, h.kp.trans hk, h.wn, h.ws, h.ys⟩
/-- Both have moved on. -/
theorem Lw9.step {w2 : World} (h : Lw9 w0 w rd r r2 k m f d fr P top s) (hU : UAt w' w0.heap.size r rd f' d' s' m') (hf : UFoot r rd f f' w w') (hn : d'.n = d.n) (hst : d'.stops = false) (hk : Keep w' w2) {w3 : World} (hR : RuS w3 r2 k fr' P' top' s') (ht : RuTo r2 fr fr' w2 w3) : Lw9 w0 w3 rd r r2 k m' f' d' fr' P' top' s' := by
  have ltR := h.R.A.lt
  have hU2 := hU.keep hk
  have ltU := hU2.lt
  have ws2 : ∀ j, RuW r2 fr j → ¬ UB r rd f' j ∧ ¬ UnY f'.x j := fun j hj => ⟨fun hh => (hf.1.2 j hh).elim (h.ws j hj).1 (fun g => by have := ltR.1 j hj; omega), fun hh => (hf.2 j hh).elim (h.ws j hj).2 (fun g => by have := ltR.1 j hj; omega)⟩
  have ys2 : ∀ j, RuY fr j → ¬ UB r rd f' j := fun j hj hh => (hf.1.2 j hh).elim (h.ys j hj) (fun g => by have := ltR.2 j hj; omega)
  have z1 := hf.1.1.size
  have z2 := hk.size
  have z0 := h.kp.size
  refine ⟨hU2.ext ht.1 (fun j hj hh => (ws2 j hh).1 hj) (fun j hj hh => (ws2 j hh).2 hj), hR, by rw [hn]; exact h.k, hst, ((h.kp.ext hf.1.1 h.U.ge).trans hk).ext ht.1 h.wn, fun j hj => (ht.2.1 j hj).elim (h.wn j) (fun g => by omega), fun j hj => ?_, fun j hj hh => ?_⟩
  · rcases ht.2.1 j hj with g | g
    · exact ws2 j g
    · exact ⟨fun hh => by have := ltU.1 j hh; omega, fun hh => by have := ltU.2 j hh; omega⟩
  · rcases ht.2.2 j hj with g | g
    · exact ys2 j g hh
    · have := ltU.1 j hh; omega
theorem Lw9.ext (h : Lw9 w0 w rd r r2 k m f d fr P top s) (hf : Ext (UB r rd f) w w') : RuS w' r2 k fr P top s := ⟨h.R.A.ext hf (fun j hj hh => (h.ws j hj).1 hh) (fun j hj hh => h.ys j hj hh), h.R.z, h.R.K⟩
end
/-- What an act has done to the heap. -/
def L9To (rd r2 r : Nat) (f : UnF) (fr : RuF) (r' : Nat) (f' : UnF) (fr' : RuF) (w w' : World) : Prop := Ext (fun j => UB r rd f j ∨ RuW r2 fr j) w w' ∧ ∀ j, UB r' rd f' j ∨ RuW r2 fr' j → (UB r rd f j ∨ RuW r2 fr j) ∨ w.heap.size ≤ j
theorem L9To.keep {rd r2 r : Nat} {f : UnF} {fr : RuF} {w w' : World} (hk : Keep w w') : L9To rd r2 r f fr r f fr w w' := ⟨hk.mono (fun _ h => h.elim), fun j hj => .inl hj⟩
theorem L9To.of {rd r2 r : Nat} {f f' : UnF} {fr fr' : RuF} {w wa wb wc wd : World} (k0 : Keep w wa) (uf : UFoot r rd f f' wa wb) (k1 : Keep wb wc) (ht : RuTo r2 fr fr' wc wd) : L9To rd r2 r f fr r f' fr' w wd := by
  have z0 := k0.size
  have z1 := uf.1.1.size
  have z2 := k1.size
  refine ⟨((Ext.trans k0 (uf.1.1.mono (fun j hj => Or.inl hj)) (fun _ h => h.elim) (fun _ h => .inl h)).trans k1 (fun _ h => h) (fun _ h => h.elim)).trans ht.1 (fun _ h => h) (fun j hj => .inl (.inr hj)), fun j hj => ?_⟩
  rcases hj with hj | hj
  · exact (uf.1.2 j hj).elim (fun g => .inl (.inl g)) (fun g => .inr (by omega))
  · exact (ht.2.1 j hj).elim (fun g => .inl (.inr g)) (fun g => .inr (by omega))
/-- A device is opened anew. -/
theorem Lw9.open {w0 w : World} {rd r r2 k m : Nat} {f : UnF} {d : DevS} {fr : RuF} {P : List RuE} {top : Int} {s : UnS} (A : Nat → Addr) (h : Lw9 w0 w rd r r2 k m f d fr P top s) (hE : Errs A w0) (hm : m ≤ 2 ^ 60) :
    Calls Tryz.prog fn_unit_Open ⟨[ptrR' rd]⟩ w fun e w' => ∃ r' f', e = .returned (.tuple ⟨[ptrR' r', .nilIface]⟩) ∧ Lw9 w0 w' rd r' r2 k m f' d fr P top s ∧ L9To rd r2 r f fr r' f' fr w w' := by
  have hB : ErrsB A w0.heap.size w0 := hE.b
  refine (Open_spec9 A (hB.keep h.kp) h.U.S.B.D h.U.S.p h.U.S.I h.U.O h.U.T h.U.S.k h.U.S.N hm h.U.S.B.dn h.U.S.B.z).mono ?_
  rintro e w2 ⟨r', f', rfl, hU, hq, hUB, hUY, k2⟩
  have ltR := h.R.A.lt
  refine ⟨r', f', rfl, ⟨hU, h.R.keep k2, h.k, h.st, h.kp.trans k2, h.wn, fun j hj => ⟨fun hh => ?_, fun hh => ?_⟩, fun j hj hh => ?_⟩, k2.mono (fun _ h => h.elim), fun j hj => hj.elim (fun h => (hUB j h).elim (fun g => .inl (.inl (.inr (.inr g)))) .inr) (fun h => .inl (.inr h))⟩
  · rcases hUB j hh with g | g
    · exact (h.ws j hj).1 (.inr (.inr g))
    · have := ltR.1 j hj; omega
  · have := hUY j hh; have := ltR.1 j hj; omega
  · rcases hUB j hh with g | g
    · exact h.ys j hj (.inr (.inr g))
    · have := ltR.2 j hj; omega
/-- A new device. -/
theorem first_spec9 (A : Nat → Addr) (n : Nat) (hn : 1 ≤ n ∧ n < 20) (w0 w : World) (hE : Errs A w0) (hk : Keep w0 w) :
    Calls Tryz.prog fn_disk_New ⟨[.int .i64 ((64 * n : Nat) : Int)]⟩ w fun e w' => ∃ rd q d, e = .returned (.tuple ⟨[ptrR' rd, .nilIface]⟩) ∧ Keep w w' ∧ d.n / 64 = n ∧ d.stops = false ∧
      ∀ w2, Keep w' w2 → Calls Tryz.prog fn_unit_Open ⟨[ptrR' rd]⟩ w2 fun e w3 => ∃ r f, e = .returned (.tuple ⟨[ptrR' r, .nilIface]⟩) ∧ UAt w3 w0.heap.size r rd f d ⟨[], 0, 0, 0⟩ 0 ∧ f.q = q ∧ Keep w2 w3 ∧ (∀ j, UB r rd f j → w.heap.size ≤ j) ∧ (∀ j, UnY f.x j → w.heap.size ≤ j) := by
  have hB : ErrsB A w0.heap.size w0 := hE.b
  refine (New_spec7 A _ w ((hB.g.keep hk).sub (fun g hg => segG_sub g (segG_dsk g hg)))).mono ?_
  rintro e w3 ⟨k3, hc⟩
  rw [if_neg (by omega)] at hc
  obtain ⟨rd, q, rfl, hD, hDf⟩ := hc
  have hn' : (newD (Int.toNat ((64 * n : Nat) : Int))).n = 64 * n := by rw [newD_n]; omega
  refine ⟨rd, q, _, rfl, k3, by rw [hn']; omega, rfl, fun w2 k2 => ?_⟩
  have z0 := hk.size
  have z3 := k3.size
  have z2 := k2.size
  refine (Open_spec9 A (hB.keep ((hk.trans k3).trans k2)) (hD.keep k2) rfl (U := []) (tr := 0) (ep := 0) (T := 0) (init_img _ _) UnOk.nil (by omega) (by rw [hn']; omega) (m := 0) (by simp) (by omega) (fun j hj => by have := hDf j hj; omega) (by omega)).mono ?_
  rintro e w4 ⟨r, f, rfl, hU, hq, hUB, hUY, k4⟩
  exact ⟨r, f, rfl, hU, hq, k4, fun j hj => (hUB j hj).elim (hDf j) (fun g => by omega), fun j hj => by have := hUY j hj; omega⟩
theorem begin_spec9 (A : Nat → Addr) (n : Int) (w0 w : World) (hE : Errs A w0) (hk : Keep w0 w) :
    Calls Tryz.prog fn_tidewaterlaw09_begin ⟨[.int .i64 n]⟩ w fun e w' => ∃ rd r r2 k f d fr, e = .returned (.tuple ⟨[ptrR' rd, ptrR' r, ptrR' r2]⟩) ∧ k ≤ 4 ∧ Lw9 w0 w' rd r r2 k 0 f d fr [] 0 ⟨[], 0, 0, 0⟩ := by
  refine tidewaterlaw09_begin_ok _ ?_
  unfold tidewaterlaw09_begin
  obtain ⟨a, ha, hwa', hua⟩ := mod_wrap8 n 4 (by omega) (by omega)
  have hwa : IntKind.wrap .i64 ((IntKind.wrap .u64 n) % (4 : Int)) = (a : Int) := hwa'
  simp only [hwa]
  have e1 : (64 : Int) * ((1 : Int) + (a : Int)) = ((64 * (a + 1) : Nat) : Int) := by omega
  rw [e1]
  refine ⟨hua, by omega, inR64 (by omega), inR64 (by omega), (first_spec9 A (a + 1) (by omega) w0 w hE hk).mono ?_⟩
  rintro e w3 ⟨rd, q, d, rfl, k3, hdn, hds, hop⟩
  refine ⟨_, _, rfl, trivial, BIf_mk (fun h => by cases h) (fun _ => (hop w3 (Ext.refl _ _)).mono ?_)⟩
  rintro e w7 ⟨r, f, rfl, hU, hq, k7, hUB, hUY⟩
  have e2 : (1 : Int) + (a : Int) = ((a + 1 : Nat) : Int) := by omega
  refine ⟨_, _, rfl, trivial, BIf_mk (fun h => by cases h) (fun _ => ?_)⟩
  rw [e2]
  refine (refNew_spec9 w7 (a + 1)).mono ?_
  rintro e w11 ⟨r2, fr, rfl, hR, hW, hY, k11⟩
  have lt := hU.lt
  have z0 := hk.size
  have z3 := k3.size
  have z7 := k7.size
  exact ⟨_, rfl, rd, r, r2, a + 1, f, d, fr, rfl, by omega, hU.keep k11, hR, hdn, hds, ((hk.trans k3).trans k7).trans k11, fun j hj => by have := hW j hj; omega, fun j hj => ⟨fun hh => by have := hW j hj; have := lt.1 j hh; omega, fun hh => by have := hW j hj; have := lt.2 j hh; omega⟩, fun j hj => (hY j hj).elim⟩
end Go.D

set_option linter.unusedVariables false
set_option linter.unusedSimpArgs false
namespace Go.D
open Go Go.Proofs

def SameS (s s2 : UnS) : Prop := s.ep = s2.ep ∧ s.tr = s2.tr ∧ s.T = s2.T ∧ ∀ a, pgM s.U s.tr a = pgM s2.U s2.tr a
theorem SameS.rd {s s2 : UnS} (h : SameS s s2) (e a : Int) : readE s.tr s.ep (pgM s.U s.tr) e a = readE s2.tr s2.ep (pgM s2.U s2.tr) e a := by
  obtain ⟨h1, h2, h3, h4⟩ := h
  have : pgM s.U s.tr = pgM s2.U s2.tr := funext h4
  rw [this, h1, h2]
section
variable {w0 w w' : World} {n0 rd r r2 k m : Nat} {f : UnF} {d : DevS} {fr : RuF} {P : List RuE} {top : Int} {s s2 : UnS}
theorem told_spec9 (A : Nat → Addr) (hU : UAt w n0 r rd f d s m) (hR : RuS w r2 k fr P top s2) (hE : Errs A w) (hG : ErrsG uniG A n0 w) (hP : P.length ≤ 2 ^ 20) :
    Calls Tryz.prog fn_tidewaterlaw09_told ⟨[ptrR' r, ptrR' r2]⟩ w fun e w' => ∃ b : Bool, e = .returned (.bool b) ∧ (SameS s s2 → b = true) ∧ Keep w w' := by
  refine tidewaterlaw09_told_ok _ _ ?_
  unfold tidewaterlaw09_told
  have kd : Keep w (World.drew w) := Ext.drew _ _
  have htt := hU.t
  have hrt := hR.K.t
  refine ⟨fun w2 => Keep w w2, needSome_mk rfl ⟨_, (hR.A.keep kd).cs.2.2.2.2.2.1, (Epoch_spec9 (hU.keep kd).M).mono ?_⟩, ?_⟩
  · rintro e w7 ⟨rfl, k7⟩
    have kk7 := kd.trans k7
    refine ⟨_, rfl, ⟨_, (hR.A.keep kk7).cs.2.2.2.2.2.1, rfl⟩, BIf_ndec (fun h0 => ⟨false, rfl, fun hh => absurd (by rw [hh.1]) h0, kk7⟩) (fun h0 => needSome_mk rfl ⟨_, (hR.A.keep kk7).cs.2.2.2.2.1, (Trimmed_spec9 (hU.keep kk7).M).mono ?_⟩)⟩
    rintro e w13 ⟨rfl, k13⟩
    have kk13 := kk7.trans k13
    refine ⟨_, rfl, ⟨_, (hR.A.keep kk13).cs.2.2.2.2.1, rfl⟩, BIf_ndec (fun h0 => ⟨false, rfl, fun hh => absurd (by rw [hh.2.1]) h0, kk13⟩) (fun h0 => (Tail_spec9 (hU.keep kk13).M).mono ?_)⟩
    rintro e w17 ⟨rfl, k17⟩
    have kk17 := kk13.trans k17
    refine ⟨_, rfl, (refTail_spec9 (hR.A.keep kk17)).mono ?_⟩
    rintro e w20 ⟨rfl, k20⟩
    refine ⟨_, rfl, BIf_ndec (fun h0 => ⟨false, rfl, fun hh => absurd (by rw [htt.2, hrt.2, hh.2.2.1]) h0, kk17.trans k20⟩) (fun h0 => kk17.trans k20)⟩
  rintro w22 k22
  intros
  refine ⟨fun i w2 => ∃ j : Nat, i = j ∧ j ≤ 14 ∧ Keep w w2, fun i _ => (14 - i).toNat, ⟨0, rfl, by omega, k22⟩, ?_⟩
  rintro i w50 ⟨j, rfl, hj, k50⟩
  intros
  refine BIf_dec (fun h0 => ?_) (fun h0 => ⟨true, rfl, fun _ => rfl, k50⟩)
  refine needSome_mk rfl ⟨_, (hR.A.keep k50).cs.2.2.2.2.2.1, (Read_spec9 A (hU.keep k50).M (s2.ep : Int) (j : Int) (hG.keep k50)).mono ?_⟩
  rintro e w94 ⟨t, rfl, ho, hf, k94⟩
  have kk94 := k50.trans k94
  refine ⟨t, _, rfl, needSome_mk rfl ⟨_, (hR.A.keep kk94).cs.2.2.2.2.2.1, (refRead_spec9 (hR.keep kk94) hP (s2.ep : Int) (j : Int)).mono ?_⟩⟩
  rintro e w100 ⟨t2, rfl, hb2, k100⟩
  have kk100 := kk94.trans k100
  refine ⟨t2, _, rfl, _, (ho.keep k100).bytes, _, hb2, BIf_ndec (fun h1 => ⟨false, rfl, fun hh => absurd (by rw [hh.rd, hh.2.2.2]) h1, kk100⟩) (fun h1 => (numO_spec8 A _ readE_lt _ (hE.keep kk100)).mono ?_)⟩
  rintro e w106 ⟨rfl, k106⟩
  refine ⟨_, rfl, BIf_ndec (fun h2 => ⟨false, rfl, fun hh => absurd (by rw [hh.rd]) h2, kk100.trans k106⟩) (fun h2 => ⟨inR64 (by omega), ⟨j + 1, rfl, by omega, kk100.trans k106⟩, by dsimp only; omega⟩)⟩
theorem same_spec9 (A : Nat → Addr) (h : Lw9 w0 w rd r r2 k m f d fr P top s) (hE : Errs A w0) (hP : P.length ≤ 2 ^ 20) :
    Calls Tryz.prog fn_tidewaterlaw09_same ⟨[ptrR' r, ptrR' r2]⟩ w fun e w' => e = .returned (.bool true) ∧ Keep w w' := by
  refine tidewaterlaw09_same_ok _ _ ?_
  unfold tidewaterlaw09_same
  have kd : Keep w (World.drew w) := Ext.drew _ _
  have hU := h.U
  have hR := h.R
  have hB : ErrsB A w0.heap.size w0 := hE.b
  have hG : ErrsG uniG A w0.heap.size w := (hB.keep h.kp).g.sub uniG_sub
  have hEw : Errs A w := hE.keep h.kp
  have htt := hU.t
  have hrt := hR.K.t
  have hlen := hU.S.len
  have hk := hU.S.k
  have hle : (sU s.U).length = s.U.length := by simp
  have hzl : fr.zs.length = s.U.length := by
    have := congrArg List.length hR.z
    simpa using this
  have hsl : fr.sl.l = s.U.length := by rw [hR.A.R.s.sl, hzl]
  refine ⟨fun w2 => Keep w w2, needSome_mk rfl ⟨_, (hR.A.keep kd).cs.2.2.2.2.2.1, (Epoch_spec9 (hU.keep kd).M).mono ?_⟩, ?_⟩
  · rintro e w7 ⟨rfl, k7⟩
    have kk7 := kd.trans k7
    refine ⟨_, rfl, ⟨_, (hR.A.keep kk7).cs.2.2.2.2.2.1, rfl⟩, BIf_ndec (fun h0 => absurd rfl h0) (fun h0 => needSome_mk rfl ⟨_, (hR.A.keep kk7).cs.2.2.2.2.1, (Trimmed_spec9 (hU.keep kk7).M).mono ?_⟩)⟩
    rintro e w13 ⟨rfl, k13⟩
    have kk13 := kk7.trans k13
    refine ⟨_, rfl, ⟨_, (hR.A.keep kk13).cs.2.2.2.2.1, rfl⟩, BIf_ndec (fun h0 => absurd rfl h0) (fun h0 => (Tail_spec9 (hU.keep kk13).M).mono ?_)⟩
    rintro e w17 ⟨rfl, k17⟩
    have kk17 := kk13.trans k17
    refine ⟨_, rfl, (refTail_spec9 (hR.A.keep kk17)).mono ?_⟩
    rintro e w20 ⟨rfl, k20⟩
    have kk20 := kk17.trans k20
    refine ⟨_, rfl, BIf_ndec (fun h0 => absurd (by rw [htt.2, hrt.2]) h0) (fun h0 => ?_)⟩
    have h20 := hR.keep kk20
    refine needSome_mk rfl ⟨_, h20.A.cs.1, needSome_mk rfl ⟨_, h20.A.R.c0, needSome_mk rfl ⟨_, h20.A.cs.1, needSome_mk rfl ⟨_, h20.A.R.c1, inR64 (by have := h.k; omega), ?_⟩⟩⟩⟩
    refine Calls.mono (R := fun e w' => e = .returned (.int .i64 (((d.n / 64 : Nat) : Int) - ((sU s.U).length : Int))) ∧ Keep w20 w') (unit_Unit_Free_ok _ ?_) ?_
    · unfold unit_Unit_Free
      have hU20 := hU.keep kk20
      refine needSome_mk rfl ⟨_, hU20.M.c.1, (Free_spec8 hU20.S.B.S hU20.S.B.D (by omega)).mono ?_⟩
      rintro e w5 ⟨rfl, k5⟩
      exact ⟨_, rfl, rfl, k5⟩
    · rintro e w31 ⟨rfl, k31⟩
      have h31 := h20.keep k31
      refine ⟨_, rfl, ⟨_, h31.A.R.c1, rfl⟩, ⟨_, h31.A.cs.1, rfl⟩, ⟨_, h31.A.R.c0, rfl⟩, ⟨_, h31.A.cs.1, rfl⟩, BIf_ndec (fun h0 => absurd (by rw [hsl, hle, h.k]) h0) (fun h0 => kk20.trans k31)⟩
  rintro w37 k37
  intros
  refine ⟨fun i w2 => ∃ j : Nat, i = j ∧ j ≤ 14 ∧ Keep w w2, fun i _ => (14 - i).toNat, ⟨0, rfl, by omega, k37⟩, ?_⟩
  rintro i w50 ⟨j, rfl, hj, k50⟩
  intros
  refine BIf_dec (fun h0 => ?_) (fun h0 => ⟨rfl, k50⟩)
  refine needSome_mk rfl ⟨_, (hR.A.keep k50).cs.2.2.2.2.2.1, (Read_spec9 A (hU.keep k50).M (s.ep : Int) (j : Int) (hG.keep k50)).mono ?_⟩
  rintro e w94 ⟨t, rfl, ho, hf, k94⟩
  have kk94 := k50.trans k94
  refine ⟨t, _, rfl, needSome_mk rfl ⟨_, (hR.A.keep kk94).cs.2.2.2.2.2.1, (refRead_spec9 (hR.keep kk94) hP (s.ep : Int) (j : Int)).mono ?_⟩⟩
  rintro e w100 ⟨t2, rfl, hb2, k100⟩
  have kk100 := kk94.trans k100
  refine ⟨t2, _, rfl, _, (ho.keep k100).bytes, _, hb2, BIf_ndec (fun h1 => absurd rfl h1) (fun h1 => (numO_spec8 A _ readE_lt _ (hEw.keep kk100)).mono ?_)⟩
  rintro e w106 ⟨rfl, k106⟩
  have kk106 := kk100.trans k106
  refine ⟨_, rfl, BIf_ndec (fun h2 => absurd rfl h2) (fun h2 => (Has_spec9 (hU.keep kk106).M (j : Int)).mono ?_)⟩
  rintro e w154 ⟨rfl, k154⟩
  have kk154 := kk106.trans k154
  refine ⟨_, rfl, (refHas_spec9 (hR.keep kk154).A hP (j : Int)).mono ?_⟩
  rintro e w157 ⟨rfl, rfl⟩
  rw [hR.K.has j]
  refine ⟨_, rfl, BIf_mk (fun h3 => by simp at h3) (fun h3 => ⟨inR64 (by omega), ⟨j + 1, rfl, by omega, kk154⟩, by dsimp only; omega⟩)⟩
/-- An act, of both units. -/
theorem do_spec9 (A : Nat → Addr) (h : Lw9 w0 w rd r r2 k m f d fr P top s) (hE : Errs A w0) (hm : m ≤ 2 ^ 58) (hP : P.length < 2 ^ 19) (x1 x2 x3 x4 : Int) (b : UInt8) :
    Calls Tryz.prog fn_tidewaterlaw09_do ⟨[ptrR' rd, ptrR' r, ptrR' r2, .agg ⟨[.int .i64 x1, .int .i64 x2, .int .i64 x3, .int .i64 x4, .int .u8 (b.toNat : Int)]⟩]⟩ w fun e w' => ∃ r' f' d' fr' P' top' s', e = .returned (.tuple ⟨[ptrR' r', .bool true]⟩) ∧ Lw9 w0 w' rd r' r2 k (m + 1) f' d' fr' P' top' s' ∧ P'.length ≤ P.length + 1 ∧ L9To rd r2 r f fr r' f' fr' w w' := by
  refine tidewaterlaw09_do_ok _ _ _ _ _ _ _ _ ?_
  unfold tidewaterlaw09_do
  have hB : ErrsB A w0.heap.size w0 := hE.b
  refine newS_mk (fun r9 w10 hr9 hb9 k9 hs9 => ?_)
  have o9 := ObjAt.new' hb9
  have h10 := h.keep k9
  have ltU := h.U.lt
  have ltR := h.R.A.lt
  have hu := h.U.ok
  have hmm : m ≤ 2 ^ 59 := by omega
  rw [h.k] at hu
  have n9 : ∀ j, UB r rd f j → j ≠ r9 := fun j hj => by have := ltU.1 j hj; omega
  refine ⟨_, o9.cell 0 (by simp), BIf_dec (fun h0 => ?_) (fun h0 => BIf_dec (fun h1 => ?_) (fun h1 => BIf_dec (fun h2 => ?_) (fun h2 => BIf_dec (fun h3 => ?_) (fun h3 => ?_))))⟩
  · -- Write
    have kd : Keep w10 (World.drew w10) := Ext.drew _ _
    have od := o9.keep kd
    refine ⟨_, od.cell 1 (by simp), _, od.cell 2 (by simp), _, _, _, _, _, od.row, _, od.cell 1 (by simp), _, od.cell 2 (by simp), _, _, _, _, _, od.row, (page_spec9 x1 x2 x3 x4 b _).mono ?_⟩
    rintro e w27 ⟨t, rfl, ho, hf, k27⟩
    have kk27 := kd.trans k27
    have o27 := o9.keep kk27
    have h27 := h10.keep kk27
    have z10 := k9.size
    have z27 := kk27.size
    have zd := kd.size
    refine ⟨t, rfl, ⟨_, _, _, _, _, o27.row, rfl⟩, ⟨_, o27.cell 2 (by simp), rfl⟩, ⟨_, o27.cell 1 (by simp), rfl⟩, ⟨_, o27.cell 2 (by simp), rfl⟩, ⟨_, o27.cell 1 (by simp), rfl⟩, ?_⟩
    refine (Write_spec9 A h27.U (hB.keep h27.kp) (by omega) x2 x3 t _ ho.bytes (pageA_le _ _) (fun j hj hh => by have := hf j hj; have := ltU.1 j hh; omega)).mono ?_
    rintro e w39 ⟨e', rfl, hout⟩
    obtain ⟨rfl, f', d', hU', hn', hs', uf⟩ := hout.live h.st
    rw [h.k] at hU' ⊢
    have o39 := o27.ext uf.1.1 (fun hh => n9 _ hh rfl)
    have kp39 : Keep w0 w39 := h27.kp.ext uf.1.1 h27.U.ge
    refine ⟨_, rfl, ⟨_, _, _, _, _, o39.row, rfl⟩, ⟨_, o39.cell 2 (by simp), rfl⟩, ⟨_, o39.cell 1 (by simp), rfl⟩, (numO_spec8 A _ writeP_lt _ (hE.keep kp39)).mono ?_⟩
    rintro e w49 ⟨rfl, k49⟩
    have o49 := o39.keep k49
    refine ⟨_, rfl, ⟨_, _, _, _, _, o49.row, rfl⟩, ⟨_, o49.cell 2 (by simp), rfl⟩, ⟨_, o49.cell 1 (by simp), rfl⟩, (page_spec9 x1 x2 x3 x4 b _).mono ?_⟩
    rintro e w59 ⟨t2, rfl, ho2, hf2, k59⟩
    have o59 := o49.keep k59
    have kk59 := k49.trans k59
    have hR59 := (h27.ext uf.1.1).keep kk59
    have z39 := uf.1.1.size
    have z49 := k49.size
    have z59 := k59.size
    refine ⟨t2, rfl, ⟨_, o59.cell 2 (by simp), rfl⟩, ⟨_, o59.cell 1 (by simp), rfl⟩, (refWrite_spec9 hR59 hu hmm (by omega) x2 x3 t2 _ ho2.bytes (pageA_le _ _) (fun j hj hh => by have := hf2 j hj; have := ltR.1 j hh; omega)).mono ?_⟩
    rintro e w64 ⟨rfl, fr', P', top', hR', hPl, hto⟩
    refine ⟨_, rfl, r, f', d', fr', P', top', _, ?_, h27.step hU' uf hn' hs' kk59 hR' hto, hPl, L9To.of (k9.trans kk27) uf kk59 hto⟩
    rw [decide_eq_true rfl]
  · -- Read
    refine ⟨_, o9.cell 1 (by simp), _, o9.cell 2 (by simp), (Read_spec9 A h10.U.M x2 x3 ((hB.keep h10.kp).g.sub uniG_sub)).mono ?_⟩
    rintro e w69 ⟨t, rfl, ho, hf, k69⟩
    have o69 := o9.keep k69
    have h69 := h10.keep k69
    refine ⟨t, _, rfl, _, o69.cell 1 (by simp), _, o69.cell 2 (by simp), (refRead_spec9 h69.R (by omega) x2 x3).mono ?_⟩
    rintro e w75 ⟨t2, rfl, hb2, k75⟩
    have h75 := h69.keep k75
    refine ⟨t2, _, rfl, _, (ho.keep k75).bytes, _, hb2, BIf_dec (fun _ => (numO_spec8 A _ readE_lt _ (hE.keep h75.kp)).mono ?_) (fun hh => absurd rfl hh)⟩
    rintro e w81 ⟨rfl, k81⟩
    have h81 := h75.keep k81
    refine ⟨_, rfl, r, f, d, fr, P, top, s, ?_, ⟨h81.U.up (by omega), h81.R, h81.k, h81.st, h81.kp, h81.wn, h81.ws, h81.ys⟩, by omega, L9To.keep (((k9.trans k69).trans k75).trans k81)⟩
    rw [decide_eq_true rfl]
  · -- Trim
    have kd : Keep w10 (World.drew w10) := Ext.drew _ _
    have od := o9.keep kd
    have hd := h10.keep kd
    refine ⟨_, od.cell 1 (by simp), _, od.cell 2 (by simp), _, od.cell 1 (by simp), _, od.cell 2 (by simp), (Trim_spec9 A hd.U (hB.keep hd.kp) (by omega) x2 x3).mono ?_⟩
    rintro e w88 ⟨e', rfl, hout⟩
    obtain ⟨rfl, f', d', hU', hn', hs', uf⟩ := hout.live h.st
    rw [h.k] at hU' ⊢
    have o88 := od.ext uf.1.1 (fun hh => n9 _ hh rfl)
    have kp88 : Keep w0 w88 := hd.kp.ext uf.1.1 hd.U.ge
    refine ⟨_, rfl, ⟨_, o88.cell 2 (by simp), rfl⟩, ⟨_, o88.cell 1 (by simp), rfl⟩, (numO_spec8 A _ trimP_lt _ (hE.keep kp88)).mono ?_⟩
    rintro e w93 ⟨rfl, k93⟩
    have o93 := o88.keep k93
    have hR93 := (hd.ext uf.1.1).keep k93
    refine ⟨_, rfl, ⟨_, o93.cell 2 (by simp), rfl⟩, ⟨_, o93.cell 1 (by simp), rfl⟩, (refTrim_spec9 hR93 hu hmm (by omega) x2 x3).mono ?_⟩
    rintro e w98 ⟨rfl, fr', hR', hto⟩
    refine ⟨_, rfl, r, f', d', fr', P, top, _, ?_, hd.step hU' uf hn' hs' k93 hR' hto, by omega, L9To.of (k9.trans kd) uf k93 hto⟩
    rw [decide_eq_true rfl]
  · -- Seal
    refine ⟨_, o9.cell 1 (by simp), (Seal_spec9 A h10.U (hB.keep h10.kp) (by omega) x2).mono ?_⟩
    rintro e w102 ⟨n, e', rfl, hout, hnum⟩
    obtain ⟨rfl, f', d', hU', hn', hs', uf⟩ := hout.live h.st
    have hnn := hnum rfl
    rw [h.k] at hU' hnn ⊢
    have o102 := o9.ext uf.1.1 (fun hh => n9 _ hh rfl)
    have kp102 : Keep w0 w102 := h10.kp.ext uf.1.1 h10.U.ge
    refine ⟨_, _, rfl, _, o102.cell 1 (by simp), (refSeal_spec9 (h10.ext uf.1.1) hu hmm x2).mono ?_⟩
    rintro e w107 ⟨rfl, fr', hR', hto⟩
    have h107 := h10.step hU' uf hn' hs' (Ext.refl _ _) hR' hto
    refine ⟨_, _, rfl, BIf_dec (fun _ => (numO_spec8 A _ sealP_lt _ (hE.keep h107.kp)).mono ?_) (fun hh => absurd hnn hh)⟩
    rintro e w111 ⟨rfl, k111⟩
    refine ⟨_, rfl, r, f', d', fr', P, top, _, ?_, h107.keep k111, by omega, ?_⟩
    · rw [decide_eq_true rfl]
    · have l9 := L9To.of k9 uf (Ext.refl none0 _) hto
      exact ⟨l9.1.trans k111 (fun _ h => h) (fun _ h => h.elim), l9.2⟩
  · refine (h10.open A hE (by omega)).mono ?_
    rintro e w114 ⟨r', f', rfl, h114, l114⟩
    refine ⟨_, _, rfl, trivial, BIf_mk (fun _ => ?_) (fun hh => by cases hh)⟩
    refine ⟨r', f', d, fr, P, top, s, rfl, ⟨h114.U.up (by omega), h114.R, h114.k, h114.st, h114.kp, h114.wn, h114.ws, h114.ys⟩, by omega, ?_⟩
    have z9 := k9.size
    exact ⟨Ext.trans k9 l114.1 (fun _ h => h.elim) (fun _ h => .inl h), fun j hj => (l114.2 j hj).imp (fun h => h) (fun g => by omega)⟩
end
/-- The chapter's example. -/
theorem alive_spec9 (A : Nat → Addr) (w : World) (hE : Errs A w) : Calls Tryz.prog fn_tidewaterlaw09_alive ⟨[]⟩ w fun e w' => e = .returned (.bool true) ∧ Keep w w' := by
  refine tidewaterlaw09_alive_ok ?_
  unfold tidewaterlaw09_alive
  have hB : ErrsB A w.heap.size w := hE.b
  refine (first_spec9 A 1 (by omega) w w hE (Ext.refl _ _)).mono ?_
  rintro e w2 ⟨rd, q, d, rfl, k2, hdn, hds, hop⟩
  refine ⟨_, _, rfl, fun w3 => w3 = w2, ⟨trivial, BIf_mk (fun h => by cases h) (fun _ => BIf_mk (fun h => by cases h) (fun _ => rfl))⟩, ?_⟩
  rintro w6 rfl
  intros
  refine (hop _ (Ext.refl _ _)).mono ?_
  rintro e w15 ⟨r, f, rfl, hU, hq, k15, hUB, hUY⟩
  refine ⟨_, _, rfl, fun w3 => w3 = w15, ⟨trivial, BIf_mk (fun h => by cases h) (fun _ => BIf_mk (fun h => by cases h) (fun _ => rfl))⟩, ?_⟩
  rintro w19 rfl
  intros
  have lit : ∀ {w1 w2 : World} {r1 : Nat} {c : UInt8}, w2.heap[r1]? = some (.cells ⟨[Value.int .u8 (c.toNat : Int)]⟩ 5) → bytesAt (markW w2 r1) (⟨some ⟨r1, 0, none⟩, 1, 1⟩ : Slc) [c] ∧ Ext (fun k => k = r1) w2 (markW w2 r1) := by
    intro w1 w2 r1 c hb
    obtain ⟨hb30, e30⟩ := markW_heap hb
    refine ⟨⟨rfl, .inr ⟨_, rfl, fun i hi => ?_⟩⟩, e30⟩
    have : i = 0 := by simp at hi; omega
    subst this
    rw [add_lit, cell_of hb30]
    rfl
  refine newS_mk (fun r27 w28 hr hb k28 hs => ?_)
  rintro w30 rfl
  obtain ⟨hb30, e30⟩ := lit (w1 := w28) (c := 97) hb
  have k30 : Keep w19 (markW w28 r27) := k28.ext e30 (fun k hk => by omega)
  have kk := (k2.trans k15).trans k30
  have lt19 := hU.lt
  have ob : ∀ {r1 : Nat} {j : Nat}, ownB (⟨some ⟨r1, 0, none⟩, 1, 1⟩ : Slc) j → j = r1 := by rintro r1 j ⟨a, ha, rfl⟩; cases ha; rfl
  refine (Write_spec9 A (hU.keep k30) (hB.keep kk) (by omega) 0 3 _ _ hb30 (by simp) (fun j hj hh => by have := ob hj; have := lt19.1 j hh; omega)).mono ?_
  rintro e w32 ⟨e', rfl, hout⟩
  obtain ⟨rfl, f', d', hU', hn', hs', uf⟩ := hout.live hds
  have hw1 : writeP (d.n / 64) ⟨[], 0, 0, 0⟩ 0 3 [97] = (none, ⟨[⟨0, 0, [.page 3 [97]]⟩], 0, 0, 4⟩) := by rw [hdn]; rfl
  rw [hw1] at hU' ⊢
  have kk32 : Keep w w32 := kk.ext uf.1.1 (hU.keep k30).ge
  refine ⟨_, rfl, trivial, BIf_mk (fun _ => ?_) (fun hh => by cases hh)⟩
  refine newS_mk (fun r34 w35 hr hb k35 hs => ?_)
  rintro w37 rfl
  obtain ⟨hb37, e37⟩ := lit (w1 := w35) (c := 98) hb
  have k37 : Keep w32 (markW w35 r34) := k35.ext e37 (fun k hk => by omega)
  have kk37 := kk32.trans k37
  have lt32 := hU'.lt
  refine (Write_spec9 A (hU'.keep k37) (hB.keep kk37) (by omega) 0 3 _ _ hb37 (by simp) (fun j hj hh => by have := ob hj; have := lt32.1 j hh; omega)).mono ?_
  rintro e w39 ⟨e', rfl, hout⟩
  obtain ⟨rfl, f2, d2, hU2, hn2, hs2, uf2⟩ := hout.live hs'
  have hw2 : writeP (d'.n / 64) ⟨[⟨0, 0, [.page 3 [97]]⟩], 0, 0, 4⟩ 0 3 [98] = (some 8, ⟨[⟨0, 0, [.page 3 [97]]⟩], 0, 0, 4⟩) := by rfl
  rw [hw2] at hU2 ⊢
  have kk39 : Keep w w39 := kk37.ext uf2.1.1 (hU'.keep k37).ge
  refine ⟨_, rfl, (numO_spec8 A (some 8) (fun j hj => by cases hj; omega) _ (hE.keep kk39)).mono ?_⟩
  rintro e w42 ⟨rfl, k42⟩
  refine ⟨_, rfl, BIf_dec (fun _ => (Tail_spec9 (hU2.keep k42).M).mono ?_) (fun hh => absurd rfl hh)⟩
  rintro e w45 ⟨rfl, k45⟩
  refine ⟨_, rfl, ?_, (kk39.trans k42).trans k45⟩
  have := hU2.t.2
  rw [this]; rfl
end Go.D

set_option linter.unusedVariables false
set_option linter.unusedSimpArgs false
namespace Go.D
open Go Go.Proofs

/-! ### the acts -/
abbrev Act09 := Int × Int × Int × Int × Int
abbrev rdAct09 : Rd Act09 := Rd.pair (Rd.int .i64) (Rd.pair (Rd.int .i64) (Rd.pair (Rd.int .i64) (Rd.pair (Rd.int .i64) (Rd.int .u8))))
def actC09 (a : Act09) : List Value := [.int .i64 a.1, .int .i64 a.2.1, .int .i64 a.2.2.1, .int .i64 a.2.2.2.1, .int .u8 a.2.2.2.2]
def ActsAt09 (w : World) (s : Slc) (xs : List Act09) : Prop := s.l = xs.length ∧ s.l ≤ s.c ∧ ∀ i (h : i < xs.length), inR .u8 xs[i].2.2.2.2 ∧ ∃ a, s.p = some a ∧ rowAt w (a.add (i * 5)) 0 (actC09 xs[i])
theorem acts_of09 {w : World} {s : Slc} {xs : List Act09} (h : rowsR rdAct09 w s xs) : ActsAt09 w s xs := by
  obtain ⟨h1, h2, _, h3⟩ := h
  refine ⟨h1, h2, fun i hi => ?_⟩
  obtain ⟨a, cs, ha, ⟨_, _, hcs, ⟨rfl, _⟩, ⟨_, _, rfl, ⟨rfl, _⟩, ⟨_, _, rfl, ⟨rfl, _⟩, ⟨_, _, rfl, ⟨rfl, _⟩, ⟨rfl, hu⟩⟩⟩⟩⟩, hrow⟩ := h3 i hi
  subst hcs
  exact ⟨hu, a, ha, hrow⟩
theorem u8_of9 {x : Int} (h : inR .u8 x) : ∃ b : UInt8, (b.toNat : Int) = x := by
  have h0 : 0 ≤ x := h.1
  have h1 : x ≤ 255 := h.2
  refine ⟨UInt8.ofNat x.toNat, ?_⟩
  rw [UInt8.toNat_ofNat']
  omega
theorem UnitPlays_walk (A : Nat → Addr) (n : Int) (sl0 : Slc) (l : List Act09) (w : World) (hl : ActsAt09 w sl0 l) (hE : Errs A w) :
    Calls Tryz.prog fn_tidewaterlaw09_UnitPlays ⟨[.int .i64 n, sl0.v]⟩ w fun e w' => e = .returned (.bool true) ∧ Keep w w' := by
  refine tidewaterlaw09_UnitPlays_ok _ _ ?_
  unfold tidewaterlaw09_UnitPlays
  have hll := hl.1
  refine (alive_spec9 A w hE).mono ?_
  rintro e w4 ⟨rfl, k4⟩
  refine ⟨_, rfl, BIf_mk (fun h => by cases h) (fun _ => BIf_dec (fun h0 => ⟨rfl, k4⟩) (fun h0 => (begin_spec9 A n w w4 hE k4).mono ?_))⟩
  rintro e w7 ⟨rd, r, r2, k, f, d, fr, rfl, hk4, h7⟩
  refine ⟨_, _, _, rfl, fun w2 => w2 = w7, BIf_mk (fun h => by cases h) (fun _ => BIf_mk (fun h => by cases h) (fun _ => rfl)), ?_⟩
  rintro w12 rfl
  intros
  refine ⟨fun x i w2 => ∃ (t r : Nat) (f : UnF) (d : DevS) (fr : RuF) (P : List RuE) (top : Int) (s : UnS), i = t ∧ t ≤ l.length ∧ x = some ⟨r, 0, none⟩ ∧ Lw9 w w2 rd r r2 k t f d fr P top s ∧ P.length ≤ t, fun _ i _ => ((l.length : Int) - i).toNat,
    ⟨0, r, f, d, fr, _, _, _, rfl, by omega, rfl, h7, by simp⟩, ?_⟩
  rintro x i w24 ⟨t, r, f, d, fr, P, top, s, rfl, ht, rfl, hW, hPt⟩
  intros
  refine BIf_dec (fun h1 => ?_) (fun h1 => ?_)
  · have htl : t < l.length := by omega
    obtain ⟨hu, a, ha, hrow⟩ := hl.2.2 t htl
    obtain ⟨b, hbx⟩ := u8_of9 hu
    generalize hact : l[t] = act at hrow hbx
    obtain ⟨x1, x2, x3, x4, x5⟩ := act
    subst hbx
    refine needSome_mk ha ⟨by omega, h1, _, _, _, _, _, by rw [Int.toNat_natCast]; exact rowAt_keep hrow hW.kp, ?_⟩
    refine var_mk (cs := actC09 (x1, x2, x3, x4, (b.toNat : Int))) rfl rfl (fun r54 w56 hr o54 k56 hs => ⟨_, _, _, _, _, o54.row, (do_spec9 A (hW.keep k56) hE (by omega) (by omega) x1 x2 x3 x4 b).mono ?_⟩)
    rintro e w63 ⟨r', f', d', fr', P', top', s', rfl, h63, hPl, _⟩
    refine ⟨_, _, rfl, BIf_mk (fun h => by cases h) (fun _ => (same_spec9 A h63 hE (by omega)).mono ?_)⟩
    rintro e w67 ⟨rfl, k67⟩
    exact ⟨_, rfl, BIf_mk (fun h => by cases h) (fun _ => ⟨inR64 (by omega), ⟨t + 1, r', f', d', fr', P', top', s', rfl, htl, rfl, h63.keep k67, by omega⟩, by dsimp only; omega⟩)⟩
  · refine (hW.open A hE (by omega)).mono ?_
    rintro e w70 ⟨r', f', rfl, h70, _⟩
    refine ⟨_, _, rfl, trivial, BIf_mk (fun _ => BIf_mk (fun _ => (same_spec9 A h70 hE (by omega)).mono ?_) (fun hh => by cases hh)) (fun hh => by cases hh)⟩
    rintro e w74 ⟨rfl, k74⟩
    exact ⟨_, rfl, rfl, h70.kp.trans k74⟩
theorem UnitPlays_fin (n : Int) (sl0 : Slc) (l : List Act09) (w : World) (hl : rowsR rdAct09 w sl0 l) (A : Nat → Addr) (hE : Errs A w) :
    Calls Tryz.prog fn_tidewaterlaw09_UnitPlays ⟨[.int .i64 n, sl0.v]⟩ w fun e w' => e = .returned (.bool true) ∧ Keep w w' := UnitPlays_walk A n sl0 l w (acts_of09 hl) hE
end Go.D

set_option linter.unusedVariables false
set_option linter.unusedSimpArgs false
namespace Go.D
open Go Go.Proofs

theorem Stop_spec8 {w : World} {rd : Nat} {q : DevP} {d : DevS} (h : DevAt w rd q d) (n : Int) (hn : inR .i64 n) :
    Calls Tryz.prog fn_disk_Device_Stop ⟨[ptrR' rd, .int .i64 n]⟩ w fun e w' => e = .returned (.tuple #[]) ∧ DevAt w' rd q { d with stops := true, left := if 0 > n then 0 else n } ∧ Ext (fun k => k = rd) w w' := by
  refine disk_Device_Stop_ok _ _ ?_
  unfold disk_Device_Stop
  have hmax : n ≤ 9223372036854775807 := hn.2
  obtain ⟨c1, c2⟩ := h.o.setOne 2 (by simp) (.bool true)
  refine needSome_mk rfl ?_
  rw [add_lit]
  refine ⟨c1, fun w4 hw4 => needSome_mk rfl ?_⟩
  obtain ⟨o4, e4, _⟩ := c2 w4 hw4
  obtain ⟨c3, c4⟩ := o4.setOne 3 (by simp) (.int .i64 (if (0 : Int) > n then (0 : Int) else n))
  rw [add_lit]
  refine ⟨c3, fun w6 hw6 => ⟨rfl, ?_, ?_⟩⟩
  · obtain ⟨o6, e6, _⟩ := c4 w6 hw6
    exact ⟨o6, (h.i.ext e4 (fun k hk hh => h.di (hh ▸ hk))).ext e6 (fun k hk hh => h.di (hh ▸ hk)), (h.p.ext e4 (fun k hk hh => h.dp (hh ▸ hk)) (fun k hk hh => (h.df k hk).1 hh)).ext e6 (fun k hk hh => h.dp (hh ▸ hk)) (fun k hk hh => (h.df k hk).1 hh), h.di, h.dp, h.dd, h.df, ⟨h.ok.m, h.ok.l, h.ok.p, by dsimp only; split <;> omega⟩⟩
  · obtain ⟨o6, e6, _⟩ := c4 w6 hw6
    exact e4.trans e6 (fun _ h => h) (fun _ h => .inl h)
end Go.D

set_option linter.unusedVariables false
set_option linter.unusedSimpArgs false
namespace Go.D
open Go Go.Proofs

/-! ### what a loss of power leaves -/
theorem te_bound : ∀ (R : List Rc) (x : Nat × Nat), (∀ y ∈ R, okR y) → x.1 ≤ 4096 ∧ x.2 ≤ 2 ^ 30 → (R.foldl teStep x).1 ≤ 4096 ∧ (R.foldl teStep x).2 ≤ 2 ^ 30
  | [], x, _, h => h
  | y :: R, x, hR, h => by
    rw [List.foldl_cons]
    refine te_bound R _ (fun z hz => hR z (by simp [hz])) ?_
    have hy := hR y (by simp)
    cases y with
    | page a t => exact h
    | trim t e => exact hy
    | shut e => exact ⟨h.1, hy⟩
theorem UnOk.bound {U : List USeg} {tr ep T : Nat} (h : UnOk U tr ep T) : T ≤ 4096 ∧ ep ≤ 2 ^ 30 := by
  have h1 := te_bound (allR U) (0, 0) (fun y hy => by
    obtain ⟨g, hg, hy⟩ := List.mem_flatMap.1 hy
    exact h.ok g hg y hy) ⟨by decide, by decide⟩
  have h2 : teOf (allR U) = (tr, ep) := h.te
  unfold teOf at h2
  rw [h2] at h1
  have h3 : topOf (pgU U) ≤ 4096 := topOf_le.2 (fun x hx => (h.pages x hx).1)
  have h4 := h.tl
  have h5 : tr ≤ 4096 := h1.1
  exact ⟨by omega, h1.2⟩
def OC (k m : Nat) (s : UnS) (e' : Option Nat) (d' : DevS) (s1 : UnS) : Prop :=
  d'.pend.length ≤ 100 ∧ ∀ kept torn cut : Int, ∃ U, ImgOk (secI (crashL kept torn cut 0 d'.pend d'.img)) k (sU U) ∧ (∀ g ∈ sU U, g.num < m + 1) ∧ (Tells U s1 ∧ e' = none ∨ Tells U s ∧ e' ≠ none ∨ Tells U s1 ∧ e' = some 11)
theorem Outc.ext {w w' : World} {n0 r rd m : Nat} {f : UnF} {d : DevS} {s : UnS} {p : Option Nat × UnS} {e' : Option Nat} (h : Outc w n0 r rd f d s m p e' w') : Ext (UB r rd f) w w' := by
  rcases h with ⟨_, f', d', _, _, _, uf⟩ | ⟨_, _, q', d', _, _, _, _, ft⟩
  · exact uf.1.1
  · exact ft.1
theorem Outc.power {w w' : World} {n0 r rd m : Nat} {f : UnF} {d : DevS} {s : UnS} {p : Option Nat × UnS} {e' : Option Nat} (h : Outc w n0 r rd f d s m p e' w') (hp : p.1 ≠ none → p.2 = s) (hl : ∀ c, p.1 = some c → c < 19) :
    (∀ c, e' = some c → c < 19) ∧ ∃ q' d', DevAt w' rd q' d' ∧ d'.n = d.n ∧ OC (d.n / 64) m s e' d' p.2 ∧ ∀ j, DevB rd q' j → UB r rd f j ∨ w.heap.size ≤ j := by
  rcases h with ⟨rfl, f', d', hU, hn, hs, uf⟩ | ⟨rfl, hst, q', d', hD, hn, hs, hcr, ft⟩
  · refine ⟨hl, f'.q, d', hU.S.B.D, hn, ⟨by rw [hU.S.p]; simp, fun kept torn cut => ?_⟩, fun j hj => uf.1.2 j (.inr (.inr hj))⟩
    have e0 : crashL kept torn cut 0 d'.pend d'.img = d'.img := by rw [hU.S.p]; rfl
    rw [e0]
    have hI := hU.S.I
    rw [hn] at hI
    refine ⟨p.2.U, hI, hU.S.N, ?_⟩
    cases hp1 : p.1 with
    | none => exact .inl ⟨⟨hU.O, fun _ => rfl⟩, rfl⟩
    | some c =>
      have := hp (by rw [hp1]; simp)
      refine .inr (.inl ⟨?_, by simp⟩)
      have hO := hU.O
      rw [this] at hO ⊢
      exact ⟨hO, fun _ => rfl⟩
  · refine ⟨fun c hc => by cases hc; omega, q', d', hD, hn, ⟨hcr.1, fun kept torn cut => ?_⟩, ft.2⟩
    obtain ⟨U, h1, h2, s2, h3, h4⟩ := hcr.2 kept torn cut
    simp only [List.mem_cons, List.not_mem_nil, or_false] at h3
    rcases h3 with rfl | rfl
    · exact ⟨U, h1, h2, .inr (.inl ⟨h4, by simp⟩)⟩
    · exact ⟨U, h1, h2, .inr (.inr ⟨h4, rfl⟩)⟩
theorem writeP_same {k : Nat} {s : UnS} {epoch a : Int} {t : List UInt8} : (writeP k s epoch a t).1 ≠ none → (writeP k s epoch a t).2 = s := by
  unfold writeP
  repeat' split
  all_goals first | exact fun _ => rfl | exact fun h => absurd rfl h
theorem trimP_same {k : Nat} {s : UnS} {epoch a : Int} : (trimP k s epoch a).1 ≠ none → (trimP k s epoch a).2 = s := by
  unfold trimP
  repeat' split
  all_goals first | exact fun _ => rfl | exact fun h => absurd rfl h
theorem sealP_same {k : Nat} {s : UnS} {epoch : Int} : (sealP k s epoch).1 ≠ none → (sealP k s epoch).2 = s := by
  unfold sealP
  repeat' split
  all_goals first | exact fun _ => rfl | exact fun h => absurd rfl h
theorem sub_p5 (s : Slc) (h : Nat) : (Slc.sub s 5 0 h s.c).p = s.p := by
  unfold Slc.sub
  simp only
  split
  · rfl
  · cases hp : s.p with
    | none => rfl
    | some a => simp [Addr.add]

theorem UnitPower_walk (A : Nat → Addr) (n : Int) (sl0 : Slc) (l : List Act09) (aft kept torn cut : Int) (haft : inR .i64 aft) (hkept : inR .u64 kept) (w : World) (hl : ActsAt09 w sl0 l) (hE0 : Errs A w) :
    Calls Tryz.prog fn_tidewaterlaw09_UnitPower ⟨[.int .i64 n, sl0.v, .agg ⟨[.int .i64 aft, .int .u64 kept, .int .i64 torn, .int .i64 cut]⟩]⟩ w fun e w' => e = .returned (.bool true) ∧ Keep w w' := by
  refine tidewaterlaw09_UnitPower_ok _ _ _ _ _ _ ?_
  unfold tidewaterlaw09_UnitPower
  have hll := hl.1
  refine newS_mk (fun r7 w8 hr7 hb7 k7 hs7 => ?_)
  have o7 := ObjAt.new' hb7
  have hE : Errs A w8 := hE0.keep k7
  have hB : ErrsB A w8.heap.size w8 := hE.b
  refine (alive_spec9 A w8 hE).mono ?_
  rintro e w10 ⟨rfl, k10⟩
  refine ⟨_, rfl, BIf_mk (fun h => by cases h) (fun _ => ⟨fun w2 => 0 < l.length ∧ l.length ≤ 40 ∧ w2 = w10, BIf_dec (fun h0 => ⟨rfl, k7.trans k10⟩) (fun h0 => BIf_dec (fun h1 => ⟨rfl, k7.trans k10⟩) (fun h1 => ⟨by omega, by omega, rfl⟩)), ?_⟩)⟩
  rintro w13 ⟨hpos, h40, rfl⟩
  intros
  refine (begin_spec9 A n w8 w13 hE k10).mono ?_
  rintro e w24 ⟨rd, r, r2, k, f, d, fr, rfl, hk4, h24⟩
  refine ⟨_, _, _, rfl, fun w2 => w2 = w24, BIf_mk (fun h => by cases h) (fun _ => BIf_mk (fun h => by cases h) (fun _ => rfl)), ?_⟩
  rintro w29 rfl
  intros
  -- the last act
  obtain ⟨hu, a37, ha37, hrow37⟩ := hl.2.2 (l.length - 1) (by omega)
  obtain ⟨b, hbx⟩ := u8_of9 hu
  generalize hact : l[l.length - 1] = act at hrow37 hbx
  obtain ⟨x1, x2, x3, x4, x5⟩ := act
  subst hbx
  have eN1 : Int.toNat (((sl0.l : Nat) : Int) - 1) = l.length - 1 := by omega
  have kw : ∀ {w2}, Keep w8 w2 → Keep w w2 := fun hk => k7.trans hk
  refine ⟨inR64 (by omega), needSome_mk ha37 ⟨by omega, by omega, _, _, _, _, _, by rw [eN1]; exact rowAt_keep hrow37 (kw h24.kp), ?_⟩⟩
  refine var_mk (cs := actC09 (x1, x2, x3, x4, (b.toNat : Int))) rfl rfl (fun r43 w45 hr43 o43 k45 hs43 => ?_)
  have h45 := h24.keep k45
  have ltU24 := h24.U.lt
  have ltR24 := h24.R.A.lt
  have hcap := hl.2.1
  refine ⟨inR64 (by omega), by omega, by omega, by omega, by omega, ?_⟩
  refine ⟨fun x i w2 => ∃ (t r : Nat) (f : UnF) (d : DevS) (fr : RuF) (P : List RuE) (top : Int) (s : UnS), i = t ∧ t ≤ l.length - 1 ∧ x = some ⟨r, 0, none⟩ ∧ Lw9 w8 w2 rd r r2 k t f d fr P top s ∧ P.length ≤ t ∧ ObjAt w2 r43 (actC09 (x1, x2, x3, x4, (b.toNat : Int))) ∧ ∀ j, UB r rd f j ∨ RuW r2 fr j → j ≠ r43, fun _ i _ => ((l.length : Int) - i).toNat,
    ⟨0, r, f, d, fr, _, _, _, rfl, by omega, rfl, h45, by simp, o43, fun j hj => ?_⟩, ?_⟩
  · rcases hj with hj | hj
    · have := ltU24.1 j hj; omega
    · have := ltR24.1 j hj; omega
  rintro x i w51 ⟨t, r, f, d, fr, P, top, s, rfl, ht, rfl, hW, hPt, o51, n43⟩
  intros
  have hsl : (Slc.sub sl0 5 0 (Int.toNat (((sl0.l : Nat) : Int) - 1)) sl0.c).l = l.length - 1 := by rw [eN1]; simp [Slc.sub]
  rw [hsl]
  refine BIf_dec (fun h1 => ?_) (fun h1 => ?_)
  · have htl : t < l.length := by omega
    obtain ⟨hu, a, ha, hrow⟩ := hl.2.2 t htl
    obtain ⟨b', hbx⟩ := u8_of9 hu
    generalize hact : l[t] = act at hrow hbx
    obtain ⟨y1, y2, y3, y4, y5⟩ := act
    subst hbx
    refine needSome_mk (by rw [sub_p5]; exact ha) ⟨by omega, h1, _, _, _, _, _, by rw [Int.toNat_natCast]; exact rowAt_keep hrow (kw hW.kp), ?_⟩
    refine var_mk (cs := actC09 (y1, y2, y3, y4, (b'.toNat : Int))) rfl rfl (fun r54 w56 hr o54 k56 hs => ⟨_, _, _, _, _, o54.row, (do_spec9 A (hW.keep k56) hE (by omega) (by omega) y1 y2 y3 y4 b').mono ?_⟩)
    rintro e w63 ⟨r', f', d', fr', P', top', s', rfl, h63, hPl, lto⟩
    have l43 := o51.lt
    have z56 := k56.size
    refine ⟨_, _, rfl, BIf_mk (fun h => by cases h) (fun _ => ⟨inR64 (by omega), ⟨t + 1, r', f', d', fr', P', top', s', rfl, by omega, rfl, h63, by omega, (o51.keep k56).ext lto.1 (fun hh => n43 _ hh rfl), fun j hj => ?_⟩, by dsimp only; omega⟩)⟩
    rcases lto.2 j hj with g | g
    · exact n43 j g
    · omega
  · -- power is lost in the midst of the last act
    have hu := hW.U.ok
    rw [hW.k] at hu
    have ltU := hW.U.lt
    have ltR := hW.R.A.lt
    refine (refUCopy_spec9 hW.R hu (by omega) (by omega)).mono ?_
    rintro e w88 ⟨r3, fr3, rfl, hR3, hW3, hY3, k88⟩
    have h88 := hW.keep k88
    have z88 := k88.size
    refine ⟨_, rfl, _, (o7.keep h88.kp).cell 0 (by simp), (Stop_spec8 h88.U.S.B.D aft haft).mono ?_⟩
    rintro e w92 ⟨rfl, hD92, x92⟩
    refine ⟨rfl, ?_⟩
    have rdU : UB r rd f rd := .inr (.inr (.inl rfl))
    have dB : ∀ j, RuW r3 fr3 j → ¬ UB r rd f j ∧ ¬ UnY f.x j := fun j hj => ⟨fun hh => by have := hW3 j hj; have := ltU.1 j hh; omega, fun hh => by have := hW3 j hj; have := ltU.2 j hh; omega⟩
    have yB : ∀ j, RuY fr3 j → ¬ UB r rd f j := fun j hj => hW.ys j (hY3 j hj)
    have rsS : ∀ {j}, j = rd → UB r rd f j := fun e => by rw [e]; exact rdU
    have U92 : UAt w92 w8.heap.size r rd f { d with stops := true, left := if 0 > aft then 0 else aft } s t := by
      have hU := h88.U
      refine ⟨⟨⟨hU.S.B.S.ext x92 (fun j hj hh => hU.S.B.sep j hj (by rw [show j = rd from hh]; exact .inl rfl)), hD92, hU.S.B.sep, hU.S.B.dn, hU.S.B.sn, Nat.le_trans hU.S.B.z x92.size⟩, hU.S.p, hU.S.I, hU.S.N, hU.S.k⟩, hU.M.ext x92 (fun j hj hh => hU.sep j hj (by rw [show j = rd from hh]; exact .inr (.inl rfl))) (fun j hj hh => hU.ysep j hj (rsS hh)), hU.O, hU.t, hU.T, hU.sep, hU.ysep, hU.n⟩
    have R92 : RuS w92 r2 k fr P top s := ⟨h88.R.A.ext x92 (fun j hj hh => (hW.ws j hj).1 (rsS hh)) (fun j hj hh => hW.ys j hj (rsS hh)), h88.R.z, h88.R.K⟩
    have B92 : RuS w92 r3 k fr3 P top s := ⟨hR3.A.ext x92 (fun j hj hh => (dB j hj).1 (rsS hh)) (fun j hj hh => yB j hj (rsS hh)), hR3.z, hR3.K⟩
    have o92 := (o51.keep k88).ext x92 (fun hh => n43 _ (.inl (rsS hh)) rfl)
    have kp92 : Keep w8 w92 := h88.kp.ext x92 (fun j hj => hW.U.ge j (rsS hj))
    have hk92 : (DevS.mk d.img d.pend true (if 0 > aft then 0 else aft)).n / 64 = k := hW.k
    have z92 := x92.size
    have ltB := hR3.A.lt
    let PO : Value → World → Prop := fun err w146 => ∃ (e' : Option Nat) (q' : DevP) (d' : DevS) (fB : RuF) (PB : List RuE) (topB : Int) (s1 : UnS), err = errO A e' ∧ (∀ c, e' = some c → c < 19) ∧ DevAt w146 rd q' d' ∧ d'.n = d.n ∧ OC k t s e' d' s1 ∧
      (∀ j, DevB rd q' j → w8.heap.size ≤ j ∧ ¬ RuW r2 fr j ∧ ¬ RuY fr j ∧ ¬ RuW r3 fB j ∧ ¬ RuY fB j) ∧ RuS w146 r2 k fr P top s ∧ RuS w146 r3 k fB PB topB s1 ∧ PB.length ≤ 2 ^ 20 ∧ Keep w8 w146
    have fin : ∀ (wa wb wb' wc : World) (p : Option Nat × UnS) (e' : Option Nat) (fB : RuF) (PB : List RuE) (topB : Int), Keep w92 wa → Outc wa w8.heap.size r rd f { d with stops := true, left := if 0 > aft then 0 else aft } s t p e' wb → (p.1 ≠ none → p.2 = s) → (∀ c, p.1 = some c → c < 19) → Keep wb wb' →
        RuS wc r3 k fB PB topB p.2 → RuTo r3 fr3 fB wb' wc → PB.length ≤ 2 ^ 20 → PO (errO A e') wc := by
      intro wa wb wb' wc p e' fB PB topB ka ho hp1 hp2 kb' hRB hto hPB
      have xe := ho.ext
      obtain ⟨hc, q', d', hD', hn', hOC, hq'⟩ := ho.power hp1 hp2
      rw [hk92] at hOC
      have za := ka.size
      have zb := xe.size
      have zb' := kb'.size
      have nB : ∀ j, DevB rd q' j → j < wb.heap.size := hD'.lt
      have notW3 : ∀ j, DevB rd q' j → ¬ RuW r3 fr3 j := fun j hj hh => by
        rcases hq' j hj with g | g
        · exact (dB j hh).1 g
        · have := ltB.1 j hh; omega
      refine ⟨e', q', d', fB, PB, topB, p.2, rfl, hc, (hD'.keep kb').ext hto.1 notW3, hn', hOC, fun j hj => ⟨?_, fun hh => ?_, fun hh => ?_, fun hh => ?_, fun hh => ?_⟩, ⟨?_, hW.R.z, hW.R.K⟩, hRB, hPB, ?_⟩
      · rcases hq' j hj with g | g
        · exact hW.U.ge j g
        · have := kp92.size; omega
      · rcases hq' j hj with g | g
        · exact (hW.ws j hh).1 g
        · have := ltR.1 j hh; omega
      · rcases hq' j hj with g | g
        · exact hW.ys j hh g
        · have := ltR.2 j hh; omega
      · rcases hto.2.1 j hh with g | g
        · exact notW3 j hj g
        · have := nB j hj; omega
      · rcases hto.2.2 j hh with g | g
        · rcases hq' j hj with g2 | g2
          · exact yB j g g2
          · have := ltB.2 j g; omega
        · have := nB j hj; omega
      · refine (((R92.A.keep ka).ext xe (fun j hj hh => (hW.ws j hj).1 hh) (fun j hj hh => hW.ys j hj hh)).keep kb').ext hto.1 (fun j hj hh => ?_) (fun j hj hh => ?_)
        · have := hW3 j hh; have := ltR.1 j hj; omega
        · have := hW3 j hh; have := ltR.2 j hj; omega
      · exact ((((kp92.trans ka).ext xe hW.U.ge).trans kb').ext hto.1 (fun j hj => by have := hW3 j hj; have := hW.kp.size; omega))
    refine ⟨PO, ⟨_, o92.cell 0 (by simp [actC09]), BIf_dec (fun h0 => ?_) (fun h0 => BIf_dec (fun h2 => ?_) (fun h2 => ?_))⟩, ?_⟩
    · -- Write
      have kd : Keep w92 (World.drew w92) := Ext.drew _ _
      have od := o92.keep kd
      refine ⟨_, od.cell 1 (by simp [actC09]), _, od.cell 2 (by simp [actC09]), _, _, _, _, _, od.row, (page_spec9 x1 x2 x3 x4 b _).mono ?_⟩
      rintro e w103 ⟨s104, rfl, ho, hf, k103⟩
      have o103 := od.keep k103
      have kk := kd.trans k103
      have zd := kd.size
      refine ⟨s104, rfl, ⟨_, o103.cell 2 (by simp [actC09]), rfl⟩, ⟨_, o103.cell 1 (by simp [actC09]), rfl⟩, (Write_spec9 A (U92.keep kk) (hB.keep (kp92.trans kk)) (by omega) x2 x3 s104 _ ho.bytes (pageA_le _ _) (fun j hj hh => by have := hf j hj; have := ltU.1 j hh; omega)).mono ?_⟩
      rintro e w108 ⟨e', rfl, hout⟩
      have xe := hout.ext
      have o108 := o103.ext xe (fun hh => n43 _ (.inl hh) rfl)
      have kd2 : Keep w108 (World.drew w108) := Ext.drew _ _
      have od2 := o108.keep kd2
      have z103 := kk.size
      have z108 := xe.size
      refine ⟨_, rfl, _, od2.cell 1 (by simp [actC09]), _, od2.cell 2 (by simp [actC09]), _, _, _, _, _, od2.row, (page_spec9 x1 x2 x3 x4 b _).mono ?_⟩
      rintro e w118 ⟨s119, rfl, ho2, hf2, k118⟩
      have o118 := od2.keep k118
      have kk2 := kd2.trans k118
      have zd2 := kd2.size
      have B118 : RuS w118 r3 k fr3 P top s := (⟨(B92.keep kk).A.ext xe (fun j hj hh => (dB j hj).1 hh) (fun j hj hh => yB j hj hh), B92.z, B92.K⟩ : RuS w108 r3 k fr3 P top s).keep kk2
      refine ⟨s119, rfl, ⟨_, o118.cell 2 (by simp [actC09]), rfl⟩, ⟨_, o118.cell 1 (by simp [actC09]), rfl⟩, (refWrite_spec9 B118 hu (by omega) (by omega) x2 x3 s119 _ ho2.bytes (pageA_le _ _) (fun j hj hh => by have := hf2 j hj; have := ltB.1 j hh; omega)).mono ?_⟩
      rintro e w123 ⟨rfl, fB, PB, topB, hRB, hPl, hto⟩
      rw [hk92] at hout
      exact ⟨_, rfl, fin w103 w108 w118 w123 _ e' fB PB topB kk hout writeP_same writeP_lt kk2 hRB hto (by omega)⟩
    · -- Trim
      refine ⟨_, o92.cell 1 (by simp [actC09]), _, o92.cell 2 (by simp [actC09]), (Trim_spec9 A U92 (hB.keep kp92) (by omega) x2 x3).mono ?_⟩
      rintro e w128 ⟨e', rfl, hout⟩
      have xe := hout.ext
      have o128 := o92.ext xe (fun hh => n43 _ (.inl hh) rfl)
      have B128 : RuS w128 r3 k fr3 P top s := ⟨B92.A.ext xe (fun j hj hh => (dB j hj).1 hh) (fun j hj hh => yB j hj hh), B92.z, B92.K⟩
      refine ⟨_, rfl, _, o128.cell 1 (by simp [actC09]), _, o128.cell 2 (by simp [actC09]), (refTrim_spec9 B128 hu (by omega) (by omega) x2 x3).mono ?_⟩
      rintro e w133 ⟨rfl, fB, hRB, hto⟩
      rw [hk92] at hout
      exact ⟨_, rfl, fin w92 w128 w128 w133 _ e' fB P top (Ext.refl _ _) hout trimP_same trimP_lt (Ext.refl _ _) hRB hto (by omega)⟩
    · -- Seal
      refine ⟨_, o92.cell 1 (by simp [actC09]), (Seal_spec9 A U92 (hB.keep kp92) (by omega) x2).mono ?_⟩
      rintro e w137 ⟨n', e', rfl, hout, _⟩
      have xe := hout.ext
      have o137 := o92.ext xe (fun hh => n43 _ (.inl hh) rfl)
      have B137 : RuS w137 r3 k fr3 P top s := ⟨B92.A.ext xe (fun j hj hh => (dB j hj).1 hh) (fun j hj hh => yB j hj hh), B92.z, B92.K⟩
      refine ⟨_, _, rfl, _, o137.cell 1 (by simp [actC09]), (refSeal_spec9 B137 hu (by omega) x2).mono ?_⟩
      rintro e w142 ⟨rfl, fB, hRB, hto⟩
      rw [hk92] at hout
      exact ⟨_, _, rfl, fin w92 w137 w137 w142 _ e' fB P top (Ext.refl _ _) hout sealP_same sealP_lt (Ext.refl _ _) hRB hto (by omega)⟩
    · rintro err w146 ⟨e', q', d', fB, PB, topB, s1, rfl, hc, hD146, hn', hOC, hDB, R146, B146, hPB, kp146⟩
      intros
      have o146 := o7.keep kp146
      refine ⟨_, o146.cell 1 (by simp), _, o146.cell 2 (by simp), _, o146.cell 3 (by simp), (Crash_spec hD146 kept torn cut hkept (by have := hOC.1; omega)).mono ?_⟩
      rintro e w196 ⟨q'', rfl, hD196, f196⟩
      have kp196 : Keep w8 w196 := kp146.ext f196.1 (fun j hj => (hDB j hj).1)
      have hncr : (crashS d' kept torn cut).n = d.n := by
        rw [← hn']
        show (crashL kept torn cut 0 d'.pend d'.img).length / 64 = d'.img.length / 64
        rw [crashL_len (d := d') kept torn cut hD146.ok.m _ _ _ (fun x hx => hD146.ok.p x hx) rfl]
      obtain ⟨U', hI', hN', hcase⟩ := hOC.2 kept torn cut
      have R196 : RuS w196 r2 k fr P top s := ⟨R146.A.ext f196.1 (fun j hj hh => (hDB j hh).2.1 hj) (fun j hj hh => (hDB j hh).2.2.1 hj), R146.z, R146.K⟩
      have B196 : RuS w196 r3 k fB PB topB s1 := ⟨B146.A.ext f196.1 (fun j hj hh => (hDB j hh).2.2.2.1 hj) (fun j hj hh => (hDB j hh).2.2.2.2 hj), B146.z, B146.K⟩
      obtain ⟨s9, hs9, hT9⟩ : ∃ s9, (s9 = s ∨ s9 = s1) ∧ Tells U' s9 := by
        rcases hcase with ⟨g, _⟩ | ⟨g, _⟩ | ⟨g, _⟩
        · exact ⟨s1, .inr rfl, g⟩
        · exact ⟨s, .inl rfl, g⟩
        · exact ⟨s1, .inr rfl, g⟩
      have open9 : ∀ s9, Tells U' s9 → Calls Tryz.prog fn_unit_Open ⟨[ptrR' rd]⟩ w196 fun e w2 => ∃ (r : Nat) (f : UnF), e = .returned (.tuple ⟨[ptrR' r, .nilIface]⟩) ∧ UAt w2 w8.heap.size r rd f (crashS d' kept torn cut) ⟨U', s9.tr, s9.ep, s9.T⟩ (t + 1) ∧ Keep w196 w2 := by
        intro s9 hT
        have hdn'' : ∀ j, DevB rd q'' j → w8.heap.size ≤ j := fun j hj => (f196.2 j hj).elim (fun g => (hDB j g).1) (fun g => by have := kp146.size; omega)
        refine (Open_spec9 A (hB.keep kp196) hD196 rfl (by rw [hncr, hW.k]; exact hI') hT.1 hT.1.bound (by rw [hncr]; exact hW.U.S.k) hN' (by omega) hdn'' kp196.size).mono ?_
        rintro e w2 ⟨r', f', rfl, hU, _, _, _, k2⟩
        exact ⟨r', f', rfl, hU, k2⟩
      have sameT : ∀ s9, Tells U' s9 → SameS ⟨U', s9.tr, s9.ep, s9.T⟩ s9 := fun s9 hT => ⟨rfl, rfl, rfl, hT.2⟩
      -- one way for each state
      have go : ∀ s9, Tells U' s9 → (s9 = s1 ∧ e' = none ∨ s9 = s ∧ e' ≠ none ∨ s9 = s1 ∧ e' = some 11) → _ := fun s9 hT hs => open9 s9 hT
      obtain ⟨s9, hT9, hs9⟩ : ∃ s9, Tells U' s9 ∧ (s9 = s1 ∧ e' = none ∨ s9 = s ∧ e' ≠ none ∨ s9 = s1 ∧ e' = some 11) := by
        rcases hcase with ⟨g, h9⟩ | ⟨g, h9⟩ | ⟨g, h9⟩
        · exact ⟨s1, g, .inl ⟨rfl, h9⟩⟩
        · exact ⟨s, g, .inr (.inl ⟨rfl, h9⟩)⟩
        · exact ⟨s1, g, .inr (.inr ⟨rfl, h9⟩)⟩
      refine ⟨rfl, (open9 s9 hT9).mono ?_⟩
      rintro e w198 ⟨r', f', rfl, hU, k198⟩
      refine ⟨_, _, rfl, fun w2 => w2 = w198, ⟨trivial, BIf_mk (fun h => by cases h) (fun _ => BIf_mk (fun h => by cases h) (fun _ => rfl))⟩, ?_⟩
      rintro w202 rfl
      intros
      have kp202 := kp196.trans k198
      have toldB : ∀ {w2}, Keep w202 w2 → _ := fun {w2} hk => told_spec9 A (hU.keep hk) (B196.keep (k198.trans hk)) (hE.keep (kp202.trans hk)) ((hB.keep (kp202.trans hk)).g.sub uniG_sub) hPB
      have toldW : _ := told_spec9 A hU (R196.keep k198) (hE.keep kp202) ((hB.keep kp202).g.sub uniG_sub) (by omega)
      refine ⟨errO_isI A _, BIf_mk (fun hn => ?_) (fun hn => ?_)⟩
      · have en : e' = none := by rw [errO_nil] at hn; simpa using hn
        refine (toldB (Ext.refl _ _)).mono ?_
        rintro e w211 ⟨b9, rfl, hb9, k211⟩
        refine ⟨_, rfl, ?_, kw (kp202.trans k211)⟩
        rcases hs9 with ⟨rfl, _⟩ | ⟨_, h9⟩ | ⟨_, h9⟩
        · rw [hb9 (sameT _ hT9)]
        · exact absurd en h9
        · rw [en] at h9; cases h9
      · have en : e' ≠ none := fun h9 => by rw [h9] at hn; cases hn
        refine toldW.mono ?_
        rintro e w214 ⟨b9, rfl, hb9, k214⟩
        refine ⟨_, rfl, BIf_mk (fun _ => ⟨rfl, kw (kp202.trans k214)⟩) (fun hbf => ?_)⟩
        have hs11 : s9 = s1 ∧ e' = some 11 := by
          rcases hs9 with ⟨_, h9⟩ | ⟨rfl, _⟩ | h9
          · exact absurd h9 en
          · have := hb9 (sameT _ hT9)
            rw [this] at hbf; cases hbf
          · exact h9
        obtain ⟨rfl, rfl⟩ := hs11
        refine (numO_spec8 A (some 11) hc _ (hE.keep (kp202.trans k214))).mono ?_
        rintro e w217 ⟨rfl, k217⟩
        refine ⟨_, rfl, BIf_dec (fun _ => (toldB (k214.trans k217)).mono ?_) (fun hh => absurd rfl hh)⟩
        rintro e w220 ⟨b8, rfl, hb8, k220⟩
        refine ⟨_, rfl, ?_, kw (((kp202.trans k214).trans k217).trans k220)⟩
        rw [hb8 (sameT _ hT9)]
abbrev rdLoss09 : Rd (Int × Int × Int × Int) := Rd.pair (Rd.int .i64) (Rd.pair (Rd.int .u64) (Rd.pair (Rd.int .i64) (Rd.int .i64)))
theorem UnitPower_fin (n : Int) (sl0 : Slc) (l : List Act09) (x : Array Value) (b : Int × Int × Int × Int) (w : World) (hl : rowsR rdAct09 w sl0 l) (hx : rdLoss09.R w b x.toList) (A : Nat → Addr) (hE : Errs A w) :
    Calls Tryz.prog fn_tidewaterlaw09_UnitPower ⟨[.int .i64 n, sl0.v, .agg x]⟩ w fun e w' => e = .returned (.bool true) ∧ Keep w w' := by
  obtain ⟨b1, b2, b3, b4⟩ := b
  obtain ⟨_, _, hx, ⟨rfl, h1⟩, ⟨_, _, rfl, ⟨rfl, h2⟩, ⟨_, _, rfl, ⟨rfl, _⟩, ⟨rfl, _⟩⟩⟩⟩ := hx
  obtain ⟨lx⟩ := x
  rw [show lx = _ from hx]
  exact UnitPower_walk A n sl0 l b1 b2 b3 b4 h1 h2 w (acts_of09 hl) hE
end Go.D

