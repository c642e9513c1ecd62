-- Written by a program of this session (wip/xprint.py).
import Derived.Test.YtilkginahmfagaaDoorPFnExactReadFieldsx0
import Derived.Test.YtilkginahmfagaaDoorPFnExactReadFieldsx7
import Derived.Test.YtilkginahmfagaaDoorPFnExactReadFieldsx8
import Derived.Test.YtilkginahmfagaaDoorPFnExactReadFieldsx9
import Derived.Test.YtilkginahmfagaaDoorPFnExactReadFieldsx10
namespace Go.Proofs.YtilkginahmfagaaDoor.PFnExactReadFields
open Go.RowKit Go.Proofs.YtilkginahmfagaaDoorW.PrintWords Go.Proofs.YtilkginahmfagaaDoorW.PrintLast Go.Proofs.YtilkginahmfagaaDoorW.PrintMore
open Go.Proofs.YtilkginahmfagaaDoor.ShortK (bN bD bA sA sZ sS mR mB bX bLt bS cz2 fz2 cx2 cz3 fz3 cx3 cz4 fz4 cx4 cz5 fz5 cx5 cz6 fz6 cx6 cz7 fz7 cx7 cz8 fz8 cx8 cz9 fz9 cx9 cz10 fz10 cx10 cz11 fz11 cx11 cz12 fz12 cx12)
open Go.Proofs.YtilkginahmfagaaDoor.StoreK (bm)
attribute [local go_sem] Go.Proofs.YtilkginahmfagaaDoor.StoreK.isSome_setCell max2_int min2_int max_two min_two max_three min_three max_four min_four   -- for this text's walks alone
set_option linter.unusedVariables false
set_option linter.unusedSimpArgs false

/-! ### impl_ReadFields: function 13 -/
def impl_ReadFields.fin (k : Nat) (a0 : ByteArray) (out : List S65) (short : Bool) : Option (List S65 × Bool) := if short = true then some (([] : List S65), false) else (impl_GoodFields.f k out).bind fun g => if g = true then (impl_fieldsBytes.f k out).bind fun t => if t.toList = a0.toList then some (out, true) else some (([] : List S65), false) else some (([] : List S65), false)
def impl_ReadFields.l0 : Nat → ByteArray → List S65 → ByteArray → Bool → Option (List S65 × Bool)
  | 0, _, _, _, _ => none
  | k + 1, a0, out, left, short => if left.toList = ([] : List UInt8) ∨ short = true ∨ ¬ ((out.length : Int) ≤ 30) then impl_ReadFields.fin k a0 out short else (impl_cursor_field.f k left short).bind fun r => impl_ReadFields.l0 k a0 (out ++ [(⟨r.1, r.2.1⟩ : S65)]) r.2.2.1 r.2.2.2
def impl_ReadFields.f (k : Nat) (a0 : ByteArray) : Option (List S65 × Bool) := (impl_cursor_take.f a0 false 2).bind fun r => impl_ReadFields.l0 k a0 ([] : List S65) r.2.1 r.2.2
theorem impl_ReadFields.mono_fin (k : Nat) (a0 : ByteArray) (out : List S65) (short : Bool) : LeO (impl_ReadFields.fin k a0 out short) (impl_ReadFields.fin (k + 1) a0 out short) := by
  unfold impl_ReadFields.fin
  exact LeO.ite (LeO.refl _) (LeO.bind (impl_GoodFields.mono _ _) (fun _ => LeO.ite (LeO.bind (impl_fieldsBytes.mono _ _) (fun _ => LeO.refl _)) (LeO.refl _)))
theorem impl_ReadFields.mono_l : ∀ k a0 out left short, LeO (impl_ReadFields.l0 k a0 out left short) (impl_ReadFields.l0 (k + 1) a0 out left short)
  | 0, _, _, _, _ => fun r h => by simp [impl_ReadFields.l0] at h
  | k + 1, a0, out, left, short => by
    unfold impl_ReadFields.l0
    exact LeO.ite (impl_ReadFields.mono_fin _ _ _ _) (LeO.bind (impl_cursor_field.mono _ _ _) (fun _ => impl_ReadFields.mono_l k _ _ _ _))
theorem impl_ReadFields.mono : ∀ (a0 : ByteArray) (k : Nat), LeO (impl_ReadFields.f k a0) (impl_ReadFields.f (k + 1) a0) := by
  intro a0 k
  unfold impl_ReadFields.f
  exact LeO.bind (LeO.refl _) (fun _ => impl_ReadFields.mono_l _ _ _ _ _)
set_option maxHeartbeats 4000000 in
set_option maxRecDepth 100000 in
theorem impl_ReadFields.calls (k : Nat) (a0 : ByteArray) (r1 : List (S65)) (r2 : Bool) (w : World) (h : impl_ReadFields.f k a0 = some (r1, r2)) :
    Calls Tryd.prog 13 #[.string a0] w fun e w' => ∃ v0_ : Value, e = .returned (.tuple #[v0_, .bool r2]) ∧ Kd.R k65 65 w' w.heap.size (fun _ => True) v0_ r1 ∧ Below w.heap.size w w' := by
  obtain ⟨⟨r, left, short⟩, A1, H⟩ := Option.bind_eq_some_iff.mp h
  clear h
  have HA1 := Aside0.mk A1
  have HH := Aside0.mk H
  clear A1 H
  have hW2 : ∃ W2, (w.alloc (.cells #[.string a0, .bool false] 62)).alloc (.cells #[] 65) = W2 ∧ Below w.heap.size w W2 ∧ IsS62 w W2 w.heap.size a0 false ∧ Kd.R k65 65 W2 w.heap.size (fun k_ => k_ ≠ w.heap.size) (.slice (some ⟨w.heap.size + 1, 0, none⟩) 0 0) ([] : List S65) := by
    have hB0 : Below w.heap.size w (w.alloc (.cells #[.string a0, .bool false] 62)) := (Below.refl _ w).alloc (Nat.le_refl _) _
    have hI0 : IsS62 w (w.alloc (.cells #[.string a0, .bool false] 62)) w.heap.size a0 false := ⟨blk_new w _, Nat.le_refl _⟩
    have hs : (w.alloc (.cells #[.string a0, .bool false] 62)).heap.size = w.heap.size + 1 := by simp
    refine ⟨_, rfl, hB0.alloc (by rw [hs]; omega) _, hI0.alloc _, fun q hq => ?_, [], ?_, Reps.none _ _⟩
    · have e : w.heap.size + 1 = q := by simpa [Value.ownBlock] using hq
      omega
    · have h2 := World.ownsRow_lit (base := w.heap.size) (e := 65) (size := k65.sz) (w.alloc (.cells #[.string a0, .bool false] 62)) #[] 0 (by rw [hs]; omega) (Nat.zero_le _) (by simp)
      rw [hs] at h2
      exact h2
  obtain ⟨W2, hW, hb, hi, ho⟩ := hW2
  have HW := Aside0.mk hW
  have HB := Aside0.mk hb
  have HI := Aside0.mk hi
  have HO := Aside0.mk ho
  clear hW hb hi ho
  generalize hgb : w.heap.size = gb at HB HI HO ⊢
  have HG := Aside0.mk hgb
  clear hgb
  go_enter Tryd.func13, Tryd.ntmps13
  go_wp2_with fail
  rw [HW.out, HG.out]
  refine (impl_cursor_take.calls gb a0 false 2 r left short w W2 HI.out (by rw [HG.out]; exact HB.out) HA1.out).mono ?_
  rintro e w1 ⟨rfl, hi, hb, hk⟩
  have HB1 := Aside0.mk (show Below gb w w1 from by rw [← HG.out]; exact hb)
  have HI1 := Aside0.mk hi
  have HO1 := Aside0.mk (Kd.R_keep HO.out hk (fun _ h => h))
  clear hi hb hk HW HB HI HO HA1
  go_wp2_with fail
  go_loopg [5] k (fun kq v5 w' => ∃ (x5 : List S65) (lf : ByteArray) (sh : Bool), Aside0 (impl_ReadFields.l0 kq a0 x5 lf sh = some (r1, r2)) ∧ Aside0 (kq ≤ k) ∧ Aside0 (Kd.R k65 65 w' gb (fun k_ => k_ ≠ gb) v5 x5) ∧ Aside0 (IsS62 w w' gb lf sh) ∧ Aside0 (Below gb w w'))
  case atStart => exact ⟨[], left, short, HH, ⟨Nat.le_refl _⟩, HO1, HI1, HB1⟩
  case round =>
    obtain ⟨x5, lf, sh, HA, HK1, HO, HI, HB⟩ := hrel
    clear HH HO1 HI1 HB1
    cases gk with
    | zero => exact absurd HA.out (by simp [impl_ReadFields.l0])
    | succ k1 =>
      have H := HA.out
      clear HA
      simp only [impl_ReadFields.l0] at H
      have HC := Aside0.mk H
      clear H
      obtain ⟨Ao, co, eo⟩ := Kd.R_slice HO.out
      subst eo
      have hz0 := (blk_cell HI.out.1 0).trans rfl
      have hz1 := (blk_cell HI.out.1 1).trans rfl
      have H := HC.out
      clear HC
      cases sh with
      | true =>
        rw [if_pos (Or.inr (Or.inl rfl))] at H
        simp only [impl_ReadFields.fin, if_true, Option.some.injEq, Prod.mk.injEq] at H
        obtain ⟨rfl, rfl⟩ := H
        by_cases e1 : lf.toList = ([] : List UInt8)
        · have e2 : lf.toList.isEmpty = true := by rw [e1]; rfl
          go_wp2
          go_ret2
          exact ⟨_, rfl, Kd.R_nil _ _ _ _ _, HB.out⟩
        · have e2 : lf.toList.isEmpty = false := by cases hh : lf.toList with | nil => exact absurd hh e1 | cons _ _ => rfl
          go_wp2
          go_ret2
          exact ⟨_, rfl, Kd.R_nil _ _ _ _ _, HB.out⟩
      | false =>
        by_cases e1 : lf.toList = ([] : List UInt8)
        · have e2 : lf.toList.isEmpty = true := by rw [e1]; rfl
          rw [if_pos (Or.inl e1)] at H
          have hfin : (impl_GoodFields.f k1 x5).bind (fun g => if g = true then (impl_fieldsBytes.f k1 x5).bind fun t => if t.toList = a0.toList then some (x5, true) else some (([] : List S65), false) else some (([] : List S65), false)) = some (r1, r2) := H
          clear H
          have hlen : x5.length ≤ co := by
            obtain ⟨A', c', e', h1, _⟩ := Kd.R_reads HO.out
            cases e'
            exact h1
          have hread : Kd.C k65 wr Ao x5.length x5 := by
            obtain ⟨A', c', e', _, h1⟩ := Kd.R_reads HO.out
            cases e'
            exact h1
          have HL := Aside0.mk hlen
          have HRd := Aside0.mk hread
          clear hlen hread
          obtain ⟨gd, B1, H⟩ := Option.bind_eq_some_iff.mp hfin
          clear hfin
          have HB1 := Aside0.mk B1
          clear B1
          cases gd with
          | false =>
            simp only [Bool.false_eq_true, if_false, Option.some.injEq, Prod.mk.injEq] at H
            obtain ⟨rfl, rfl⟩ := H
            go_wp2_with fail
            refine (impl_GoodFields.calls k1 Ao co x5 false _ (by exact HRd.out) HL.out HB1.out).mono ?_
            rintro e w3 ⟨rfl, hb3⟩
            have HB3 := Aside0.mk (HB.out.trans (hb3.mono (by have := HB.out.size; have := HG.out; omega)))
            clear hb3
            go_wp2
            go_ret2
            exact ⟨_, rfl, Kd.R_nil _ _ _ _ _, HB3.out⟩
          | true =>
            simp only [if_true] at H
            obtain ⟨t, B2, H⟩ := Option.bind_eq_some_iff.mp H
            have HB2 := Aside0.mk B2
            clear B2
            by_cases ht : t.toList = a0.toList
            · rw [if_pos ht] at H
              have ht1 : (t.toList == a0.toList) = true := beq_iff_eq.mpr ht
              clear ht
              simp only [Option.some.injEq, Prod.mk.injEq] at H
              obtain ⟨rfl, rfl⟩ := H
              go_wp2_with fail
              refine (impl_GoodFields.calls k1 Ao co x5 true _ (by exact HRd.out) HL.out HB1.out).mono ?_
              rintro e w3 ⟨rfl, hb3⟩
              have HB3 := Aside0.mk (HB.out.trans (hb3.mono (by have := HB.out.size; have := HG.out; omega)))
              have HR3 := Aside0.mk (Kd.C_below HRd.out hb3)
              have HO3 := Aside0.mk (Kd.R_below HO.out hb3)
              clear hb3 HB1
              go_wp2_with fail
              refine (impl_fieldsBytes.calls k1 Ao co x5 t _ (by exact HR3.out) HL.out HB2.out).mono ?_
              rintro e w4 ⟨rfl, hb4⟩
              have hb4' := (show Below w3.heap.size w3 w4 from by first | exact hb4 | exact hb4.below)
              have HB4 := Aside0.mk (HB3.out.trans (hb4'.mono (by have := HB3.out.size; have := HG.out; omega)))
              have HO4 := Aside0.mk (Kd.R_below HO3.out hb4')
              clear hb4 hb4'
              go_wp2
              go_ret2
              exact ⟨_, rfl, Kd.R_mono HO4.out (fun _ _ => trivial), HB4.out⟩
            · rw [if_neg ht] at H
              have ht1 : (t.toList == a0.toList) = false := beq_eq_false_iff_ne.mpr ht
              clear ht
              simp only [Option.some.injEq, Prod.mk.injEq] at H
              obtain ⟨rfl, rfl⟩ := H
              go_wp2_with fail
              refine (impl_GoodFields.calls k1 Ao co x5 true _ (by exact HRd.out) HL.out HB1.out).mono ?_
              rintro e w3 ⟨rfl, hb3⟩
              have HB3 := Aside0.mk (HB.out.trans (hb3.mono (by have := HB.out.size; have := HG.out; omega)))
              have HR3 := Aside0.mk (Kd.C_below HRd.out hb3)
              clear hb3 HB1
              go_wp2_with fail
              refine (impl_fieldsBytes.calls k1 Ao co x5 t _ (by exact HR3.out) HL.out HB2.out).mono ?_
              rintro e w4 ⟨rfl, hb4⟩
              have hb4' := (show Below w3.heap.size w3 w4 from by first | exact hb4 | exact hb4.below)
              have HB4 := Aside0.mk (HB3.out.trans (hb4'.mono (by have := HB3.out.size; have := HG.out; omega)))
              clear hb4 hb4'
              go_wp2
              go_ret2
              exact ⟨_, rfl, Kd.R_nil _ _ _ _ _, HB4.out⟩
        · have e2 : lf.toList.isEmpty = false := by cases hh : lf.toList with | nil => exact absurd hh e1 | cons _ _ => rfl
          by_cases e3 : (x5.length : Int) ≤ 30
          · rw [if_neg (by simp only [e1, e3, Bool.false_eq_true, not_true, or_self, not_false_eq_true])] at H
            have e4 : decide ((x5.length : Int) ≤ 30) = true := decide_eq_true e3
            obtain ⟨⟨f1, f2, lf2, sh2⟩, B1, H⟩ := Option.bind_eq_some_iff.mp H
            have HB1 := Aside0.mk B1
            have HH := Aside0.mk H
            clear B1 H
            go_wp2_with fail
            refine (impl_cursor_field.calls k1 gb lf false f1 f2 lf2 sh2 w _ HI.out (by rw [HG.out]; exact HB.out) HB1.out).mono ?_
            rintro e w3 ⟨rfl, hi, hb, hk⟩
            have HB3 := Aside0.mk (show Below gb w w3 from by rw [← HG.out]; exact hb)
            have HI3 := Aside0.mk hi
            have HO3 := Aside0.mk (Kd.R_keep HO.out hk (fun _ h => h))
            clear hi hb hk HB HI HO HB1
            go_wp2_with (first | ((with_reducible refine gate_builtin (b := .append) (xs := #[.tmp 29, .tmp 32]) rfl ?_); (try (refine gate_guard (by rfl) ?_; dsimp only)); at_builtin; refine Kd.R_append k65 (w0 := w) gb rfl (.tmp 29) (.tmp 32) 38 65 (.agg #[(.string ⟨#[]⟩), (.string ⟨#[]⟩)]) 32 rfl Tryd.underlying38 info65 rfl (by decide) (by omega) (.slice Ao x5.length co) x5 (⟨f1, f2⟩ : S65) [.string f1, .string f2] (fun k_ => k_ ≠ gb) (fun _ => False) rfl rfl ?aP (fun _ hk => hk.elim) ?aF ?aO ?aB ?aS ?aL ?_; (case aP => exact k65_mkM _ _ _ (⟨f1, f2⟩ : S65)); (case aB => exact HB3.out); (case aF => exact (fun k_ hk => HI3.out.fresh k_ hk)); (case aO => exact HO3.out); (case aS => exact (by have h1_ := HB3.out.size; have h2_ := HG.out; omega)); (case aL => omega); intro v157 w56 ho hb hg hat; have n0_ := Aside0.mk (IsS62.grown HI3.out hg (Kd.R_away HO3.out (fun _ hk => hk))); have n1_ := Aside0.mk hb; have n2_ := Aside0.mk ho; clear HB3; clear HI3; clear HO3; clear ho hb hg hat))
            go_roundg k1
            case measure => have := HK1.out; omega
            case rel => exact ⟨_, lf2, sh2, HH, ⟨by have := HK1.out; omega⟩, n2_, n0_, n1_⟩
          · rw [if_pos (Or.inr (Or.inr e3))] at H
            have e4 : decide ((x5.length : Int) ≤ 30) = false := decide_eq_false e3
            have hfin : (impl_GoodFields.f k1 x5).bind (fun g => if g = true then (impl_fieldsBytes.f k1 x5).bind fun t => if t.toList = a0.toList then some (x5, true) else some (([] : List S65), false) else some (([] : List S65), false)) = some (r1, r2) := H
            clear H
            have hlen : x5.length ≤ co := by
              obtain ⟨A', c', e', h1, _⟩ := Kd.R_reads HO.out
              cases e'
              exact h1
            have hread : Kd.C k65 wr Ao x5.length x5 := by
              obtain ⟨A', c', e', _, h1⟩ := Kd.R_reads HO.out
              cases e'
              exact h1
            have HL := Aside0.mk hlen
            have HRd := Aside0.mk hread
            clear hlen hread
            obtain ⟨gd, B1, H⟩ := Option.bind_eq_some_iff.mp hfin
            clear hfin
            have HB1 := Aside0.mk B1
            clear B1
            cases gd with
            | false =>
              simp only [Bool.false_eq_true, if_false, Option.some.injEq, Prod.mk.injEq] at H
              obtain ⟨rfl, rfl⟩ := H
              go_wp2_with fail
              refine (impl_GoodFields.calls k1 Ao co x5 false _ (by exact HRd.out) HL.out HB1.out).mono ?_
              rintro e w3 ⟨rfl, hb3⟩
              have HB3 := Aside0.mk (HB.out.trans (hb3.mono (by have := HB.out.size; have := HG.out; omega)))
              clear hb3
              go_wp2
              go_ret2
              exact ⟨_, rfl, Kd.R_nil _ _ _ _ _, HB3.out⟩
            | true =>
              simp only [if_true] at H
              obtain ⟨t, B2, H⟩ := Option.bind_eq_some_iff.mp H
              have HB2 := Aside0.mk B2
              clear B2
              by_cases ht : t.toList = a0.toList
              · rw [if_pos ht] at H
                have ht1 : (t.toList == a0.toList) = true := beq_iff_eq.mpr ht
                clear ht
                simp only [Option.some.injEq, Prod.mk.injEq] at H
                obtain ⟨rfl, rfl⟩ := H
                go_wp2_with fail
                refine (impl_GoodFields.calls k1 Ao co x5 true _ (by exact HRd.out) HL.out HB1.out).mono ?_
                rintro e w3 ⟨rfl, hb3⟩
                have HB3 := Aside0.mk (HB.out.trans (hb3.mono (by have := HB.out.size; have := HG.out; omega)))
                have HR3 := Aside0.mk (Kd.C_below HRd.out hb3)
                have HO3 := Aside0.mk (Kd.R_below HO.out hb3)
                clear hb3 HB1
                go_wp2_with fail
                refine (impl_fieldsBytes.calls k1 Ao co x5 t _ (by exact HR3.out) HL.out HB2.out).mono ?_
                rintro e w4 ⟨rfl, hb4⟩
                have hb4' := (show Below w3.heap.size w3 w4 from by first | exact hb4 | exact hb4.below)
                have HB4 := Aside0.mk (HB3.out.trans (hb4'.mono (by have := HB3.out.size; have := HG.out; omega)))
                have HO4 := Aside0.mk (Kd.R_below HO3.out hb4')
                clear hb4 hb4'
                go_wp2
                go_ret2
                exact ⟨_, rfl, Kd.R_mono HO4.out (fun _ _ => trivial), HB4.out⟩
              · rw [if_neg ht] at H
                have ht1 : (t.toList == a0.toList) = false := beq_eq_false_iff_ne.mpr ht
                clear ht
                simp only [Option.some.injEq, Prod.mk.injEq] at H
                obtain ⟨rfl, rfl⟩ := H
                go_wp2_with fail
                refine (impl_GoodFields.calls k1 Ao co x5 true _ (by exact HRd.out) HL.out HB1.out).mono ?_
                rintro e w3 ⟨rfl, hb3⟩
                have HB3 := Aside0.mk (HB.out.trans (hb3.mono (by have := HB.out.size; have := HG.out; omega)))
                have HR3 := Aside0.mk (Kd.C_below HRd.out hb3)
                clear hb3 HB1
                go_wp2_with fail
                refine (impl_fieldsBytes.calls k1 Ao co x5 t _ (by exact HR3.out) HL.out HB2.out).mono ?_
                rintro e w4 ⟨rfl, hb4⟩
                have hb4' := (show Below w3.heap.size w3 w4 from by first | exact hb4 | exact hb4.below)
                have HB4 := Aside0.mk (HB3.out.trans (hb4'.mono (by have := HB3.out.size; have := HG.out; omega)))
                clear hb4 hb4'
                go_wp2
                go_ret2
                exact ⟨_, rfl, Kd.R_nil _ _ _ _ _, HB4.out⟩

/-! ### laws_eqField: function 42 -/
def laws_eqField.f (a0_0 : ByteArray) (a0_1 : ByteArray) (a1_0 : ByteArray) (a1_1 : ByteArray) : Option (Bool) := if a0_0.toList = a1_0.toList then (if a0_1.toList = a1_1.toList then (some true) else (some false)) else (some false)
set_option maxHeartbeats 64000000 in
set_option maxRecDepth 100000 in
theorem laws_eqField.calls (a0_0 : ByteArray) (a0_1 : ByteArray) (a1_0 : ByteArray) (a1_1 : ByteArray) (r : Bool) (w : World) (h : laws_eqField.f a0_0 a0_1 a1_0 a1_1 = some r) :
  Calls Tryd.prog 42 #[.agg #[.string a0_0, .string a0_1], .agg #[.string a1_0, .string a1_1]] w fun e w' => e = .returned (.bool r) ∧ Below w.heap.size w w' := by
 have hu65 := Tryd.underlying65
 have HB := Aside0.mk (Below.refl w.heap.size w)
 have H : (if a0_0.toList = a1_0.toList then (if a0_1.toList = a1_1.toList then (some true) else (some false)) else (some false)) = some r := h
 clear h
 by_cases c3 : a0_0.toList = a1_0.toList
 ·rw [if_pos c3] at H
  have c3b0 : (a0_0.toList == a1_0.toList) = true := beq_iff_eq.mpr c3
  have c3b1 : (a0_0.toList != a1_0.toList) = false := bne_eq_false_iff_eq.mpr c3
  clear c3
  by_cases c4 : a0_1.toList = a1_1.toList
  ·rw [if_pos c4] at H
   have c4b0 : (a0_1.toList == a1_1.toList) = true := beq_iff_eq.mpr c4
   have c4b1 : (a0_1.toList != a1_1.toList) = false := bne_eq_false_iff_eq.mpr c4
   clear c4
   obtain rfl := Option.some.inj H
   go_enter Tryd.func42, Tryd.ntmps42
   go_wp2_with (first | ((with_reducible refine gate_dst (N := 2) rfl ?_); refine box_event ?hg (N := 2) ?hd (cs := #[.string a0_0, .string a0_1]) (t := 65) ?hr ?_; (case hd => rfl); (case hg => rfl); (case hr => first | (go_simp; done) | (go_simp; rfl)); intro gb240 hg w5 hbox hb; have n0_ := bS HB hb; have n1_ := Aside0.mk (hbox); have n2_ := Aside0.mk ((by rw [hg]; exact (below_size (by repeat (first | (with_reducible first | exact HB.out | apply below_alloc | apply pw_below_drewN | apply below_drew1) | exact HB.out))) : w.heap.size ≤ gb240)); have n3_ := n2_; clear HB; have HB := n0_; have BK240 := n1_; have GW240 := n2_; have GE240 := n3_; clear n0_ n1_ n2_ n3_; clear hb hbox hg) | ((with_reducible refine gate_dst (N := 3) rfl ?_); refine box_event ?hg (N := 3) ?hd (cs := #[.string a1_0, .string a1_1]) (t := 65) ?hr ?_; (case hd => rfl); (case hg => rfl); (case hr => first | (go_simp; done) | (go_simp; rfl)); intro gb241 hg w6 hbox hb; have n0_ := bX BK240 hb; have n1_ := bS HB hb; have n2_ := Aside0.mk (hbox); have n3_ := Aside0.mk ((by rw [hg]; exact (below_size (by repeat (first | (with_reducible first | exact HB.out | apply below_alloc | apply pw_below_drewN | apply below_drew1 | refine below_set ?_ GE240.out) | exact HB.out))) : w.heap.size ≤ gb241)); have n4_ := n3_; have n5_ := Aside0.mk ((by rw [hg]; exact Nat.ne_of_lt (bLt BK240) : gb240 ≠ gb241)); have n6_ := Aside0.mk ((by rw [hg]; exact Nat.ne_of_gt (bLt BK240) : gb241 ≠ gb240)); clear BK240; clear HB; have BK240 := n0_; have HB := n1_; have BK241 := n2_; have GW241 := n3_; have GE241 := n4_; have NB240_241 := n5_; have NB241_240 := n6_; clear n0_ n1_ n2_ n3_ n4_ n5_ n6_; clear hb hbox hg; have hnb7 := NB240_241.out; have hnc7 := NB241_240.out; obtain ⟨hcz8_0, hcz8_1⟩ := cz2 BK240; obtain ⟨hfz8_0, hfz8_1⟩ := fz2 BK240; obtain ⟨hcz9_0, hcz9_1⟩ := cz2 BK241; obtain ⟨hfz9_0, hfz9_1⟩ := fz2 BK241))
   go_ret
   exact ⟨by first | rfl | (simp [errW_none, errW_some] <;> rfl) | (simp [*, errW_none, errW_some] <;> rfl), by repeat (first | (with_reducible first | exact HB.out | apply below_alloc | apply pw_below_drewN | apply below_drew1 | refine below_set ?_ GE240.out | refine below_set ?_ GE241.out) | exact HB.out)⟩
  ·rw [if_neg c4] at H
   have c4b0 : (a0_1.toList == a1_1.toList) = false := beq_eq_false_iff_ne.mpr c4
   have c4b1 : (a0_1.toList != a1_1.toList) = true := bne_iff_ne.mpr c4
   obtain rfl := Option.some.inj H
   go_enter Tryd.func42, Tryd.ntmps42
   go_wp2_with (first | ((with_reducible refine gate_dst (N := 2) rfl ?_); refine box_event ?hg (N := 2) ?hd (cs := #[.string a0_0, .string a0_1]) (t := 65) ?hr ?_; (case hd => rfl); (case hg => rfl); (case hr => first | (go_simp; done) | (go_simp; rfl)); intro gb240 hg w10 hbox hb; have n0_ := bS HB hb; have n1_ := Aside0.mk (hbox); have n2_ := Aside0.mk ((by rw [hg]; exact (below_size (by repeat (first | (with_reducible first | exact HB.out | apply below_alloc | apply pw_below_drewN | apply below_drew1) | exact HB.out))) : w.heap.size ≤ gb240)); have n3_ := n2_; clear HB; have HB := n0_; have BK240 := n1_; have GW240 := n2_; have GE240 := n3_; clear n0_ n1_ n2_ n3_; clear hb hbox hg) | ((with_reducible refine gate_dst (N := 3) rfl ?_); refine box_event ?hg (N := 3) ?hd (cs := #[.string a1_0, .string a1_1]) (t := 65) ?hr ?_; (case hd => rfl); (case hg => rfl); (case hr => first | (go_simp; done) | (go_simp; rfl)); intro gb241 hg w11 hbox hb; have n0_ := bX BK240 hb; have n1_ := bS HB hb; have n2_ := Aside0.mk (hbox); have n3_ := Aside0.mk ((by rw [hg]; exact (below_size (by repeat (first | (with_reducible first | exact HB.out | apply below_alloc | apply pw_below_drewN | apply below_drew1 | refine below_set ?_ GE240.out) | exact HB.out))) : w.heap.size ≤ gb241)); have n4_ := n3_; have n5_ := Aside0.mk ((by rw [hg]; exact Nat.ne_of_lt (bLt BK240) : gb240 ≠ gb241)); have n6_ := Aside0.mk ((by rw [hg]; exact Nat.ne_of_gt (bLt BK240) : gb241 ≠ gb240)); clear BK240; clear HB; have BK240 := n0_; have HB := n1_; have BK241 := n2_; have GW241 := n3_; have GE241 := n4_; have NB240_241 := n5_; have NB241_240 := n6_; clear n0_ n1_ n2_ n3_ n4_ n5_ n6_; clear hb hbox hg; have hnb12 := NB240_241.out; have hnc12 := NB241_240.out; obtain ⟨hcz13_0, hcz13_1⟩ := cz2 BK240; obtain ⟨hfz13_0, hfz13_1⟩ := fz2 BK240; obtain ⟨hcz14_0, hcz14_1⟩ := cz2 BK241; obtain ⟨hfz14_0, hfz14_1⟩ := fz2 BK241))
   go_ret
   exact ⟨by first | rfl | (simp [errW_none, errW_some] <;> rfl) | (simp [*, errW_none, errW_some] <;> rfl), by repeat (first | (with_reducible first | exact HB.out | apply below_alloc | apply pw_below_drewN | apply below_drew1 | refine below_set ?_ GE240.out | refine below_set ?_ GE241.out) | exact HB.out)⟩
 ·rw [if_neg c3] at H
  have c3b0 : (a0_0.toList == a1_0.toList) = false := beq_eq_false_iff_ne.mpr c3
  have c3b1 : (a0_0.toList != a1_0.toList) = true := bne_iff_ne.mpr c3
  obtain rfl := Option.some.inj H
  go_enter Tryd.func42, Tryd.ntmps42
  go_wp2_with (first | ((with_reducible refine gate_dst (N := 2) rfl ?_); refine box_event ?hg (N := 2) ?hd (cs := #[.string a0_0, .string a0_1]) (t := 65) ?hr ?_; (case hd => rfl); (case hg => rfl); (case hr => first | (go_simp; done) | (go_simp; rfl)); intro gb240 hg w15 hbox hb; have n0_ := bS HB hb; have n1_ := Aside0.mk (hbox); have n2_ := Aside0.mk ((by rw [hg]; exact (below_size (by repeat (first | (with_reducible first | exact HB.out | apply below_alloc | apply pw_below_drewN | apply below_drew1) | exact HB.out))) : w.heap.size ≤ gb240)); have n3_ := n2_; clear HB; have HB := n0_; have BK240 := n1_; have GW240 := n2_; have GE240 := n3_; clear n0_ n1_ n2_ n3_; clear hb hbox hg) | ((with_reducible refine gate_dst (N := 3) rfl ?_); refine box_event ?hg (N := 3) ?hd (cs := #[.string a1_0, .string a1_1]) (t := 65) ?hr ?_; (case hd => rfl); (case hg => rfl); (case hr => first | (go_simp; done) | (go_simp; rfl)); intro gb241 hg w16 hbox hb; have n0_ := bX BK240 hb; have n1_ := bS HB hb; have n2_ := Aside0.mk (hbox); have n3_ := Aside0.mk ((by rw [hg]; exact (below_size (by repeat (first | (with_reducible first | exact HB.out | apply below_alloc | apply pw_below_drewN | apply below_drew1 | refine below_set ?_ GE240.out) | exact HB.out))) : w.heap.size ≤ gb241)); have n4_ := n3_; have n5_ := Aside0.mk ((by rw [hg]; exact Nat.ne_of_lt (bLt BK240) : gb240 ≠ gb241)); have n6_ := Aside0.mk ((by rw [hg]; exact Nat.ne_of_gt (bLt BK240) : gb241 ≠ gb240)); clear BK240; clear HB; have BK240 := n0_; have HB := n1_; have BK241 := n2_; have GW241 := n3_; have GE241 := n4_; have NB240_241 := n5_; have NB241_240 := n6_; clear n0_ n1_ n2_ n3_ n4_ n5_ n6_; clear hb hbox hg; have hnb17 := NB240_241.out; have hnc17 := NB241_240.out; obtain ⟨hcz18_0, hcz18_1⟩ := cz2 BK240; obtain ⟨hfz18_0, hfz18_1⟩ := fz2 BK240; obtain ⟨hcz19_0, hcz19_1⟩ := cz2 BK241; obtain ⟨hfz19_0, hfz19_1⟩ := fz2 BK241))
  go_ret
  exact ⟨by first | rfl | (simp [errW_none, errW_some] <;> rfl) | (simp [*, errW_none, errW_some] <;> rfl), by repeat (first | (with_reducible first | exact HB.out | apply below_alloc | apply pw_below_drewN | apply below_drew1 | refine below_set ?_ GE240.out | refine below_set ?_ GE241.out) | exact HB.out)⟩

/-! ### laws_eqFieldS: function 14 -/
def laws_eqFieldS.l0 : Nat → List (S65) → List (S65) → Int → Option (Bool)
 | 0, _, _, _ => none
 | k + 1, x0, x1, x5 => if x5 < (x0.length : Int) then (if 0 ≤ x5 then (if x5 < (x1.length : Int) then ((laws_eqField.f ((rd_T65 x0 x5).f0) ((rd_T65 x0 x5).f1) ((rd_T65 x1 x5).f0) ((rd_T65 x1 x5).f1)).bind fun t244 => (if t244 = true then (laws_eqFieldS.l0 k x0 x1 (wrap64 (x5 + 1))) else (some false))) else (none)) else (none)) else (some true)
def laws_eqFieldS.f (k : Nat) (l0 : List (S65)) (l1 : List (S65)) : Option (Bool) := if (l0.length : Int) = (l1.length : Int) then (laws_eqFieldS.l0 k l0 l1 0) else (some false)
theorem laws_eqFieldS.mono_l : ∀ k, (∀ y0 y1 y2, LeO (laws_eqFieldS.l0 k y0 y1 y2) (laws_eqFieldS.l0 (k + 1) y0 y1 y2))
 | 0 => fun _ _ _ r h => by simp [laws_eqFieldS.l0] at h
 | k + 1 => by
  have ih0 := laws_eqFieldS.mono_l k
  ·intro y0 y1 y2
   unfold laws_eqFieldS.l0
   repeat' first
   | (with_reducible exact ih0 _ _ _)
   | (with_reducible exact LeO.refl _)
   | (with_reducible exact LeO.none _)
   | (with_reducible refine LeO.ite ?_ ?_)
   | (with_reducible refine LeO.bind ?_ (fun _ => ?_))
   | exact ih0 _ _ _
   | exact LeO.none _
   | refine LeO.ite ?_ ?_
   | refine LeO.bind ?_ (fun _ => ?_)
theorem laws_eqFieldS.mono : ∀ a0 a1 k, LeO (laws_eqFieldS.f k a0 a1) (laws_eqFieldS.f (k + 1) a0 a1) := by
 intro a0 a1 k
 have ih0 := laws_eqFieldS.mono_l k
 unfold laws_eqFieldS.f
 repeat' first
   | (with_reducible exact ih0 _ _ _)
   | (with_reducible exact LeO.refl _)
   | (with_reducible exact LeO.none _)
   | (with_reducible refine LeO.ite ?_ ?_)
   | (with_reducible refine LeO.bind ?_ (fun _ => ?_))
   | exact ih0 _ _ _
   | exact LeO.none _
   | refine LeO.ite ?_ ?_
   | refine LeO.bind ?_ (fun _ => ?_)
def laws_eqFieldS.T6 : Bool × List (List Nat × List Nat) := (true, [([], []), ([], []), ([0, 1], [0, 1]), ([2], [2]), ([], []), ([], []), ([4, 5], [4, 5]), ([6], [6]), ([3, 7], [3, 7]), ([8], [8])])
def laws_eqFieldS.B6 : List Nat := [0, 0, 3, 7, 0, 0, 48, 112, 255, 511]
theorem laws_eqFieldS.tab6 : rtab .any (opsOf Tryd.f14 6) = laws_eqFieldS.T6 := by kernel_rfl
theorem laws_eqFieldS.bits6 : waitsOk laws_eqFieldS.T6.2 laws_eqFieldS.B6 = true := by kernel_rfl
set_option maxHeartbeats 64000000 in
set_option maxRecDepth 100000 in
theorem laws_eqFieldS.calls (k : Nat) (A0 : Option Addr) (c0 : Nat) (l0 : List (S65)) (A1 : Option Addr) (c1 : Nat) (l1 : List (S65)) (r : Bool) (w : World) (hr0 : Kd.C k65 w A0 l0.length l0) (hc0 : l0.length ≤ c0) (hr1 : Kd.C k65 w A1 l1.length l1) (hc1 : l1.length ≤ c1) (h : laws_eqFieldS.f k l0 l1 = some r) :
  Calls Tryd.prog 14 #[.slice A0 l0.length c0, .slice A1 l1.length c1] w fun e w' => e = .returned (.bool r) ∧ Below w.heap.size w w' := by
 have hu65 := Tryd.underlying65
 have HR0 := Aside0.mk hr0
 have HC0 := Aside0.mk hc0
 clear hr0 hc0
 have HR1 := Aside0.mk hr1
 have HC1 := Aside0.mk hc1
 clear hr1 hc1
 have HB := Aside0.mk (Below.refl w.heap.size w)
 have H : (if (l0.length : Int) = (l1.length : Int) then (laws_eqFieldS.l0 k l0 l1 0) else (some false)) = some r := h
 clear h
 by_cases c3 : (l0.length : Int) = (l1.length : Int)
 ·rw [if_pos c3] at H
  have c3b0 : ((l0.length : Int) == (l1.length : Int)) = true := beq_iff_eq.mpr c3
  have c3b1 : ((l0.length : Int) != (l1.length : Int)) = false := bne_eq_false_iff_eq.mpr c3
  have c3b2 : (l0.length == l1.length) = true := by first | simpa using c3 | (simp at c3 ⊢; omega)
  clear c3
  have H' := Aside0.mk H
  clear H
  go_enter Tryd.func14, Tryd.ntmps14
  go_wp2
  go_loopg [5] k (fun kq v5 w' => ∃ (x5_1 : Int), v5 = .int .i64 x5_1 ∧ Aside0 (laws_eqFieldS.l0 kq l0 l1 x5_1 = some r) ∧ Aside0 (kq ≤ k) ∧ Aside0 (Below w.heap.size w w'))
  case atStart => exact ⟨(0), (by first | rfl | (simp; done) | (simp [*]; done)), H', ⟨Nat.le_refl _⟩, ⟨by repeat (first | (with_reducible first | exact HB.out | apply below_alloc | apply pw_below_drewN | apply below_drew1) | exact HB.out)⟩⟩
  case round =>
   clear H'
   try clear c1
   try clear p2
   try clear c3
   try clear c3b0
   try clear c3b1
   try clear c3b2
   obtain ⟨x5_1, rfl, HA, HK1, HB⟩ := hrel
   cases gk with
   | zero => exact absurd HA.out (by simp [laws_eqFieldS.l0])
   | succ k1 =>
    have H := HA.out
    clear HA
    simp only [laws_eqFieldS.l0] at H
    by_cases c4 : x5_1 < (l0.length : Int)
    ·rw [if_pos c4] at H
     have c4b0 : decide (x5_1 < (l0.length : Int)) = true := decide_eq_true c4
     clear c4
     by_cases c5 : 0 ≤ x5_1
     ·rw [if_pos c5] at H
      have c5b0 : decide (0 ≤ x5_1) = true := decide_eq_true c5
      clear c5
      by_cases c6 : x5_1 < (l1.length : Int)
      ·rw [if_pos c6] at H
       have c6b0 : decide (x5_1 < (l1.length : Int)) = true := decide_eq_true c6
       clear c6
       replace H := Option.bind_eq_some_iff.mp H
       obtain ⟨t244, A70, H⟩ := H
       replace H : (if t244 = true then (laws_eqFieldS.l0 k1 l0 l1 (wrap64 (x5_1 + 1))) else (some false)) = some r := H
       have A7 := Aside0.mk A70
       clear A70
       by_cases c8 : t244 = true
       ·subst c8
        have H1 : (laws_eqFieldS.l0 k1 l0 l1 (wrap64 (x5_1 + 1))) = some r := by rw [if_pos rfl] at H; exact H
        clear H
        have H := H1
        clear H1
        have H' := Aside0.mk H
        clear H
        try go_wp2
        have n0_ := Aside0.mk (below_drew1 HB.out)
        clear HB
        have HB := n0_
        clear n0_
        have p242 : 0 ≤ (x5_1 : Int) := of_decide_eq_true (by first | (with_reducible assumption) | assumption)
        have q242 : x5_1 < (l0.length : Int) := of_decide_eq_true (by first | (with_reducible assumption) | assumption)
        obtain ⟨ad242, e242, hx242_0, hx242_1⟩ := at_T65 HR0.out x5_1 p242 q242
        have hw242_1 := hx242_1
        have hw242_0 := hx242_0
        cases e242
        replace hx242_0 := (HB.out.cell (World.block_lt_of_cell? w _ hx242_0)).trans hx242_0
        replace hx242_1 := (HB.out.cell (World.block_lt_of_cell? w _ hx242_1)).trans hx242_1
        replace p242 := eq_true p242
        replace q242 := eq_true q242
        have p243 : 0 ≤ (x5_1 : Int) := of_decide_eq_true (by first | (with_reducible assumption) | assumption)
        have q243 : x5_1 < (l1.length : Int) := of_decide_eq_true (by first | (with_reducible assumption) | assumption)
        obtain ⟨ad243, e243, hx243_0, hx243_1⟩ := at_T65 HR1.out x5_1 p243 q243
        have hw243_1 := hx243_1
        have hw243_0 := hx243_0
        cases e243
        replace hx243_0 := (HB.out.cell (World.block_lt_of_cell? w _ hx243_0)).trans hx243_0
        replace hx243_1 := (HB.out.cell (World.block_lt_of_cell? w _ hx243_1)).trans hx243_1
        replace p243 := eq_true p243
        replace q243 := eq_true q243
        refine start_ (n := 10) (S := fun w' => w'.cell? (ad242.add ((x5_1).toNat * 2)) = some (.string ((rd_T65 l0 x5_1).f0)) ∧ w'.cell? ⟨(ad242.add ((x5_1).toNat * 2)).block, (ad242.add ((x5_1).toNat * 2)).off + 1, none⟩ = some (.string ((rd_T65 l0 x5_1).f1)) ∧ w'.cell? (ad243.add ((x5_1).toNat * 2)) = some (.string ((rd_T65 l1 x5_1).f0)) ∧ w'.cell? ⟨(ad243.add ((x5_1).toNat * 2)).block, (ad243.add ((x5_1).toNat * 2)).off + 1, none⟩ = some (.string ((rd_T65 l1 x5_1).f1))) (ds := []) (bm 10 0) (by kernel_rfl) rfl rfl ⟨((HB.out.cell (World.block_lt_of_cell? w _ hw242_0)).trans hw242_0), ((HB.out.cell (World.block_lt_of_cell? w _ hw242_1)).trans hw242_1), ((HB.out.cell (World.block_lt_of_cell? w _ hw243_0)).trans hw243_0), ((HB.out.cell (World.block_lt_of_cell? w _ hw243_1)).trans hw243_1)⟩ (fun hHeld => ?_); refine with_tabW laws_eqFieldS.tab6 laws_eqFieldS.bits6 (fun HT_ HW_ => ?_)
        generalize wr.drew = w9 at HB hx242_0 hx242_1 hx243_0 hx243_1 hHeld ⊢
        refine pure_ (i := 0) (N := some 17) (v := ?_) (a' := ?_) (bm 10 1) rfl rfl (any_of HT_.out (by kernel_rfl)) (fun _ _ _ h => h) (Or.inl ⟨by rfl, ?_⟩) ?_ ?_
        rotate_left
        ·intro w'
         go_simp
         with_reducible rfl
        rotate_left
        ·simp only [Act.put, sA, sZ, sS, i64_w, i32_w]
         rfl
        refine pure_ (i := 1) (N := some 18) (v := ?_) (a' := ?_) (bm 10 3) rfl rfl (any_of HT_.out (by kernel_rfl)) (fun _ _ _ h => h) (Or.inl ⟨by rfl, ?_⟩) ?_ ?_
        rotate_left
        ·intro w'
         go_simp
         with_reducible rfl
        rotate_left
        ·simp only [Act.put, sA, sZ, sS, i64_w, i32_w]
         rfl
        refine pure_ (i := 2) (N := some 19) (v := ?_) (a' := ?_) (bm 10 7) rfl rfl (any_of HT_.out (by kernel_rfl)) (fun _ _ _ h => h) (Or.inl ⟨by rfl, ?_⟩) ?_ ?_
        rotate_left
        ·intro w'
         go_simp
         with_reducible rfl
        rotate_left
        ·simp only [Act.put, sA, sZ, sS, i64_w, i32_w]
         rfl
        refine pure_ (i := 4) (N := some 21) (v := ?_) (a' := ?_) (bm 10 23) rfl rfl (any_of HT_.out (by kernel_rfl)) (fun _ _ _ h => h) (Or.inl ⟨by rfl, ?_⟩) ?_ ?_
        rotate_left
        ·intro w'
         go_simp
         with_reducible rfl
        rotate_left
        ·simp only [Act.put, sA, sZ, sS, i64_w, i32_w]
         rfl
        refine pure_ (i := 5) (N := some 22) (v := ?_) (a' := ?_) (bm 10 55) rfl rfl (any_of HT_.out (by kernel_rfl)) (fun _ _ _ h => h) (Or.inl ⟨by rfl, ?_⟩) ?_ ?_
        rotate_left
        ·intro w'
         go_simp
         with_reducible rfl
        rotate_left
        ·simp only [Act.put, sA, sZ, sS, i64_w, i32_w]
         rfl
        refine pure_ (i := 6) (N := some 23) (v := ?_) (a' := ?_) (bm 10 119) rfl rfl (any_of HT_.out (by kernel_rfl)) (fun _ _ _ h => h) (Or.inl ⟨by rfl, ?_⟩) ?_ ?_
        rotate_left
        ·intro w'
         go_simp
         with_reducible rfl
        rotate_left
        ·simp only [Act.put, sA, sZ, sS, i64_w, i32_w]
         rfl
        refine take_ (i := 3) (N := some 20) (v := ?_) (a' := ?_) (bm 10 127) rfl rfl (take_ofW HT_.out HW_.out (by kernel_rfl)) (fun _ _ _ h => h) (Or.inl ⟨by rfl, ?_⟩) hHeld ?_ ?_
        rotate_left
        ·rintro w' ⟨s0, s1, s2, s3⟩
         go_simp
         with_reducible rfl
        rotate_left
        ·simp only [Act.put, sA, sZ, sS, i64_w, i32_w]
         rfl
        refine take_ (i := 7) (N := some 24) (v := ?_) (a' := ?_) (bm 10 255) rfl rfl (take_ofW HT_.out HW_.out (by kernel_rfl)) (fun _ _ _ h => h) (Or.inl ⟨by rfl, ?_⟩) hHeld ?_ ?_
        rotate_left
        ·rintro w' ⟨s0, s1, s2, s3⟩
         go_simp
         with_reducible rfl
        rotate_left
        ·simp only [Act.put, sA, sZ, sS, i64_w, i32_w]
         rfl
        refine one_ (i := 8) (N := some 25) (bm 10 511) rfl rfl (one_of HT_.out (by kernel_rfl)) (by decide) (fun K hK => ?_)
        refine goes_ Tryd.func42 (by kernel_rfl) rfl #[.agg #[.string ((rd_T65 l0 x5_1).f0), .string ((rd_T65 l0 x5_1).f1)], .agg #[.string ((rd_T65 l1 x5_1).f0), .string ((rd_T65 l1 x5_1).f1)]] (by rfl) rfl rfl (by (try simp only [List.map_toArray, List.map_cons, List.map_nil]); first | done | rfl | (simp only [List.length_drop, List.length_take]; rfl)) ?_
        with_reducible refine (laws_eqField.calls ((rd_T65 l0 x5_1).f0) ((rd_T65 l0 x5_1).f1) ((rd_T65 l1 x5_1).f0) ((rd_T65 l1 x5_1).f1) true _ A7.out).mono ?_
        rintro e w10 ⟨rfl, hb⟩
        refine ⟨_, rfl, ?_⟩
        have n0_ := bS HB hb
        clear HB
        have HB := n0_
        clear n0_
        (try clear hb)
        (try clear hb2)
        (try clear hk)
        (try clear hi)
        refine hK.out _ _ ⟨((HB.out.cell (World.block_lt_of_cell? w _ hw242_0)).trans hw242_0), ((HB.out.cell (World.block_lt_of_cell? w _ hw242_1)).trans hw242_1), ((HB.out.cell (World.block_lt_of_cell? w _ hw243_0)).trans hw243_0), ((HB.out.cell (World.block_lt_of_cell? w _ hw243_1)).trans hw243_1)⟩ (fun hHeld => ?_)
        clear hK K
        refine norm_ (a' := ?_) ?_ ?_
        rotate_left
        ·show Act.put _ (some 25) _ = _
         simp only [Act.put, sA, sZ, sS, i64_w, i32_w]
         rfl
        refine pure_ (i := 9) (N := some 26) (v := ?_) (a' := ?_) (bm 10 1023) rfl rfl (any_of HT_.out (by kernel_rfl)) (fun _ _ _ h => h) (Or.inl ⟨by rfl, ?_⟩) ?_ ?_
        rotate_left
        ·intro w'
         go_simp
         with_reducible rfl
        rotate_left
        ·simp only [Act.put, sA, sZ, sS, i64_w, i32_w]
         rfl
        refine done_ (done_of HT_.out (by kernel_rfl)) ?_
        try go_wp2
        go_roundg k1
        case measure => have := HK1.out; omega
        case rel => exact ⟨(wrap64 (x5_1 + 1)), (by first | rfl | (simp; done) | (simp [*]; done)), H', ⟨by have := HK1.out; omega⟩, ⟨by repeat (first | (with_reducible first | exact HB.out | apply below_alloc | apply pw_below_drewN | apply below_drew1) | exact HB.out)⟩⟩
       ·replace c8 := Bool.eq_false_iff.mpr c8
        subst c8
        have H1 : (some false) = some r := by rw [if_neg (show ¬ (false = true) by decide)] at H; exact H
        clear H
        have H := H1
        clear H1
        obtain rfl := Option.some.inj H
        try go_wp2
        have n0_ := Aside0.mk (below_drew1 HB.out)
        clear HB
        have HB := n0_
        clear n0_
        have p242 : 0 ≤ (x5_1 : Int) := of_decide_eq_true (by first | (with_reducible assumption) | assumption)
        have q242 : x5_1 < (l0.length : Int) := of_decide_eq_true (by first | (with_reducible assumption) | assumption)
        obtain ⟨ad242, e242, hx242_0, hx242_1⟩ := at_T65 HR0.out x5_1 p242 q242
        have hw242_1 := hx242_1
        have hw242_0 := hx242_0
        cases e242
        replace hx242_0 := (HB.out.cell (World.block_lt_of_cell? w _ hx242_0)).trans hx242_0
        replace hx242_1 := (HB.out.cell (World.block_lt_of_cell? w _ hx242_1)).trans hx242_1
        replace p242 := eq_true p242
        replace q242 := eq_true q242
        have p243 : 0 ≤ (x5_1 : Int) := of_decide_eq_true (by first | (with_reducible assumption) | assumption)
        have q243 : x5_1 < (l1.length : Int) := of_decide_eq_true (by first | (with_reducible assumption) | assumption)
        obtain ⟨ad243, e243, hx243_0, hx243_1⟩ := at_T65 HR1.out x5_1 p243 q243
        have hw243_1 := hx243_1
        have hw243_0 := hx243_0
        cases e243
        replace hx243_0 := (HB.out.cell (World.block_lt_of_cell? w _ hx243_0)).trans hx243_0
        replace hx243_1 := (HB.out.cell (World.block_lt_of_cell? w _ hx243_1)).trans hx243_1
        replace p243 := eq_true p243
        replace q243 := eq_true q243
        refine start_ (n := 10) (S := fun w' => w'.cell? (ad242.add ((x5_1).toNat * 2)) = some (.string ((rd_T65 l0 x5_1).f0)) ∧ w'.cell? ⟨(ad242.add ((x5_1).toNat * 2)).block, (ad242.add ((x5_1).toNat * 2)).off + 1, none⟩ = some (.string ((rd_T65 l0 x5_1).f1)) ∧ w'.cell? (ad243.add ((x5_1).toNat * 2)) = some (.string ((rd_T65 l1 x5_1).f0)) ∧ w'.cell? ⟨(ad243.add ((x5_1).toNat * 2)).block, (ad243.add ((x5_1).toNat * 2)).off + 1, none⟩ = some (.string ((rd_T65 l1 x5_1).f1))) (ds := []) (bm 10 0) (by kernel_rfl) rfl rfl ⟨((HB.out.cell (World.block_lt_of_cell? w _ hw242_0)).trans hw242_0), ((HB.out.cell (World.block_lt_of_cell? w _ hw242_1)).trans hw242_1), ((HB.out.cell (World.block_lt_of_cell? w _ hw243_0)).trans hw243_0), ((HB.out.cell (World.block_lt_of_cell? w _ hw243_1)).trans hw243_1)⟩ (fun hHeld => ?_); refine with_tabW laws_eqFieldS.tab6 laws_eqFieldS.bits6 (fun HT_ HW_ => ?_)
        generalize wr.drew = w11 at HB hx242_0 hx242_1 hx243_0 hx243_1 hHeld ⊢
        refine pure_ (i := 0) (N := some 17) (v := ?_) (a' := ?_) (bm 10 1) rfl rfl (any_of HT_.out (by kernel_rfl)) (fun _ _ _ h => h) (Or.inl ⟨by rfl, ?_⟩) ?_ ?_
        rotate_left
        ·intro w'
         go_simp
         with_reducible rfl
        rotate_left
        ·simp only [Act.put, sA, sZ, sS, i64_w, i32_w]
         rfl
        refine pure_ (i := 1) (N := some 18) (v := ?_) (a' := ?_) (bm 10 3) rfl rfl (any_of HT_.out (by kernel_rfl)) (fun _ _ _ h => h) (Or.inl ⟨by rfl, ?_⟩) ?_ ?_
        rotate_left
        ·intro w'
         go_simp
         with_reducible rfl
        rotate_left
        ·simp only [Act.put, sA, sZ, sS, i64_w, i32_w]
         rfl
        refine pure_ (i := 2) (N := some 19) (v := ?_) (a' := ?_) (bm 10 7) rfl rfl (any_of HT_.out (by kernel_rfl)) (fun _ _ _ h => h) (Or.inl ⟨by rfl, ?_⟩) ?_ ?_
        rotate_left
        ·intro w'
         go_simp
         with_reducible rfl
        rotate_left
        ·simp only [Act.put, sA, sZ, sS, i64_w, i32_w]
         rfl
        refine pure_ (i := 4) (N := some 21) (v := ?_) (a' := ?_) (bm 10 23) rfl rfl (any_of HT_.out (by kernel_rfl)) (fun _ _ _ h => h) (Or.inl ⟨by rfl, ?_⟩) ?_ ?_
        rotate_left
        ·intro w'
         go_simp
         with_reducible rfl
        rotate_left
        ·simp only [Act.put, sA, sZ, sS, i64_w, i32_w]
         rfl
        refine pure_ (i := 5) (N := some 22) (v := ?_) (a' := ?_) (bm 10 55) rfl rfl (any_of HT_.out (by kernel_rfl)) (fun _ _ _ h => h) (Or.inl ⟨by rfl, ?_⟩) ?_ ?_
        rotate_left
        ·intro w'
         go_simp
         with_reducible rfl
        rotate_left
        ·simp only [Act.put, sA, sZ, sS, i64_w, i32_w]
         rfl
        refine pure_ (i := 6) (N := some 23) (v := ?_) (a' := ?_) (bm 10 119) rfl rfl (any_of HT_.out (by kernel_rfl)) (fun _ _ _ h => h) (Or.inl ⟨by rfl, ?_⟩) ?_ ?_
        rotate_left
        ·intro w'
         go_simp
         with_reducible rfl
        rotate_left
        ·simp only [Act.put, sA, sZ, sS, i64_w, i32_w]
         rfl
        refine take_ (i := 3) (N := some 20) (v := ?_) (a' := ?_) (bm 10 127) rfl rfl (take_ofW HT_.out HW_.out (by kernel_rfl)) (fun _ _ _ h => h) (Or.inl ⟨by rfl, ?_⟩) hHeld ?_ ?_
        rotate_left
        ·rintro w' ⟨s0, s1, s2, s3⟩
         go_simp
         with_reducible rfl
        rotate_left
        ·simp only [Act.put, sA, sZ, sS, i64_w, i32_w]
         rfl
        refine take_ (i := 7) (N := some 24) (v := ?_) (a' := ?_) (bm 10 255) rfl rfl (take_ofW HT_.out HW_.out (by kernel_rfl)) (fun _ _ _ h => h) (Or.inl ⟨by rfl, ?_⟩) hHeld ?_ ?_
        rotate_left
        ·rintro w' ⟨s0, s1, s2, s3⟩
         go_simp
         with_reducible rfl
        rotate_left
        ·simp only [Act.put, sA, sZ, sS, i64_w, i32_w]
         rfl
        refine one_ (i := 8) (N := some 25) (bm 10 511) rfl rfl (one_of HT_.out (by kernel_rfl)) (by decide) (fun K hK => ?_)
        refine goes_ Tryd.func42 (by kernel_rfl) rfl #[.agg #[.string ((rd_T65 l0 x5_1).f0), .string ((rd_T65 l0 x5_1).f1)], .agg #[.string ((rd_T65 l1 x5_1).f0), .string ((rd_T65 l1 x5_1).f1)]] (by rfl) rfl rfl (by (try simp only [List.map_toArray, List.map_cons, List.map_nil]); first | done | rfl | (simp only [List.length_drop, List.length_take]; rfl)) ?_
        with_reducible refine (laws_eqField.calls ((rd_T65 l0 x5_1).f0) ((rd_T65 l0 x5_1).f1) ((rd_T65 l1 x5_1).f0) ((rd_T65 l1 x5_1).f1) false _ A7.out).mono ?_
        rintro e w12 ⟨rfl, hb⟩
        refine ⟨_, rfl, ?_⟩
        have n0_ := bS HB hb
        clear HB
        have HB := n0_
        clear n0_
        (try clear hb)
        (try clear hb2)
        (try clear hk)
        (try clear hi)
        refine hK.out _ _ ⟨((HB.out.cell (World.block_lt_of_cell? w _ hw242_0)).trans hw242_0), ((HB.out.cell (World.block_lt_of_cell? w _ hw242_1)).trans hw242_1), ((HB.out.cell (World.block_lt_of_cell? w _ hw243_0)).trans hw243_0), ((HB.out.cell (World.block_lt_of_cell? w _ hw243_1)).trans hw243_1)⟩ (fun hHeld => ?_)
        clear hK K
        refine norm_ (a' := ?_) ?_ ?_
        rotate_left
        ·show Act.put _ (some 25) _ = _
         simp only [Act.put, sA, sZ, sS, i64_w, i32_w]
         rfl
        refine pure_ (i := 9) (N := some 26) (v := ?_) (a' := ?_) (bm 10 1023) rfl rfl (any_of HT_.out (by kernel_rfl)) (fun _ _ _ h => h) (Or.inl ⟨by rfl, ?_⟩) ?_ ?_
        rotate_left
        ·intro w'
         go_simp
         with_reducible rfl
        rotate_left
        ·simp only [Act.put, sA, sZ, sS, i64_w, i32_w]
         rfl
        refine done_ (done_of HT_.out (by kernel_rfl)) ?_
        try go_wp2
        go_ret
        exact ⟨by first | rfl | (simp [errW_none, errW_some] <;> rfl) | (simp [*, errW_none, errW_some] <;> rfl), by repeat (first | (with_reducible first | exact HB.out | apply below_alloc | apply pw_below_drewN | apply below_drew1) | exact HB.out)⟩
      ·rw [if_neg c6] at H
       exact absurd H (by simp)
     ·rw [if_neg c5] at H
      exact absurd H (by simp)
    ·rw [if_neg c4] at H
     have c4b0 : decide (x5_1 < (l0.length : Int)) = false := decide_eq_false c4
     clear c4
     obtain rfl := Option.some.inj H
     go_wp2
     go_ret
     exact ⟨by first | rfl | (simp [errW_none, errW_some] <;> rfl) | (simp [*, errW_none, errW_some] <;> rfl), by repeat (first | (with_reducible first | exact HB.out | apply below_alloc | apply pw_below_drewN | apply below_drew1) | exact HB.out)⟩
 ·rw [if_neg c3] at H
  have c3b0 : ((l0.length : Int) == (l1.length : Int)) = false := beq_eq_false_iff_ne.mpr c3
  have c3b1 : ((l0.length : Int) != (l1.length : Int)) = true := bne_iff_ne.mpr c3
  have c3b2 : (l0.length == l1.length) = false := by first | simpa using c3 | (simp at c3 ⊢; omega)
  obtain rfl := Option.some.inj H
  go_enter Tryd.func14, Tryd.ntmps14
  go_wp2
  go_ret
  exact ⟨by first | rfl | (simp [errW_none, errW_some] <;> rfl) | (simp [*, errW_none, errW_some] <;> rfl), by repeat (first | (with_reducible first | exact HB.out | apply below_alloc | apply pw_below_drewN | apply below_drew1) | exact HB.out)⟩

/-! ### laws_markText: function 43 -/
def laws_markText.l0 : Nat → Int → ByteArray → Option (ByteArray)
 | 0, _, _ => none
 | k + 1, x0, x3 => if x0 > 0 then ((some (([(wrap64 (48 + (Int.tmod x0 10))) % 256] : List Int) : List Int)).bind fun y245 => (if (strOfNums y245).size + x3.size ≤ 9223372036854775807 then (laws_markText.l0 k (wrap64 (Int.tdiv x0 10)) ((strOfNums y245) ++ x3)) else (none))) else (if 1 + x3.size ≤ 9223372036854775807 then (some ((⟨#[109]⟩ : ByteArray) ++ x3)) else (none))
def laws_markText.f (k : Nat) (a0 : Int) : Option (ByteArray) := if a0 ≤ 0 then (some (⟨#[109, 48]⟩ : ByteArray)) else (laws_markText.l0 k a0 (⟨#[]⟩ : ByteArray))
theorem laws_markText.mono_l : ∀ k, (∀ y0 y1, LeO (laws_markText.l0 k y0 y1) (laws_markText.l0 (k + 1) y0 y1))
 | 0 => fun _ _ r h => by simp [laws_markText.l0] at h
 | k + 1 => by
  have ih0 := laws_markText.mono_l k
  ·intro y0 y1
   unfold laws_markText.l0
   repeat' first
   | (with_reducible exact ih0 _ _)
   | (with_reducible exact LeO.refl _)
   | (with_reducible exact LeO.none _)
   | (with_reducible refine LeO.ite ?_ ?_)
   | (with_reducible refine LeO.bind ?_ (fun _ => ?_))
   | exact ih0 _ _
   | exact LeO.none _
   | refine LeO.ite ?_ ?_
   | refine LeO.bind ?_ (fun _ => ?_)
theorem laws_markText.mono : ∀ a0 k, LeO (laws_markText.f k a0) (laws_markText.f (k + 1) a0) := by
 intro a0 k
 have ih0 := laws_markText.mono_l k
 unfold laws_markText.f
 repeat' first
   | (with_reducible exact ih0 _ _)
   | (with_reducible exact LeO.refl _)
   | (with_reducible exact LeO.none _)
   | (with_reducible refine LeO.ite ?_ ?_)
   | (with_reducible refine LeO.bind ?_ (fun _ => ?_))
   | exact ih0 _ _
   | exact LeO.none _
   | refine LeO.ite ?_ ?_
   | refine LeO.bind ?_ (fun _ => ?_)
set_option maxHeartbeats 64000000 in
set_option maxRecDepth 100000 in
theorem laws_markText.calls (k : Nat) (a0 : Int) (r : ByteArray) (w : World) (h : laws_markText.f k a0 = some r) :
  Calls Tryd.prog 43 #[.int .i64 a0] w fun e w' => e = .returned (.string r) ∧ Below w.heap.size w w' := by
 have HB := Aside0.mk (Below.refl w.heap.size w)
 have H : (if a0 ≤ 0 then (some (⟨#[109, 48]⟩ : ByteArray)) else (laws_markText.l0 k a0 (⟨#[]⟩ : ByteArray))) = some r := h
 clear h
 by_cases c2 : a0 ≤ 0
 ·rw [if_pos c2] at H
  have c2b0 : decide (a0 ≤ 0) = true := decide_eq_true c2
  clear c2
  obtain rfl := Option.some.inj H
  go_enter Tryd.func43, Tryd.ntmps43
  go_wp2
  go_ret
  exact ⟨by first | rfl | (simp [errW_none, errW_some] <;> rfl) | (simp [*, errW_none, errW_some] <;> rfl), by repeat (first | (with_reducible first | exact HB.out | apply below_alloc | apply pw_below_drewN | apply below_drew1) | exact HB.out)⟩
 ·rw [if_neg c2] at H
  have c2b0 : decide (a0 ≤ 0) = false := decide_eq_false c2
  clear c2
  have H' := Aside0.mk H
  clear H
  go_enter Tryd.func43, Tryd.ntmps43
  go_wp2
  go_loopg [0, 3] k (fun kq v0 v3 w' => ∃ (x0_1 : Int) (x3_1 : ByteArray), v0 = .int .i64 x0_1 ∧ v3 = .string x3_1 ∧ Aside0 (laws_markText.l0 kq x0_1 x3_1 = some r) ∧ Aside0 (kq ≤ k) ∧ Aside0 (Below w.heap.size w w'))
  case atStart => exact ⟨(a0), ((⟨#[]⟩ : ByteArray)), (by first | rfl | (simp; done) | (simp [*]; done)), (by first | rfl | (simp; done) | (simp [*]; done)), H', ⟨Nat.le_refl _⟩, ⟨by repeat (first | (with_reducible first | exact HB.out | apply below_alloc | apply pw_below_drewN | apply below_drew1) | exact HB.out)⟩⟩
  case round =>
   clear H'
   try clear c2
   try clear c2b0
   try clear p2
   obtain ⟨x0_1, x3_1, rfl, rfl, HA, HK1, HB⟩ := hrel
   cases gk with
   | zero => exact absurd HA.out (by simp [laws_markText.l0])
   | succ k1 =>
    have H := HA.out
    clear HA
    simp only [laws_markText.l0] at H
    by_cases c3 : x0_1 > 0
    ·rw [if_pos c3] at H
     have c3b0 : decide (0 < x0_1) = true := decide_eq_true c3
     clear c3
     obtain ⟨y245, hy245⟩ : ∃ y_ : List Int, y_ = (([(wrap64 (48 + (Int.tmod x0_1 10))) % 256] : List Int)) := ⟨_, rfl⟩
     replace H : (if (strOfNums y245).size + x3_1.size ≤ 9223372036854775807 then (laws_markText.l0 k1 (wrap64 (Int.tdiv x0_1 10)) ((strOfNums y245) ++ x3_1)) else (none)) = some r := by first | (rw [hy245]; with_reducible exact H) | (have H2_ := (Option.bind_some _ _).symm.trans H; rw [hy245]; with_reducible exact H2_) | (have H2_ := (Option.bind_some _ _).symm.trans H; with_reducible exact H2_) | with_reducible exact H | (rw [hy245]; exact H) | exact H
     have Ny245 := Aside0.mk hy245
     clear hy245
     by_cases c4 : (strOfNums y245).size + x3_1.size ≤ 9223372036854775807
     ·rw [if_pos c4] at H
      have c4b0 := eq_true c4
      have c4b1 : decide ((strOfNums y245).size + x3_1.size ≤ 9223372036854775807) = true := decide_eq_true c4
      try have c4b2 : (9223372036854775807 < (strOfNums y245).size + x3_1.size) = False := eq_false (Nat.not_lt.2 c4)
      have H' := Aside0.mk H
      clear H
      go_wp2_with (first | ((with_reducible refine gate_dst (N := 12) rfl ?_); refine Kd.R_lit (Kd.int .u8) _ 5 ?hg (N := 12) ?hd (xs := ([(wrap64 (48 + (Int.tmod x0_1 10))) % 256] : List Int)) (inner := [.int .u8 ((wrap64 (48 + (Int.tmod x0_1 10))) % 256)]) (ok := fun _ => True) (okp := fun _ => True) ?hr ?hp (fun _ hk => hk) trivial (Below.refl _ _) (Nat.le_refl _) (by simp) ?_; (case hd => rfl); (case hg => rfl); (case hr => first | (go_simp; done) | (go_simp; rfl)); (case hp => exact (Reps.one (show Kd.M (Kd.int .u8) _ _ _ ((wrap64 (48 + (Int.tmod x0_1 10))) % 256) [.int .u8 ((wrap64 (48 + (Int.tmod x0_1 10))) % 256)] from rfl) (Reps.none _ _))); intro v246 w5 ho6 hb hg_ hnew_; clear hg_ hnew_; (first | rw [← Ny245.out] at ho6 | (simp only [Int.reduceToNat] at ho6; rw [← Ny245.out] at ho6)); have n0_ := Aside0.mk (Kd.R_lower ho6 (below_size (by repeat (first | (with_reducible first | exact HB.out | apply below_alloc | apply pw_below_drewN | apply below_drew1) | exact HB.out)))); have n1_ := bS HB hb; clear HB; have HO247 := n0_; have HB := n1_; clear n0_ n1_; clear hb ho6; have hcv7 := own_string (P := Tryd.prog) Tryd.underlying109 Tryd.underlying5 Tryd.underlying9 (Kd.own_of_R HO247.out)))
      go_roundg k1
      case measure => have := HK1.out; omega
      case rel => exact ⟨(wrap64 (Int.tdiv x0_1 10)), ((strOfNums y245) ++ x3_1), (by first | rfl | (simp; done) | (simp [*]; done)), (by first | rfl | (simp; done) | (simp [*]; done)), H', ⟨by have := HK1.out; omega⟩, ⟨by repeat (first | (with_reducible first | exact HB.out | apply below_alloc | apply pw_below_drewN | apply below_drew1) | exact HB.out)⟩⟩
     ·rw [if_neg c4] at H
      exact absurd H (by simp)
    ·rw [if_neg c3] at H
     have c3b0 : decide (0 < x0_1) = false := decide_eq_false c3
     clear c3
     by_cases c8 : 1 + x3_1.size ≤ 9223372036854775807
     ·rw [if_pos c8] at H
      have c8b0 := eq_true c8
      have c8b1 : decide (1 + x3_1.size ≤ 9223372036854775807) = true := decide_eq_true c8
      try have c8b2 : (9223372036854775807 < 1 + x3_1.size) = False := eq_false (Nat.not_lt.2 c8)
      obtain rfl := Option.some.inj H
      go_wp2
      go_ret
      exact ⟨by first | rfl | (simp [errW_none, errW_some] <;> rfl) | (simp [*, errW_none, errW_some] <;> rfl), by repeat (first | (with_reducible first | exact HB.out | apply below_alloc | apply pw_below_drewN | apply below_drew1) | exact HB.out)⟩
     ·rw [if_neg c8] at H
      exact absurd H (by simp)

end Go.Proofs.YtilkginahmfagaaDoor.PFnExactReadFields
