-- Written by a program of this session (wip/xprint.py).
import Derived.Test.YtjmakjddhbdocaaPFnExactPutNumberx0
import Derived.Test.YtjmakjddhbdocaaPFnExactPutNumberx1
import Derived.Test.YtjmakjddhbdocaaPFnExactPutNumberx3
import Derived.Test.YtjmakjddhbdocaaPFnExactPutNumberx5
namespace Go.Proofs.Ytjmakjddhbdocaa.PFnExactPutNumber
open Go.RowKit Go.Proofs.YtjmakjddhbdocaaW.PrintWords Go.Proofs.YtjmakjddhbdocaaW.PrintLast Go.Proofs.YtjmakjddhbdocaaW.PrintMore
open Go.Proofs.Ytjmakjddhbdocaa.ShortK (bN bD bA sA sZ sS cz2 fz2 cz3 fz3 cz4 fz4 cz5 fz5 cz6 fz6 cz7 fz7 cz8 fz8 cz9 fz9 cz10 fz10 cz11 fz11 cz12 fz12)
attribute [local go_sem] narrow_slice Go.Proofs.Ytjmakjddhbdocaa.StoreK.isSome_setCell max2_int min2_int max_two min_two max_three min_three max_four min_four   -- for this text's walks alone
set_option linter.unusedVariables false
set_option linter.unusedSimpArgs false

/-! ### laws_heldRangeS: function 54 -/
def laws_heldRangeS.l0 : Nat → List (S105) → Int → Int → Option (Int)
 | 0, _, _, _ => none
 | k + 1, x0, x1, x5 => if x5 < (x0.length : Int) then (if 0 ≤ x5 then (if ((rd_T105 x0 x5).f0) = x1 then (if ((rd_T105 x0 x5).f1) = (wrap64 (x1 + 1)) then (laws_heldRangeS.l0 k x0 (wrap64 ((wrap64 (x1 + 1)) + 1)) (wrap64 (x5 + 1))) else (some (-1))) else (some (-1))) else (none)) else (some x1)
def laws_heldRangeS.f (k : Nat) (l0 : List (S105)) (a1 : Int) : Option (Int) := laws_heldRangeS.l0 k l0 a1 0
theorem laws_heldRangeS.mono_l : ∀ k, (∀ y0 y1 y2, LeO (laws_heldRangeS.l0 k y0 y1 y2) (laws_heldRangeS.l0 (k + 1) y0 y1 y2))
 | 0 => fun _ _ _ r h => by simp [laws_heldRangeS.l0] at h
 | k + 1 => by
  have ih0 := laws_heldRangeS.mono_l k
  ·intro y0 y1 y2
   unfold laws_heldRangeS.l0
   repeat' first
   | (with_reducible exact ih0 _ _ _)
   | (with_reducible exact LeO.refl _)
   | (with_reducible exact LeO.none _)
   | (with_reducible refine LeO.ite ?_ ?_)
   | (with_reducible refine LeO.bind ?_ (fun _ => ?_))
   | exact ih0 _ _ _
   | exact LeO.none _
   | refine LeO.ite ?_ ?_
   | refine LeO.bind ?_ (fun _ => ?_)
theorem laws_heldRangeS.mono : ∀ a0 a1 k, LeO (laws_heldRangeS.f k a0 a1) (laws_heldRangeS.f (k + 1) a0 a1) := by
 intro a0 a1 k
 have ih0 := laws_heldRangeS.mono_l k
 unfold laws_heldRangeS.f
 repeat' first
   | (with_reducible exact ih0 _ _ _)
   | (with_reducible exact LeO.refl _)
   | (with_reducible exact LeO.none _)
   | (with_reducible refine LeO.ite ?_ ?_)
   | (with_reducible refine LeO.bind ?_ (fun _ => ?_))
   | exact ih0 _ _ _
   | exact LeO.none _
   | refine LeO.ite ?_ ?_
   | refine LeO.bind ?_ (fun _ => ?_)
set_option maxHeartbeats 64000000 in
set_option maxRecDepth 100000 in
theorem laws_heldRangeS.calls (k : Nat) (A0 : Option Addr) (c0 : Nat) (l0 : List (S105)) (a1 : Int) (r : Int) (w : World) (hr0 : Kd.C k105 w A0 l0.length l0) (hc0 : l0.length ≤ c0) (h : laws_heldRangeS.f k l0 a1 = some r) :
  Calls Try.prog 54 #[.slice A0 l0.length c0, .int .i64 a1] w fun e w' => e = .returned (.int .i64 r) ∧ Drawn0 w w' := by
 have HR0 := Aside0.mk hr0
 have HC0 := Aside0.mk hc0
 clear hr0 hc0
 have H : (laws_heldRangeS.l0 k l0 a1 0) = some r := h
 clear h
 have H' := Aside0.mk H
 clear H
 go_enter Try.func54, Try.ntmps54
 go_wp2
 go_loopg [1, 5] k (fun kq v1 v5 w' => ∃ (x1_1 : Int) (x5_1 : Int), v1 = .int .i64 x1_1 ∧ v5 = .int .i64 x5_1 ∧ Aside0 (laws_heldRangeS.l0 kq l0 x1_1 x5_1 = some r) ∧ Aside0 (kq ≤ k) ∧ Drawn0 w w')
 case atStart => exact ⟨(a1), (0), (by first | rfl | (simp; done) | (simp [*]; done)), (by first | rfl | (simp; done) | (simp [*]; done)), H', ⟨Nat.le_refl _⟩, by repeat (first | exact Drawn0.refl _ | apply Drawn0.step)⟩
 case round =>
  clear H'
  try clear p2
  obtain ⟨x1_1, x5_1, rfl, rfl, HA, HK1, ⟨m1, rfl⟩⟩ := hrel
  cases gk with
  | zero => exact absurd HA.out (by simp [laws_heldRangeS.l0])
  | succ k1 =>
   have H := HA.out
   clear HA
   simp only [laws_heldRangeS.l0] at H
   by_cases c3 : x5_1 < (l0.length : Int)
   ·rw [if_pos c3] at H
    have c3b0 : decide (x5_1 < (l0.length : Int)) = true := decide_eq_true c3
    clear c3
    by_cases c4 : 0 ≤ x5_1
    ·rw [if_pos c4] at H
     have c4b0 : decide (0 ≤ x5_1) = true := decide_eq_true c4
     clear c4
     by_cases c5 : ((rd_T105 l0 x5_1).f0) = x1_1
     ·rw [if_pos c5] at H
      have c5b0 : (((rd_T105 l0 x5_1).f0) == x1_1) = true := beq_iff_eq.mpr c5
      have c5b1 : (((rd_T105 l0 x5_1).f0) != x1_1) = false := bne_eq_false_iff_eq.mpr c5
      clear c5
      by_cases c6 : ((rd_T105 l0 x5_1).f1) = (wrap64 (x1_1 + 1))
      ·rw [if_pos c6] at H
       have c6b0 : (((rd_T105 l0 x5_1).f1) == (wrap64 (x1_1 + 1))) = true := beq_iff_eq.mpr c6
       have c6b1 : (((rd_T105 l0 x5_1).f1) != (wrap64 (x1_1 + 1))) = false := bne_eq_false_iff_eq.mpr c6
       (try (have c6b2 : (((rd_T105 l0 x5_1).f1) == (IntKind.i64.wrap (x1_1 + 1))) = true := by simp only [i64_w]; exact (beq_iff_eq.mpr c6)))
       (try (have c6b3 : (((rd_T105 l0 x5_1).f1) != (IntKind.i64.wrap (x1_1 + 1))) = false := by simp only [i64_w]; exact (bne_eq_false_iff_eq.mpr c6)))
       clear c6
       have H' := Aside0.mk H
       clear H
       have p164 : 0 ≤ (x5_1 : Int) := of_decide_eq_true (by first | (with_reducible assumption) | assumption)
       have q164 : x5_1 < (l0.length : Int) := of_decide_eq_true (by first | (with_reducible assumption) | assumption)
       obtain ⟨ad164, e164, hx164_0, hx164_1⟩ := at_T105 HR0.out x5_1 p164 q164
       cases e164
       replace p164 := eq_true p164
       replace q164 := eq_true q164
       have p165 : 0 ≤ (x5_1 : Int) := of_decide_eq_true (by first | (with_reducible assumption) | assumption)
       have q165 : x5_1 < (l0.length : Int) := of_decide_eq_true (by first | (with_reducible assumption) | assumption)
       obtain ⟨ad165, e165, hx165_0, hx165_1⟩ := at_T105 HR0.out x5_1 p165 q165
       obtain rfl : ad164 = ad165 := (by injection e165)
       replace p165 := eq_true p165
       replace q165 := eq_true q165
       go_wp2
       go_roundg k1
       case measure => have := HK1.out; omega
       case rel => exact ⟨(wrap64 ((wrap64 (x1_1 + 1)) + 1)), (wrap64 (x5_1 + 1)), (by first | rfl | (simp; done) | (simp [*]; done)), (by first | rfl | (simp; done) | (simp [*]; done)), H', ⟨by have := HK1.out; omega⟩, by repeat (first | exact Drawn0.refl _ | apply Drawn0.step)⟩
      ·rw [if_neg c6] at H
       have c6b0 : (((rd_T105 l0 x5_1).f1) == (wrap64 (x1_1 + 1))) = false := beq_eq_false_iff_ne.mpr c6
       have c6b1 : (((rd_T105 l0 x5_1).f1) != (wrap64 (x1_1 + 1))) = true := bne_iff_ne.mpr c6
       (try (have c6b2 : (((rd_T105 l0 x5_1).f1) == (IntKind.i64.wrap (x1_1 + 1))) = false := by simp only [i64_w]; exact (beq_eq_false_iff_ne.mpr c6)))
       (try (have c6b3 : (((rd_T105 l0 x5_1).f1) != (IntKind.i64.wrap (x1_1 + 1))) = true := by simp only [i64_w]; exact (bne_iff_ne.mpr c6)))
       obtain rfl := Option.some.inj H
       have p164 : 0 ≤ (x5_1 : Int) := of_decide_eq_true (by first | (with_reducible assumption) | assumption)
       have q164 : x5_1 < (l0.length : Int) := of_decide_eq_true (by first | (with_reducible assumption) | assumption)
       obtain ⟨ad164, e164, hx164_0, hx164_1⟩ := at_T105 HR0.out x5_1 p164 q164
       cases e164
       replace p164 := eq_true p164
       replace q164 := eq_true q164
       have p165 : 0 ≤ (x5_1 : Int) := of_decide_eq_true (by first | (with_reducible assumption) | assumption)
       have q165 : x5_1 < (l0.length : Int) := of_decide_eq_true (by first | (with_reducible assumption) | assumption)
       obtain ⟨ad165, e165, hx165_0, hx165_1⟩ := at_T105 HR0.out x5_1 p165 q165
       obtain rfl : ad164 = ad165 := (by injection e165)
       replace p165 := eq_true p165
       replace q165 := eq_true q165
       go_wp2
       go_ret
       exact ⟨by first | rfl | (simp; done) | (simp [*]; done), by repeat (first | exact Drawn0.refl _ | apply Drawn0.step)⟩
     ·rw [if_neg c5] at H
      have c5b0 : (((rd_T105 l0 x5_1).f0) == x1_1) = false := beq_eq_false_iff_ne.mpr c5
      have c5b1 : (((rd_T105 l0 x5_1).f0) != x1_1) = true := bne_iff_ne.mpr c5
      obtain rfl := Option.some.inj H
      have p164 : 0 ≤ (x5_1 : Int) := of_decide_eq_true (by first | (with_reducible assumption) | assumption)
      have q164 : x5_1 < (l0.length : Int) := of_decide_eq_true (by first | (with_reducible assumption) | assumption)
      obtain ⟨ad164, e164, hx164_0, hx164_1⟩ := at_T105 HR0.out x5_1 p164 q164
      cases e164
      replace p164 := eq_true p164
      replace q164 := eq_true q164
      go_wp2
      go_ret
      exact ⟨by first | rfl | (simp; done) | (simp [*]; done), by repeat (first | exact Drawn0.refl _ | apply Drawn0.step)⟩
    ·rw [if_neg c4] at H
     exact absurd H (by simp)
   ·rw [if_neg c3] at H
    have c3b0 : decide (x5_1 < (l0.length : Int)) = false := decide_eq_false c3
    clear c3
    obtain rfl := Option.some.inj H
    go_wp2
    go_ret
    exact ⟨by first | rfl | (simp; done) | (simp [*]; done), by repeat (first | exact Drawn0.refl _ | apply Drawn0.step)⟩

/-! ### laws_FnExactPutNumber: function 10 -/
mutual
def laws_FnExactPutNumber.j0 : Nat → List (S112) → Int → List (S105) → Bool → List (S105) → List (S105) → Bool → Bool → Option (Bool)
 | 0, _, _, _, _, _, _, _, _ => none
 | k + 1, x0, x1, x6, x7, x8, x9, x10, x44 => if x44 = true then (some false) else ((laws_toRangeS.f k x0).bind fun t182 => ((laws_eqRangeS.f k x8 t182).bind fun t185 => (if t185 = true then ((laws_markRangeS.f k x8 1).bind fun bt186 => (if bt186.1 < 0 then (laws_FnExactPutNumber.j1 k x0 x1 x6 x7 x9 true) else ((laws_eqRangeS.f k x9 x6).bind fun t188 => (if t188 = true then (laws_FnExactPutNumber.j1 k x0 x1 x6 x7 x9 (x10 != x7)) else (laws_FnExactPutNumber.j1 k x0 x1 x6 x7 x9 true))))) else (some false))))
def laws_FnExactPutNumber.j1 : Nat → List (S112) → Int → List (S105) → Bool → List (S105) → Bool → Option (Bool)
 | 0, _, _, _, _, _, _ => none
 | k + 1, x0, x1, x6, x7, x9, x65 => if x65 = true then (some false) else ((laws_markRangeS.f k x9 1).bind fun bt189 => ((laws_heldRangeS.f k bt189.2 1).bind fun t191 => (if t191 < 0 then (some false) else (if t191 = bt189.1 then ((laws_toRangeS.f k x0).bind fun t192 => ((impl_PutNumber.f k t192 x1).bind fun bt195 => ((laws_eqRangeS.f k bt195.1 x6).bind fun t199 => (if t199 = true then (laws_FnExactPutNumber.j2 k bt189.2 bt189.1 (bt195.2 != x7)) else (laws_FnExactPutNumber.j2 k bt189.2 bt189.1 true))))) else (some false)))))
def laws_FnExactPutNumber.j2 : Nat → List (S105) → Int → Bool → Option (Bool)
 | 0, _, _, _ => none
 | k + 1, x9, x12, x92 => if x92 = true then (some false) else ((laws_heldRangeS.f k x9 1).bind fun t200 => (if t200 < 0 then (some false) else (if t200 = x12 then (some true) else (some false))))
end
def laws_FnExactPutNumber.f (k : Nat) (l0 : List (S112)) (a1 : Int) : Option (Bool) := (laws_szRangeS.f l0 1048576).bind fun t166 => (if t166 < 0 then (some true) else ((laws_toRangeS.f k l0).bind fun t167 => ((spec_PutNumber.f k t167 a1).bind fun bt170 => ((laws_toRangeS.f k l0).bind fun t174 => ((impl_PutNumber.f k t174 a1).bind fun bt177 => ((laws_eqRangeS.f k bt177.1 bt170.1).bind fun t181 => (if t181 = true then (laws_FnExactPutNumber.j0 k l0 a1 bt170.1 bt170.2 t174 bt177.1 bt177.2 (bt177.2 != bt170.2)) else (laws_FnExactPutNumber.j0 k l0 a1 bt170.1 bt170.2 t174 bt177.1 bt177.2 true))))))))
theorem laws_FnExactPutNumber.mono_l : ∀ k, (∀ y0 y1 y2 y3 y4 y5 y6 y7, LeO (laws_FnExactPutNumber.j0 k y0 y1 y2 y3 y4 y5 y6 y7) (laws_FnExactPutNumber.j0 (k + 1) y0 y1 y2 y3 y4 y5 y6 y7)) ∧ (∀ y0 y1 y2 y3 y4 y5, LeO (laws_FnExactPutNumber.j1 k y0 y1 y2 y3 y4 y5) (laws_FnExactPutNumber.j1 (k + 1) y0 y1 y2 y3 y4 y5)) ∧ (∀ y0 y1 y2, LeO (laws_FnExactPutNumber.j2 k y0 y1 y2) (laws_FnExactPutNumber.j2 (k + 1) y0 y1 y2))
 | 0 => ⟨fun _ _ _ _ _ _ _ _ r h => by simp [laws_FnExactPutNumber.j0] at h, fun _ _ _ _ _ _ r h => by simp [laws_FnExactPutNumber.j1] at h, fun _ _ _ r h => by simp [laws_FnExactPutNumber.j2] at h⟩
 | k + 1 => by
  obtain ⟨ih0, ih1, ih2⟩ := laws_FnExactPutNumber.mono_l k
  refine ⟨?_, ?_, ?_⟩
  ·intro y0 y1 y2 y3 y4 y5 y6 y7
   unfold laws_FnExactPutNumber.j0
   repeat' first
   | (with_reducible exact ih0 _ _ _ _ _ _ _ _)
   | (with_reducible exact ih1 _ _ _ _ _ _)
   | (with_reducible exact ih2 _ _ _)
   | (with_reducible exact impl_PutNumber.mono _ _ _)
   | (with_reducible exact laws_eqRangeS.mono _ _ _)
   | (with_reducible exact laws_heldRangeS.mono _ _ _)
   | (with_reducible exact laws_markRangeS.mono _ _ _)
   | (with_reducible exact laws_toRangeS.mono _ _)
   | (with_reducible exact spec_PutNumber.mono _ _ _)
   | (with_reducible exact LeO.refl _)
   | (with_reducible exact LeO.none _)
   | (with_reducible refine LeO.ite ?_ ?_)
   | (with_reducible refine LeO.bind ?_ (fun _ => ?_))
   | exact ih0 _ _ _ _ _ _ _ _
   | exact ih1 _ _ _ _ _ _
   | exact ih2 _ _ _
   | exact impl_PutNumber.mono _ _ _
   | exact laws_eqRangeS.mono _ _ _
   | exact laws_heldRangeS.mono _ _ _
   | exact laws_markRangeS.mono _ _ _
   | exact laws_toRangeS.mono _ _
   | exact spec_PutNumber.mono _ _ _
   | exact LeO.none _
   | refine LeO.ite ?_ ?_
   | refine LeO.bind ?_ (fun _ => ?_)
  ·intro y0 y1 y2 y3 y4 y5
   unfold laws_FnExactPutNumber.j1
   repeat' first
   | (with_reducible exact ih0 _ _ _ _ _ _ _ _)
   | (with_reducible exact ih1 _ _ _ _ _ _)
   | (with_reducible exact ih2 _ _ _)
   | (with_reducible exact impl_PutNumber.mono _ _ _)
   | (with_reducible exact laws_eqRangeS.mono _ _ _)
   | (with_reducible exact laws_heldRangeS.mono _ _ _)
   | (with_reducible exact laws_markRangeS.mono _ _ _)
   | (with_reducible exact laws_toRangeS.mono _ _)
   | (with_reducible exact spec_PutNumber.mono _ _ _)
   | (with_reducible exact LeO.refl _)
   | (with_reducible exact LeO.none _)
   | (with_reducible refine LeO.ite ?_ ?_)
   | (with_reducible refine LeO.bind ?_ (fun _ => ?_))
   | exact ih0 _ _ _ _ _ _ _ _
   | exact ih1 _ _ _ _ _ _
   | exact ih2 _ _ _
   | exact impl_PutNumber.mono _ _ _
   | exact laws_eqRangeS.mono _ _ _
   | exact laws_heldRangeS.mono _ _ _
   | exact laws_markRangeS.mono _ _ _
   | exact laws_toRangeS.mono _ _
   | exact spec_PutNumber.mono _ _ _
   | exact LeO.none _
   | refine LeO.ite ?_ ?_
   | refine LeO.bind ?_ (fun _ => ?_)
  ·intro y0 y1 y2
   unfold laws_FnExactPutNumber.j2
   repeat' first
   | (with_reducible exact ih0 _ _ _ _ _ _ _ _)
   | (with_reducible exact ih1 _ _ _ _ _ _)
   | (with_reducible exact ih2 _ _ _)
   | (with_reducible exact impl_PutNumber.mono _ _ _)
   | (with_reducible exact laws_eqRangeS.mono _ _ _)
   | (with_reducible exact laws_heldRangeS.mono _ _ _)
   | (with_reducible exact laws_markRangeS.mono _ _ _)
   | (with_reducible exact laws_toRangeS.mono _ _)
   | (with_reducible exact spec_PutNumber.mono _ _ _)
   | (with_reducible exact LeO.refl _)
   | (with_reducible exact LeO.none _)
   | (with_reducible refine LeO.ite ?_ ?_)
   | (with_reducible refine LeO.bind ?_ (fun _ => ?_))
   | exact ih0 _ _ _ _ _ _ _ _
   | exact ih1 _ _ _ _ _ _
   | exact ih2 _ _ _
   | exact impl_PutNumber.mono _ _ _
   | exact laws_eqRangeS.mono _ _ _
   | exact laws_heldRangeS.mono _ _ _
   | exact laws_markRangeS.mono _ _ _
   | exact laws_toRangeS.mono _ _
   | exact spec_PutNumber.mono _ _ _
   | exact LeO.none _
   | refine LeO.ite ?_ ?_
   | refine LeO.bind ?_ (fun _ => ?_)
theorem laws_FnExactPutNumber.mono : ∀ a0 a1 k, LeO (laws_FnExactPutNumber.f k a0 a1) (laws_FnExactPutNumber.f (k + 1) a0 a1) := by
 intro a0 a1 k
 obtain ⟨ih0, ih1, ih2⟩ := laws_FnExactPutNumber.mono_l k
 unfold laws_FnExactPutNumber.f
 repeat' first
   | (with_reducible exact ih0 _ _ _ _ _ _ _ _)
   | (with_reducible exact ih1 _ _ _ _ _ _)
   | (with_reducible exact ih2 _ _ _)
   | (with_reducible exact impl_PutNumber.mono _ _ _)
   | (with_reducible exact laws_eqRangeS.mono _ _ _)
   | (with_reducible exact laws_heldRangeS.mono _ _ _)
   | (with_reducible exact laws_markRangeS.mono _ _ _)
   | (with_reducible exact laws_toRangeS.mono _ _)
   | (with_reducible exact spec_PutNumber.mono _ _ _)
   | (with_reducible exact LeO.refl _)
   | (with_reducible exact LeO.none _)
   | (with_reducible refine LeO.ite ?_ ?_)
   | (with_reducible refine LeO.bind ?_ (fun _ => ?_))
   | exact ih0 _ _ _ _ _ _ _ _
   | exact ih1 _ _ _ _ _ _
   | exact ih2 _ _ _
   | exact impl_PutNumber.mono _ _ _
   | exact laws_eqRangeS.mono _ _ _
   | exact laws_heldRangeS.mono _ _ _
   | exact laws_markRangeS.mono _ _ _
   | exact laws_toRangeS.mono _ _
   | exact spec_PutNumber.mono _ _ _
   | exact LeO.none _
   | refine LeO.ite ?_ ?_
   | refine LeO.bind ?_ (fun _ => ?_)
set_option maxHeartbeats 64000000 in
set_option maxRecDepth 100000 in
theorem laws_FnExactPutNumber.calls (k : Nat) (A0 : Option Addr) (c0 : Nat) (l0 : List (S112)) (a1 : Int) (r : Bool) (w : World) (hr0 : Kd.C k112 w A0 l0.length l0) (hc0 : l0.length ≤ c0) (h : laws_FnExactPutNumber.f k l0 a1 = some r) :
  Calls Try.prog 10 #[.slice A0 l0.length c0, .int .i64 a1] w fun e w' => e = .returned (.bool r) ∧ Below w.heap.size w w' := by
 have HR0 := Aside0.mk hr0
 have HC0 := Aside0.mk hc0
 clear hr0 hc0
 have HB := Aside0.mk (Below.refl w.heap.size w)
 have H : ((laws_szRangeS.f l0 1048576).bind fun t166 => (if t166 < 0 then (some true) else ((laws_toRangeS.f k l0).bind fun t167 => ((spec_PutNumber.f k t167 a1).bind fun bt170 => ((laws_toRangeS.f k l0).bind fun t174 => ((impl_PutNumber.f k t174 a1).bind fun bt177 => ((laws_eqRangeS.f k bt177.1 bt170.1).bind fun t181 => (if t181 = true then (laws_FnExactPutNumber.j0 k l0 a1 bt170.1 bt170.2 t174 bt177.1 bt177.2 (bt177.2 != bt170.2)) else (laws_FnExactPutNumber.j0 k l0 a1 bt170.1 bt170.2 t174 bt177.1 bt177.2 true))))))))) = some r := h
 clear h
 replace H := Option.bind_eq_some_iff.mp H
 obtain ⟨t166, A30, H⟩ := H
 replace H : (if t166 < 0 then (some true) else ((laws_toRangeS.f k l0).bind fun t167 => ((spec_PutNumber.f k t167 a1).bind fun bt170 => ((laws_toRangeS.f k l0).bind fun t174 => ((impl_PutNumber.f k t174 a1).bind fun bt177 => ((laws_eqRangeS.f k bt177.1 bt170.1).bind fun t181 => (if t181 = true then (laws_FnExactPutNumber.j0 k l0 a1 bt170.1 bt170.2 t174 bt177.1 bt177.2 (bt177.2 != bt170.2)) else (laws_FnExactPutNumber.j0 k l0 a1 bt170.1 bt170.2 t174 bt177.1 bt177.2 true)))))))) = some r := H
 have A3 := Aside0.mk A30
 clear A30
 by_cases c4 : t166 < 0
 ·rw [if_pos c4] at H
  have c4b0 : decide (t166 < 0) = true := decide_eq_true c4
  clear c4
  obtain rfl := Option.some.inj H
  go_enter Try.func10, Try.ntmps10
  go_wp2_with (first | ((with_reducible refine gate_callee (f := 13) rfl ?_); refine goesL_ (some 18) rfl rfl Try.func13 (by kernel_rfl) rfl #[.slice A0 l0.length c0, .int .i64 1048576] rfl (by (try simp only [List.map_toArray, List.map_cons, List.map_nil]); first | done | rfl | (simp only [List.length_drop, List.length_take]; rfl)) ?_; (with_reducible refine (laws_szRangeS.calls _ _ l0 1048576 t166 _ ?side1 ?side2 A3.out).mono ?_); (case side1 => repeat (first | exact HR0.out | (with_reducible refine Kd.C_alloc ?_ _) | (with_reducible refine Kd.C_drewN ?_ _) | (with_reducible refine Kd.C_drew ?_))); (case side2 => exact HC0.out); rintro e w' ⟨rfl, ⟨nd, rfl⟩⟩; refine ⟨_, rfl, ?_⟩))
  go_ret
  exact ⟨by first | rfl | (simp [errW_none, errW_some] <;> rfl) | (simp [*, errW_none, errW_some] <;> rfl), by repeat (first | (with_reducible first | exact HB.out | apply below_alloc | apply pw_below_drewN | apply below_drew1) | exact HB.out)⟩
 ·rw [if_neg c4] at H
  have c4b0 : decide (t166 < 0) = false := decide_eq_false c4
  clear c4
  replace H := Option.bind_eq_some_iff.mp H
  obtain ⟨t167, A50, H⟩ := H
  replace H : ((spec_PutNumber.f k t167 a1).bind fun bt170 => ((laws_toRangeS.f k l0).bind fun t174 => ((impl_PutNumber.f k t174 a1).bind fun bt177 => ((laws_eqRangeS.f k bt177.1 bt170.1).bind fun t181 => (if t181 = true then (laws_FnExactPutNumber.j0 k l0 a1 bt170.1 bt170.2 t174 bt177.1 bt177.2 (bt177.2 != bt170.2)) else (laws_FnExactPutNumber.j0 k l0 a1 bt170.1 bt170.2 t174 bt177.1 bt177.2 true)))))) = some r := H
  have A5 := Aside0.mk A50
  clear A50
  replace H := Option.bind_eq_some_iff.mp H
  obtain ⟨⟨t170, t171⟩, A60, H⟩ := H
  replace H : ((laws_toRangeS.f k l0).bind fun t174 => ((impl_PutNumber.f k t174 a1).bind fun bt177 => ((laws_eqRangeS.f k bt177.1 t170).bind fun t181 => (if t181 = true then (laws_FnExactPutNumber.j0 k l0 a1 t170 t171 t174 bt177.1 bt177.2 (bt177.2 != t171)) else (laws_FnExactPutNumber.j0 k l0 a1 t170 t171 t174 bt177.1 bt177.2 true))))) = some r := H
  have A6 := Aside0.mk A60
  clear A60
  replace H := Option.bind_eq_some_iff.mp H
  obtain ⟨t174, A70, H⟩ := H
  replace H : ((impl_PutNumber.f k t174 a1).bind fun bt177 => ((laws_eqRangeS.f k bt177.1 t170).bind fun t181 => (if t181 = true then (laws_FnExactPutNumber.j0 k l0 a1 t170 t171 t174 bt177.1 bt177.2 (bt177.2 != t171)) else (laws_FnExactPutNumber.j0 k l0 a1 t170 t171 t174 bt177.1 bt177.2 true)))) = some r := H
  have A7 := Aside0.mk A70
  clear A70
  replace H := Option.bind_eq_some_iff.mp H
  obtain ⟨⟨t177, t178⟩, A80, H⟩ := H
  replace H : ((laws_eqRangeS.f k t177 t170).bind fun t181 => (if t181 = true then (laws_FnExactPutNumber.j0 k l0 a1 t170 t171 t174 t177 t178 (t178 != t171)) else (laws_FnExactPutNumber.j0 k l0 a1 t170 t171 t174 t177 t178 true))) = some r := H
  have A8 := Aside0.mk A80
  clear A80
  have HC9 := Aside0.mk H
  clear H
  go_enter Try.func10, Try.ntmps10
  go_upto_region 8 with (first | ((with_reducible refine gate_callee (f := 13) rfl ?_); refine goesL_ (some 18) rfl rfl Try.func13 (by kernel_rfl) rfl #[.slice A0 l0.length c0, .int .i64 1048576] rfl (by (try simp only [List.map_toArray, List.map_cons, List.map_nil]); first | done | rfl | (simp only [List.length_drop, List.length_take]; rfl)) ?_; (with_reducible refine (laws_szRangeS.calls _ _ l0 1048576 t166 _ ?side1 ?side2 A3.out).mono ?_); (case side1 => repeat (first | exact HR0.out | (with_reducible refine Kd.C_alloc ?_ _) | (with_reducible refine Kd.C_drewN ?_ _) | (with_reducible refine Kd.C_drew ?_))); (case side2 => exact HC0.out); rintro e w' ⟨rfl, ⟨nd, rfl⟩⟩; refine ⟨_, rfl, ?_⟩) | ((with_reducible refine gate_callee (f := 16) rfl ?_); refine goesL_ (some 23) rfl rfl Try.func16 (by kernel_rfl) rfl #[.slice A0 l0.length c0] rfl (by (try simp only [List.map_toArray, List.map_cons, List.map_nil]); first | done | rfl | (simp only [List.length_drop, List.length_take]; rfl)) ?_; (with_reducible refine (laws_toRangeS.calls k _ _ l0 t167 _ ?side1 ?side2 A5.out).mono ?_); (case side1 => repeat (first | exact HR0.out | (with_reducible refine Kd.C_alloc ?_ _) | (with_reducible refine Kd.C_drewN ?_ _) | (with_reducible refine Kd.C_drew ?_))); (case side2 => exact HC0.out); rintro e w10 ⟨v168, rfl, ho0, hb⟩; refine ⟨_, rfl, ?_⟩; have n0_ := Aside0.mk (Kd.R_lower ho0 (below_size (by repeat (first | (with_reducible first | exact HB.out | apply below_alloc | apply pw_below_drewN | apply below_drew1) | exact HB.out)))); have n1_ := Aside0.mk (below_step (by repeat (first | (with_reducible first | exact HB.out | apply below_alloc | apply pw_below_drewN | apply below_drew1) | exact HB.out)) hb); clear HB; have HO169 := n0_; have HB := n1_; clear n0_ n1_; (try clear hb); (try clear hb2); (try clear hk); (try clear hi); (try clear ho0); obtain ⟨Ao11, co11, eo11⟩ := Kd.R_slice HO169.out; subst eo11) | ((with_reducible refine gate_callee (f := 52) rfl ?_); refine goesL_ (some 25) rfl rfl Try.func52 (by kernel_rfl) rfl #[.slice Ao11 t167.length co11, .int .i64 a1] rfl (by (try simp only [List.map_toArray, List.map_cons, List.map_nil]); first | done | rfl | (simp only [List.length_drop, List.length_take]; rfl)) ?_; (with_reducible refine (spec_PutNumber.calls k _ _ t167 a1 t170 t171 _ ?side1 ?side2 A6.out).mono ?_); (case side1 => repeat (first | exact (Kd.R_reads' HO169.out).2.2 | (with_reducible refine Kd.C_alloc ?_ _) | (with_reducible refine Kd.C_drewN ?_ _) | (with_reducible refine Kd.C_drew ?_))); (case side2 => exact (Kd.R_reads' HO169.out).2.1); rintro e w12 ⟨v172, rfl, ho0, hb⟩; refine ⟨_, rfl, ?_⟩; have n0_ := Aside0.mk (Kd.R_elder' (by (with_reducible repeat (first | apply Kd.R_alloc | apply Kd.R_drewN | apply Kd.R_drew)); exact HO169.out) (Kd.R_base ho0) hb); have n1_ := Aside0.mk (Kd.R_lower (Kd.R_new' ho0 (Kd.R_lt (by (with_reducible repeat (first | apply Kd.R_alloc | apply Kd.R_drewN | apply Kd.R_drew)); exact HO169.out))) (below_size (by repeat (first | (with_reducible first | exact HB.out | apply below_alloc | apply pw_below_drewN | apply below_drew1) | exact HB.out)))); have n2_ := Aside0.mk (below_step (by repeat (first | (with_reducible first | exact HB.out | apply below_alloc | apply pw_below_drewN | apply below_drew1) | exact HB.out)) hb); clear HO169; clear HB; have HO169 := n0_; have HO173 := n1_; have HB := n2_; clear n0_ n1_ n2_; (try clear hb); (try clear hb2); (try clear hk); (try clear hi); (try clear ho0)) | ((with_reducible refine gate_callee (f := 16) rfl ?_); refine goesL_ (some 29) rfl rfl Try.func16 (by kernel_rfl) rfl #[.slice A0 l0.length c0] rfl (by (try simp only [List.map_toArray, List.map_cons, List.map_nil]); first | done | rfl | (simp only [List.length_drop, List.length_take]; rfl)) ?_; (with_reducible refine (laws_toRangeS.calls k _ _ l0 t174 _ ?side1 ?side2 A7.out).mono ?_); (case side1 => repeat (first | exact (Kd.C_below HR0.out HB.out) | (with_reducible refine Kd.C_alloc ?_ _) | (with_reducible refine Kd.C_drewN ?_ _) | (with_reducible refine Kd.C_drew ?_))); (case side2 => exact HC0.out); rintro e w13 ⟨v175, rfl, ho0, hb⟩; refine ⟨_, rfl, ?_⟩; have n0_ := Aside0.mk (Kd.R_elder' (by (with_reducible repeat (first | apply Kd.R_alloc | apply Kd.R_drewN | apply Kd.R_drew)); exact HO169.out) (Kd.R_base ho0) hb); have n1_ := Aside0.mk (Kd.R_elder' (by (with_reducible repeat (first | apply Kd.R_alloc | apply Kd.R_drewN | apply Kd.R_drew)); exact HO173.out) (Kd.R_base ho0) hb); have n2_ := Aside0.mk (Kd.R_lower (Kd.R_new' (Kd.R_new' ho0 (Kd.R_lt (by (with_reducible repeat (first | apply Kd.R_alloc | apply Kd.R_drewN | apply Kd.R_drew)); exact HO169.out))) (Kd.R_lt (by (with_reducible repeat (first | apply Kd.R_alloc | apply Kd.R_drewN | apply Kd.R_drew)); exact HO173.out))) (below_size (by repeat (first | (with_reducible first | exact HB.out | apply below_alloc | apply pw_below_drewN | apply below_drew1) | exact HB.out)))); have n3_ := Aside0.mk (below_step (by repeat (first | (with_reducible first | exact HB.out | apply below_alloc | apply pw_below_drewN | apply below_drew1) | exact HB.out)) hb); clear HO169; clear HO173; clear HB; have HO169 := n0_; have HO173 := n1_; have HO176 := n2_; have HB := n3_; clear n0_ n1_ n2_ n3_; (try clear hb); (try clear hb2); (try clear hk); (try clear hi); (try clear ho0); obtain ⟨Ao14, co14, eo14⟩ := Kd.R_slice HO176.out; subst eo14) | ((with_reducible refine gate_callee (f := 53) rfl ?_); refine goesL_ (some 33) rfl rfl Try.func53 (by kernel_rfl) rfl #[.slice Ao14 t174.length co14, .int .i64 a1] rfl (by (try simp only [List.map_toArray, List.map_cons, List.map_nil]); first | done | rfl | (simp only [List.length_drop, List.length_take]; rfl)) ?_; (with_reducible refine (impl_PutNumber.calls k _ _ t174 a1 t177 t178 _ ?side1 ?side2 A8.out).mono ?_); (case side1 => repeat (first | exact (Kd.R_reads' HO176.out).2.2 | (with_reducible refine Kd.C_alloc ?_ _) | (with_reducible refine Kd.C_drewN ?_ _) | (with_reducible refine Kd.C_drew ?_))); (case side2 => exact (Kd.R_reads' HO176.out).2.1); rintro e w15 ⟨v179, cN1, rfl, ho0, hN, hb⟩; have HN1 := Aside0.mk hN; clear hN; refine ⟨_, rfl, ?_⟩; have n0_ := Aside0.mk (Kd.R_elder' (by (with_reducible repeat (first | apply Kd.R_alloc | apply Kd.R_drewN | apply Kd.R_drew)); exact HO169.out) (Kd.R_base ho0) hb); have n1_ := Aside0.mk (Kd.R_elder' (by (with_reducible repeat (first | apply Kd.R_alloc | apply Kd.R_drewN | apply Kd.R_drew)); exact HO173.out) (Kd.R_base ho0) hb); have n2_ := Aside0.mk (Kd.R_elder' (by (with_reducible repeat (first | apply Kd.R_alloc | apply Kd.R_drewN | apply Kd.R_drew)); exact HO176.out) (Kd.R_base ho0) hb); have n3_ := Aside0.mk (Kd.R_lower (Kd.R_new' (Kd.R_new' (Kd.R_new' ho0 (Kd.R_lt (by (with_reducible repeat (first | apply Kd.R_alloc | apply Kd.R_drewN | apply Kd.R_drew)); exact HO169.out))) (Kd.R_lt (by (with_reducible repeat (first | apply Kd.R_alloc | apply Kd.R_drewN | apply Kd.R_drew)); exact HO173.out))) (Kd.R_lt (by (with_reducible repeat (first | apply Kd.R_alloc | apply Kd.R_drewN | apply Kd.R_drew)); exact HO176.out))) (below_size (by repeat (first | (with_reducible first | exact HB.out | apply below_alloc | apply pw_below_drewN | apply below_drew1) | exact HB.out)))); have n4_ := Aside0.mk (below_step (by repeat (first | (with_reducible first | exact HB.out | apply below_alloc | apply pw_below_drewN | apply below_drew1) | exact HB.out)) hb); clear HO169; clear HO173; clear HO176; clear HB; have HO169 := n0_; have HO173 := n1_; have HO176 := n2_; have HO180 := n3_; have HB := n4_; clear n0_ n1_ n2_ n3_ n4_; (try clear hb); (try clear hb2); (try clear hk); (try clear hi); (try clear ho0)))
  (try simp only [Act.put, sA, sZ, sS])
  go_cut [44] (fun v44 wc => ∃ (kq : Nat) (x44_8 : Bool), v44 = .bool x44_8 ∧ Aside0 (laws_FnExactPutNumber.j0 kq l0 a1 t170 t171 t174 t177 t178 x44_8 = some r) ∧ Aside0 (kq ≤ k) ∧ Aside0 (Kd.R k105 105 wc w.heap.size (fun k_ => some k_ ≠ ((.slice Ao14 t174.length co14) : Value).ownBlock ∧ some k_ ≠ (v179 : Value).ownBlock) v172 t170) ∧ Aside0 (Kd.R k105 105 wc w.heap.size (fun k_ => some k_ ≠ (v172 : Value).ownBlock ∧ some k_ ≠ (v179 : Value).ownBlock) (.slice Ao14 t174.length co14) t174) ∧ Aside0 (Kd.R k105 105 wc w.heap.size (fun k_ => some k_ ≠ (v172 : Value).ownBlock ∧ some k_ ≠ ((.slice Ao14 t174.length co14) : Value).ownBlock) v179 t177) ∧ Aside0 (Below w.heap.size w wc))
  case first =>
   have H := HC9.out
   clear HC9
   replace H := Option.bind_eq_some_iff.mp H
   obtain ⟨t181, A160, H⟩ := H
   replace H : (if t181 = true then (laws_FnExactPutNumber.j0 k l0 a1 t170 t171 t174 t177 t178 (t178 != t171)) else (laws_FnExactPutNumber.j0 k l0 a1 t170 t171 t174 t177 t178 true)) = some r := H
   have A16 := Aside0.mk A160
   clear A160
   by_cases c17 : t181 = true
   ·subst c17
    have H1 : (laws_FnExactPutNumber.j0 k l0 a1 t170 t171 t174 t177 t178 (t178 != t171)) = some r := by rw [if_pos rfl] at H; exact H
    clear H
    have H := H1
    clear H1
    have H' := Aside0.mk H
    clear H
    obtain ⟨Ao18, co18, eo18⟩ := Kd.R_slice HO180.out
    subst eo18
    obtain ⟨Ao19, co19, eo19⟩ := Kd.R_slice HO173.out
    subst eo19
    go_wp2_with (first | ((with_reducible refine gate_callee (f := 20) rfl ?_); refine goesL_ (some 38) rfl rfl Try.func20 (by kernel_rfl) rfl #[.slice Ao18 t177.length cN1, .slice Ao19 t170.length co19] rfl (by (try simp only [List.map_toArray, List.map_cons, List.map_nil]); first | done | rfl | (simp only [List.length_drop, List.length_take]; rfl)) ?_; (with_reducible refine (laws_eqRangeS.calls k _ _ t177 _ _ t170 true _ ?side1 ?side2 ?side3 ?side4 A16.out).mono ?_); (case side1 => repeat (first | exact (Kd.R_reads' HO180.out).2.2 | (with_reducible refine Kd.C_alloc ?_ _) | (with_reducible refine Kd.C_drewN ?_ _) | (with_reducible refine Kd.C_drew ?_))); (case side2 => exact (by have e_ := (Kd.R_reads' HO180.out).1; have n_ := HN1.out; omega)); (case side3 => repeat (first | exact (Kd.R_reads' HO173.out).2.2 | (with_reducible refine Kd.C_alloc ?_ _) | (with_reducible refine Kd.C_drewN ?_ _) | (with_reducible refine Kd.C_drew ?_))); (case side4 => exact (Kd.R_reads' HO173.out).2.1); rintro e w20 ⟨rfl, hb⟩; refine ⟨_, rfl, ?_⟩; have n0_ := Aside0.mk (Kd.R_below (by (with_reducible repeat (first | apply Kd.R_alloc | apply Kd.R_drewN | apply Kd.R_drew)); exact HO169.out) hb); have n1_ := Aside0.mk (Kd.R_below (by (with_reducible repeat (first | apply Kd.R_alloc | apply Kd.R_drewN | apply Kd.R_drew)); exact HO173.out) hb); have n2_ := Aside0.mk (Kd.R_below (by (with_reducible repeat (first | apply Kd.R_alloc | apply Kd.R_drewN | apply Kd.R_drew)); exact HO176.out) hb); have n3_ := Aside0.mk (Kd.R_below (by (with_reducible repeat (first | apply Kd.R_alloc | apply Kd.R_drewN | apply Kd.R_drew)); exact HO180.out) hb); have n4_ := Aside0.mk (below_step (by repeat (first | (with_reducible first | exact HB.out | apply below_alloc | apply pw_below_drewN | apply below_drew1) | exact HB.out)) hb); clear HO169; clear HO173; clear HO176; clear HO180; clear HB; have HO169 := n0_; have HO173 := n1_; have HO176 := n2_; have HO180 := n3_; have HB := n4_; clear n0_ n1_ n2_ n3_ n4_; (try clear hb); (try clear hb2); (try clear hk); (try clear hi)))
    go_meet
    case rel => exact ⟨_, ((t178 != t171)), (by first | rfl | (simp; done) | (simp [*]; done)), H', ⟨by first | omega | exact Nat.le_refl _⟩, ⟨by (with_reducible repeat (first | apply Kd.R_alloc | apply Kd.R_drewN | apply Kd.R_drew)); exact Kd.R_mono HO173.out (fun _ hk => ⟨hk.1.2, hk.2⟩)⟩, ⟨by (with_reducible repeat (first | apply Kd.R_alloc | apply Kd.R_drewN | apply Kd.R_drew)); exact Kd.R_mono HO176.out (fun _ hk => ⟨hk.1.2, hk.2⟩)⟩, ⟨by (with_reducible repeat (first | apply Kd.R_alloc | apply Kd.R_drewN | apply Kd.R_drew)); exact Kd.R_mono HO180.out (fun _ hk => ⟨hk.1.2, hk.2⟩)⟩, ⟨by repeat (first | (with_reducible first | exact HB.out | apply below_alloc | apply pw_below_drewN | apply below_drew1) | exact HB.out)⟩⟩
   ·replace c17 := Bool.eq_false_iff.mpr c17
    subst c17
    have H1 : (laws_FnExactPutNumber.j0 k l0 a1 t170 t171 t174 t177 t178 true) = some r := by rw [if_neg (show ¬ (false = true) by decide)] at H; exact H
    clear H
    have H := H1
    clear H1
    have H' := Aside0.mk H
    clear H
    obtain ⟨Ao21, co21, eo21⟩ := Kd.R_slice HO180.out
    subst eo21
    obtain ⟨Ao22, co22, eo22⟩ := Kd.R_slice HO173.out
    subst eo22
    go_wp2_with (first | ((with_reducible refine gate_callee (f := 20) rfl ?_); refine goesL_ (some 38) rfl rfl Try.func20 (by kernel_rfl) rfl #[.slice Ao21 t177.length cN1, .slice Ao22 t170.length co22] rfl (by (try simp only [List.map_toArray, List.map_cons, List.map_nil]); first | done | rfl | (simp only [List.length_drop, List.length_take]; rfl)) ?_; (with_reducible refine (laws_eqRangeS.calls k _ _ t177 _ _ t170 false _ ?side1 ?side2 ?side3 ?side4 A16.out).mono ?_); (case side1 => repeat (first | exact (Kd.R_reads' HO180.out).2.2 | (with_reducible refine Kd.C_alloc ?_ _) | (with_reducible refine Kd.C_drewN ?_ _) | (with_reducible refine Kd.C_drew ?_))); (case side2 => exact (by have e_ := (Kd.R_reads' HO180.out).1; have n_ := HN1.out; omega)); (case side3 => repeat (first | exact (Kd.R_reads' HO173.out).2.2 | (with_reducible refine Kd.C_alloc ?_ _) | (with_reducible refine Kd.C_drewN ?_ _) | (with_reducible refine Kd.C_drew ?_))); (case side4 => exact (Kd.R_reads' HO173.out).2.1); rintro e w23 ⟨rfl, hb⟩; refine ⟨_, rfl, ?_⟩; have n0_ := Aside0.mk (Kd.R_below (by (with_reducible repeat (first | apply Kd.R_alloc | apply Kd.R_drewN | apply Kd.R_drew)); exact HO169.out) hb); have n1_ := Aside0.mk (Kd.R_below (by (with_reducible repeat (first | apply Kd.R_alloc | apply Kd.R_drewN | apply Kd.R_drew)); exact HO173.out) hb); have n2_ := Aside0.mk (Kd.R_below (by (with_reducible repeat (first | apply Kd.R_alloc | apply Kd.R_drewN | apply Kd.R_drew)); exact HO176.out) hb); have n3_ := Aside0.mk (Kd.R_below (by (with_reducible repeat (first | apply Kd.R_alloc | apply Kd.R_drewN | apply Kd.R_drew)); exact HO180.out) hb); have n4_ := Aside0.mk (below_step (by repeat (first | (with_reducible first | exact HB.out | apply below_alloc | apply pw_below_drewN | apply below_drew1) | exact HB.out)) hb); clear HO169; clear HO173; clear HO176; clear HO180; clear HB; have HO169 := n0_; have HO173 := n1_; have HO176 := n2_; have HO180 := n3_; have HB := n4_; clear n0_ n1_ n2_ n3_ n4_; (try clear hb); (try clear hb2); (try clear hk); (try clear hi)))
    go_meet
    case rel => exact ⟨_, (true), (by first | rfl | (simp; done) | (simp [*]; done)), H', ⟨by first | omega | exact Nat.le_refl _⟩, ⟨by (with_reducible repeat (first | apply Kd.R_alloc | apply Kd.R_drewN | apply Kd.R_drew)); exact Kd.R_mono HO173.out (fun _ hk => ⟨hk.1.2, hk.2⟩)⟩, ⟨by (with_reducible repeat (first | apply Kd.R_alloc | apply Kd.R_drewN | apply Kd.R_drew)); exact Kd.R_mono HO176.out (fun _ hk => ⟨hk.1.2, hk.2⟩)⟩, ⟨by (with_reducible repeat (first | apply Kd.R_alloc | apply Kd.R_drewN | apply Kd.R_drew)); exact Kd.R_mono HO180.out (fun _ hk => ⟨hk.1.2, hk.2⟩)⟩, ⟨by repeat (first | (with_reducible first | exact HB.out | apply below_alloc | apply pw_below_drewN | apply below_drew1) | exact HB.out)⟩⟩
  case rest =>
   clear HC9
   try clear c1
   try clear c2
   try clear p2
   try clear c4
   try clear c4b0
   try clear c5
   try clear c10
   try clear c13
   try clear c16
   try clear c17
   try clear c20
   obtain ⟨kq, x44_8, rfl, HA, HJ8, HO_6, HO_8, HO_9, HB⟩ := hcut
   cases kq with
   | zero => exact absurd HA.out (by simp [laws_FnExactPutNumber.j0])
   | succ kj8 =>
    have H := HA.out
    clear HA
    simp only [laws_FnExactPutNumber.j0] at H
    by_cases c24 : x44_8 = true
    ·subst c24
     have H1 : (some false) = some r := by rw [if_pos rfl] at H; exact H
     clear H
     have H := H1
     clear H1
     obtain rfl := Option.some.inj H
     go_wp2
     go_ret
     exact ⟨by first | rfl | (simp [errW_none, errW_some] <;> rfl) | (simp [*, errW_none, errW_some] <;> rfl), by repeat (first | (with_reducible first | exact HB.out | apply below_alloc | apply pw_below_drewN | apply below_drew1) | exact HB.out)⟩
    ·replace c24 := Bool.eq_false_iff.mpr c24
     subst c24
     have H1 : ((laws_toRangeS.f kj8 l0).bind fun t182 => ((laws_eqRangeS.f kj8 t174 t182).bind fun t185 => (if t185 = true then ((laws_markRangeS.f kj8 t174 1).bind fun bt186 => (if bt186.1 < 0 then (laws_FnExactPutNumber.j1 kj8 l0 a1 t170 t171 t177 true) else ((laws_eqRangeS.f kj8 t177 t170).bind fun t188 => (if t188 = true then (laws_FnExactPutNumber.j1 kj8 l0 a1 t170 t171 t177 (t178 != t171)) else (laws_FnExactPutNumber.j1 kj8 l0 a1 t170 t171 t177 true))))) else (some false)))) = some r := by rw [if_neg (show ¬ (false = true) by decide)] at H; exact H
     clear H
     have H := H1
     clear H1
     replace H := Option.bind_eq_some_iff.mp H
     obtain ⟨t182, A250, H⟩ := H
     replace H : ((laws_eqRangeS.f kj8 t174 t182).bind fun t185 => (if t185 = true then ((laws_markRangeS.f kj8 t174 1).bind fun bt186 => (if bt186.1 < 0 then (laws_FnExactPutNumber.j1 kj8 l0 a1 t170 t171 t177 true) else ((laws_eqRangeS.f kj8 t177 t170).bind fun t188 => (if t188 = true then (laws_FnExactPutNumber.j1 kj8 l0 a1 t170 t171 t177 (t178 != t171)) else (laws_FnExactPutNumber.j1 kj8 l0 a1 t170 t171 t177 true))))) else (some false))) = some r := H
     have A25 := Aside0.mk A250
     clear A250
     replace H := Option.bind_eq_some_iff.mp H
     obtain ⟨t185, A260, H⟩ := H
     replace H : (if t185 = true then ((laws_markRangeS.f kj8 t174 1).bind fun bt186 => (if bt186.1 < 0 then (laws_FnExactPutNumber.j1 kj8 l0 a1 t170 t171 t177 true) else ((laws_eqRangeS.f kj8 t177 t170).bind fun t188 => (if t188 = true then (laws_FnExactPutNumber.j1 kj8 l0 a1 t170 t171 t177 (t178 != t171)) else (laws_FnExactPutNumber.j1 kj8 l0 a1 t170 t171 t177 true))))) else (some false)) = some r := H
     have A26 := Aside0.mk A260
     clear A260
     by_cases c27 : t185 = true
     ·subst c27
      have H1 : ((laws_markRangeS.f kj8 t174 1).bind fun bt186 => (if bt186.1 < 0 then (laws_FnExactPutNumber.j1 kj8 l0 a1 t170 t171 t177 true) else ((laws_eqRangeS.f kj8 t177 t170).bind fun t188 => (if t188 = true then (laws_FnExactPutNumber.j1 kj8 l0 a1 t170 t171 t177 (t178 != t171)) else (laws_FnExactPutNumber.j1 kj8 l0 a1 t170 t171 t177 true))))) = some r := by rw [if_pos rfl] at H; exact H
      clear H
      have H := H1
      clear H1
      replace H := Option.bind_eq_some_iff.mp H
      obtain ⟨⟨t186, t187⟩, A280, H⟩ := H
      replace H : (if t186 < 0 then (laws_FnExactPutNumber.j1 kj8 l0 a1 t170 t171 t177 true) else ((laws_eqRangeS.f kj8 t177 t170).bind fun t188 => (if t188 = true then (laws_FnExactPutNumber.j1 kj8 l0 a1 t170 t171 t177 (t178 != t171)) else (laws_FnExactPutNumber.j1 kj8 l0 a1 t170 t171 t177 true)))) = some r := H
      have A28 := Aside0.mk A280
      clear A280
      have HC29 := Aside0.mk H
      clear H
      go_upto_region 14 with (first | ((with_reducible refine gate_callee (f := 16) rfl ?_); refine goesL_ (some 47) rfl rfl Try.func16 (by kernel_rfl) rfl #[.slice A0 l0.length c0] rfl (by (try simp only [List.map_toArray, List.map_cons, List.map_nil]); first | done | rfl | (simp only [List.length_drop, List.length_take]; rfl)) ?_; (with_reducible refine (laws_toRangeS.calls kj8 _ _ l0 t182 _ ?side1 ?side2 A25.out).mono ?_); (case side1 => repeat (first | exact (Kd.C_below HR0.out HB.out) | (with_reducible refine Kd.C_alloc ?_ _) | (with_reducible refine Kd.C_drewN ?_ _) | (with_reducible refine Kd.C_drew ?_))); (case side2 => exact HC0.out); rintro e w30 ⟨v183, rfl, ho0, hb⟩; refine ⟨_, rfl, ?_⟩; have n0_ := Aside0.mk (Kd.R_elder' (by (with_reducible repeat (first | apply Kd.R_alloc | apply Kd.R_drewN | apply Kd.R_drew)); exact HO_6.out) (Kd.R_base ho0) hb); have n1_ := Aside0.mk (Kd.R_elder' (by (with_reducible repeat (first | apply Kd.R_alloc | apply Kd.R_drewN | apply Kd.R_drew)); exact HO_8.out) (Kd.R_base ho0) hb); have n2_ := Aside0.mk (Kd.R_elder' (by (with_reducible repeat (first | apply Kd.R_alloc | apply Kd.R_drewN | apply Kd.R_drew)); exact HO_9.out) (Kd.R_base ho0) hb); have n3_ := Aside0.mk (Kd.R_lower (Kd.R_new' (Kd.R_new' (Kd.R_new' ho0 (Kd.R_lt (by (with_reducible repeat (first | apply Kd.R_alloc | apply Kd.R_drewN | apply Kd.R_drew)); exact HO_6.out))) (Kd.R_lt (by (with_reducible repeat (first | apply Kd.R_alloc | apply Kd.R_drewN | apply Kd.R_drew)); exact HO_8.out))) (Kd.R_lt (by (with_reducible repeat (first | apply Kd.R_alloc | apply Kd.R_drewN | apply Kd.R_drew)); exact HO_9.out))) (below_size (by repeat (first | (with_reducible first | exact HB.out | apply below_alloc | apply pw_below_drewN | apply below_drew1) | exact HB.out)))); have n4_ := Aside0.mk (below_step (by repeat (first | (with_reducible first | exact HB.out | apply below_alloc | apply pw_below_drewN | apply below_drew1) | exact HB.out)) hb); clear HO_6; clear HO_8; clear HO_9; clear HB; have HO_6 := n0_; have HO_8 := n1_; have HO_9 := n2_; have HO184 := n3_; have HB := n4_; clear n0_ n1_ n2_ n3_ n4_; (try clear hb); (try clear hb2); (try clear hk); (try clear hi); (try clear ho0); obtain ⟨Ao31, co31, eo31⟩ := Kd.R_slice HO184.out; subst eo31) | ((with_reducible refine gate_callee (f := 20) rfl ?_); refine goesL_ (some 48) rfl rfl Try.func20 (by kernel_rfl) rfl #[.slice Ao14 t174.length co14, .slice Ao31 t182.length co31] rfl (by (try simp only [List.map_toArray, List.map_cons, List.map_nil]); first | done | rfl | (simp only [List.length_drop, List.length_take]; rfl)) ?_; (with_reducible refine (laws_eqRangeS.calls kj8 _ _ t174 _ _ t182 true _ ?side1 ?side2 ?side3 ?side4 A26.out).mono ?_); (case side1 => repeat (first | exact (Kd.R_reads' HO_8.out).2.2 | (with_reducible refine Kd.C_alloc ?_ _) | (with_reducible refine Kd.C_drewN ?_ _) | (with_reducible refine Kd.C_drew ?_))); (case side2 => exact (Kd.R_reads' HO_8.out).2.1); (case side3 => repeat (first | exact (Kd.R_reads' HO184.out).2.2 | (with_reducible refine Kd.C_alloc ?_ _) | (with_reducible refine Kd.C_drewN ?_ _) | (with_reducible refine Kd.C_drew ?_))); (case side4 => exact (Kd.R_reads' HO184.out).2.1); rintro e w32 ⟨rfl, hb⟩; refine ⟨_, rfl, ?_⟩; have n0_ := Aside0.mk (Kd.R_below (by (with_reducible repeat (first | apply Kd.R_alloc | apply Kd.R_drewN | apply Kd.R_drew)); exact HO_6.out) hb); have n1_ := Aside0.mk (Kd.R_below (by (with_reducible repeat (first | apply Kd.R_alloc | apply Kd.R_drewN | apply Kd.R_drew)); exact HO_8.out) hb); have n2_ := Aside0.mk (Kd.R_below (by (with_reducible repeat (first | apply Kd.R_alloc | apply Kd.R_drewN | apply Kd.R_drew)); exact HO_9.out) hb); have n3_ := Aside0.mk (Kd.R_below (by (with_reducible repeat (first | apply Kd.R_alloc | apply Kd.R_drewN | apply Kd.R_drew)); exact HO184.out) hb); have n4_ := Aside0.mk (below_step (by repeat (first | (with_reducible first | exact HB.out | apply below_alloc | apply pw_below_drewN | apply below_drew1) | exact HB.out)) hb); clear HO_6; clear HO_8; clear HO_9; clear HO184; clear HB; have HO_6 := n0_; have HO_8 := n1_; have HO_9 := n2_; have HO184 := n3_; have HB := n4_; clear n0_ n1_ n2_ n3_ n4_; (try clear hb); (try clear hb2); (try clear hk); (try clear hi)) | ((with_reducible refine gate_callee (f := 22) rfl ?_); refine goesL_ (some 52) rfl rfl Try.func22 (by kernel_rfl) rfl #[.slice Ao14 t174.length co14, .int .i64 1] rfl (by (try simp only [List.map_toArray, List.map_cons, List.map_nil]); first | done | rfl | (simp only [List.length_drop, List.length_take]; rfl)) ?_; (with_reducible refine (laws_markRangeS.calls kj8 (fun k_ => some k_ = (.slice Ao14 t174.length co14 : Value).ownBlock) (.slice Ao14 t174.length co14) t174 1 t186 t187 w _ ?side1 ?side2 A28.out).mono ?_); (case side1 => repeat (first | (with_reducible first | exact HB.out | apply below_alloc | apply pw_below_drewN | apply below_drew1) | exact HB.out)); (case side2 => exact Kd.R_tight rfl HO_8.out); rintro e w33 ⟨rfl, hy0, hb, hkp⟩; refine ⟨_, rfl, ?_⟩; have n0_ := Aside0.mk (Kd.R_mono (ok' := fun k_ => some k_ ≠ (.slice Ao14 t174.length co14 : Value).ownBlock ∧ some k_ ≠ (v179 : Value).ownBlock ∧ some k_ ≠ (.slice Ao31 t182.length co31 : Value).ownBlock) (Kd.R_keptB (HO_6.out) hkp (fun k_ hk_ hs_ => (hk_.1.1) hs_)) (fun k_ hk_ => ⟨hk_.1.1.1, hk_.1.1.2, hk_.1.2⟩)); have n1_ := Aside0.mk (Kd.R_reok rfl hy0 (fun k_ e_ => HO_8.out.1 k_ e_)); have n2_ := Aside0.mk (Kd.R_mono (ok' := fun k_ => some k_ ≠ (v172 : Value).ownBlock ∧ some k_ ≠ (.slice Ao14 t174.length co14 : Value).ownBlock ∧ some k_ ≠ (.slice Ao31 t182.length co31 : Value).ownBlock) (Kd.R_keptB (HO_9.out) hkp (fun k_ hk_ hs_ => (hk_.1.2) hs_)) (fun k_ hk_ => ⟨hk_.1.1.1, hk_.1.1.2, hk_.1.2⟩)); have n3_ := Aside0.mk (Kd.R_mono (ok' := fun k_ => some k_ ≠ (v172 : Value).ownBlock ∧ some k_ ≠ (.slice Ao14 t174.length co14 : Value).ownBlock ∧ some k_ ≠ (v179 : Value).ownBlock) (Kd.R_keptB (HO184.out) hkp (fun k_ hk_ hs_ => (hk_.1.2) hs_)) (fun k_ hk_ => ⟨hk_.1.1.1.2, hk_.1.1.2, hk_.1.2⟩)); have n4_ := Aside0.mk (hb); clear HO_6; clear HO_8; clear HO_9; clear HO184; clear HB; have HO_6 := n0_; have HO_8 := n1_; have HO_9 := n2_; have HO184 := n3_; have HB := n4_; clear n0_ n1_ n2_ n3_ n4_; (try clear hb); (try clear hkp); (try clear hy0)))
      (try simp only [Act.put, sA, sZ, sS])
      go_cut [65] (fun v65 wc => ∃ (kq : Nat) (x65_28 : Bool), v65 = .bool x65_28 ∧ Aside0 (laws_FnExactPutNumber.j1 kq l0 a1 t170 t171 t177 x65_28 = some r) ∧ Aside0 (kq ≤ kj8) ∧ Aside0 (Kd.R k105 105 wc w.heap.size (fun k_ => some k_ ≠ (v179 : Value).ownBlock) v172 t170) ∧ Aside0 (Kd.R k105 105 wc w.heap.size (fun k_ => some k_ ≠ (v172 : Value).ownBlock) v179 t177) ∧ Aside0 (Below w.heap.size w wc))
      case first =>
       have H := HC29.out
       clear HC29
       by_cases c34 : t186 < 0
       ·rw [if_pos c34] at H
        have c34b0 : decide (t186 < 0) = true := decide_eq_true c34
        clear c34
        (first | rw [c34b0] | (simp only [i64_w, i32_w]; rw [c34b0]) | skip)
        have H' := Aside0.mk H
        clear H
        go_wp2
        go_meet
        case rel => exact ⟨_, (true), (by first | rfl | (simp; done) | (simp [*]; done)), H', ⟨by have := HJ8.out; first | omega | exact Nat.le_refl _⟩, ⟨by (with_reducible repeat (first | apply Kd.R_alloc | apply Kd.R_drewN | apply Kd.R_drew)); exact Kd.R_mono HO_6.out (fun _ hk => hk.2.1)⟩, ⟨by (with_reducible repeat (first | apply Kd.R_alloc | apply Kd.R_drewN | apply Kd.R_drew)); exact Kd.R_mono HO_9.out (fun _ hk => hk.1)⟩, ⟨by repeat (first | (with_reducible first | exact HB.out | apply below_alloc | apply pw_below_drewN | apply below_drew1) | exact HB.out)⟩⟩
       ·rw [if_neg c34] at H
        have c34b0 : decide (t186 < 0) = false := decide_eq_false c34
        clear c34
        (first | rw [c34b0] | (simp only [i64_w, i32_w]; rw [c34b0]) | skip)
        replace H := Option.bind_eq_some_iff.mp H
        obtain ⟨t188, A350, H⟩ := H
        replace H : (if t188 = true then (laws_FnExactPutNumber.j1 kj8 l0 a1 t170 t171 t177 (t178 != t171)) else (laws_FnExactPutNumber.j1 kj8 l0 a1 t170 t171 t177 true)) = some r := H
        have A35 := Aside0.mk A350
        clear A350
        by_cases c36 : t188 = true
        ·subst c36
         have H1 : (laws_FnExactPutNumber.j1 kj8 l0 a1 t170 t171 t177 (t178 != t171)) = some r := by rw [if_pos rfl] at H; exact H
         clear H
         have H := H1
         clear H1
         have H' := Aside0.mk H
         clear H
         obtain ⟨Ao37, co37, eo37⟩ := Kd.R_slice HO_9.out
         subst eo37
         obtain ⟨Ao38, co38, eo38⟩ := Kd.R_slice HO_6.out
         subst eo38
         go_wp2_with (first | (go_at_call 20; (with_reducible refine (laws_eqRangeS.calls kj8 _ _ t177 _ _ t170 true _ ?side1 ?side2 ?side3 ?side4 A35.out).mono ?_); (case side1 => repeat (first | exact (Kd.R_reads' HO_9.out).2.2 | (with_reducible refine Kd.C_alloc ?_ _) | (with_reducible refine Kd.C_drewN ?_ _) | (with_reducible refine Kd.C_drew ?_))); (case side2 => exact (by have e_ := (Kd.R_reads' HO_9.out).1; have n_ := HN1.out; omega)); (case side3 => repeat (first | exact (Kd.R_reads' HO_6.out).2.2 | (with_reducible refine Kd.C_alloc ?_ _) | (with_reducible refine Kd.C_drewN ?_ _) | (with_reducible refine Kd.C_drew ?_))); (case side4 => exact (Kd.R_reads' HO_6.out).2.1); rintro e w39 ⟨rfl, hb⟩; have n0_ := Aside0.mk (Kd.R_below (by (with_reducible repeat (first | apply Kd.R_alloc | apply Kd.R_drewN | apply Kd.R_drew)); exact HO_6.out) hb); have n1_ := Aside0.mk (Kd.R_below (by (with_reducible repeat (first | apply Kd.R_alloc | apply Kd.R_drewN | apply Kd.R_drew)); exact HO_8.out) hb); have n2_ := Aside0.mk (Kd.R_below (by (with_reducible repeat (first | apply Kd.R_alloc | apply Kd.R_drewN | apply Kd.R_drew)); exact HO_9.out) hb); have n3_ := Aside0.mk (Kd.R_below (by (with_reducible repeat (first | apply Kd.R_alloc | apply Kd.R_drewN | apply Kd.R_drew)); exact HO184.out) hb); have n4_ := Aside0.mk (below_step (by repeat (first | (with_reducible first | exact HB.out | apply below_alloc | apply pw_below_drewN | apply below_drew1) | exact HB.out)) hb); clear HO_6; clear HO_8; clear HO_9; clear HO184; clear HB; have HO_6 := n0_; have HO_8 := n1_; have HO_9 := n2_; have HO184 := n3_; have HB := n4_; clear n0_ n1_ n2_ n3_ n4_; (try clear hb); (try clear hb2); (try clear hk); (try clear hi)))
         go_meet
         case rel => exact ⟨_, ((t178 != t171)), (by first | rfl | (simp; done) | (simp [*]; done)), H', ⟨by have := HJ8.out; first | omega | exact Nat.le_refl _⟩, ⟨by (with_reducible repeat (first | apply Kd.R_alloc | apply Kd.R_drewN | apply Kd.R_drew)); exact Kd.R_mono HO_6.out (fun _ hk => hk.2.1)⟩, ⟨by (with_reducible repeat (first | apply Kd.R_alloc | apply Kd.R_drewN | apply Kd.R_drew)); exact Kd.R_mono HO_9.out (fun _ hk => hk.1)⟩, ⟨by repeat (first | (with_reducible first | exact HB.out | apply below_alloc | apply pw_below_drewN | apply below_drew1) | exact HB.out)⟩⟩
        ·replace c36 := Bool.eq_false_iff.mpr c36
         subst c36
         have H1 : (laws_FnExactPutNumber.j1 kj8 l0 a1 t170 t171 t177 true) = some r := by rw [if_neg (show ¬ (false = true) by decide)] at H; exact H
         clear H
         have H := H1
         clear H1
         have H' := Aside0.mk H
         clear H
         obtain ⟨Ao40, co40, eo40⟩ := Kd.R_slice HO_9.out
         subst eo40
         obtain ⟨Ao41, co41, eo41⟩ := Kd.R_slice HO_6.out
         subst eo41
         go_wp2_with (first | (go_at_call 20; (with_reducible refine (laws_eqRangeS.calls kj8 _ _ t177 _ _ t170 false _ ?side1 ?side2 ?side3 ?side4 A35.out).mono ?_); (case side1 => repeat (first | exact (Kd.R_reads' HO_9.out).2.2 | (with_reducible refine Kd.C_alloc ?_ _) | (with_reducible refine Kd.C_drewN ?_ _) | (with_reducible refine Kd.C_drew ?_))); (case side2 => exact (by have e_ := (Kd.R_reads' HO_9.out).1; have n_ := HN1.out; omega)); (case side3 => repeat (first | exact (Kd.R_reads' HO_6.out).2.2 | (with_reducible refine Kd.C_alloc ?_ _) | (with_reducible refine Kd.C_drewN ?_ _) | (with_reducible refine Kd.C_drew ?_))); (case side4 => exact (Kd.R_reads' HO_6.out).2.1); rintro e w42 ⟨rfl, hb⟩; have n0_ := Aside0.mk (Kd.R_below (by (with_reducible repeat (first | apply Kd.R_alloc | apply Kd.R_drewN | apply Kd.R_drew)); exact HO_6.out) hb); have n1_ := Aside0.mk (Kd.R_below (by (with_reducible repeat (first | apply Kd.R_alloc | apply Kd.R_drewN | apply Kd.R_drew)); exact HO_8.out) hb); have n2_ := Aside0.mk (Kd.R_below (by (with_reducible repeat (first | apply Kd.R_alloc | apply Kd.R_drewN | apply Kd.R_drew)); exact HO_9.out) hb); have n3_ := Aside0.mk (Kd.R_below (by (with_reducible repeat (first | apply Kd.R_alloc | apply Kd.R_drewN | apply Kd.R_drew)); exact HO184.out) hb); have n4_ := Aside0.mk (below_step (by repeat (first | (with_reducible first | exact HB.out | apply below_alloc | apply pw_below_drewN | apply below_drew1) | exact HB.out)) hb); clear HO_6; clear HO_8; clear HO_9; clear HO184; clear HB; have HO_6 := n0_; have HO_8 := n1_; have HO_9 := n2_; have HO184 := n3_; have HB := n4_; clear n0_ n1_ n2_ n3_ n4_; (try clear hb); (try clear hb2); (try clear hk); (try clear hi)))
         go_meet
         case rel => exact ⟨_, (true), (by first | rfl | (simp; done) | (simp [*]; done)), H', ⟨by have := HJ8.out; first | omega | exact Nat.le_refl _⟩, ⟨by (with_reducible repeat (first | apply Kd.R_alloc | apply Kd.R_drewN | apply Kd.R_drew)); exact Kd.R_mono HO_6.out (fun _ hk => hk.2.1)⟩, ⟨by (with_reducible repeat (first | apply Kd.R_alloc | apply Kd.R_drewN | apply Kd.R_drew)); exact Kd.R_mono HO_9.out (fun _ hk => hk.1)⟩, ⟨by repeat (first | (with_reducible first | exact HB.out | apply below_alloc | apply pw_below_drewN | apply below_drew1) | exact HB.out)⟩⟩
      case rest =>
       clear HC29
       try clear c1
       try clear c2
       try clear p2
       try clear c3
       try clear c4
       try clear c4b0
       try clear c5
       try clear c10
       try clear c13
       try clear c16
       try clear c17
       try clear c20
       try clear c22
       try clear c24
       try clear c27
       try clear c34
       try clear c34b0
       try clear c36
       try clear p2
       obtain ⟨kq, x65_28, rfl, HA, HJ28, HO_6, HO_9, HB⟩ := hcut
       cases kq with
       | zero => exact absurd HA.out (by simp [laws_FnExactPutNumber.j1])
       | succ kj28 =>
        have H := HA.out
        clear HA
        simp only [laws_FnExactPutNumber.j1] at H
        by_cases c43 : x65_28 = true
        ·subst c43
         have H1 : (some false) = some r := by rw [if_pos rfl] at H; exact H
         clear H
         have H := H1
         clear H1
         obtain rfl := Option.some.inj H
         go_wp2
         go_ret
         exact ⟨by first | rfl | (simp [errW_none, errW_some] <;> rfl) | (simp [*, errW_none, errW_some] <;> rfl), by repeat (first | (with_reducible first | exact HB.out | apply below_alloc | apply pw_below_drewN | apply below_drew1) | exact HB.out)⟩
        ·replace c43 := Bool.eq_false_iff.mpr c43
         subst c43
         have H1 : ((laws_markRangeS.f kj28 t177 1).bind fun bt189 => ((laws_heldRangeS.f kj28 bt189.2 1).bind fun t191 => (if t191 < 0 then (some false) else (if t191 = bt189.1 then ((laws_toRangeS.f kj28 l0).bind fun t192 => ((impl_PutNumber.f kj28 t192 a1).bind fun bt195 => ((laws_eqRangeS.f kj28 bt195.1 t170).bind fun t199 => (if t199 = true then (laws_FnExactPutNumber.j2 kj28 bt189.2 bt189.1 (bt195.2 != t171)) else (laws_FnExactPutNumber.j2 kj28 bt189.2 bt189.1 true))))) else (some false))))) = some r := by rw [if_neg (show ¬ (false = true) by decide)] at H; exact H
         clear H
         have H := H1
         clear H1
         replace H := Option.bind_eq_some_iff.mp H
         obtain ⟨⟨t189, t190⟩, A440, H⟩ := H
         replace H : ((laws_heldRangeS.f kj28 t190 1).bind fun t191 => (if t191 < 0 then (some false) else (if t191 = t189 then ((laws_toRangeS.f kj28 l0).bind fun t192 => ((impl_PutNumber.f kj28 t192 a1).bind fun bt195 => ((laws_eqRangeS.f kj28 bt195.1 t170).bind fun t199 => (if t199 = true then (laws_FnExactPutNumber.j2 kj28 t190 t189 (bt195.2 != t171)) else (laws_FnExactPutNumber.j2 kj28 t190 t189 true))))) else (some false)))) = some r := H
         have A44 := Aside0.mk A440
         clear A440
         replace H := Option.bind_eq_some_iff.mp H
         obtain ⟨t191, A450, H⟩ := H
         replace H : (if t191 < 0 then (some false) else (if t191 = t189 then ((laws_toRangeS.f kj28 l0).bind fun t192 => ((impl_PutNumber.f kj28 t192 a1).bind fun bt195 => ((laws_eqRangeS.f kj28 bt195.1 t170).bind fun t199 => (if t199 = true then (laws_FnExactPutNumber.j2 kj28 t190 t189 (bt195.2 != t171)) else (laws_FnExactPutNumber.j2 kj28 t190 t189 true))))) else (some false))) = some r := H
         have A45 := Aside0.mk A450
         clear A450
         by_cases c46 : t191 < 0
         ·rw [if_pos c46] at H
          have c46b0 : decide (t191 < 0) = true := decide_eq_true c46
          clear c46
          obtain rfl := Option.some.inj H
          obtain ⟨Ao47, co47, eo47⟩ := Kd.R_slice HO_9.out
          subst eo47
          go_wp2_with (first | ((with_reducible refine gate_callee (f := 22) rfl ?_); refine goesL_ (some 68) rfl rfl Try.func22 (by kernel_rfl) rfl #[.slice Ao47 t177.length cN1, .int .i64 1] rfl (by (try simp only [List.map_toArray, List.map_cons, List.map_nil]); first | done | rfl | (simp only [List.length_drop, List.length_take]; rfl)) ?_; (refine (laws_markRangeS.callsN cN1 kj28 (fun k_ => some k_ = (.slice Ao47 t177.length co47 : Value).ownBlock) (.slice Ao47 t177.length co47) t177 1 t189 t190 w _ ?side1 ?side2 A44.out).mono ?_); (case side1 => repeat (first | (with_reducible first | exact HB.out | apply below_alloc | apply pw_below_drewN | apply below_drew1) | exact HB.out)); (case side2 => exact Kd.R_tight rfl HO_9.out); rintro e w48 ⟨rfl, hy0, hb, hkp⟩; refine ⟨_, rfl, ?_⟩; have n0_ := Aside0.mk (Kd.R_mono (ok' := fun k_ => some k_ ≠ (.slice Ao47 t177.length co47 : Value).ownBlock) (Kd.R_keptB (HO_6.out) hkp (fun k_ hk_ hs_ => (hk_) hs_)) (fun k_ hk_ => hk_.1)); have n1_ := Aside0.mk (Kd.R_reok rfl hy0 (fun k_ e_ => HO_9.out.1 k_ e_)); have n2_ := Aside0.mk (hb); clear HO_6; clear HO_9; clear HB; have HO_6 := n0_; have HO_9 := n1_; have HB := n2_; clear n0_ n1_ n2_; (try clear hb); (try clear hkp); (try clear hy0)) | ((with_reducible refine gate_callee (f := 54) rfl ?_); refine goesL_ (some 71) rfl rfl Try.func54 (by kernel_rfl) rfl #[.slice Ao47 t190.length cN1, .int .i64 1] rfl (by (try simp only [List.map_toArray, List.map_cons, List.map_nil]); first | done | (rw [show t190.length = t177.length from (Kd.R_reads' HO_9.out).1.symm] <;> rfl) | rfl | (simp only [List.length_drop, List.length_take]; rfl)) ?_; (with_reducible refine (laws_heldRangeS.calls kj28 _ _ t190 1 t191 _ ?side1 ?side2 A45.out).mono ?_); (case side1 => repeat (first | exact (Kd.R_reads' HO_9.out).2.2 | (with_reducible refine Kd.C_alloc ?_ _) | (with_reducible refine Kd.C_drewN ?_ _) | (with_reducible refine Kd.C_drew ?_))); (case side2 => rw [show t190.length = t177.length from (Kd.R_reads' HO_9.out).1.symm]; exact (by have e_ := (Kd.R_reads' HO_9.out).1; have n_ := HN1.out; omega)); rintro e w' ⟨rfl, ⟨nd, rfl⟩⟩; refine ⟨_, rfl, ?_⟩))
          go_ret
          exact ⟨by first | rfl | (simp [errW_none, errW_some] <;> rfl) | (simp [*, errW_none, errW_some] <;> rfl), by repeat (first | (with_reducible first | exact HB.out | apply below_alloc | apply pw_below_drewN | apply below_drew1) | exact HB.out)⟩
         ·rw [if_neg c46] at H
          have c46b0 : decide (t191 < 0) = false := decide_eq_false c46
          clear c46
          by_cases c49 : t191 = t189
          ·rw [if_pos c49] at H
           have c49b0 : (t191 == t189) = true := beq_iff_eq.mpr c49
           have c49b1 : (t191 != t189) = false := bne_eq_false_iff_eq.mpr c49
           clear c49
           replace H := Option.bind_eq_some_iff.mp H
           obtain ⟨t192, A500, H⟩ := H
           replace H : ((impl_PutNumber.f kj28 t192 a1).bind fun bt195 => ((laws_eqRangeS.f kj28 bt195.1 t170).bind fun t199 => (if t199 = true then (laws_FnExactPutNumber.j2 kj28 t190 t189 (bt195.2 != t171)) else (laws_FnExactPutNumber.j2 kj28 t190 t189 true)))) = some r := H
           have A50 := Aside0.mk A500
           clear A500
           replace H := Option.bind_eq_some_iff.mp H
           obtain ⟨⟨t195, t196⟩, A510, H⟩ := H
           replace H : ((laws_eqRangeS.f kj28 t195 t170).bind fun t199 => (if t199 = true then (laws_FnExactPutNumber.j2 kj28 t190 t189 (t196 != t171)) else (laws_FnExactPutNumber.j2 kj28 t190 t189 true))) = some r := H
           have A51 := Aside0.mk A510
           clear A510
           have HC52 := Aside0.mk H
           clear H
           obtain ⟨Ao53, co53, eo53⟩ := Kd.R_slice HO_9.out
           subst eo53
           go_upto_region 25 with (first | ((with_reducible refine gate_callee (f := 22) rfl ?_); refine goesL_ (some 68) rfl rfl Try.func22 (by kernel_rfl) rfl #[.slice Ao53 t177.length cN1, .int .i64 1] rfl (by (try simp only [List.map_toArray, List.map_cons, List.map_nil]); first | done | rfl | (simp only [List.length_drop, List.length_take]; rfl)) ?_; (refine (laws_markRangeS.callsN cN1 kj28 (fun k_ => some k_ = (.slice Ao53 t177.length co53 : Value).ownBlock) (.slice Ao53 t177.length co53) t177 1 t189 t190 w _ ?side1 ?side2 A44.out).mono ?_); (case side1 => repeat (first | (with_reducible first | exact HB.out | apply below_alloc | apply pw_below_drewN | apply below_drew1) | exact HB.out)); (case side2 => exact Kd.R_tight rfl HO_9.out); rintro e w54 ⟨rfl, hy0, hb, hkp⟩; refine ⟨_, rfl, ?_⟩; have n0_ := Aside0.mk (Kd.R_mono (ok' := fun k_ => some k_ ≠ (.slice Ao53 t177.length co53 : Value).ownBlock) (Kd.R_keptB (HO_6.out) hkp (fun k_ hk_ hs_ => (hk_) hs_)) (fun k_ hk_ => hk_.1)); have n1_ := Aside0.mk (Kd.R_reok rfl hy0 (fun k_ e_ => HO_9.out.1 k_ e_)); have n2_ := Aside0.mk (hb); clear HO_6; clear HO_9; clear HB; have HO_6 := n0_; have HO_9 := n1_; have HB := n2_; clear n0_ n1_ n2_; (try clear hb); (try clear hkp); (try clear hy0)) | ((with_reducible refine gate_callee (f := 54) rfl ?_); refine goesL_ (some 71) rfl rfl Try.func54 (by kernel_rfl) rfl #[.slice Ao53 t190.length cN1, .int .i64 1] rfl (by (try simp only [List.map_toArray, List.map_cons, List.map_nil]); first | done | (rw [show t190.length = t177.length from (Kd.R_reads' HO_9.out).1.symm] <;> rfl) | rfl | (simp only [List.length_drop, List.length_take]; rfl)) ?_; (with_reducible refine (laws_heldRangeS.calls kj28 _ _ t190 1 t191 _ ?side1 ?side2 A45.out).mono ?_); (case side1 => repeat (first | exact (Kd.R_reads' HO_9.out).2.2 | (with_reducible refine Kd.C_alloc ?_ _) | (with_reducible refine Kd.C_drewN ?_ _) | (with_reducible refine Kd.C_drew ?_))); (case side2 => rw [show t190.length = t177.length from (Kd.R_reads' HO_9.out).1.symm]; exact (by have e_ := (Kd.R_reads' HO_9.out).1; have n_ := HN1.out; omega)); rintro e w' ⟨rfl, ⟨nd, rfl⟩⟩; refine ⟨_, rfl, ?_⟩) | ((with_reducible refine gate_callee (f := 16) rfl ?_); refine goesL_ (some 79) rfl rfl Try.func16 (by kernel_rfl) rfl #[.slice A0 l0.length c0] rfl (by (try simp only [List.map_toArray, List.map_cons, List.map_nil]); first | done | rfl | (simp only [List.length_drop, List.length_take]; rfl)) ?_; (with_reducible refine (laws_toRangeS.calls kj28 _ _ l0 t192 _ ?side1 ?side2 A50.out).mono ?_); (case side1 => repeat (first | exact (Kd.C_below HR0.out (by repeat (first | (with_reducible first | exact HB.out | apply below_alloc | apply pw_below_drewN | apply below_drew1) | exact HB.out))) | (with_reducible refine Kd.C_alloc ?_ _) | (with_reducible refine Kd.C_drewN ?_ _) | (with_reducible refine Kd.C_drew ?_))); (case side2 => exact HC0.out); rintro e w55 ⟨v193, rfl, ho0, hb⟩; refine ⟨_, rfl, ?_⟩; have n0_ := Aside0.mk (Kd.R_elder' (by (with_reducible repeat (first | apply Kd.R_alloc | apply Kd.R_drewN | apply Kd.R_drew)); exact HO_6.out) (Kd.R_base ho0) hb); have n1_ := Aside0.mk (Kd.R_elder' (by (with_reducible repeat (first | apply Kd.R_alloc | apply Kd.R_drewN | apply Kd.R_drew)); exact HO_9.out) (Kd.R_base ho0) hb); have n2_ := Aside0.mk (Kd.R_lower (Kd.R_new' (Kd.R_new' ho0 (Kd.R_lt (by (with_reducible repeat (first | apply Kd.R_alloc | apply Kd.R_drewN | apply Kd.R_drew)); exact HO_6.out))) (Kd.R_lt (by (with_reducible repeat (first | apply Kd.R_alloc | apply Kd.R_drewN | apply Kd.R_drew)); exact HO_9.out))) (below_size (by repeat (first | (with_reducible first | exact HB.out | apply below_alloc | apply pw_below_drewN | apply below_drew1) | exact HB.out)))); have n3_ := Aside0.mk (below_step (by repeat (first | (with_reducible first | exact HB.out | apply below_alloc | apply pw_below_drewN | apply below_drew1) | exact HB.out)) hb); clear HO_6; clear HO_9; clear HB; have HO_6 := n0_; have HO_9 := n1_; have HO194 := n2_; have HB := n3_; clear n0_ n1_ n2_ n3_; (try clear hb); (try clear hb2); (try clear hk); (try clear hi); (try clear ho0); obtain ⟨Ao56, co56, eo56⟩ := Kd.R_slice HO194.out; subst eo56) | ((with_reducible refine gate_callee (f := 53) rfl ?_); refine goesL_ (some 81) rfl rfl Try.func53 (by kernel_rfl) rfl #[.slice Ao56 t192.length co56, .int .i64 a1] rfl (by (try simp only [List.map_toArray, List.map_cons, List.map_nil]); first | done | rfl | (simp only [List.length_drop, List.length_take]; rfl)) ?_; (with_reducible refine (impl_PutNumber.calls kj28 _ _ t192 a1 t195 t196 _ ?side1 ?side2 A51.out).mono ?_); (case side1 => repeat (first | exact (Kd.R_reads' HO194.out).2.2 | (with_reducible refine Kd.C_alloc ?_ _) | (with_reducible refine Kd.C_drewN ?_ _) | (with_reducible refine Kd.C_drew ?_))); (case side2 => exact (Kd.R_reads' HO194.out).2.1); rintro e w57 ⟨v197, cN2, rfl, ho0, hN, hb⟩; have HN2 := Aside0.mk hN; clear hN; refine ⟨_, rfl, ?_⟩; have n0_ := Aside0.mk (Kd.R_elder' (by (with_reducible repeat (first | apply Kd.R_alloc | apply Kd.R_drewN | apply Kd.R_drew)); exact HO_6.out) (Kd.R_base ho0) hb); have n1_ := Aside0.mk (Kd.R_elder' (by (with_reducible repeat (first | apply Kd.R_alloc | apply Kd.R_drewN | apply Kd.R_drew)); exact HO_9.out) (Kd.R_base ho0) hb); have n2_ := Aside0.mk (Kd.R_elder' (by (with_reducible repeat (first | apply Kd.R_alloc | apply Kd.R_drewN | apply Kd.R_drew)); exact HO194.out) (Kd.R_base ho0) hb); have n3_ := Aside0.mk (Kd.R_lower (Kd.R_new' (Kd.R_new' (Kd.R_new' ho0 (Kd.R_lt (by (with_reducible repeat (first | apply Kd.R_alloc | apply Kd.R_drewN | apply Kd.R_drew)); exact HO_6.out))) (Kd.R_lt (by (with_reducible repeat (first | apply Kd.R_alloc | apply Kd.R_drewN | apply Kd.R_drew)); exact HO_9.out))) (Kd.R_lt (by (with_reducible repeat (first | apply Kd.R_alloc | apply Kd.R_drewN | apply Kd.R_drew)); exact HO194.out))) (below_size (by repeat (first | (with_reducible first | exact HB.out | apply below_alloc | apply pw_below_drewN | apply below_drew1) | exact HB.out)))); have n4_ := Aside0.mk (below_step (by repeat (first | (with_reducible first | exact HB.out | apply below_alloc | apply pw_below_drewN | apply below_drew1) | exact HB.out)) hb); clear HO_6; clear HO_9; clear HO194; clear HB; have HO_6 := n0_; have HO_9 := n1_; have HO194 := n2_; have HO198 := n3_; have HB := n4_; clear n0_ n1_ n2_ n3_ n4_; (try clear hb); (try clear hb2); (try clear hk); (try clear hi); (try clear ho0)))
           (try simp only [Act.put, sA, sZ, sS])
           go_cut [92] (fun v92 wc => ∃ (kq : Nat) (x92_51 : Bool), v92 = .bool x92_51 ∧ Aside0 (laws_FnExactPutNumber.j2 kq t190 t189 x92_51 = some r) ∧ Aside0 (kq ≤ kj28) ∧ Aside0 (Kd.R k105 105 wc w.heap.size (fun _ => True) (.slice Ao53 t177.length co53) t190) ∧ Aside0 (Below w.heap.size w wc))
           case first =>
            have H := HC52.out
            clear HC52
            replace H := Option.bind_eq_some_iff.mp H
            obtain ⟨t199, A580, H⟩ := H
            replace H : (if t199 = true then (laws_FnExactPutNumber.j2 kj28 t190 t189 (t196 != t171)) else (laws_FnExactPutNumber.j2 kj28 t190 t189 true)) = some r := H
            have A58 := Aside0.mk A580
            clear A580
            by_cases c59 : t199 = true
            ·subst c59
             have H1 : (laws_FnExactPutNumber.j2 kj28 t190 t189 (t196 != t171)) = some r := by rw [if_pos rfl] at H; exact H
             clear H
             have H := H1
             clear H1
             have H' := Aside0.mk H
             clear H
             obtain ⟨Ao60, co60, eo60⟩ := Kd.R_slice HO198.out
             subst eo60
             obtain ⟨Ao61, co61, eo61⟩ := Kd.R_slice HO_6.out
             subst eo61
             go_wp2_with (first | ((with_reducible refine gate_callee (f := 20) rfl ?_); refine goesL_ (some 86) rfl rfl Try.func20 (by kernel_rfl) rfl #[.slice Ao60 t195.length cN2, .slice Ao61 t170.length co61] rfl (by (try simp only [List.map_toArray, List.map_cons, List.map_nil]); first | done | rfl | (simp only [List.length_drop, List.length_take]; rfl)) ?_; (with_reducible refine (laws_eqRangeS.calls kj28 _ _ t195 _ _ t170 true _ ?side1 ?side2 ?side3 ?side4 A58.out).mono ?_); (case side1 => repeat (first | exact (Kd.R_reads' HO198.out).2.2 | (with_reducible refine Kd.C_alloc ?_ _) | (with_reducible refine Kd.C_drewN ?_ _) | (with_reducible refine Kd.C_drew ?_))); (case side2 => exact (by have e_ := (Kd.R_reads' HO198.out).1; have n_ := HN2.out; omega)); (case side3 => repeat (first | exact (Kd.R_reads' HO_6.out).2.2 | (with_reducible refine Kd.C_alloc ?_ _) | (with_reducible refine Kd.C_drewN ?_ _) | (with_reducible refine Kd.C_drew ?_))); (case side4 => exact (Kd.R_reads' HO_6.out).2.1); rintro e w62 ⟨rfl, hb⟩; refine ⟨_, rfl, ?_⟩; have n0_ := Aside0.mk (Kd.R_below (by (with_reducible repeat (first | apply Kd.R_alloc | apply Kd.R_drewN | apply Kd.R_drew)); exact HO_6.out) hb); have n1_ := Aside0.mk (Kd.R_below (by (with_reducible repeat (first | apply Kd.R_alloc | apply Kd.R_drewN | apply Kd.R_drew)); exact HO_9.out) hb); have n2_ := Aside0.mk (Kd.R_below (by (with_reducible repeat (first | apply Kd.R_alloc | apply Kd.R_drewN | apply Kd.R_drew)); exact HO194.out) hb); have n3_ := Aside0.mk (Kd.R_below (by (with_reducible repeat (first | apply Kd.R_alloc | apply Kd.R_drewN | apply Kd.R_drew)); exact HO198.out) hb); have n4_ := Aside0.mk (below_step (by repeat (first | (with_reducible first | exact HB.out | apply below_alloc | apply pw_below_drewN | apply below_drew1) | exact HB.out)) hb); clear HO_6; clear HO_9; clear HO194; clear HO198; clear HB; have HO_6 := n0_; have HO_9 := n1_; have HO194 := n2_; have HO198 := n3_; have HB := n4_; clear n0_ n1_ n2_ n3_ n4_; (try clear hb); (try clear hb2); (try clear hk); (try clear hi)))
             go_meet
             case rel => exact ⟨_, ((t196 != t171)), (by first | rfl | (simp; done) | (simp [*]; done)), H', ⟨by have := HJ8.out; have := HJ28.out; first | omega | exact Nat.le_refl _⟩, ⟨by (with_reducible repeat (first | apply Kd.R_alloc | apply Kd.R_drewN | apply Kd.R_drew)); exact Kd.R_mono HO_9.out (fun _ hk => trivial)⟩, ⟨by repeat (first | (with_reducible first | exact HB.out | apply below_alloc | apply pw_below_drewN | apply below_drew1) | exact HB.out)⟩⟩
            ·replace c59 := Bool.eq_false_iff.mpr c59
             subst c59
             have H1 : (laws_FnExactPutNumber.j2 kj28 t190 t189 true) = some r := by rw [if_neg (show ¬ (false = true) by decide)] at H; exact H
             clear H
             have H := H1
             clear H1
             have H' := Aside0.mk H
             clear H
             obtain ⟨Ao63, co63, eo63⟩ := Kd.R_slice HO198.out
             subst eo63
             obtain ⟨Ao64, co64, eo64⟩ := Kd.R_slice HO_6.out
             subst eo64
             go_wp2_with (first | ((with_reducible refine gate_callee (f := 20) rfl ?_); refine goesL_ (some 86) rfl rfl Try.func20 (by kernel_rfl) rfl #[.slice Ao63 t195.length cN2, .slice Ao64 t170.length co64] rfl (by (try simp only [List.map_toArray, List.map_cons, List.map_nil]); first | done | rfl | (simp only [List.length_drop, List.length_take]; rfl)) ?_; (with_reducible refine (laws_eqRangeS.calls kj28 _ _ t195 _ _ t170 false _ ?side1 ?side2 ?side3 ?side4 A58.out).mono ?_); (case side1 => repeat (first | exact (Kd.R_reads' HO198.out).2.2 | (with_reducible refine Kd.C_alloc ?_ _) | (with_reducible refine Kd.C_drewN ?_ _) | (with_reducible refine Kd.C_drew ?_))); (case side2 => exact (by have e_ := (Kd.R_reads' HO198.out).1; have n_ := HN2.out; omega)); (case side3 => repeat (first | exact (Kd.R_reads' HO_6.out).2.2 | (with_reducible refine Kd.C_alloc ?_ _) | (with_reducible refine Kd.C_drewN ?_ _) | (with_reducible refine Kd.C_drew ?_))); (case side4 => exact (Kd.R_reads' HO_6.out).2.1); rintro e w65 ⟨rfl, hb⟩; refine ⟨_, rfl, ?_⟩; have n0_ := Aside0.mk (Kd.R_below (by (with_reducible repeat (first | apply Kd.R_alloc | apply Kd.R_drewN | apply Kd.R_drew)); exact HO_6.out) hb); have n1_ := Aside0.mk (Kd.R_below (by (with_reducible repeat (first | apply Kd.R_alloc | apply Kd.R_drewN | apply Kd.R_drew)); exact HO_9.out) hb); have n2_ := Aside0.mk (Kd.R_below (by (with_reducible repeat (first | apply Kd.R_alloc | apply Kd.R_drewN | apply Kd.R_drew)); exact HO194.out) hb); have n3_ := Aside0.mk (Kd.R_below (by (with_reducible repeat (first | apply Kd.R_alloc | apply Kd.R_drewN | apply Kd.R_drew)); exact HO198.out) hb); have n4_ := Aside0.mk (below_step (by repeat (first | (with_reducible first | exact HB.out | apply below_alloc | apply pw_below_drewN | apply below_drew1) | exact HB.out)) hb); clear HO_6; clear HO_9; clear HO194; clear HO198; clear HB; have HO_6 := n0_; have HO_9 := n1_; have HO194 := n2_; have HO198 := n3_; have HB := n4_; clear n0_ n1_ n2_ n3_ n4_; (try clear hb); (try clear hb2); (try clear hk); (try clear hi)))
             go_meet
             case rel => exact ⟨_, (true), (by first | rfl | (simp; done) | (simp [*]; done)), H', ⟨by have := HJ8.out; have := HJ28.out; first | omega | exact Nat.le_refl _⟩, ⟨by (with_reducible repeat (first | apply Kd.R_alloc | apply Kd.R_drewN | apply Kd.R_drew)); exact Kd.R_mono HO_9.out (fun _ hk => trivial)⟩, ⟨by repeat (first | (with_reducible first | exact HB.out | apply below_alloc | apply pw_below_drewN | apply below_drew1) | exact HB.out)⟩⟩
           case rest =>
            clear HC52
            try clear c1
            try clear c2
            try clear p2
            try clear c3
            try clear c4
            try clear c4b0
            try clear c5
            try clear c10
            try clear c13
            try clear c16
            try clear c17
            try clear c20
            try clear c22
            try clear c24
            try clear c27
            try clear c34
            try clear c34b0
            try clear c36
            try clear c43
            try clear c46
            try clear c46b0
            try clear c49
            try clear c49b0
            try clear c49b1
            try clear c52
            try clear c53
            try clear c54
            try clear c59
            try clear p2
            obtain ⟨kq, x92_51, rfl, HA, HJ51, HO_9, HB⟩ := hcut
            have hl9_51 := (Kd.R_reads' HO_9.out).1
            rw [hl9_51] at HO_9
            (try simp only [hl9_51])
            cases kq with
            | zero => exact absurd HA.out (by simp [laws_FnExactPutNumber.j2])
            | succ kj51 =>
             have H := HA.out
             clear HA
             simp only [laws_FnExactPutNumber.j2] at H
             by_cases c66 : x92_51 = true
             ·subst c66
              have H1 : (some false) = some r := by rw [if_pos rfl] at H; exact H
              clear H
              have H := H1
              clear H1
              obtain rfl := Option.some.inj H
              go_wp2
              go_ret
              exact ⟨by first | rfl | (simp [errW_none, errW_some] <;> rfl) | (simp [*, errW_none, errW_some] <;> rfl), by repeat (first | (with_reducible first | exact HB.out | apply below_alloc | apply pw_below_drewN | apply below_drew1) | exact HB.out)⟩
             ·replace c66 := Bool.eq_false_iff.mpr c66
              subst c66
              have H1 : ((laws_heldRangeS.f kj51 t190 1).bind fun t200 => (if t200 < 0 then (some false) else (if t200 = t189 then (some true) else (some false)))) = some r := by rw [if_neg (show ¬ (false = true) by decide)] at H; exact H
              clear H
              have H := H1
              clear H1
              replace H := Option.bind_eq_some_iff.mp H
              obtain ⟨t200, A670, H⟩ := H
              replace H : (if t200 < 0 then (some false) else (if t200 = t189 then (some true) else (some false))) = some r := H
              have A67 := Aside0.mk A670
              clear A670
              by_cases c68 : t200 < 0
              ·rw [if_pos c68] at H
               have c68b0 : decide (t200 < 0) = true := decide_eq_true c68
               clear c68
               obtain rfl := Option.some.inj H
               go_wp2_with (first | ((with_reducible refine gate_callee (f := 54) rfl ?_); refine goesL_ (some 95) rfl rfl Try.func54 (by kernel_rfl) rfl #[.slice Ao53 t190.length cN1, .int .i64 1] rfl (by (try simp only [List.map_toArray, List.map_cons, List.map_nil]); first | done | rfl | (simp only [List.length_drop, List.length_take]; rfl)) ?_; (with_reducible refine (laws_heldRangeS.calls kj51 _ _ t190 1 t200 _ ?side1 ?side2 A67.out).mono ?_); (case side1 => repeat (first | exact (Kd.R_reads' HO_9.out).2.2 | (with_reducible refine Kd.C_alloc ?_ _) | (with_reducible refine Kd.C_drewN ?_ _) | (with_reducible refine Kd.C_drew ?_))); (case side2 => exact (by have e_ := (Kd.R_reads' HO_9.out).1; have n_ := HN1.out; omega)); rintro e w' ⟨rfl, ⟨nd, rfl⟩⟩; refine ⟨_, rfl, ?_⟩))
               go_ret
               exact ⟨by first | rfl | (simp [errW_none, errW_some] <;> rfl) | (simp [*, errW_none, errW_some] <;> rfl), by repeat (first | (with_reducible first | exact HB.out | apply below_alloc | apply pw_below_drewN | apply below_drew1) | exact HB.out)⟩
              ·rw [if_neg c68] at H
               have c68b0 : decide (t200 < 0) = false := decide_eq_false c68
               clear c68
               by_cases c69 : t200 = t189
               ·rw [if_pos c69] at H
                have c69b0 : (t200 == t189) = true := beq_iff_eq.mpr c69
                have c69b1 : (t200 != t189) = false := bne_eq_false_iff_eq.mpr c69
                clear c69
                obtain rfl := Option.some.inj H
                go_wp2_with (first | ((with_reducible refine gate_callee (f := 54) rfl ?_); refine goesL_ (some 95) rfl rfl Try.func54 (by kernel_rfl) rfl #[.slice Ao53 t190.length cN1, .int .i64 1] rfl (by (try simp only [List.map_toArray, List.map_cons, List.map_nil]); first | done | rfl | (simp only [List.length_drop, List.length_take]; rfl)) ?_; (with_reducible refine (laws_heldRangeS.calls kj51 _ _ t190 1 t200 _ ?side1 ?side2 A67.out).mono ?_); (case side1 => repeat (first | exact (Kd.R_reads' HO_9.out).2.2 | (with_reducible refine Kd.C_alloc ?_ _) | (with_reducible refine Kd.C_drewN ?_ _) | (with_reducible refine Kd.C_drew ?_))); (case side2 => exact (by have e_ := (Kd.R_reads' HO_9.out).1; have n_ := HN1.out; omega)); rintro e w' ⟨rfl, ⟨nd, rfl⟩⟩; refine ⟨_, rfl, ?_⟩))
                go_ret
                exact ⟨by first | rfl | (simp [errW_none, errW_some] <;> rfl) | (simp [*, errW_none, errW_some] <;> rfl), by repeat (first | (with_reducible first | exact HB.out | apply below_alloc | apply pw_below_drewN | apply below_drew1) | exact HB.out)⟩
               ·rw [if_neg c69] at H
                have c69b0 : (t200 == t189) = false := beq_eq_false_iff_ne.mpr c69
                have c69b1 : (t200 != t189) = true := bne_iff_ne.mpr c69
                obtain rfl := Option.some.inj H
                go_wp2_with (first | ((with_reducible refine gate_callee (f := 54) rfl ?_); refine goesL_ (some 95) rfl rfl Try.func54 (by kernel_rfl) rfl #[.slice Ao53 t190.length cN1, .int .i64 1] rfl (by (try simp only [List.map_toArray, List.map_cons, List.map_nil]); first | done | rfl | (simp only [List.length_drop, List.length_take]; rfl)) ?_; (with_reducible refine (laws_heldRangeS.calls kj51 _ _ t190 1 t200 _ ?side1 ?side2 A67.out).mono ?_); (case side1 => repeat (first | exact (Kd.R_reads' HO_9.out).2.2 | (with_reducible refine Kd.C_alloc ?_ _) | (with_reducible refine Kd.C_drewN ?_ _) | (with_reducible refine Kd.C_drew ?_))); (case side2 => exact (by have e_ := (Kd.R_reads' HO_9.out).1; have n_ := HN1.out; omega)); rintro e w' ⟨rfl, ⟨nd, rfl⟩⟩; refine ⟨_, rfl, ?_⟩))
                go_ret
                exact ⟨by first | rfl | (simp [errW_none, errW_some] <;> rfl) | (simp [*, errW_none, errW_some] <;> rfl), by repeat (first | (with_reducible first | exact HB.out | apply below_alloc | apply pw_below_drewN | apply below_drew1) | exact HB.out)⟩
          ·rw [if_neg c49] at H
           have c49b0 : (t191 == t189) = false := beq_eq_false_iff_ne.mpr c49
           have c49b1 : (t191 != t189) = true := bne_iff_ne.mpr c49
           obtain rfl := Option.some.inj H
           obtain ⟨Ao70, co70, eo70⟩ := Kd.R_slice HO_9.out
           subst eo70
           go_wp2_with (first | ((with_reducible refine gate_callee (f := 22) rfl ?_); refine goesL_ (some 68) rfl rfl Try.func22 (by kernel_rfl) rfl #[.slice Ao70 t177.length cN1, .int .i64 1] rfl (by (try simp only [List.map_toArray, List.map_cons, List.map_nil]); first | done | rfl | (simp only [List.length_drop, List.length_take]; rfl)) ?_; (refine (laws_markRangeS.callsN cN1 kj28 (fun k_ => some k_ = (.slice Ao70 t177.length co70 : Value).ownBlock) (.slice Ao70 t177.length co70) t177 1 t189 t190 w _ ?side1 ?side2 A44.out).mono ?_); (case side1 => repeat (first | (with_reducible first | exact HB.out | apply below_alloc | apply pw_below_drewN | apply below_drew1) | exact HB.out)); (case side2 => exact Kd.R_tight rfl HO_9.out); rintro e w71 ⟨rfl, hy0, hb, hkp⟩; refine ⟨_, rfl, ?_⟩; have n0_ := Aside0.mk (Kd.R_mono (ok' := fun k_ => some k_ ≠ (.slice Ao70 t177.length co70 : Value).ownBlock) (Kd.R_keptB (HO_6.out) hkp (fun k_ hk_ hs_ => (hk_) hs_)) (fun k_ hk_ => hk_.1)); have n1_ := Aside0.mk (Kd.R_reok rfl hy0 (fun k_ e_ => HO_9.out.1 k_ e_)); have n2_ := Aside0.mk (hb); clear HO_6; clear HO_9; clear HB; have HO_6 := n0_; have HO_9 := n1_; have HB := n2_; clear n0_ n1_ n2_; (try clear hb); (try clear hkp); (try clear hy0)) | ((with_reducible refine gate_callee (f := 54) rfl ?_); refine goesL_ (some 71) rfl rfl Try.func54 (by kernel_rfl) rfl #[.slice Ao70 t190.length cN1, .int .i64 1] rfl (by (try simp only [List.map_toArray, List.map_cons, List.map_nil]); first | done | (rw [show t190.length = t177.length from (Kd.R_reads' HO_9.out).1.symm] <;> rfl) | rfl | (simp only [List.length_drop, List.length_take]; rfl)) ?_; (with_reducible refine (laws_heldRangeS.calls kj28 _ _ t190 1 t191 _ ?side1 ?side2 A45.out).mono ?_); (case side1 => repeat (first | exact (Kd.R_reads' HO_9.out).2.2 | (with_reducible refine Kd.C_alloc ?_ _) | (with_reducible refine Kd.C_drewN ?_ _) | (with_reducible refine Kd.C_drew ?_))); (case side2 => rw [show t190.length = t177.length from (Kd.R_reads' HO_9.out).1.symm]; exact (by have e_ := (Kd.R_reads' HO_9.out).1; have n_ := HN1.out; omega)); rintro e w' ⟨rfl, ⟨nd, rfl⟩⟩; refine ⟨_, rfl, ?_⟩))
           go_ret
           exact ⟨by first | rfl | (simp [errW_none, errW_some] <;> rfl) | (simp [*, errW_none, errW_some] <;> rfl), by repeat (first | (with_reducible first | exact HB.out | apply below_alloc | apply pw_below_drewN | apply below_drew1) | exact HB.out)⟩
     ·replace c27 := Bool.eq_false_iff.mpr c27
      subst c27
      have H1 : (some false) = some r := by rw [if_neg (show ¬ (false = true) by decide)] at H; exact H
      clear H
      have H := H1
      clear H1
      obtain rfl := Option.some.inj H
      go_wp2_with (first | ((with_reducible refine gate_callee (f := 16) rfl ?_); refine goesL_ (some 47) rfl rfl Try.func16 (by kernel_rfl) rfl #[.slice A0 l0.length c0] rfl (by (try simp only [List.map_toArray, List.map_cons, List.map_nil]); first | done | rfl | (simp only [List.length_drop, List.length_take]; rfl)) ?_; (with_reducible refine (laws_toRangeS.calls kj8 _ _ l0 t182 _ ?side1 ?side2 A25.out).mono ?_); (case side1 => repeat (first | exact (Kd.C_below HR0.out HB.out) | (with_reducible refine Kd.C_alloc ?_ _) | (with_reducible refine Kd.C_drewN ?_ _) | (with_reducible refine Kd.C_drew ?_))); (case side2 => exact HC0.out); rintro e w72 ⟨v183, rfl, ho0, hb⟩; refine ⟨_, rfl, ?_⟩; have n0_ := Aside0.mk (Kd.R_elder' (by (with_reducible repeat (first | apply Kd.R_alloc | apply Kd.R_drewN | apply Kd.R_drew)); exact HO_6.out) (Kd.R_base ho0) hb); have n1_ := Aside0.mk (Kd.R_elder' (by (with_reducible repeat (first | apply Kd.R_alloc | apply Kd.R_drewN | apply Kd.R_drew)); exact HO_8.out) (Kd.R_base ho0) hb); have n2_ := Aside0.mk (Kd.R_elder' (by (with_reducible repeat (first | apply Kd.R_alloc | apply Kd.R_drewN | apply Kd.R_drew)); exact HO_9.out) (Kd.R_base ho0) hb); have n3_ := Aside0.mk (Kd.R_lower (Kd.R_new' (Kd.R_new' (Kd.R_new' ho0 (Kd.R_lt (by (with_reducible repeat (first | apply Kd.R_alloc | apply Kd.R_drewN | apply Kd.R_drew)); exact HO_6.out))) (Kd.R_lt (by (with_reducible repeat (first | apply Kd.R_alloc | apply Kd.R_drewN | apply Kd.R_drew)); exact HO_8.out))) (Kd.R_lt (by (with_reducible repeat (first | apply Kd.R_alloc | apply Kd.R_drewN | apply Kd.R_drew)); exact HO_9.out))) (below_size (by repeat (first | (with_reducible first | exact HB.out | apply below_alloc | apply pw_below_drewN | apply below_drew1) | exact HB.out)))); have n4_ := Aside0.mk (below_step (by repeat (first | (with_reducible first | exact HB.out | apply below_alloc | apply pw_below_drewN | apply below_drew1) | exact HB.out)) hb); clear HO_6; clear HO_8; clear HO_9; clear HB; have HO_6 := n0_; have HO_8 := n1_; have HO_9 := n2_; have HO184 := n3_; have HB := n4_; clear n0_ n1_ n2_ n3_ n4_; (try clear hb); (try clear hb2); (try clear hk); (try clear hi); (try clear ho0); obtain ⟨Ao73, co73, eo73⟩ := Kd.R_slice HO184.out; subst eo73) | ((with_reducible refine gate_callee (f := 20) rfl ?_); refine goesL_ (some 48) rfl rfl Try.func20 (by kernel_rfl) rfl #[.slice Ao14 t174.length co14, .slice Ao73 t182.length co73] rfl (by (try simp only [List.map_toArray, List.map_cons, List.map_nil]); first | done | rfl | (simp only [List.length_drop, List.length_take]; rfl)) ?_; (with_reducible refine (laws_eqRangeS.calls kj8 _ _ t174 _ _ t182 false _ ?side1 ?side2 ?side3 ?side4 A26.out).mono ?_); (case side1 => repeat (first | exact (Kd.R_reads' HO_8.out).2.2 | (with_reducible refine Kd.C_alloc ?_ _) | (with_reducible refine Kd.C_drewN ?_ _) | (with_reducible refine Kd.C_drew ?_))); (case side2 => exact (Kd.R_reads' HO_8.out).2.1); (case side3 => repeat (first | exact (Kd.R_reads' HO184.out).2.2 | (with_reducible refine Kd.C_alloc ?_ _) | (with_reducible refine Kd.C_drewN ?_ _) | (with_reducible refine Kd.C_drew ?_))); (case side4 => exact (Kd.R_reads' HO184.out).2.1); rintro e w74 ⟨rfl, hb⟩; refine ⟨_, rfl, ?_⟩; have n0_ := Aside0.mk (Kd.R_below (by (with_reducible repeat (first | apply Kd.R_alloc | apply Kd.R_drewN | apply Kd.R_drew)); exact HO_6.out) hb); have n1_ := Aside0.mk (Kd.R_below (by (with_reducible repeat (first | apply Kd.R_alloc | apply Kd.R_drewN | apply Kd.R_drew)); exact HO_8.out) hb); have n2_ := Aside0.mk (Kd.R_below (by (with_reducible repeat (first | apply Kd.R_alloc | apply Kd.R_drewN | apply Kd.R_drew)); exact HO_9.out) hb); have n3_ := Aside0.mk (Kd.R_below (by (with_reducible repeat (first | apply Kd.R_alloc | apply Kd.R_drewN | apply Kd.R_drew)); exact HO184.out) hb); have n4_ := Aside0.mk (below_step (by repeat (first | (with_reducible first | exact HB.out | apply below_alloc | apply pw_below_drewN | apply below_drew1) | exact HB.out)) hb); clear HO_6; clear HO_8; clear HO_9; clear HO184; clear HB; have HO_6 := n0_; have HO_8 := n1_; have HO_9 := n2_; have HO184 := n3_; have HB := n4_; clear n0_ n1_ n2_ n3_ n4_; (try clear hb); (try clear hb2); (try clear hk); (try clear hi)))
      go_ret
      exact ⟨by first | rfl | (simp [errW_none, errW_some] <;> rfl) | (simp [*, errW_none, errW_some] <;> rfl), by repeat (first | (with_reducible first | exact HB.out | apply below_alloc | apply pw_below_drewN | apply below_drew1) | exact HB.out)⟩

end Go.Proofs.Ytjmakjddhbdocaa.PFnExactPutNumber
