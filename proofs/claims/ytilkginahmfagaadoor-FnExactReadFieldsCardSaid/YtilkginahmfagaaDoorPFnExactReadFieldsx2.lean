-- Written by a program of this session (wip/xprint.py).
import Derived.Test.YtilkginahmfagaaDoorPFnExactReadFieldsx0
namespace Go.Proofs.YtilkginahmfagaaDoor.PFnExactReadFields
open Go.RowKit Go.Proofs.YtilkginahmfagaaDoorW.PrintWords Go.Proofs.YtilkginahmfagaaDoorW.PrintLast Go.Proofs.YtilkginahmfagaaDoorW.PrintMore
open Go.Proofs.YtilkginahmfagaaDoor.ShortK (bN bD bA sA sZ sS mR mB bX bLt bS cz2 fz2 cx2 cz3 fz3 cx3 cz4 fz4 cx4 cz5 fz5 cx5 cz6 fz6 cx6 cz7 fz7 cx7 cz8 fz8 cx8 cz9 fz9 cx9 cz10 fz10 cx10 cz11 fz11 cx11 cz12 fz12 cx12)
attribute [local go_sem] Go.Proofs.YtilkginahmfagaaDoor.StoreK.isSome_setCell max2_int min2_int max_two min_two max_three min_three max_four min_four   -- for this text's walks alone
set_option linter.unusedVariables false
set_option linter.unusedSimpArgs false

/-! ### spec_l1In: function 27 -/
def spec_l1In.f (a0 : Int) (a1 : Int) (a2 : Int) : Option (Bool) := if a0 ≥ a1 then (some (decide (a0 ≤ a2))) else (some false)
set_option maxHeartbeats 64000000 in
set_option maxRecDepth 100000 in
theorem spec_l1In.calls (a0 : Int) (a1 : Int) (a2 : Int) (r : Bool) (w : World) (h : spec_l1In.f a0 a1 a2 = some r) :
  Calls Tryd.prog 27 #[.int .i64 a0, .int .i64 a1, .int .i64 a2] w fun e w' => e = .returned (.bool r) ∧ Drawn0 w w' := by
 have H : (if a0 ≥ a1 then (some (decide (a0 ≤ a2))) else (some false)) = some r := h
 clear h
 by_cases c4 : a0 ≥ a1
 ·rw [if_pos c4] at H
  have c4b0 : decide (a1 ≤ a0) = true := decide_eq_true c4
  clear c4
  obtain rfl := Option.some.inj H
  go_enter Tryd.func27, Tryd.ntmps27
  go_wp2
  go_ret
  exact ⟨by first | rfl | (simp; done) | (simp [*]; done), by repeat (first | exact Drawn0.refl _ | apply Drawn0.step)⟩
 ·rw [if_neg c4] at H
  have c4b0 : decide (a1 ≤ a0) = false := decide_eq_false c4
  clear c4
  obtain rfl := Option.some.inj H
  go_enter Tryd.func27, Tryd.ntmps27
  go_wp2
  go_ret
  exact ⟨by first | rfl | (simp; done) | (simp [*]; done), by repeat (first | exact Drawn0.refl _ | apply Drawn0.step)⟩

/-! ### spec_TakePrefix: function 72 -/
mutual
def spec_TakePrefix.j0 : Nat → ByteArray → Int → Bool → Option (Int × Int × Int)
 | 0, _, _, _ => none
 | k + 1, x0, x1, x17 => if x17 = true then (some (0, 0, 0)) else (if 0 ≤ (IntKind.u64.wrap (x1)) then (if 0 < (x0.size : Int) then (if (Go.bits .and .i64 (wrap64 (bt x0 0)) (wrap64 ((shl .i64 1 (IntKind.u64.wrap (x1))) - 1))) < (wrap64 ((shl .i64 1 (IntKind.u64.wrap (x1))) - 1)) then (some (Go.bits .and .i64 (wrap64 (bt x0 0)) (wrap64 ((shl .i64 1 (IntKind.u64.wrap (x1))) - 1)), Go.bits .andNot .i64 (wrap64 (bt x0 0)) (wrap64 ((shl .i64 1 (IntKind.u64.wrap (x1))) - 1)), 1)) else (spec_TakePrefix.l0 k x0 (Go.bits .and .i64 (wrap64 (bt x0 0)) (wrap64 ((shl .i64 1 (IntKind.u64.wrap (x1))) - 1))) (Go.bits .andNot .i64 (wrap64 (bt x0 0)) (wrap64 ((shl .i64 1 (IntKind.u64.wrap (x1))) - 1))) 1)) else (none)) else (none))
def spec_TakePrefix.l0 : Nat → ByteArray → Int → Int → Int → Option (Int × Int × Int)
 | 0, _, _, _, _ => none
 | k + 1, x0, x8, x9, x10 => if x10 < 6 then (spec_TakePrefix.j2 k x0 x8 x9 x10 (decide (x10 < (x0.size : Int)))) else (spec_TakePrefix.j2 k x0 x8 x9 x10 false)
def spec_TakePrefix.j2 : Nat → ByteArray → Int → Int → Int → Bool → Option (Int × Int × Int)
 | 0, _, _, _, _, _ => none
 | k + 1, x0, x8, x9, x10, x44 => if x44 = true then (if 0 ≤ x10 then (if x10 < (x0.size : Int) then (if 0 ≤ (IntKind.u64.wrap (wrap64 (7 * (wrap64 (x10 - 1))))) then (if (wrap64 (x8 + (shl .i64 (wrap64 (Go.bits .and .u8 (bt x0 x10) 127)) (IntKind.u64.wrap (wrap64 (7 * (wrap64 (x10 - 1)))))))) > 1000000000 then (some (0, 0, 0)) else (if (bt x0 x10) < 128 then (some (wrap64 (x8 + (shl .i64 (wrap64 (Go.bits .and .u8 (bt x0 x10) 127)) (IntKind.u64.wrap (wrap64 (7 * (wrap64 (x10 - 1))))))), x9, wrap64 (x10 + 1))) else (spec_TakePrefix.l0 k x0 (wrap64 (x8 + (shl .i64 (wrap64 (Go.bits .and .u8 (bt x0 x10) 127)) (IntKind.u64.wrap (wrap64 (7 * (wrap64 (x10 - 1)))))))) x9 (wrap64 (x10 + 1))))) else (none)) else (none)) else (none)) else (some (0, 0, 0))
end
def spec_TakePrefix.f (k : Nat) (a0 : ByteArray) (a1 : Int) : Option (Int × Int × Int) := if a0.toList = ([] : List UInt8) then (spec_TakePrefix.j0 k a0 a1 true) else ((spec_l1In.f a1 3 8).bind fun t101 => (spec_TakePrefix.j0 k a0 a1 (!t101)))
theorem spec_TakePrefix.mono_l : ∀ k, (∀ y0 y1 y2, LeO (spec_TakePrefix.j0 k y0 y1 y2) (spec_TakePrefix.j0 (k + 1) y0 y1 y2)) ∧ (∀ y0 y1 y2 y3, LeO (spec_TakePrefix.l0 k y0 y1 y2 y3) (spec_TakePrefix.l0 (k + 1) y0 y1 y2 y3)) ∧ (∀ y0 y1 y2 y3 y4, LeO (spec_TakePrefix.j2 k y0 y1 y2 y3 y4) (spec_TakePrefix.j2 (k + 1) y0 y1 y2 y3 y4))
 | 0 => ⟨fun _ _ _ r h => by simp [spec_TakePrefix.j0] at h, fun _ _ _ _ r h => by simp [spec_TakePrefix.l0] at h, fun _ _ _ _ _ r h => by simp [spec_TakePrefix.j2] at h⟩
 | k + 1 => by
  obtain ⟨ih0, ih1, ih2⟩ := spec_TakePrefix.mono_l k
  refine ⟨?_, ?_, ?_⟩
  ·intro y0 y1 y2
   unfold spec_TakePrefix.j0
   repeat' first
   | (with_reducible exact ih0 _ _ _)
   | (with_reducible exact ih1 _ _ _ _)
   | (with_reducible exact ih2 _ _ _ _ _)
   | (with_reducible exact LeO.refl _)
   | (with_reducible exact LeO.none _)
   | (with_reducible refine LeO.ite ?_ ?_)
   | (with_reducible refine LeO.bind ?_ (fun _ => ?_))
   | exact ih0 _ _ _
   | exact ih1 _ _ _ _
   | exact ih2 _ _ _ _ _
   | exact LeO.none _
   | refine LeO.ite ?_ ?_
   | refine LeO.bind ?_ (fun _ => ?_)
  ·intro y0 y1 y2 y3
   unfold spec_TakePrefix.l0
   repeat' first
   | (with_reducible exact ih0 _ _ _)
   | (with_reducible exact ih1 _ _ _ _)
   | (with_reducible exact ih2 _ _ _ _ _)
   | (with_reducible exact LeO.refl _)
   | (with_reducible exact LeO.none _)
   | (with_reducible refine LeO.ite ?_ ?_)
   | (with_reducible refine LeO.bind ?_ (fun _ => ?_))
   | exact ih0 _ _ _
   | exact ih1 _ _ _ _
   | exact ih2 _ _ _ _ _
   | exact LeO.none _
   | refine LeO.ite ?_ ?_
   | refine LeO.bind ?_ (fun _ => ?_)
  ·intro y0 y1 y2 y3 y4
   unfold spec_TakePrefix.j2
   repeat' first
   | (with_reducible exact ih0 _ _ _)
   | (with_reducible exact ih1 _ _ _ _)
   | (with_reducible exact ih2 _ _ _ _ _)
   | (with_reducible exact LeO.refl _)
   | (with_reducible exact LeO.none _)
   | (with_reducible refine LeO.ite ?_ ?_)
   | (with_reducible refine LeO.bind ?_ (fun _ => ?_))
   | exact ih0 _ _ _
   | exact ih1 _ _ _ _
   | exact ih2 _ _ _ _ _
   | exact LeO.none _
   | refine LeO.ite ?_ ?_
   | refine LeO.bind ?_ (fun _ => ?_)
theorem spec_TakePrefix.mono : ∀ a0 a1 k, LeO (spec_TakePrefix.f k a0 a1) (spec_TakePrefix.f (k + 1) a0 a1) := by
 intro a0 a1 k
 obtain ⟨ih0, ih1, ih2⟩ := spec_TakePrefix.mono_l k
 unfold spec_TakePrefix.f
 repeat' first
   | (with_reducible exact ih0 _ _ _)
   | (with_reducible exact ih1 _ _ _ _)
   | (with_reducible exact ih2 _ _ _ _ _)
   | (with_reducible exact LeO.refl _)
   | (with_reducible exact LeO.none _)
   | (with_reducible refine LeO.ite ?_ ?_)
   | (with_reducible refine LeO.bind ?_ (fun _ => ?_))
   | exact ih0 _ _ _
   | exact ih1 _ _ _ _
   | exact ih2 _ _ _ _ _
   | exact LeO.none _
   | refine LeO.ite ?_ ?_
   | refine LeO.bind ?_ (fun _ => ?_)
set_option maxHeartbeats 64000000 in
set_option maxRecDepth 100000 in
theorem spec_TakePrefix.calls (k : Nat) (a0 : ByteArray) (a1 : Int) (r1 : Int) (r2 : Int) (r3 : Int) (w : World) (h : spec_TakePrefix.f k a0 a1 = some (r1, r2, r3)) :
  Calls Tryd.prog 72 #[.string a0, .int .i64 a1] w fun e w' => e = .returned (.tuple #[.int .i64 r1, .int .i64 r2, .int .i64 r3]) ∧ Drawn0 w w' := by
 have H : (if a0.toList = ([] : List UInt8) then (spec_TakePrefix.j0 k a0 a1 true) else ((spec_l1In.f a1 3 8).bind fun t101 => (spec_TakePrefix.j0 k a0 a1 (!t101)))) = some (r1, r2, r3) := h
 clear h
 have HC3 := Aside0.mk H
 clear H
 go_enter Tryd.func72, Tryd.ntmps72
 go_upto_region 1 with (fail)
 go_cut [17] (fun v17 wc => ∃ (kq : Nat) (x17_2 : Bool), v17 = .bool x17_2 ∧ Aside0 (spec_TakePrefix.j0 kq a0 a1 x17_2 = some (r1, r2, r3)) ∧ Aside0 (kq ≤ k) ∧ Drawn0 w wc)
 case first =>
  have H := HC3.out
  clear HC3
  by_cases c4 : a0.toList = ([] : List UInt8)
  ·rw [if_pos c4] at H
   have c4b0 : (a0.toList == ([] : List UInt8)) = true := beq_iff_eq.mpr c4
   have c4b1 : (a0.toList != ([] : List UInt8)) = false := bne_eq_false_iff_eq.mpr c4
   clear c4
   (first | rw [c4b0] | (simp only [i64_w, i32_w]; rw [c4b0]) | skip)
   have H' := Aside0.mk H
   clear H
   go_wp2
   go_meet
   case rel => exact ⟨_, (true), (by first | rfl | (simp; done) | (simp [*]; done)), H', ⟨by first | omega | exact Nat.le_refl _⟩, by repeat (first | exact Drawn0.refl _ | apply Drawn0.step)⟩
  ·rw [if_neg c4] at H
   have c4b0 : (a0.toList == ([] : List UInt8)) = false := beq_eq_false_iff_ne.mpr c4
   have c4b1 : (a0.toList != ([] : List UInt8)) = true := bne_iff_ne.mpr c4
   (first | rw [c4b0] | (simp only [i64_w, i32_w]; rw [c4b0]) | skip)
   replace H := Option.bind_eq_some_iff.mp H
   obtain ⟨t101, A50, H⟩ := H
   replace H : (spec_TakePrefix.j0 k a0 a1 (!t101)) = some (r1, r2, r3) := H
   have A5 := Aside0.mk A50
   clear A50
   have H' := Aside0.mk H
   clear H
   go_wp2_with (first | (go_at_call 27; (with_reducible refine (spec_l1In.calls a1 3 8 t101 _ A5.out).mono ?_); rintro e w' ⟨rfl, ⟨nd, rfl⟩⟩))
   go_meet
   case rel => exact ⟨_, (!t101), (by first | rfl | (simp; done) | (simp [*]; done)), H', ⟨by first | omega | exact Nat.le_refl _⟩, by repeat (first | exact Drawn0.refl _ | apply Drawn0.step)⟩
 case rest =>
  clear HC3
  try clear p2
  try clear c4
  try clear c4b0
  try clear c4b1
  obtain ⟨kq, x17_2, rfl, HA, HJ2, ⟨mc2, rfl⟩⟩ := hcut
  cases kq with
  | zero => exact absurd HA.out (by simp [spec_TakePrefix.j0])
  | succ kj2 =>
   have H := HA.out
   clear HA
   simp only [spec_TakePrefix.j0] at H
   by_cases c6 : x17_2 = true
   ·subst c6
    have H1 : (some (0, 0, 0)) = some (r1, r2, r3) := by rw [if_pos rfl] at H; exact H
    clear H
    have H := H1
    clear H1
    simp only [Option.some.injEq, Prod.mk.injEq] at H
    obtain ⟨rfl, rfl, rfl⟩ := H
    go_wp2
    go_ret3
    exact ⟨by first | rfl | (simp; done) | (simp [*]; done), by repeat (first | exact Drawn0.refl _ | apply Drawn0.step)⟩
   ·replace c6 := Bool.eq_false_iff.mpr c6
    subst c6
    have H1 : (if 0 ≤ (IntKind.u64.wrap (a1)) then (if 0 < (a0.size : Int) then (if (Go.bits .and .i64 (wrap64 (bt a0 0)) (wrap64 ((shl .i64 1 (IntKind.u64.wrap (a1))) - 1))) < (wrap64 ((shl .i64 1 (IntKind.u64.wrap (a1))) - 1)) then (some (Go.bits .and .i64 (wrap64 (bt a0 0)) (wrap64 ((shl .i64 1 (IntKind.u64.wrap (a1))) - 1)), Go.bits .andNot .i64 (wrap64 (bt a0 0)) (wrap64 ((shl .i64 1 (IntKind.u64.wrap (a1))) - 1)), 1)) else (spec_TakePrefix.l0 kj2 a0 (Go.bits .and .i64 (wrap64 (bt a0 0)) (wrap64 ((shl .i64 1 (IntKind.u64.wrap (a1))) - 1))) (Go.bits .andNot .i64 (wrap64 (bt a0 0)) (wrap64 ((shl .i64 1 (IntKind.u64.wrap (a1))) - 1))) 1)) else (none)) else (none)) = some (r1, r2, r3) := by rw [if_neg (show ¬ (false = true) by decide)] at H; exact H
    clear H
    have H := H1
    clear H1
    obtain ⟨ji7, hji7⟩ : ∃ j_ : Int, (IntKind.u64.wrap (a1)) = j_ := ⟨_, rfl⟩
    replace H : (if 0 ≤ (ji7) then (if 0 < (a0.size : Int) then (if (Go.bits .and .i64 (wrap64 (bt a0 0)) (wrap64 ((shl .i64 1 (ji7)) - 1))) < (wrap64 ((shl .i64 1 (ji7)) - 1)) then (some (Go.bits .and .i64 (wrap64 (bt a0 0)) (wrap64 ((shl .i64 1 (ji7)) - 1)), Go.bits .andNot .i64 (wrap64 (bt a0 0)) (wrap64 ((shl .i64 1 (ji7)) - 1)), 1)) else (spec_TakePrefix.l0 kj2 a0 (Go.bits .and .i64 (wrap64 (bt a0 0)) (wrap64 ((shl .i64 1 (ji7)) - 1))) (Go.bits .andNot .i64 (wrap64 (bt a0 0)) (wrap64 ((shl .i64 1 (ji7)) - 1))) 1)) else (none)) else (none)) = some (r1, r2, r3) := by first | (rw [hji7] at H; exact H) | (simp only [hji7] at H ⊢; exact H)
    by_cases c8 : 0 ≤ (ji7)
    ·rw [if_pos c8] at H
     have c8b0 := eq_true c8
     have c8b1 : decide (0 ≤ (ji7)) = true := decide_eq_true c8
     clear c8
     obtain ⟨ji9, hji9⟩ : ∃ j_ : Int, (shl .i64 1 (ji7)) = j_ := ⟨_, rfl⟩
     replace H : (if 0 < (a0.size : Int) then (if (Go.bits .and .i64 (wrap64 (bt a0 0)) (wrap64 ((ji9) - 1))) < (wrap64 ((ji9) - 1)) then (some (Go.bits .and .i64 (wrap64 (bt a0 0)) (wrap64 ((ji9) - 1)), Go.bits .andNot .i64 (wrap64 (bt a0 0)) (wrap64 ((ji9) - 1)), 1)) else (spec_TakePrefix.l0 kj2 a0 (Go.bits .and .i64 (wrap64 (bt a0 0)) (wrap64 ((ji9) - 1))) (Go.bits .andNot .i64 (wrap64 (bt a0 0)) (wrap64 ((ji9) - 1))) 1)) else (none)) = some (r1, r2, r3) := by first | (rw [hji9] at H; exact H) | (simp only [hji9] at H ⊢; exact H)
     have hji9_ : (IntKind.i64.wrap (1 * 2 ^ min (ji7).toNat 64)) = ji9 := hji9
     have hji9z : (ji7) ≤ 64 → (IntKind.i64.wrap (1 * 2 ^ (ji7).toNat)) = ji9 := shl_small hji9
     have hji9u : (IntKind.i64.wrap (2 ^ min (ji7).toNat 64)) = ji9 := by have h_ := hji9_; rw [Int.one_mul] at h_; exact h_
     have hji9v : (ji7) ≤ 64 → (IntKind.i64.wrap (2 ^ (ji7).toNat)) = ji9 := fun hle_ => by have h_ := hji9z hle_; rw [Int.one_mul] at h_; exact h_
     have hji9y : (wrap64 (1 * 2 ^ min (ji7).toNat 64)) = ji9 := (i64_w _).symm.trans hji9_
     have hji9x : (ji7) ≤ 64 → (wrap64 (1 * 2 ^ (ji7).toNat)) = ji9 := fun h_ => (i64_w _).symm.trans (hji9z h_)
     by_cases c10 : 0 < (a0.size : Int)
     ·rw [if_pos c10] at H
      have c10b0 : decide (0 < (a0.size : Int)) = true := decide_eq_true c10
      have c10b1 : decide (0 < a0.size) = true := decide_eq_true (by omega)
      clear c10
      by_cases c13 : (Go.bits .and .i64 (wrap64 (bt a0 0)) (wrap64 ((ji9) - 1))) < (wrap64 ((ji9) - 1))
      ·rw [if_pos c13] at H
       have c13b0 : decide ((Go.bits .and .i64 (wrap64 (bt a0 0)) (wrap64 ((ji9) - 1))) < (wrap64 ((ji9) - 1))) = true := decide_eq_true c13
       (try (have c13b1 : decide ((Go.bits .and .i64 (IntKind.i64.wrap (bt a0 0)) (IntKind.i64.wrap ((ji9) - 1))) < (IntKind.i64.wrap ((ji9) - 1))) = true := by simp only [i64_w]; exact (decide_eq_true c13)))
       clear c13
       simp only [Option.some.injEq, Prod.mk.injEq] at H
       obtain ⟨rfl, rfl, rfl⟩ := H
       have p11 : 0 ≤ (0 : Int) := (by omega)
       have q11 : 0 < a0.size := (by have : (0 : Int) < (a0.size : Int) := of_decide_eq_true (by first | (with_reducible assumption) | assumption); omega)
       have hx11 : ∀ h : 0 < a0.size, ((a0[0]'h).toNat : Int) = bt a0 0 := bt_at a0 0
       clear p11
       have qi11 : (0 < (a0.size : Int)) = True := eq_true (of_decide_eq_true (by first | (with_reducible assumption) | assumption))
       replace q11 := eq_true q11
       have p12 : 0 ≤ (0 : Int) := (by omega)
       have q12 : 0 < a0.size := (by have : (0 : Int) < (a0.size : Int) := of_decide_eq_true (by first | (with_reducible assumption) | assumption); omega)
       have hx12 : ∀ h : 0 < a0.size, ((a0[0]'h).toNat : Int) = bt a0 0 := bt_at a0 0
       clear p12
       have qi12 : (0 < (a0.size : Int)) = True := eq_true (of_decide_eq_true (by first | (with_reducible assumption) | assumption))
       replace q12 := eq_true q12
       go_wp2
       go_ret3
       exact ⟨by first | rfl | (simp; done) | (simp only [← hji7, ← hji9] <;> (first | rfl | simp)) | (simp [*]; done), by repeat (first | exact Drawn0.refl _ | apply Drawn0.step)⟩
      ·rw [if_neg c13] at H
       have c13b0 : decide ((Go.bits .and .i64 (wrap64 (bt a0 0)) (wrap64 ((ji9) - 1))) < (wrap64 ((ji9) - 1))) = false := decide_eq_false c13
       (try (have c13b1 : decide ((Go.bits .and .i64 (IntKind.i64.wrap (bt a0 0)) (IntKind.i64.wrap ((ji9) - 1))) < (IntKind.i64.wrap ((ji9) - 1))) = false := by simp only [i64_w]; exact (decide_eq_false c13)))
       clear c13
       have H' := Aside0.mk H
       clear H
       have p11 : 0 ≤ (0 : Int) := (by omega)
       have q11 : 0 < a0.size := (by have : (0 : Int) < (a0.size : Int) := of_decide_eq_true (by first | (with_reducible assumption) | assumption); omega)
       have hx11 : ∀ h : 0 < a0.size, ((a0[0]'h).toNat : Int) = bt a0 0 := bt_at a0 0
       clear p11
       have qi11 : (0 < (a0.size : Int)) = True := eq_true (of_decide_eq_true (by first | (with_reducible assumption) | assumption))
       replace q11 := eq_true q11
       have p12 : 0 ≤ (0 : Int) := (by omega)
       have q12 : 0 < a0.size := (by have : (0 : Int) < (a0.size : Int) := of_decide_eq_true (by first | (with_reducible assumption) | assumption); omega)
       have hx12 : ∀ h : 0 < a0.size, ((a0[0]'h).toNat : Int) = bt a0 0 := bt_at a0 0
       clear p12
       have qi12 : (0 < (a0.size : Int)) = True := eq_true (of_decide_eq_true (by first | (with_reducible assumption) | assumption))
       replace q12 := eq_true q12
       go_wp2
       go_loopg [8, 10] kj2 (fun kq v8 v10 w' => ∃ (x8_2 : Int) (x10_2 : Int), v8 = .int .i64 x8_2 ∧ v10 = .int .i64 x10_2 ∧ Aside0 (spec_TakePrefix.l0 kq a0 x8_2 (Go.bits .andNot .i64 (wrap64 (bt a0 0)) (wrap64 ((ji9) - 1))) x10_2 = some (r1, r2, r3)) ∧ Aside0 (kq ≤ kj2) ∧ Drawn0 w w')
       case atStart => exact ⟨(Go.bits .and .i64 (wrap64 (bt a0 0)) (wrap64 ((ji9) - 1))), (1), (by first | rfl | (simp; done) | (simp only [← hji9] <;> (first | rfl | (simp; done))) | (simp only [← hji9, i64_w] <;> (first | rfl | (simp; done))) | (simp [*]; done)), (by first | rfl | (simp; done) | (simp [*]; done)), H', ⟨Nat.le_refl _⟩, by repeat (first | exact Drawn0.refl _ | apply Drawn0.step)⟩
       case round =>
        clear H'
        try clear c1
        try clear p1
        try clear q1
        try clear hx1
        try clear qi1
        try clear c2
        try clear p2
        try clear c4
        try clear c4b0
        try clear c4b1
        try clear c6
        try clear p6
        try clear c7
        try clear c8
        try clear c8b0
        try clear c8b1
        try clear c10
        try clear c10b0
        try clear c10b1
        try clear p11
        try clear q11
        try clear hx11
        try clear qi11
        try clear p12
        try clear q12
        try clear hx12
        try clear qi12
        try clear c13
        try clear c13b0
        try clear c13b1
        try clear p11
        try clear p12
        try clear p2
        try clear q11
        try clear q12
        obtain ⟨x8_2, x10_2, rfl, rfl, HA, HK2, ⟨m2, rfl⟩⟩ := hrel
        cases gk with
        | zero => exact absurd HA.out (by simp [spec_TakePrefix.l0])
        | succ k2 =>
         have H := HA.out
         clear HA
         simp only [spec_TakePrefix.l0] at H
         have HC14 := Aside0.mk H
         clear H
         go_upto_region 9 with (fail)
         go_cut [44] (fun v44 wc => ∃ (kq : Nat) (x44_13 : Bool), v44 = .bool x44_13 ∧ Aside0 (spec_TakePrefix.j2 kq a0 x8_2 (Go.bits .andNot .i64 (wrap64 (bt a0 0)) (wrap64 ((ji9) - 1))) x10_2 x44_13 = some (r1, r2, r3)) ∧ Aside0 (kq ≤ k2) ∧ Drawn0 w wc)
         case first =>
          have H := HC14.out
          clear HC14
          by_cases c15 : x10_2 < 6
          ·rw [if_pos c15] at H
           have c15b0 : decide (x10_2 < 6) = true := decide_eq_true c15
           clear c15
           (first | rw [c15b0] | (simp only [i64_w, i32_w]; rw [c15b0]) | skip)
           have H' := Aside0.mk H
           clear H
           go_wp2
           go_meet
           case rel => exact ⟨_, (decide (x10_2 < (a0.size : Int))), (by first | rfl | (simp; done) | (simp [*]; done)), H', ⟨by have := HJ2.out; have := HK2.out; first | omega | exact Nat.le_refl _⟩, by repeat (first | exact Drawn0.refl _ | apply Drawn0.step)⟩
          ·rw [if_neg c15] at H
           have c15b0 : decide (x10_2 < 6) = false := decide_eq_false c15
           clear c15
           (first | rw [c15b0] | (simp only [i64_w, i32_w]; rw [c15b0]) | skip)
           have H' := Aside0.mk H
           clear H
           go_wp2
           go_meet
           case rel => exact ⟨_, (false), (by first | rfl | (simp; done) | (simp [*]; done)), H', ⟨by have := HJ2.out; have := HK2.out; first | omega | exact Nat.le_refl _⟩, by repeat (first | exact Drawn0.refl _ | apply Drawn0.step)⟩
         case rest =>
          clear HC14
          try clear c1
          try clear p1
          try clear q1
          try clear hx1
          try clear qi1
          try clear c2
          try clear p2
          try clear c4
          try clear c4b0
          try clear c4b1
          try clear c6
          try clear p6
          try clear c7
          try clear c8
          try clear c8b0
          try clear c8b1
          try clear c10
          try clear c10b0
          try clear c10b1
          try clear p11
          try clear q11
          try clear hx11
          try clear qi11
          try clear p12
          try clear q12
          try clear hx12
          try clear qi12
          try clear c13
          try clear c13b0
          try clear c13b1
          try clear c15
          try clear c15b0
          try clear p1
          try clear p11
          try clear p12
          try clear p2
          try clear p6
          try clear q1
          try clear q11
          try clear q12
          obtain ⟨kq, x44_13, rfl, HA, HJ13, ⟨mc13, rfl⟩⟩ := hcut
          cases kq with
          | zero => exact absurd HA.out (by simp [spec_TakePrefix.j2])
          | succ kj13 =>
           have H := HA.out
           clear HA
           simp only [spec_TakePrefix.j2] at H
           by_cases c16 : x44_13 = true
           ·subst c16
            have H1 : (if 0 ≤ x10_2 then (if x10_2 < (a0.size : Int) then (if 0 ≤ (IntKind.u64.wrap (wrap64 (7 * (wrap64 (x10_2 - 1))))) then (if (wrap64 (x8_2 + (shl .i64 (wrap64 (Go.bits .and .u8 (bt a0 x10_2) 127)) (IntKind.u64.wrap (wrap64 (7 * (wrap64 (x10_2 - 1)))))))) > 1000000000 then (some (0, 0, 0)) else (if (bt a0 x10_2) < 128 then (some (wrap64 (x8_2 + (shl .i64 (wrap64 (Go.bits .and .u8 (bt a0 x10_2) 127)) (IntKind.u64.wrap (wrap64 (7 * (wrap64 (x10_2 - 1))))))), (Go.bits .andNot .i64 (wrap64 (bt a0 0)) (wrap64 ((ji9) - 1))), wrap64 (x10_2 + 1))) else (spec_TakePrefix.l0 kj13 a0 (wrap64 (x8_2 + (shl .i64 (wrap64 (Go.bits .and .u8 (bt a0 x10_2) 127)) (IntKind.u64.wrap (wrap64 (7 * (wrap64 (x10_2 - 1)))))))) (Go.bits .andNot .i64 (wrap64 (bt a0 0)) (wrap64 ((ji9) - 1))) (wrap64 (x10_2 + 1))))) else (none)) else (none)) else (none)) = some (r1, r2, r3) := by rw [if_pos rfl] at H; exact H
            clear H
            have H := H1
            clear H1
            by_cases c17 : 0 ≤ x10_2
            ·rw [if_pos c17] at H
             have c17b0 : decide (0 ≤ x10_2) = true := decide_eq_true c17
             clear c17
             by_cases c18 : x10_2 < (a0.size : Int)
             ·rw [if_pos c18] at H
              have c18b0 : decide (x10_2 < (a0.size : Int)) = true := decide_eq_true c18
              clear c18
              obtain ⟨ji20, hji20⟩ : ∃ j_ : Int, (IntKind.u64.wrap (wrap64 (7 * (wrap64 (x10_2 - 1))))) = j_ := ⟨_, rfl⟩
              replace H : (if 0 ≤ (ji20) then (if (wrap64 (x8_2 + (shl .i64 (wrap64 (Go.bits .and .u8 (bt a0 x10_2) 127)) (ji20)))) > 1000000000 then (some (0, 0, 0)) else (if (bt a0 x10_2) < 128 then (some (wrap64 (x8_2 + (shl .i64 (wrap64 (Go.bits .and .u8 (bt a0 x10_2) 127)) (ji20))), (Go.bits .andNot .i64 (wrap64 (bt a0 0)) (wrap64 ((ji9) - 1))), wrap64 (x10_2 + 1))) else (spec_TakePrefix.l0 kj13 a0 (wrap64 (x8_2 + (shl .i64 (wrap64 (Go.bits .and .u8 (bt a0 x10_2) 127)) (ji20)))) (Go.bits .andNot .i64 (wrap64 (bt a0 0)) (wrap64 ((ji9) - 1))) (wrap64 (x10_2 + 1))))) else (none)) = some (r1, r2, r3) := by first | (rw [hji20] at H; exact H) | (simp only [hji20] at H ⊢; exact H)
              by_cases c21 : 0 ≤ (ji20)
              ·rw [if_pos c21] at H
               have c21b0 := eq_true c21
               have c21b1 : decide (0 ≤ (ji20)) = true := decide_eq_true c21
               clear c21
               obtain ⟨ji22, hji22⟩ : ∃ j_ : Int, (shl .i64 (wrap64 (Go.bits .and .u8 (bt a0 x10_2) 127)) (ji20)) = j_ := ⟨_, rfl⟩
               replace H : (if (wrap64 (x8_2 + (ji22))) > 1000000000 then (some (0, 0, 0)) else (if (bt a0 x10_2) < 128 then (some (wrap64 (x8_2 + (ji22)), (Go.bits .andNot .i64 (wrap64 (bt a0 0)) (wrap64 ((ji9) - 1))), wrap64 (x10_2 + 1))) else (spec_TakePrefix.l0 kj13 a0 (wrap64 (x8_2 + (ji22))) (Go.bits .andNot .i64 (wrap64 (bt a0 0)) (wrap64 ((ji9) - 1))) (wrap64 (x10_2 + 1))))) = some (r1, r2, r3) := by first | (rw [hji22] at H; exact H) | (simp only [hji22] at H ⊢; exact H)
               have hji22_ : (IntKind.i64.wrap ((wrap64 (Go.bits .and .u8 (bt a0 x10_2) 127)) * 2 ^ min (ji20).toNat 64)) = ji22 := hji22
               have hji22z : (ji20) ≤ 64 → (IntKind.i64.wrap ((wrap64 (Go.bits .and .u8 (bt a0 x10_2) 127)) * 2 ^ (ji20).toNat)) = ji22 := shl_small hji22
               have hji22y : (wrap64 ((wrap64 (Go.bits .and .u8 (bt a0 x10_2) 127)) * 2 ^ min (ji20).toNat 64)) = ji22 := (i64_w _).symm.trans hji22_
               have hji22x : (ji20) ≤ 64 → (wrap64 ((wrap64 (Go.bits .and .u8 (bt a0 x10_2) 127)) * 2 ^ (ji20).toNat)) = ji22 := fun h_ => (i64_w _).symm.trans (hji22z h_)
               by_cases c23 : (wrap64 (x8_2 + (ji22))) > 1000000000
               ·rw [if_pos c23] at H
                have c23b0 : decide (1000000000 < (wrap64 (x8_2 + (ji22)))) = true := decide_eq_true c23
                (try (have c23b1 : decide (1000000000 < (IntKind.i64.wrap (x8_2 + (ji22)))) = true := by simp only [i64_w]; exact (decide_eq_true c23)))
                clear c23
                simp only [Option.some.injEq, Prod.mk.injEq] at H
                obtain ⟨rfl, rfl, rfl⟩ := H
                have p19 : 0 ≤ (x10_2 : Int) := of_decide_eq_true (by first | (with_reducible assumption) | assumption)
                have q19 : x10_2 < (a0.size : Int) := of_decide_eq_true (by first | (with_reducible assumption) | assumption)
                have hx19 := bt_at a0 x10_2
                replace p19 := eq_true p19
                replace q19 := eq_true q19
                go_wp2
                go_ret3
                exact ⟨by first | rfl | (simp; done) | (simp only [← hji7, ← hji9, ← hji20, ← hji22] <;> (first | rfl | simp)) | (simp [*]; done), by repeat (first | exact Drawn0.refl _ | apply Drawn0.step)⟩
               ·rw [if_neg c23] at H
                have c23b0 : decide (1000000000 < (wrap64 (x8_2 + (ji22)))) = false := decide_eq_false c23
                (try (have c23b1 : decide (1000000000 < (IntKind.i64.wrap (x8_2 + (ji22)))) = false := by simp only [i64_w]; exact (decide_eq_false c23)))
                clear c23
                by_cases c25 : (bt a0 x10_2) < 128
                ·rw [if_pos c25] at H
                 have c25b0 : decide ((bt a0 x10_2) < 128) = true := decide_eq_true c25
                 clear c25
                 simp only [Option.some.injEq, Prod.mk.injEq] at H
                 obtain ⟨rfl, rfl, rfl⟩ := H
                 have p19 : 0 ≤ (x10_2 : Int) := of_decide_eq_true (by first | (with_reducible assumption) | assumption)
                 have q19 : x10_2 < (a0.size : Int) := of_decide_eq_true (by first | (with_reducible assumption) | assumption)
                 have hx19 := bt_at a0 x10_2
                 replace p19 := eq_true p19
                 replace q19 := eq_true q19
                 have p24 : 0 ≤ (x10_2 : Int) := of_decide_eq_true (by first | (with_reducible assumption) | assumption)
                 have q24 : x10_2 < (a0.size : Int) := of_decide_eq_true (by first | (with_reducible assumption) | assumption)
                 have hx24 := bt_at a0 x10_2
                 replace p24 := eq_true p24
                 replace q24 := eq_true q24
                 go_wp2
                 go_ret3
                 exact ⟨by first | rfl | (simp; done) | (simp only [← hji7, ← hji9, ← hji20, ← hji22] <;> (first | rfl | simp)) | (simp [*]; done), by repeat (first | exact Drawn0.refl _ | apply Drawn0.step)⟩
                ·rw [if_neg c25] at H
                 have c25b0 : decide ((bt a0 x10_2) < 128) = false := decide_eq_false c25
                 clear c25
                 have H' := Aside0.mk H
                 clear H
                 have p19 : 0 ≤ (x10_2 : Int) := of_decide_eq_true (by first | (with_reducible assumption) | assumption)
                 have q19 : x10_2 < (a0.size : Int) := of_decide_eq_true (by first | (with_reducible assumption) | assumption)
                 have hx19 := bt_at a0 x10_2
                 replace p19 := eq_true p19
                 replace q19 := eq_true q19
                 have p24 : 0 ≤ (x10_2 : Int) := of_decide_eq_true (by first | (with_reducible assumption) | assumption)
                 have q24 : x10_2 < (a0.size : Int) := of_decide_eq_true (by first | (with_reducible assumption) | assumption)
                 have hx24 := bt_at a0 x10_2
                 replace p24 := eq_true p24
                 replace q24 := eq_true q24
                 go_wp2
                 go_roundg kj13
                 case measure => have := HJ2.out; have := HK2.out; have := HJ13.out; omega
                 case rel => exact ⟨(wrap64 (x8_2 + (ji22))), (wrap64 (x10_2 + 1)), (by first | rfl | (simp; done) | (simp only [← hji22] <;> (first | rfl | (simp; done))) | (simp only [← hji22, i64_w] <;> (first | rfl | (simp; done))) | (simp [*]; done)), (by first | rfl | (simp; done) | (simp [*]; done)), H', ⟨by have := HJ2.out; have := HK2.out; have := HJ13.out; omega⟩, by repeat (first | exact Drawn0.refl _ | apply Drawn0.step)⟩
              ·rw [if_neg c21] at H
               exact absurd H (by simp)
             ·rw [if_neg c18] at H
              exact absurd H (by simp)
            ·rw [if_neg c17] at H
             exact absurd H (by simp)
           ·replace c16 := Bool.eq_false_iff.mpr c16
            subst c16
            have H1 : (some (0, 0, 0)) = some (r1, r2, r3) := by rw [if_neg (show ¬ (false = true) by decide)] at H; exact H
            clear H
            have H := H1
            clear H1
            simp only [Option.some.injEq, Prod.mk.injEq] at H
            obtain ⟨rfl, rfl, rfl⟩ := H
            go_wp2
            go_ret3
            exact ⟨by first | rfl | (simp; done) | (simp only [← hji7, ← hji9] <;> (first | rfl | simp)) | (simp [*]; done), by repeat (first | exact Drawn0.refl _ | apply Drawn0.step)⟩
     ·rw [if_neg c10] at H
      exact absurd H (by simp)
    ·rw [if_neg c8] at H
     exact absurd H (by simp)

/-! ### spec_l15Static: function 73 -/
def spec_l15Static.f  : Option ((List (S65))) := some (([(⟨(⟨#[58, 97, 117, 116, 104, 111, 114, 105, 116, 121]⟩ : ByteArray), (⟨#[]⟩ : ByteArray)⟩ : S65), (⟨(⟨#[58, 112, 97, 116, 104]⟩ : ByteArray), (⟨#[47]⟩ : ByteArray)⟩ : S65), (⟨(⟨#[58, 109, 101, 116, 104, 111, 100]⟩ : ByteArray), (⟨#[67, 79, 78, 78, 69, 67, 84]⟩ : ByteArray)⟩ : S65), (⟨(⟨#[58, 109, 101, 116, 104, 111, 100]⟩ : ByteArray), (⟨#[71, 69, 84]⟩ : ByteArray)⟩ : S65), (⟨(⟨#[58, 109, 101, 116, 104, 111, 100]⟩ : ByteArray), (⟨#[80, 79, 83, 84]⟩ : ByteArray)⟩ : S65), (⟨(⟨#[58, 115, 99, 104, 101, 109, 101]⟩ : ByteArray), (⟨#[104, 116, 116, 112]⟩ : ByteArray)⟩ : S65), (⟨(⟨#[58, 115, 99, 104, 101, 109, 101]⟩ : ByteArray), (⟨#[104, 116, 116, 112, 115]⟩ : ByteArray)⟩ : S65), (⟨(⟨#[58, 115, 116, 97, 116, 117, 115]⟩ : ByteArray), (⟨#[50, 48, 48]⟩ : ByteArray)⟩ : S65), (⟨(⟨#[58, 115, 116, 97, 116, 117, 115]⟩ : ByteArray), (⟨#[52, 48, 52]⟩ : ByteArray)⟩ : S65), (⟨(⟨#[58, 115, 116, 97, 116, 117, 115]⟩ : ByteArray), (⟨#[53, 48, 51]⟩ : ByteArray)⟩ : S65), (⟨(⟨#[58, 112, 114, 111, 116, 111, 99, 111, 108]⟩ : ByteArray), (⟨#[99, 111, 110, 110, 101, 99, 116, 45, 117, 100, 112]⟩ : ByteArray)⟩ : S65), (⟨(⟨#[99, 97, 112, 115, 117, 108, 101, 45, 112, 114, 111, 116, 111, 99, 111, 108]⟩ : ByteArray), (⟨#[63, 49]⟩ : ByteArray)⟩ : S65), (⟨(⟨#[99, 111, 110, 116, 101, 110, 116, 45, 108, 101, 110, 103, 116, 104]⟩ : ByteArray), (⟨#[48]⟩ : ByteArray)⟩ : S65), (⟨(⟨#[100, 97, 116, 101]⟩ : ByteArray), (⟨#[]⟩ : ByteArray)⟩ : S65), (⟨(⟨#[117, 115, 101, 114, 45, 97, 103, 101, 110, 116]⟩ : ByteArray), (⟨#[]⟩ : ByteArray)⟩ : S65), (⟨(⟨#[97, 99, 99, 101, 112, 116]⟩ : ByteArray), (⟨#[42, 47, 42]⟩ : ByteArray)⟩ : S65)] : List (S65)))
set_option maxHeartbeats 64000000 in
set_option maxRecDepth 100000 in
theorem spec_l15Static.calls  (r : List (S65)) (w : World) (h : spec_l15Static.f  = some r) :
  Calls Tryd.prog 73 #[] w fun e w' => ∃ v0_ : Value, e = .returned (v0_) ∧ Kd.R k65 65 w' w.heap.size (fun _ => True) v0_ r ∧ Below w.heap.size w w' := by
 have hu65 := Tryd.underlying65
 have HB := Aside0.mk (Below.refl w.heap.size w)
 have H : (some (([(⟨(⟨#[58, 97, 117, 116, 104, 111, 114, 105, 116, 121]⟩ : ByteArray), (⟨#[]⟩ : ByteArray)⟩ : S65), (⟨(⟨#[58, 112, 97, 116, 104]⟩ : ByteArray), (⟨#[47]⟩ : ByteArray)⟩ : S65), (⟨(⟨#[58, 109, 101, 116, 104, 111, 100]⟩ : ByteArray), (⟨#[67, 79, 78, 78, 69, 67, 84]⟩ : ByteArray)⟩ : S65), (⟨(⟨#[58, 109, 101, 116, 104, 111, 100]⟩ : ByteArray), (⟨#[71, 69, 84]⟩ : ByteArray)⟩ : S65), (⟨(⟨#[58, 109, 101, 116, 104, 111, 100]⟩ : ByteArray), (⟨#[80, 79, 83, 84]⟩ : ByteArray)⟩ : S65), (⟨(⟨#[58, 115, 99, 104, 101, 109, 101]⟩ : ByteArray), (⟨#[104, 116, 116, 112]⟩ : ByteArray)⟩ : S65), (⟨(⟨#[58, 115, 99, 104, 101, 109, 101]⟩ : ByteArray), (⟨#[104, 116, 116, 112, 115]⟩ : ByteArray)⟩ : S65), (⟨(⟨#[58, 115, 116, 97, 116, 117, 115]⟩ : ByteArray), (⟨#[50, 48, 48]⟩ : ByteArray)⟩ : S65), (⟨(⟨#[58, 115, 116, 97, 116, 117, 115]⟩ : ByteArray), (⟨#[52, 48, 52]⟩ : ByteArray)⟩ : S65), (⟨(⟨#[58, 115, 116, 97, 116, 117, 115]⟩ : ByteArray), (⟨#[53, 48, 51]⟩ : ByteArray)⟩ : S65), (⟨(⟨#[58, 112, 114, 111, 116, 111, 99, 111, 108]⟩ : ByteArray), (⟨#[99, 111, 110, 110, 101, 99, 116, 45, 117, 100, 112]⟩ : ByteArray)⟩ : S65), (⟨(⟨#[99, 97, 112, 115, 117, 108, 101, 45, 112, 114, 111, 116, 111, 99, 111, 108]⟩ : ByteArray), (⟨#[63, 49]⟩ : ByteArray)⟩ : S65), (⟨(⟨#[99, 111, 110, 116, 101, 110, 116, 45, 108, 101, 110, 103, 116, 104]⟩ : ByteArray), (⟨#[48]⟩ : ByteArray)⟩ : S65), (⟨(⟨#[100, 97, 116, 101]⟩ : ByteArray), (⟨#[]⟩ : ByteArray)⟩ : S65), (⟨(⟨#[117, 115, 101, 114, 45, 97, 103, 101, 110, 116]⟩ : ByteArray), (⟨#[]⟩ : ByteArray)⟩ : S65), (⟨(⟨#[97, 99, 99, 101, 112, 116]⟩ : ByteArray), (⟨#[42, 47, 42]⟩ : ByteArray)⟩ : S65)] : List (S65)))) = some r := h
 clear h
 obtain ⟨y102, hy102⟩ : ∃ y_ : List (S65), y_ = (([(⟨(⟨#[58, 97, 117, 116, 104, 111, 114, 105, 116, 121]⟩ : ByteArray), (⟨#[]⟩ : ByteArray)⟩ : S65), (⟨(⟨#[58, 112, 97, 116, 104]⟩ : ByteArray), (⟨#[47]⟩ : ByteArray)⟩ : S65), (⟨(⟨#[58, 109, 101, 116, 104, 111, 100]⟩ : ByteArray), (⟨#[67, 79, 78, 78, 69, 67, 84]⟩ : ByteArray)⟩ : S65), (⟨(⟨#[58, 109, 101, 116, 104, 111, 100]⟩ : ByteArray), (⟨#[71, 69, 84]⟩ : ByteArray)⟩ : S65), (⟨(⟨#[58, 109, 101, 116, 104, 111, 100]⟩ : ByteArray), (⟨#[80, 79, 83, 84]⟩ : ByteArray)⟩ : S65), (⟨(⟨#[58, 115, 99, 104, 101, 109, 101]⟩ : ByteArray), (⟨#[104, 116, 116, 112]⟩ : ByteArray)⟩ : S65), (⟨(⟨#[58, 115, 99, 104, 101, 109, 101]⟩ : ByteArray), (⟨#[104, 116, 116, 112, 115]⟩ : ByteArray)⟩ : S65), (⟨(⟨#[58, 115, 116, 97, 116, 117, 115]⟩ : ByteArray), (⟨#[50, 48, 48]⟩ : ByteArray)⟩ : S65), (⟨(⟨#[58, 115, 116, 97, 116, 117, 115]⟩ : ByteArray), (⟨#[52, 48, 52]⟩ : ByteArray)⟩ : S65), (⟨(⟨#[58, 115, 116, 97, 116, 117, 115]⟩ : ByteArray), (⟨#[53, 48, 51]⟩ : ByteArray)⟩ : S65), (⟨(⟨#[58, 112, 114, 111, 116, 111, 99, 111, 108]⟩ : ByteArray), (⟨#[99, 111, 110, 110, 101, 99, 116, 45, 117, 100, 112]⟩ : ByteArray)⟩ : S65), (⟨(⟨#[99, 97, 112, 115, 117, 108, 101, 45, 112, 114, 111, 116, 111, 99, 111, 108]⟩ : ByteArray), (⟨#[63, 49]⟩ : ByteArray)⟩ : S65), (⟨(⟨#[99, 111, 110, 116, 101, 110, 116, 45, 108, 101, 110, 103, 116, 104]⟩ : ByteArray), (⟨#[48]⟩ : ByteArray)⟩ : S65), (⟨(⟨#[100, 97, 116, 101]⟩ : ByteArray), (⟨#[]⟩ : ByteArray)⟩ : S65), (⟨(⟨#[117, 115, 101, 114, 45, 97, 103, 101, 110, 116]⟩ : ByteArray), (⟨#[]⟩ : ByteArray)⟩ : S65), (⟨(⟨#[97, 99, 99, 101, 112, 116]⟩ : ByteArray), (⟨#[42, 47, 42]⟩ : ByteArray)⟩ : S65)] : List (S65))) := ⟨_, rfl⟩
 replace H : (some y102) = some r := by first | (rw [hy102]; with_reducible exact H) | (have H2_ := (Option.bind_some _ _).symm.trans H; rw [hy102]; with_reducible exact H2_) | (have H2_ := (Option.bind_some _ _).symm.trans H; with_reducible exact H2_) | with_reducible exact H | (rw [hy102]; exact H) | exact H
 have Ny102 := Aside0.mk hy102
 clear hy102
 obtain rfl := Option.some.inj H
 go_enter Tryd.func73, Tryd.ntmps73
 go_wp2_with (first | ((with_reducible refine gate_dst (N := 17) rfl ?_); refine Kd.R_lit k65 _ 65 ?hg (N := 17) ?hd (xs := ([(⟨(⟨#[58, 97, 117, 116, 104, 111, 114, 105, 116, 121]⟩ : ByteArray), (⟨#[]⟩ : ByteArray)⟩ : S65), (⟨(⟨#[58, 112, 97, 116, 104]⟩ : ByteArray), (⟨#[47]⟩ : ByteArray)⟩ : S65), (⟨(⟨#[58, 109, 101, 116, 104, 111, 100]⟩ : ByteArray), (⟨#[67, 79, 78, 78, 69, 67, 84]⟩ : ByteArray)⟩ : S65), (⟨(⟨#[58, 109, 101, 116, 104, 111, 100]⟩ : ByteArray), (⟨#[71, 69, 84]⟩ : ByteArray)⟩ : S65), (⟨(⟨#[58, 109, 101, 116, 104, 111, 100]⟩ : ByteArray), (⟨#[80, 79, 83, 84]⟩ : ByteArray)⟩ : S65), (⟨(⟨#[58, 115, 99, 104, 101, 109, 101]⟩ : ByteArray), (⟨#[104, 116, 116, 112]⟩ : ByteArray)⟩ : S65), (⟨(⟨#[58, 115, 99, 104, 101, 109, 101]⟩ : ByteArray), (⟨#[104, 116, 116, 112, 115]⟩ : ByteArray)⟩ : S65), (⟨(⟨#[58, 115, 116, 97, 116, 117, 115]⟩ : ByteArray), (⟨#[50, 48, 48]⟩ : ByteArray)⟩ : S65), (⟨(⟨#[58, 115, 116, 97, 116, 117, 115]⟩ : ByteArray), (⟨#[52, 48, 52]⟩ : ByteArray)⟩ : S65), (⟨(⟨#[58, 115, 116, 97, 116, 117, 115]⟩ : ByteArray), (⟨#[53, 48, 51]⟩ : ByteArray)⟩ : S65), (⟨(⟨#[58, 112, 114, 111, 116, 111, 99, 111, 108]⟩ : ByteArray), (⟨#[99, 111, 110, 110, 101, 99, 116, 45, 117, 100, 112]⟩ : ByteArray)⟩ : S65), (⟨(⟨#[99, 97, 112, 115, 117, 108, 101, 45, 112, 114, 111, 116, 111, 99, 111, 108]⟩ : ByteArray), (⟨#[63, 49]⟩ : ByteArray)⟩ : S65), (⟨(⟨#[99, 111, 110, 116, 101, 110, 116, 45, 108, 101, 110, 103, 116, 104]⟩ : ByteArray), (⟨#[48]⟩ : ByteArray)⟩ : S65), (⟨(⟨#[100, 97, 116, 101]⟩ : ByteArray), (⟨#[]⟩ : ByteArray)⟩ : S65), (⟨(⟨#[117, 115, 101, 114, 45, 97, 103, 101, 110, 116]⟩ : ByteArray), (⟨#[]⟩ : ByteArray)⟩ : S65), (⟨(⟨#[97, 99, 99, 101, 112, 116]⟩ : ByteArray), (⟨#[42, 47, 42]⟩ : ByteArray)⟩ : S65)] : List (S65))) (inner := [.string (⟨#[58, 97, 117, 116, 104, 111, 114, 105, 116, 121]⟩ : ByteArray), .string (⟨#[]⟩ : ByteArray), .string (⟨#[58, 112, 97, 116, 104]⟩ : ByteArray), .string (⟨#[47]⟩ : ByteArray), .string (⟨#[58, 109, 101, 116, 104, 111, 100]⟩ : ByteArray), .string (⟨#[67, 79, 78, 78, 69, 67, 84]⟩ : ByteArray), .string (⟨#[58, 109, 101, 116, 104, 111, 100]⟩ : ByteArray), .string (⟨#[71, 69, 84]⟩ : ByteArray), .string (⟨#[58, 109, 101, 116, 104, 111, 100]⟩ : ByteArray), .string (⟨#[80, 79, 83, 84]⟩ : ByteArray), .string (⟨#[58, 115, 99, 104, 101, 109, 101]⟩ : ByteArray), .string (⟨#[104, 116, 116, 112]⟩ : ByteArray), .string (⟨#[58, 115, 99, 104, 101, 109, 101]⟩ : ByteArray), .string (⟨#[104, 116, 116, 112, 115]⟩ : ByteArray), .string (⟨#[58, 115, 116, 97, 116, 117, 115]⟩ : ByteArray), .string (⟨#[50, 48, 48]⟩ : ByteArray), .string (⟨#[58, 115, 116, 97, 116, 117, 115]⟩ : ByteArray), .string (⟨#[52, 48, 52]⟩ : ByteArray), .string (⟨#[58, 115, 116, 97, 116, 117, 115]⟩ : ByteArray), .string (⟨#[53, 48, 51]⟩ : ByteArray), .string (⟨#[58, 112, 114, 111, 116, 111, 99, 111, 108]⟩ : ByteArray), .string (⟨#[99, 111, 110, 110, 101, 99, 116, 45, 117, 100, 112]⟩ : ByteArray), .string (⟨#[99, 97, 112, 115, 117, 108, 101, 45, 112, 114, 111, 116, 111, 99, 111, 108]⟩ : ByteArray), .string (⟨#[63, 49]⟩ : ByteArray), .string (⟨#[99, 111, 110, 116, 101, 110, 116, 45, 108, 101, 110, 103, 116, 104]⟩ : ByteArray), .string (⟨#[48]⟩ : ByteArray), .string (⟨#[100, 97, 116, 101]⟩ : ByteArray), .string (⟨#[]⟩ : ByteArray), .string (⟨#[117, 115, 101, 114, 45, 97, 103, 101, 110, 116]⟩ : ByteArray), .string (⟨#[]⟩ : ByteArray), .string (⟨#[97, 99, 99, 101, 112, 116]⟩ : ByteArray), .string (⟨#[42, 47, 42]⟩ : ByteArray)]) (ok := fun _ => True) (okp := fun _ => True) ?hr ?hp (fun _ hk => hk) trivial (Below.refl _ _) (Nat.le_refl _) (by simp) ?_; (case hd => rfl); (case hg => rfl); (case hr => first | (go_simp; done) | (go_simp; rfl)); (case hp => exact (Reps.c2 (show Kd.M k65 _ _ _ (⟨(⟨#[58, 97, 117, 116, 104, 111, 114, 105, 116, 121]⟩ : ByteArray), (⟨#[]⟩ : ByteArray)⟩ : S65) [.string (⟨#[58, 97, 117, 116, 104, 111, 114, 105, 116, 121]⟩ : ByteArray), .string (⟨#[]⟩ : ByteArray)] from (k65_mkM _ _ _ (⟨(⟨#[58, 97, 117, 116, 104, 111, 114, 105, 116, 121]⟩ : ByteArray), (⟨#[]⟩ : ByteArray)⟩ : S65) )) (Reps.c2 (show Kd.M k65 _ _ _ (⟨(⟨#[58, 112, 97, 116, 104]⟩ : ByteArray), (⟨#[47]⟩ : ByteArray)⟩ : S65) [.string (⟨#[58, 112, 97, 116, 104]⟩ : ByteArray), .string (⟨#[47]⟩ : ByteArray)] from (k65_mkM _ _ _ (⟨(⟨#[58, 112, 97, 116, 104]⟩ : ByteArray), (⟨#[47]⟩ : ByteArray)⟩ : S65) )) (Reps.c2 (show Kd.M k65 _ _ _ (⟨(⟨#[58, 109, 101, 116, 104, 111, 100]⟩ : ByteArray), (⟨#[67, 79, 78, 78, 69, 67, 84]⟩ : ByteArray)⟩ : S65) [.string (⟨#[58, 109, 101, 116, 104, 111, 100]⟩ : ByteArray), .string (⟨#[67, 79, 78, 78, 69, 67, 84]⟩ : ByteArray)] from (k65_mkM _ _ _ (⟨(⟨#[58, 109, 101, 116, 104, 111, 100]⟩ : ByteArray), (⟨#[67, 79, 78, 78, 69, 67, 84]⟩ : ByteArray)⟩ : S65) )) (Reps.c2 (show Kd.M k65 _ _ _ (⟨(⟨#[58, 109, 101, 116, 104, 111, 100]⟩ : ByteArray), (⟨#[71, 69, 84]⟩ : ByteArray)⟩ : S65) [.string (⟨#[58, 109, 101, 116, 104, 111, 100]⟩ : ByteArray), .string (⟨#[71, 69, 84]⟩ : ByteArray)] from (k65_mkM _ _ _ (⟨(⟨#[58, 109, 101, 116, 104, 111, 100]⟩ : ByteArray), (⟨#[71, 69, 84]⟩ : ByteArray)⟩ : S65) )) (Reps.c2 (show Kd.M k65 _ _ _ (⟨(⟨#[58, 109, 101, 116, 104, 111, 100]⟩ : ByteArray), (⟨#[80, 79, 83, 84]⟩ : ByteArray)⟩ : S65) [.string (⟨#[58, 109, 101, 116, 104, 111, 100]⟩ : ByteArray), .string (⟨#[80, 79, 83, 84]⟩ : ByteArray)] from (k65_mkM _ _ _ (⟨(⟨#[58, 109, 101, 116, 104, 111, 100]⟩ : ByteArray), (⟨#[80, 79, 83, 84]⟩ : ByteArray)⟩ : S65) )) (Reps.c2 (show Kd.M k65 _ _ _ (⟨(⟨#[58, 115, 99, 104, 101, 109, 101]⟩ : ByteArray), (⟨#[104, 116, 116, 112]⟩ : ByteArray)⟩ : S65) [.string (⟨#[58, 115, 99, 104, 101, 109, 101]⟩ : ByteArray), .string (⟨#[104, 116, 116, 112]⟩ : ByteArray)] from (k65_mkM _ _ _ (⟨(⟨#[58, 115, 99, 104, 101, 109, 101]⟩ : ByteArray), (⟨#[104, 116, 116, 112]⟩ : ByteArray)⟩ : S65) )) (Reps.c2 (show Kd.M k65 _ _ _ (⟨(⟨#[58, 115, 99, 104, 101, 109, 101]⟩ : ByteArray), (⟨#[104, 116, 116, 112, 115]⟩ : ByteArray)⟩ : S65) [.string (⟨#[58, 115, 99, 104, 101, 109, 101]⟩ : ByteArray), .string (⟨#[104, 116, 116, 112, 115]⟩ : ByteArray)] from (k65_mkM _ _ _ (⟨(⟨#[58, 115, 99, 104, 101, 109, 101]⟩ : ByteArray), (⟨#[104, 116, 116, 112, 115]⟩ : ByteArray)⟩ : S65) )) (Reps.c2 (show Kd.M k65 _ _ _ (⟨(⟨#[58, 115, 116, 97, 116, 117, 115]⟩ : ByteArray), (⟨#[50, 48, 48]⟩ : ByteArray)⟩ : S65) [.string (⟨#[58, 115, 116, 97, 116, 117, 115]⟩ : ByteArray), .string (⟨#[50, 48, 48]⟩ : ByteArray)] from (k65_mkM _ _ _ (⟨(⟨#[58, 115, 116, 97, 116, 117, 115]⟩ : ByteArray), (⟨#[50, 48, 48]⟩ : ByteArray)⟩ : S65) )) (Reps.c2 (show Kd.M k65 _ _ _ (⟨(⟨#[58, 115, 116, 97, 116, 117, 115]⟩ : ByteArray), (⟨#[52, 48, 52]⟩ : ByteArray)⟩ : S65) [.string (⟨#[58, 115, 116, 97, 116, 117, 115]⟩ : ByteArray), .string (⟨#[52, 48, 52]⟩ : ByteArray)] from (k65_mkM _ _ _ (⟨(⟨#[58, 115, 116, 97, 116, 117, 115]⟩ : ByteArray), (⟨#[52, 48, 52]⟩ : ByteArray)⟩ : S65) )) (Reps.c2 (show Kd.M k65 _ _ _ (⟨(⟨#[58, 115, 116, 97, 116, 117, 115]⟩ : ByteArray), (⟨#[53, 48, 51]⟩ : ByteArray)⟩ : S65) [.string (⟨#[58, 115, 116, 97, 116, 117, 115]⟩ : ByteArray), .string (⟨#[53, 48, 51]⟩ : ByteArray)] from (k65_mkM _ _ _ (⟨(⟨#[58, 115, 116, 97, 116, 117, 115]⟩ : ByteArray), (⟨#[53, 48, 51]⟩ : ByteArray)⟩ : S65) )) (Reps.c2 (show Kd.M k65 _ _ _ (⟨(⟨#[58, 112, 114, 111, 116, 111, 99, 111, 108]⟩ : ByteArray), (⟨#[99, 111, 110, 110, 101, 99, 116, 45, 117, 100, 112]⟩ : ByteArray)⟩ : S65) [.string (⟨#[58, 112, 114, 111, 116, 111, 99, 111, 108]⟩ : ByteArray), .string (⟨#[99, 111, 110, 110, 101, 99, 116, 45, 117, 100, 112]⟩ : ByteArray)] from (k65_mkM _ _ _ (⟨(⟨#[58, 112, 114, 111, 116, 111, 99, 111, 108]⟩ : ByteArray), (⟨#[99, 111, 110, 110, 101, 99, 116, 45, 117, 100, 112]⟩ : ByteArray)⟩ : S65) )) (Reps.c2 (show Kd.M k65 _ _ _ (⟨(⟨#[99, 97, 112, 115, 117, 108, 101, 45, 112, 114, 111, 116, 111, 99, 111, 108]⟩ : ByteArray), (⟨#[63, 49]⟩ : ByteArray)⟩ : S65) [.string (⟨#[99, 97, 112, 115, 117, 108, 101, 45, 112, 114, 111, 116, 111, 99, 111, 108]⟩ : ByteArray), .string (⟨#[63, 49]⟩ : ByteArray)] from (k65_mkM _ _ _ (⟨(⟨#[99, 97, 112, 115, 117, 108, 101, 45, 112, 114, 111, 116, 111, 99, 111, 108]⟩ : ByteArray), (⟨#[63, 49]⟩ : ByteArray)⟩ : S65) )) (Reps.c2 (show Kd.M k65 _ _ _ (⟨(⟨#[99, 111, 110, 116, 101, 110, 116, 45, 108, 101, 110, 103, 116, 104]⟩ : ByteArray), (⟨#[48]⟩ : ByteArray)⟩ : S65) [.string (⟨#[99, 111, 110, 116, 101, 110, 116, 45, 108, 101, 110, 103, 116, 104]⟩ : ByteArray), .string (⟨#[48]⟩ : ByteArray)] from (k65_mkM _ _ _ (⟨(⟨#[99, 111, 110, 116, 101, 110, 116, 45, 108, 101, 110, 103, 116, 104]⟩ : ByteArray), (⟨#[48]⟩ : ByteArray)⟩ : S65) )) (Reps.c2 (show Kd.M k65 _ _ _ (⟨(⟨#[100, 97, 116, 101]⟩ : ByteArray), (⟨#[]⟩ : ByteArray)⟩ : S65) [.string (⟨#[100, 97, 116, 101]⟩ : ByteArray), .string (⟨#[]⟩ : ByteArray)] from (k65_mkM _ _ _ (⟨(⟨#[100, 97, 116, 101]⟩ : ByteArray), (⟨#[]⟩ : ByteArray)⟩ : S65) )) (Reps.c2 (show Kd.M k65 _ _ _ (⟨(⟨#[117, 115, 101, 114, 45, 97, 103, 101, 110, 116]⟩ : ByteArray), (⟨#[]⟩ : ByteArray)⟩ : S65) [.string (⟨#[117, 115, 101, 114, 45, 97, 103, 101, 110, 116]⟩ : ByteArray), .string (⟨#[]⟩ : ByteArray)] from (k65_mkM _ _ _ (⟨(⟨#[117, 115, 101, 114, 45, 97, 103, 101, 110, 116]⟩ : ByteArray), (⟨#[]⟩ : ByteArray)⟩ : S65) )) (Reps.c2 (show Kd.M k65 _ _ _ (⟨(⟨#[97, 99, 99, 101, 112, 116]⟩ : ByteArray), (⟨#[42, 47, 42]⟩ : ByteArray)⟩ : S65) [.string (⟨#[97, 99, 99, 101, 112, 116]⟩ : ByteArray), .string (⟨#[42, 47, 42]⟩ : ByteArray)] from (k65_mkM _ _ _ (⟨(⟨#[97, 99, 99, 101, 112, 116]⟩ : ByteArray), (⟨#[42, 47, 42]⟩ : ByteArray)⟩ : S65) )) (Reps.none _ _)))))))))))))))))); intro v103 w1 ho2 hb hg_ hnew_; clear hg_ hnew_; (first | rw [← Ny102.out] at ho2 | (simp only [Int.reduceToNat] at ho2; rw [← Ny102.out] at ho2)); have n0_ := Aside0.mk (Kd.R_lower ho2 (below_size (by repeat (first | (with_reducible first | exact HB.out | apply below_alloc | apply pw_below_drewN | apply below_drew1) | exact HB.out)))); have n1_ := bS HB hb; clear HB; have HO104 := n0_; have HB := n1_; clear n0_ n1_; clear hb ho2))
 go_ret
 exact ⟨_, by first | rfl | (simp [errW_none, errW_some] <;> rfl) | (simp [*, errW_none, errW_some] <;> rfl), by (with_reducible repeat (first | apply Kd.R_alloc | apply Kd.R_drewN | apply Kd.R_drew)); exact HO104.out, by repeat (first | (with_reducible first | exact HB.out | apply below_alloc | apply pw_below_drewN | apply below_drew1) | exact HB.out)⟩

/-! ### spec_l15Text: function 74 -/
def spec_l15Text.f (k : Nat) (a0 : ByteArray) (a1 : Int) : Option (ByteArray × Int) := (spec_TakePrefix.f k a0 a1).bind fun bt105 => (if bt105.2.2 = 0 then (some ((⟨#[]⟩ : ByteArray), (-1))) else (if bt105.1 > (wrap64 ((a0.size : Int) - bt105.2.2)) then (some ((⟨#[]⟩ : ByteArray), (-1))) else (if 0 ≤ bt105.2.2 then (if bt105.2.2 ≤ (wrap64 (bt105.2.2 + bt105.1)) then (if (wrap64 (bt105.2.2 + bt105.1)) ≤ (a0.size : Int) then (some (a0.extract (bt105.2.2 : Int).toNat ((wrap64 (bt105.2.2 + bt105.1)) : Int).toNat, wrap64 (bt105.2.2 + bt105.1))) else (none)) else (none)) else (none))))
theorem spec_l15Text.mono : ∀ a0 a1 k, LeO (spec_l15Text.f k a0 a1) (spec_l15Text.f (k + 1) a0 a1) := by
 intro a0 a1 k
 unfold spec_l15Text.f
 repeat' first
   | (with_reducible exact spec_TakePrefix.mono _ _ _)
   | (with_reducible exact LeO.refl _)
   | (with_reducible exact LeO.none _)
   | (with_reducible refine LeO.ite ?_ ?_)
   | (with_reducible refine LeO.bind ?_ (fun _ => ?_))
   | exact spec_TakePrefix.mono _ _ _
   | exact LeO.none _
   | refine LeO.ite ?_ ?_
   | refine LeO.bind ?_ (fun _ => ?_)
set_option maxHeartbeats 64000000 in
set_option maxRecDepth 100000 in
theorem spec_l15Text.calls (k : Nat) (a0 : ByteArray) (a1 : Int) (r1 : ByteArray) (r2 : Int) (w : World) (h : spec_l15Text.f k a0 a1 = some (r1, r2)) :
  Calls Tryd.prog 74 #[.string a0, .int .i64 a1] w fun e w' => e = .returned (.tuple #[.string r1, .int .i64 r2]) ∧ Drawn0 w w' := by
 have H : ((spec_TakePrefix.f k a0 a1).bind fun bt105 => (if bt105.2.2 = 0 then (some ((⟨#[]⟩ : ByteArray), (-1))) else (if bt105.1 > (wrap64 ((a0.size : Int) - bt105.2.2)) then (some ((⟨#[]⟩ : ByteArray), (-1))) else (if 0 ≤ bt105.2.2 then (if bt105.2.2 ≤ (wrap64 (bt105.2.2 + bt105.1)) then (if (wrap64 (bt105.2.2 + bt105.1)) ≤ (a0.size : Int) then (some (a0.extract (bt105.2.2 : Int).toNat ((wrap64 (bt105.2.2 + bt105.1)) : Int).toNat, wrap64 (bt105.2.2 + bt105.1))) else (none)) else (none)) else (none))))) = some (r1, r2) := h
 clear h
 replace H := Option.bind_eq_some_iff.mp H
 obtain ⟨⟨t105, t106, t107⟩, A30, H⟩ := H
 replace H : (if t107 = 0 then (some ((⟨#[]⟩ : ByteArray), (-1))) else (if t105 > (wrap64 ((a0.size : Int) - t107)) then (some ((⟨#[]⟩ : ByteArray), (-1))) else (if 0 ≤ t107 then (if t107 ≤ (wrap64 (t107 + t105)) then (if (wrap64 (t107 + t105)) ≤ (a0.size : Int) then (some (a0.extract (t107 : Int).toNat ((wrap64 (t107 + t105)) : Int).toNat, wrap64 (t107 + t105))) else (none)) else (none)) else (none)))) = some (r1, r2) := H
 have A3 := Aside0.mk A30
 clear A30
 by_cases c4 : t107 = 0
 ·rw [if_pos c4] at H
  have c4b0 : (t107 == 0) = true := beq_iff_eq.mpr c4
  have c4b1 : (t107 != 0) = false := bne_eq_false_iff_eq.mpr c4
  clear c4
  simp only [Option.some.injEq, Prod.mk.injEq] at H
  obtain ⟨rfl, rfl⟩ := H
  go_enter Tryd.func74, Tryd.ntmps74
  go_wp2_with (first | ((with_reducible refine gate_callee (f := 72) rfl ?_); refine goesL_ (some 12) rfl rfl Tryd.func72 (by kernel_rfl) rfl #[.string a0, .int .i64 a1] rfl (by (try simp only [List.map_toArray, List.map_cons, List.map_nil]); first | done | rfl | (simp only [List.length_drop, List.length_take]; rfl)) ?_; (with_reducible refine (spec_TakePrefix.calls k a0 a1 t105 t106 t107 _ A3.out).mono ?_); rintro e w' ⟨rfl, ⟨nd, rfl⟩⟩; refine ⟨_, rfl, ?_⟩))
  go_ret2
  exact ⟨by first | rfl | (simp; done) | (simp [*]; done), by repeat (first | exact Drawn0.refl _ | apply Drawn0.step)⟩
 ·rw [if_neg c4] at H
  have c4b0 : (t107 == 0) = false := beq_eq_false_iff_ne.mpr c4
  have c4b1 : (t107 != 0) = true := bne_iff_ne.mpr c4
  by_cases c5 : t105 > (wrap64 ((a0.size : Int) - t107))
  ·rw [if_pos c5] at H
   have c5b0 : decide ((wrap64 ((a0.size : Int) - t107)) < t105) = true := decide_eq_true c5
   (try (have c5b1 : decide ((IntKind.i64.wrap ((a0.size : Int) - t107)) < t105) = true := by simp only [i64_w]; exact (decide_eq_true c5)))
   clear c5
   simp only [Option.some.injEq, Prod.mk.injEq] at H
   obtain ⟨rfl, rfl⟩ := H
   go_enter Tryd.func74, Tryd.ntmps74
   go_wp2_with (first | ((with_reducible refine gate_callee (f := 72) rfl ?_); refine goesL_ (some 12) rfl rfl Tryd.func72 (by kernel_rfl) rfl #[.string a0, .int .i64 a1] rfl (by (try simp only [List.map_toArray, List.map_cons, List.map_nil]); first | done | rfl | (simp only [List.length_drop, List.length_take]; rfl)) ?_; (with_reducible refine (spec_TakePrefix.calls k a0 a1 t105 t106 t107 _ A3.out).mono ?_); rintro e w' ⟨rfl, ⟨nd, rfl⟩⟩; refine ⟨_, rfl, ?_⟩))
   go_ret2
   exact ⟨by first | rfl | (simp; done) | (simp [*]; done), by repeat (first | exact Drawn0.refl _ | apply Drawn0.step)⟩
  ·rw [if_neg c5] at H
   have c5b0 : decide ((wrap64 ((a0.size : Int) - t107)) < t105) = false := decide_eq_false c5
   (try (have c5b1 : decide ((IntKind.i64.wrap ((a0.size : Int) - t107)) < t105) = false := by simp only [i64_w]; exact (decide_eq_false c5)))
   clear c5
   by_cases c6 : 0 ≤ t107
   ·rw [if_pos c6] at H
    have c6b0 := eq_true c6
    have c6b1 : decide (0 ≤ t107) = true := decide_eq_true c6
    clear c6
    by_cases c7 : t107 ≤ (wrap64 (t107 + t105))
    ·rw [if_pos c7] at H
     have c7b0 := eq_true c7
     have c7b1 : decide (t107 ≤ (wrap64 (t107 + t105))) = true := decide_eq_true c7
     by_cases c8 : (wrap64 (t107 + t105)) ≤ (a0.size : Int)
     ·rw [if_pos c8] at H
      have c8b0 := eq_true c8
      have c8b1 : decide ((wrap64 (t107 + t105)) ≤ (a0.size : Int)) = true := decide_eq_true c8
      simp only [Option.some.injEq, Prod.mk.injEq] at H
      obtain ⟨rfl, rfl⟩ := H
      go_enter Tryd.func74, Tryd.ntmps74
      go_wp2_with (first | ((with_reducible refine gate_callee (f := 72) rfl ?_); refine goesL_ (some 12) rfl rfl Tryd.func72 (by kernel_rfl) rfl #[.string a0, .int .i64 a1] rfl (by (try simp only [List.map_toArray, List.map_cons, List.map_nil]); first | done | rfl | (simp only [List.length_drop, List.length_take]; rfl)) ?_; (with_reducible refine (spec_TakePrefix.calls k a0 a1 t105 t106 t107 _ A3.out).mono ?_); rintro e w' ⟨rfl, ⟨nd, rfl⟩⟩; refine ⟨_, rfl, ?_⟩))
      go_ret2
      exact ⟨by first | rfl | (simp; done) | (simp [*]; done), by repeat (first | exact Drawn0.refl _ | apply Drawn0.step)⟩
     ·rw [if_neg c8] at H
      exact absurd H (by simp)
    ·rw [if_neg c7] at H
     exact absurd H (by simp)
   ·rw [if_neg c6] at H
    exact absurd H (by simp)

end Go.Proofs.YtilkginahmfagaaDoor.PFnExactReadFields
