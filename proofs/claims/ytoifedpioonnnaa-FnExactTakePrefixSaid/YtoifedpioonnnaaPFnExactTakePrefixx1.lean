-- PRINTED BY print.sh 35421559b90ae4d0a3588c463048766b98c2df88dd9212a6774a882060cdf62d: not written by this session
import Derived.Test.YtoifedpioonnnaaPFnExactTakePrefixx0
namespace Go.Proofs.Ytoifedpioonnnaa.PFnExactTakePrefix
open Go.RowKit Go.Proofs.YtoifedpioonnnaaW.PrintWords Go.Proofs.YtoifedpioonnnaaW.PrintLast Go.Proofs.YtoifedpioonnnaaW.PrintMore
attribute [local go_sem] max2_int min2_int max_two min_two max_three min_three max_four min_four   -- for this text's walks alone
set_option linter.unusedVariables false
set_option linter.unusedSimpArgs false

/-! ### spec_l1In: function 49 -/
def spec_l1In.f (a0 : Int) (a1 : Int) (a2 : Int) : Option (Bool) := if a0 ≥ a1 then (some (decide (a0 ≤ a2))) else (some false)
set_option maxHeartbeats 8000000 in
set_option maxRecDepth 100000 in
theorem spec_l1In.calls (a0 : Int) (a1 : Int) (a2 : Int) (r : Bool) (w : World) (h : spec_l1In.f a0 a1 a2 = some r) :
    Calls Try.prog 49 #[.int .i64 a0, .int .i64 a1, .int .i64 a2] w fun e w' => e = .returned (.bool r) ∧ Drawn0 w w' := by
  have H : (if a0 ≥ a1 then (some (decide (a0 ≤ a2))) else (some false)) = some r := h
  clear h
  by_cases c4 : a0 ≥ a1
  · rw [if_pos c4] at H
    have c4b0 : decide (a1 ≤ a0) = true := decide_eq_true c4
    clear c4
    obtain rfl := Option.some.inj H
    go_enter Try.func49, Try.ntmps49
    go_wp2
    go_ret
    exact ⟨by first | rfl | (simp; done) | (simp [*]; done), by repeat (first | exact Drawn0.refl _ | apply Drawn0.step)⟩
  · rw [if_neg c4] at H
    have c4b0 : decide (a1 ≤ a0) = false := decide_eq_false c4
    clear c4
    obtain rfl := Option.some.inj H
    go_enter Try.func49, Try.ntmps49
    go_wp2
    go_ret
    exact ⟨by first | rfl | (simp; done) | (simp [*]; done), by repeat (first | exact Drawn0.refl _ | apply Drawn0.step)⟩

/-! ### spec_TakePrefix: function 40 -/
mutual
def spec_TakePrefix.j0 : Nat → ByteArray → Int → Bool → Option (Int × Int × Int)
  | 0, _, _, _ => none
  | k + 1, x0, x1, x17 => if x17 = true then (some (0, 0, 0)) else (if 0 ≤ (IntKind.u64.wrap (x1)) then (if 0 < (x0.size : Int) then (if (Go.bits .and .i64 (wrap64 (bt x0 0)) (wrap64 ((shl .i64 1 (IntKind.u64.wrap (x1))) - 1))) < (wrap64 ((shl .i64 1 (IntKind.u64.wrap (x1))) - 1)) then (some (Go.bits .and .i64 (wrap64 (bt x0 0)) (wrap64 ((shl .i64 1 (IntKind.u64.wrap (x1))) - 1)), Go.bits .andNot .i64 (wrap64 (bt x0 0)) (wrap64 ((shl .i64 1 (IntKind.u64.wrap (x1))) - 1)), 1)) else (spec_TakePrefix.l0 k x0 (Go.bits .and .i64 (wrap64 (bt x0 0)) (wrap64 ((shl .i64 1 (IntKind.u64.wrap (x1))) - 1))) (Go.bits .andNot .i64 (wrap64 (bt x0 0)) (wrap64 ((shl .i64 1 (IntKind.u64.wrap (x1))) - 1))) 1)) else (none)) else (none))
def spec_TakePrefix.l0 : Nat → ByteArray → Int → Int → Int → Option (Int × Int × Int)
  | 0, _, _, _, _ => none
  | k + 1, x0, x8, x9, x10 => if x10 < 6 then (spec_TakePrefix.j2 k x0 x8 x9 x10 (decide (x10 < (x0.size : Int)))) else (spec_TakePrefix.j2 k x0 x8 x9 x10 false)
def spec_TakePrefix.j2 : Nat → ByteArray → Int → Int → Int → Bool → Option (Int × Int × Int)
  | 0, _, _, _, _, _ => none
  | k + 1, x0, x8, x9, x10, x44 => if x44 = true then (if 0 ≤ x10 then (if x10 < (x0.size : Int) then (if 0 ≤ (IntKind.u64.wrap (wrap64 (7 * (wrap64 (x10 - 1))))) then (if (wrap64 (x8 + (shl .i64 (wrap64 (Go.bits .and .u8 (bt x0 x10) 127)) (IntKind.u64.wrap (wrap64 (7 * (wrap64 (x10 - 1)))))))) > 1000000000 then (some (0, 0, 0)) else (if (bt x0 x10) < 128 then (some (wrap64 (x8 + (shl .i64 (wrap64 (Go.bits .and .u8 (bt x0 x10) 127)) (IntKind.u64.wrap (wrap64 (7 * (wrap64 (x10 - 1))))))), x9, wrap64 (x10 + 1))) else (spec_TakePrefix.l0 k x0 (wrap64 (x8 + (shl .i64 (wrap64 (Go.bits .and .u8 (bt x0 x10) 127)) (IntKind.u64.wrap (wrap64 (7 * (wrap64 (x10 - 1)))))))) x9 (wrap64 (x10 + 1))))) else (none)) else (none)) else (none)) else (some (0, 0, 0))
end
def spec_TakePrefix.f (k : Nat) (a0 : ByteArray) (a1 : Int) : Option (Int × Int × Int) := if a0.toList = ([] : List UInt8) then (spec_TakePrefix.j0 k a0 a1 true) else ((spec_l1In.f a1 3 8).bind fun t101 => (spec_TakePrefix.j0 k a0 a1 (!t101)))
theorem spec_TakePrefix.mono_l : ∀ k, (∀ y0 y1 y2, LeO (spec_TakePrefix.j0 k y0 y1 y2) (spec_TakePrefix.j0 (k + 1) y0 y1 y2)) ∧ (∀ y0 y1 y2 y3, LeO (spec_TakePrefix.l0 k y0 y1 y2 y3) (spec_TakePrefix.l0 (k + 1) y0 y1 y2 y3)) ∧ (∀ y0 y1 y2 y3 y4, LeO (spec_TakePrefix.j2 k y0 y1 y2 y3 y4) (spec_TakePrefix.j2 (k + 1) y0 y1 y2 y3 y4))
  | 0 => ⟨fun _ _ _ r h => by simp [spec_TakePrefix.j0] at h, fun _ _ _ _ r h => by simp [spec_TakePrefix.l0] at h, fun _ _ _ _ _ r h => by simp [spec_TakePrefix.j2] at h⟩
  | k + 1 => by
    obtain ⟨ih0, ih1, ih2⟩ := spec_TakePrefix.mono_l k
    refine ⟨?_, ?_, ?_⟩
    · intro y0 y1 y2
      unfold spec_TakePrefix.j0
      repeat' first
      | (with_reducible exact ih0 _ _ _)
      | (with_reducible exact ih1 _ _ _ _)
      | (with_reducible exact ih2 _ _ _ _ _)
      | (with_reducible exact LeO.refl _)
      | (with_reducible exact LeO.none _)
      | (with_reducible refine LeO.ite ?_ ?_)
      | (with_reducible refine LeO.bind ?_ (fun _ => ?_))
      | exact ih0 _ _ _
      | exact ih1 _ _ _ _
      | exact ih2 _ _ _ _ _
      | exact LeO.none _
      | refine LeO.ite ?_ ?_
      | refine LeO.bind ?_ (fun _ => ?_)
    · intro y0 y1 y2 y3
      unfold spec_TakePrefix.l0
      repeat' first
      | (with_reducible exact ih0 _ _ _)
      | (with_reducible exact ih1 _ _ _ _)
      | (with_reducible exact ih2 _ _ _ _ _)
      | (with_reducible exact LeO.refl _)
      | (with_reducible exact LeO.none _)
      | (with_reducible refine LeO.ite ?_ ?_)
      | (with_reducible refine LeO.bind ?_ (fun _ => ?_))
      | exact ih0 _ _ _
      | exact ih1 _ _ _ _
      | exact ih2 _ _ _ _ _
      | exact LeO.none _
      | refine LeO.ite ?_ ?_
      | refine LeO.bind ?_ (fun _ => ?_)
    · intro y0 y1 y2 y3 y4
      unfold spec_TakePrefix.j2
      repeat' first
      | (with_reducible exact ih0 _ _ _)
      | (with_reducible exact ih1 _ _ _ _)
      | (with_reducible exact ih2 _ _ _ _ _)
      | (with_reducible exact LeO.refl _)
      | (with_reducible exact LeO.none _)
      | (with_reducible refine LeO.ite ?_ ?_)
      | (with_reducible refine LeO.bind ?_ (fun _ => ?_))
      | exact ih0 _ _ _
      | exact ih1 _ _ _ _
      | exact ih2 _ _ _ _ _
      | exact LeO.none _
      | refine LeO.ite ?_ ?_
      | refine LeO.bind ?_ (fun _ => ?_)
theorem spec_TakePrefix.mono : ∀ a0 a1 k, LeO (spec_TakePrefix.f k a0 a1) (spec_TakePrefix.f (k + 1) a0 a1) := by
  intro a0 a1 k
  obtain ⟨ih0, ih1, ih2⟩ := spec_TakePrefix.mono_l k
  unfold spec_TakePrefix.f
  repeat' first
      | (with_reducible exact ih0 _ _ _)
      | (with_reducible exact ih1 _ _ _ _)
      | (with_reducible exact ih2 _ _ _ _ _)
      | (with_reducible exact LeO.refl _)
      | (with_reducible exact LeO.none _)
      | (with_reducible refine LeO.ite ?_ ?_)
      | (with_reducible refine LeO.bind ?_ (fun _ => ?_))
      | exact ih0 _ _ _
      | exact ih1 _ _ _ _
      | exact ih2 _ _ _ _ _
      | exact LeO.none _
      | refine LeO.ite ?_ ?_
      | refine LeO.bind ?_ (fun _ => ?_)
set_option maxHeartbeats 8000000 in
set_option maxRecDepth 100000 in
theorem spec_TakePrefix.calls (k : Nat) (a0 : ByteArray) (a1 : Int) (r1 : Int) (r2 : Int) (r3 : Int) (w : World) (h : spec_TakePrefix.f k a0 a1 = some (r1, r2, r3)) :
    Calls Try.prog 40 #[.string a0, .int .i64 a1] w fun e w' => e = .returned (.tuple #[.int .i64 r1, .int .i64 r2, .int .i64 r3]) ∧ Drawn0 w w' := by
  have H : (if a0.toList = ([] : List UInt8) then (spec_TakePrefix.j0 k a0 a1 true) else ((spec_l1In.f a1 3 8).bind fun t101 => (spec_TakePrefix.j0 k a0 a1 (!t101)))) = some (r1, r2, r3) := h
  clear h
  have HC3 := Aside0.mk H
  clear H
  go_enter Try.func40, Try.ntmps40
  go_upto_region 1 with (fail)
  go_cut [17] (fun v17 wc => ∃ (kq : Nat) (x17_2 : Bool), v17 = .bool x17_2 ∧ Aside0 (spec_TakePrefix.j0 kq a0 a1 x17_2 = some (r1, r2, r3)) ∧ Aside0 (kq ≤ k) ∧ Drawn0 w wc)
  case first =>
    have H := HC3.out
    clear HC3
    by_cases c4 : a0.toList = ([] : List UInt8)
    · rw [if_pos c4] at H
      have c4b0 : (a0.toList == ([] : List UInt8)) = true := beq_iff_eq.mpr c4
      have c4b1 : (a0.toList != ([] : List UInt8)) = false := bne_eq_false_iff_eq.mpr c4
      clear c4
      (first | rw [c4b0] | (simp only [i64_w, i32_w]; rw [c4b0]) | skip)
      have H' := Aside0.mk H
      clear H
      go_wp2
      go_meet
      case rel => exact ⟨_, (true), (by first | rfl | (simp; done) | (simp [*]; done)), H', ⟨by first | omega | exact Nat.le_refl _⟩, by repeat (first | exact Drawn0.refl _ | apply Drawn0.step)⟩
    · rw [if_neg c4] at H
      have c4b0 : (a0.toList == ([] : List UInt8)) = false := beq_eq_false_iff_ne.mpr c4
      have c4b1 : (a0.toList != ([] : List UInt8)) = true := bne_iff_ne.mpr c4
      (first | rw [c4b0] | (simp only [i64_w, i32_w]; rw [c4b0]) | skip)
      replace H := Option.bind_eq_some_iff.mp H
      obtain ⟨t101, A50, H⟩ := H
      replace H : (spec_TakePrefix.j0 k a0 a1 (!t101)) = some (r1, r2, r3) := H
      have A5 := Aside0.mk A50
      clear A50
      have H' := Aside0.mk H
      clear H
      go_wp2_with (first | (go_at_call 49; (with_reducible refine (spec_l1In.calls a1 3 8 t101 _ A5.out).mono ?_); rintro e w' ⟨rfl, ⟨nd, rfl⟩⟩))
      go_meet
      case rel => exact ⟨_, (!t101), (by first | rfl | (simp; done) | (simp [*]; done)), H', ⟨by first | omega | exact Nat.le_refl _⟩, by repeat (first | exact Drawn0.refl _ | apply Drawn0.step)⟩
  case rest =>
    clear HC3
    try clear p2
    try clear c4
    try clear c4b0
    try clear c4b1
    obtain ⟨kq, x17_2, rfl, HA, HJ2, ⟨mc2, rfl⟩⟩ := hcut
    cases kq with
    | zero => exact absurd HA.out (by simp [spec_TakePrefix.j0])
    | succ kj2 =>
      have H := HA.out
      clear HA
      simp only [spec_TakePrefix.j0] at H
      by_cases c6 : x17_2 = true
      · subst c6
        have H1 : (some (0, 0, 0)) = some (r1, r2, r3) := by rw [if_pos rfl] at H; exact H
        clear H
        have H := H1
        clear H1
        simp only [Option.some.injEq, Prod.mk.injEq] at H
        obtain ⟨rfl, rfl, rfl⟩ := H
        go_wp2
        go_ret3
        exact ⟨by first | rfl | (simp; done) | (simp [*]; done), by repeat (first | exact Drawn0.refl _ | apply Drawn0.step)⟩
      · replace c6 := Bool.eq_false_iff.mpr c6
        subst c6
        have H1 : (if 0 ≤ (IntKind.u64.wrap (a1)) then (if 0 < (a0.size : Int) then (if (Go.bits .and .i64 (wrap64 (bt a0 0)) (wrap64 ((shl .i64 1 (IntKind.u64.wrap (a1))) - 1))) < (wrap64 ((shl .i64 1 (IntKind.u64.wrap (a1))) - 1)) then (some (Go.bits .and .i64 (wrap64 (bt a0 0)) (wrap64 ((shl .i64 1 (IntKind.u64.wrap (a1))) - 1)), Go.bits .andNot .i64 (wrap64 (bt a0 0)) (wrap64 ((shl .i64 1 (IntKind.u64.wrap (a1))) - 1)), 1)) else (spec_TakePrefix.l0 kj2 a0 (Go.bits .and .i64 (wrap64 (bt a0 0)) (wrap64 ((shl .i64 1 (IntKind.u64.wrap (a1))) - 1))) (Go.bits .andNot .i64 (wrap64 (bt a0 0)) (wrap64 ((shl .i64 1 (IntKind.u64.wrap (a1))) - 1))) 1)) else (none)) else (none)) = some (r1, r2, r3) := by rw [if_neg (show ¬ (false = true) by decide)] at H; exact H
        clear H
        have H := H1
        clear H1
        obtain ⟨ji7, hji7⟩ : ∃ j_ : Int, (IntKind.u64.wrap (a1)) = j_ := ⟨_, rfl⟩
        replace H : (if 0 ≤ (ji7) then (if 0 < (a0.size : Int) then (if (Go.bits .and .i64 (wrap64 (bt a0 0)) (wrap64 ((shl .i64 1 (ji7)) - 1))) < (wrap64 ((shl .i64 1 (ji7)) - 1)) then (some (Go.bits .and .i64 (wrap64 (bt a0 0)) (wrap64 ((shl .i64 1 (ji7)) - 1)), Go.bits .andNot .i64 (wrap64 (bt a0 0)) (wrap64 ((shl .i64 1 (ji7)) - 1)), 1)) else (spec_TakePrefix.l0 kj2 a0 (Go.bits .and .i64 (wrap64 (bt a0 0)) (wrap64 ((shl .i64 1 (ji7)) - 1))) (Go.bits .andNot .i64 (wrap64 (bt a0 0)) (wrap64 ((shl .i64 1 (ji7)) - 1))) 1)) else (none)) else (none)) = some (r1, r2, r3) := by first | (rw [hji7] at H; exact H) | (simp only [hji7] at H ⊢; exact H)
        by_cases c8 : 0 ≤ (ji7)
        · rw [if_pos c8] at H
          have c8b0 := eq_true c8
          have c8b1 : decide (0 ≤ (ji7)) = true := decide_eq_true c8
          clear c8
          obtain ⟨ji9, hji9⟩ : ∃ j_ : Int, (shl .i64 1 (ji7)) = j_ := ⟨_, rfl⟩
          replace H : (if 0 < (a0.size : Int) then (if (Go.bits .and .i64 (wrap64 (bt a0 0)) (wrap64 ((ji9) - 1))) < (wrap64 ((ji9) - 1)) then (some (Go.bits .and .i64 (wrap64 (bt a0 0)) (wrap64 ((ji9) - 1)), Go.bits .andNot .i64 (wrap64 (bt a0 0)) (wrap64 ((ji9) - 1)), 1)) else (spec_TakePrefix.l0 kj2 a0 (Go.bits .and .i64 (wrap64 (bt a0 0)) (wrap64 ((ji9) - 1))) (Go.bits .andNot .i64 (wrap64 (bt a0 0)) (wrap64 ((ji9) - 1))) 1)) else (none)) = some (r1, r2, r3) := by first | (rw [hji9] at H; exact H) | (simp only [hji9] at H ⊢; exact H)
          have hji9_ : (IntKind.i64.wrap (1 * 2 ^ min (ji7).toNat 64)) = ji9 := hji9
          have hji9z : (ji7) ≤ 64 → (IntKind.i64.wrap (1 * 2 ^ (ji7).toNat)) = ji9 := shl_small hji9
          have hji9u : (IntKind.i64.wrap (2 ^ min (ji7).toNat 64)) = ji9 := by have h_ := hji9_; rw [Int.one_mul] at h_; exact h_
          have hji9v : (ji7) ≤ 64 → (IntKind.i64.wrap (2 ^ (ji7).toNat)) = ji9 := fun hle_ => by have h_ := hji9z hle_; rw [Int.one_mul] at h_; exact h_
          have hji9y : (wrap64 (1 * 2 ^ min (ji7).toNat 64)) = ji9 := (i64_w _).symm.trans hji9_
          have hji9x : (ji7) ≤ 64 → (wrap64 (1 * 2 ^ (ji7).toNat)) = ji9 := fun h_ => (i64_w _).symm.trans (hji9z h_)
          by_cases c10 : 0 < (a0.size : Int)
          · rw [if_pos c10] at H
            have c10b0 : decide (0 < (a0.size : Int)) = true := decide_eq_true c10
            have c10b1 : decide (0 < a0.size) = true := decide_eq_true (by omega)
            clear c10
            by_cases c13 : (Go.bits .and .i64 (wrap64 (bt a0 0)) (wrap64 ((ji9) - 1))) < (wrap64 ((ji9) - 1))
            · rw [if_pos c13] at H
              have c13b0 : decide ((Go.bits .and .i64 (wrap64 (bt a0 0)) (wrap64 ((ji9) - 1))) < (wrap64 ((ji9) - 1))) = true := decide_eq_true c13
              clear c13
              simp only [Option.some.injEq, Prod.mk.injEq] at H
              obtain ⟨rfl, rfl, rfl⟩ := H
              have p11 : 0 ≤ (0 : Int) := (by omega)
              have q11 : 0 < a0.size := (by have : (0 : Int) < (a0.size : Int) := of_decide_eq_true (by first | (with_reducible assumption) | assumption); omega)
              have hx11 : ∀ h : 0 < a0.size, ((a0[0]'h).toNat : Int) = bt a0 0 := bt_at a0 0
              clear p11
              have qi11 : (0 < (a0.size : Int)) = True := eq_true (of_decide_eq_true (by first | (with_reducible assumption) | assumption))
              replace q11 := eq_true q11
              have p12 : 0 ≤ (0 : Int) := (by omega)
              have q12 : 0 < a0.size := (by have : (0 : Int) < (a0.size : Int) := of_decide_eq_true (by first | (with_reducible assumption) | assumption); omega)
              have hx12 : ∀ h : 0 < a0.size, ((a0[0]'h).toNat : Int) = bt a0 0 := bt_at a0 0
              clear p12
              have qi12 : (0 < (a0.size : Int)) = True := eq_true (of_decide_eq_true (by first | (with_reducible assumption) | assumption))
              replace q12 := eq_true q12
              go_wp2
              go_ret3
              exact ⟨by first | rfl | (simp; done) | (simp only [← hji7, ← hji9] <;> (first | rfl | simp)) | (simp [*]; done), by repeat (first | exact Drawn0.refl _ | apply Drawn0.step)⟩
            · rw [if_neg c13] at H
              have c13b0 : decide ((Go.bits .and .i64 (wrap64 (bt a0 0)) (wrap64 ((ji9) - 1))) < (wrap64 ((ji9) - 1))) = false := decide_eq_false c13
              clear c13
              have H' := Aside0.mk H
              clear H
              have p11 : 0 ≤ (0 : Int) := (by omega)
              have q11 : 0 < a0.size := (by have : (0 : Int) < (a0.size : Int) := of_decide_eq_true (by first | (with_reducible assumption) | assumption); omega)
              have hx11 : ∀ h : 0 < a0.size, ((a0[0]'h).toNat : Int) = bt a0 0 := bt_at a0 0
              clear p11
              have qi11 : (0 < (a0.size : Int)) = True := eq_true (of_decide_eq_true (by first | (with_reducible assumption) | assumption))
              replace q11 := eq_true q11
              have p12 : 0 ≤ (0 : Int) := (by omega)
              have q12 : 0 < a0.size := (by have : (0 : Int) < (a0.size : Int) := of_decide_eq_true (by first | (with_reducible assumption) | assumption); omega)
              have hx12 : ∀ h : 0 < a0.size, ((a0[0]'h).toNat : Int) = bt a0 0 := bt_at a0 0
              clear p12
              have qi12 : (0 < (a0.size : Int)) = True := eq_true (of_decide_eq_true (by first | (with_reducible assumption) | assumption))
              replace q12 := eq_true q12
              go_wp2
              go_loopg [8, 10] kj2 (fun kq v8 v10 w' => ∃ (x8_2 : Int) (x10_2 : Int), v8 = .int .i64 x8_2 ∧ v10 = .int .i64 x10_2 ∧ Aside0 (spec_TakePrefix.l0 kq a0 x8_2 (Go.bits .andNot .i64 (wrap64 (bt a0 0)) (wrap64 ((ji9) - 1))) x10_2 = some (r1, r2, r3)) ∧ Aside0 (kq ≤ kj2) ∧ Drawn0 w w')
              case atStart => exact ⟨(Go.bits .and .i64 (wrap64 (bt a0 0)) (wrap64 ((ji9) - 1))), (1), (by first | rfl | (simp; done) | (simp only [← hji9] <;> (first | rfl | simp)) | (simp [*]; done)), (by first | rfl | (simp; done) | (simp [*]; done)), H', ⟨Nat.le_refl _⟩, by repeat (first | exact Drawn0.refl _ | apply Drawn0.step)⟩
              case round =>
                clear H'
                try clear c1
                try clear p1
                try clear q1
                try clear hx1
                try clear qi1
                try clear c2
                try clear p2
                try clear c4
                try clear c4b0
                try clear c4b1
                try clear c6
                try clear p6
                try clear c8
                try clear c8b0
                try clear c8b1
                try clear c10
                try clear c10b0
                try clear c10b1
                try clear p11
                try clear q11
                try clear hx11
                try clear qi11
                try clear p12
                try clear q12
                try clear hx12
                try clear qi12
                try clear c13
                try clear c13b0
                try clear p11
                try clear p12
                try clear p2
                try clear q11
                try clear q12
                obtain ⟨x8_2, x10_2, rfl, rfl, HA, HK2, ⟨m2, rfl⟩⟩ := hrel
                cases gk with
                | zero => exact absurd HA.out (by simp [spec_TakePrefix.l0])
                | succ k2 =>
                  have H := HA.out
                  clear HA
                  simp only [spec_TakePrefix.l0] at H
                  have HC14 := Aside0.mk H
                  clear H
                  go_upto_region 9 with (fail)
                  go_cut [44] (fun v44 wc => ∃ (kq : Nat) (x44_13 : Bool), v44 = .bool x44_13 ∧ Aside0 (spec_TakePrefix.j2 kq a0 x8_2 (Go.bits .andNot .i64 (wrap64 (bt a0 0)) (wrap64 ((ji9) - 1))) x10_2 x44_13 = some (r1, r2, r3)) ∧ Aside0 (kq ≤ k2) ∧ Drawn0 w wc)
                  case first =>
                    have H := HC14.out
                    clear HC14
                    by_cases c15 : x10_2 < 6
                    · rw [if_pos c15] at H
                      have c15b0 : decide (x10_2 < 6) = true := decide_eq_true c15
                      clear c15
                      (first | rw [c15b0] | (simp only [i64_w, i32_w]; rw [c15b0]) | skip)
                      have H' := Aside0.mk H
                      clear H
                      go_wp2
                      go_meet
                      case rel => exact ⟨_, (decide (x10_2 < (a0.size : Int))), (by first | rfl | (simp; done) | (simp [*]; done)), H', ⟨by have := HJ2.out; have := HK2.out; first | omega | exact Nat.le_refl _⟩, by repeat (first | exact Drawn0.refl _ | apply Drawn0.step)⟩
                    · rw [if_neg c15] at H
                      have c15b0 : decide (x10_2 < 6) = false := decide_eq_false c15
                      clear c15
                      (first | rw [c15b0] | (simp only [i64_w, i32_w]; rw [c15b0]) | skip)
                      have H' := Aside0.mk H
                      clear H
                      go_wp2
                      go_meet
                      case rel => exact ⟨_, (false), (by first | rfl | (simp; done) | (simp [*]; done)), H', ⟨by have := HJ2.out; have := HK2.out; first | omega | exact Nat.le_refl _⟩, by repeat (first | exact Drawn0.refl _ | apply Drawn0.step)⟩
                  case rest =>
                    clear HC14
                    try clear c1
                    try clear p1
                    try clear q1
                    try clear hx1
                    try clear qi1
                    try clear c2
                    try clear p2
                    try clear c4
                    try clear c4b0
                    try clear c4b1
                    try clear c6
                    try clear p6
                    try clear c8
                    try clear c8b0
                    try clear c8b1
                    try clear c10
                    try clear c10b0
                    try clear c10b1
                    try clear p11
                    try clear q11
                    try clear hx11
                    try clear qi11
                    try clear p12
                    try clear q12
                    try clear hx12
                    try clear qi12
                    try clear c13
                    try clear c13b0
                    try clear c15
                    try clear c15b0
                    try clear p1
                    try clear p11
                    try clear p12
                    try clear p2
                    try clear p6
                    try clear q1
                    try clear q11
                    try clear q12
                    obtain ⟨kq, x44_13, rfl, HA, HJ13, ⟨mc13, rfl⟩⟩ := hcut
                    cases kq with
                    | zero => exact absurd HA.out (by simp [spec_TakePrefix.j2])
                    | succ kj13 =>
                      have H := HA.out
                      clear HA
                      simp only [spec_TakePrefix.j2] at H
                      by_cases c16 : x44_13 = true
                      · subst c16
                        have H1 : (if 0 ≤ x10_2 then (if x10_2 < (a0.size : Int) then (if 0 ≤ (IntKind.u64.wrap (wrap64 (7 * (wrap64 (x10_2 - 1))))) then (if (wrap64 (x8_2 + (shl .i64 (wrap64 (Go.bits .and .u8 (bt a0 x10_2) 127)) (IntKind.u64.wrap (wrap64 (7 * (wrap64 (x10_2 - 1)))))))) > 1000000000 then (some (0, 0, 0)) else (if (bt a0 x10_2) < 128 then (some (wrap64 (x8_2 + (shl .i64 (wrap64 (Go.bits .and .u8 (bt a0 x10_2) 127)) (IntKind.u64.wrap (wrap64 (7 * (wrap64 (x10_2 - 1))))))), (Go.bits .andNot .i64 (wrap64 (bt a0 0)) (wrap64 ((ji9) - 1))), wrap64 (x10_2 + 1))) else (spec_TakePrefix.l0 kj13 a0 (wrap64 (x8_2 + (shl .i64 (wrap64 (Go.bits .and .u8 (bt a0 x10_2) 127)) (IntKind.u64.wrap (wrap64 (7 * (wrap64 (x10_2 - 1)))))))) (Go.bits .andNot .i64 (wrap64 (bt a0 0)) (wrap64 ((ji9) - 1))) (wrap64 (x10_2 + 1))))) else (none)) else (none)) else (none)) = some (r1, r2, r3) := by rw [if_pos rfl] at H; exact H
                        clear H
                        have H := H1
                        clear H1
                        by_cases c17 : 0 ≤ x10_2
                        · rw [if_pos c17] at H
                          have c17b0 : decide (0 ≤ x10_2) = true := decide_eq_true c17
                          clear c17
                          by_cases c18 : x10_2 < (a0.size : Int)
                          · rw [if_pos c18] at H
                            have c18b0 : decide (x10_2 < (a0.size : Int)) = true := decide_eq_true c18
                            clear c18
                            obtain ⟨ji20, hji20⟩ : ∃ j_ : Int, (IntKind.u64.wrap (wrap64 (7 * (wrap64 (x10_2 - 1))))) = j_ := ⟨_, rfl⟩
                            replace H : (if 0 ≤ (ji20) then (if (wrap64 (x8_2 + (shl .i64 (wrap64 (Go.bits .and .u8 (bt a0 x10_2) 127)) (ji20)))) > 1000000000 then (some (0, 0, 0)) else (if (bt a0 x10_2) < 128 then (some (wrap64 (x8_2 + (shl .i64 (wrap64 (Go.bits .and .u8 (bt a0 x10_2) 127)) (ji20))), (Go.bits .andNot .i64 (wrap64 (bt a0 0)) (wrap64 ((ji9) - 1))), wrap64 (x10_2 + 1))) else (spec_TakePrefix.l0 kj13 a0 (wrap64 (x8_2 + (shl .i64 (wrap64 (Go.bits .and .u8 (bt a0 x10_2) 127)) (ji20)))) (Go.bits .andNot .i64 (wrap64 (bt a0 0)) (wrap64 ((ji9) - 1))) (wrap64 (x10_2 + 1))))) else (none)) = some (r1, r2, r3) := by first | (rw [hji20] at H; exact H) | (simp only [hji20] at H ⊢; exact H)
                            by_cases c21 : 0 ≤ (ji20)
                            · rw [if_pos c21] at H
                              have c21b0 := eq_true c21
                              have c21b1 : decide (0 ≤ (ji20)) = true := decide_eq_true c21
                              clear c21
                              obtain ⟨ji22, hji22⟩ : ∃ j_ : Int, (shl .i64 (wrap64 (Go.bits .and .u8 (bt a0 x10_2) 127)) (ji20)) = j_ := ⟨_, rfl⟩
                              replace H : (if (wrap64 (x8_2 + (ji22))) > 1000000000 then (some (0, 0, 0)) else (if (bt a0 x10_2) < 128 then (some (wrap64 (x8_2 + (ji22)), (Go.bits .andNot .i64 (wrap64 (bt a0 0)) (wrap64 ((ji9) - 1))), wrap64 (x10_2 + 1))) else (spec_TakePrefix.l0 kj13 a0 (wrap64 (x8_2 + (ji22))) (Go.bits .andNot .i64 (wrap64 (bt a0 0)) (wrap64 ((ji9) - 1))) (wrap64 (x10_2 + 1))))) = some (r1, r2, r3) := by first | (rw [hji22] at H; exact H) | (simp only [hji22] at H ⊢; exact H)
                              have hji22_ : (IntKind.i64.wrap ((wrap64 (Go.bits .and .u8 (bt a0 x10_2) 127)) * 2 ^ min (ji20).toNat 64)) = ji22 := hji22
                              have hji22z : (ji20) ≤ 64 → (IntKind.i64.wrap ((wrap64 (Go.bits .and .u8 (bt a0 x10_2) 127)) * 2 ^ (ji20).toNat)) = ji22 := shl_small hji22
                              have hji22y : (wrap64 ((wrap64 (Go.bits .and .u8 (bt a0 x10_2) 127)) * 2 ^ min (ji20).toNat 64)) = ji22 := (i64_w _).symm.trans hji22_
                              have hji22x : (ji20) ≤ 64 → (wrap64 ((wrap64 (Go.bits .and .u8 (bt a0 x10_2) 127)) * 2 ^ (ji20).toNat)) = ji22 := fun h_ => (i64_w _).symm.trans (hji22z h_)
                              by_cases c23 : (wrap64 (x8_2 + (ji22))) > 1000000000
                              · rw [if_pos c23] at H
                                have c23b0 : decide (1000000000 < (wrap64 (x8_2 + (ji22)))) = true := decide_eq_true c23
                                clear c23
                                simp only [Option.some.injEq, Prod.mk.injEq] at H
                                obtain ⟨rfl, rfl, rfl⟩ := H
                                have p19 : 0 ≤ (x10_2 : Int) := of_decide_eq_true (by first | (with_reducible assumption) | assumption)
                                have q19 : x10_2 < (a0.size : Int) := of_decide_eq_true (by first | (with_reducible assumption) | assumption)
                                have hx19 := bt_at a0 x10_2
                                replace p19 := eq_true p19
                                replace q19 := eq_true q19
                                go_wp2
                                go_ret3
                                exact ⟨by first | rfl | (simp; done) | (simp only [← hji7, ← hji9, ← hji20, ← hji22] <;> (first | rfl | simp)) | (simp [*]; done), by repeat (first | exact Drawn0.refl _ | apply Drawn0.step)⟩
                              · rw [if_neg c23] at H
                                have c23b0 : decide (1000000000 < (wrap64 (x8_2 + (ji22)))) = false := decide_eq_false c23
                                clear c23
                                by_cases c25 : (bt a0 x10_2) < 128
                                · rw [if_pos c25] at H
                                  have c25b0 : decide ((bt a0 x10_2) < 128) = true := decide_eq_true c25
                                  clear c25
                                  simp only [Option.some.injEq, Prod.mk.injEq] at H
                                  obtain ⟨rfl, rfl, rfl⟩ := H
                                  have p19 : 0 ≤ (x10_2 : Int) := of_decide_eq_true (by first | (with_reducible assumption) | assumption)
                                  have q19 : x10_2 < (a0.size : Int) := of_decide_eq_true (by first | (with_reducible assumption) | assumption)
                                  have hx19 := bt_at a0 x10_2
                                  replace p19 := eq_true p19
                                  replace q19 := eq_true q19
                                  have p24 : 0 ≤ (x10_2 : Int) := of_decide_eq_true (by first | (with_reducible assumption) | assumption)
                                  have q24 : x10_2 < (a0.size : Int) := of_decide_eq_true (by first | (with_reducible assumption) | assumption)
                                  have hx24 := bt_at a0 x10_2
                                  replace p24 := eq_true p24
                                  replace q24 := eq_true q24
                                  go_wp2
                                  go_ret3
                                  exact ⟨by first | rfl | (simp; done) | (simp only [← hji7, ← hji9, ← hji20, ← hji22] <;> (first | rfl | simp)) | (simp [*]; done), by repeat (first | exact Drawn0.refl _ | apply Drawn0.step)⟩
                                · rw [if_neg c25] at H
                                  have c25b0 : decide ((bt a0 x10_2) < 128) = false := decide_eq_false c25
                                  clear c25
                                  have H' := Aside0.mk H
                                  clear H
                                  have p19 : 0 ≤ (x10_2 : Int) := of_decide_eq_true (by first | (with_reducible assumption) | assumption)
                                  have q19 : x10_2 < (a0.size : Int) := of_decide_eq_true (by first | (with_reducible assumption) | assumption)
                                  have hx19 := bt_at a0 x10_2
                                  replace p19 := eq_true p19
                                  replace q19 := eq_true q19
                                  have p24 : 0 ≤ (x10_2 : Int) := of_decide_eq_true (by first | (with_reducible assumption) | assumption)
                                  have q24 : x10_2 < (a0.size : Int) := of_decide_eq_true (by first | (with_reducible assumption) | assumption)
                                  have hx24 := bt_at a0 x10_2
                                  replace p24 := eq_true p24
                                  replace q24 := eq_true q24
                                  go_wp2
                                  go_roundg kj13
                                  case measure => have := HJ2.out; have := HK2.out; have := HJ13.out; omega
                                  case rel => exact ⟨(wrap64 (x8_2 + (ji22))), (wrap64 (x10_2 + 1)), (by first | rfl | (simp; done) | (simp only [← hji22] <;> (first | rfl | simp)) | (simp [*]; done)), (by first | rfl | (simp; done) | (simp [*]; done)), H', ⟨by have := HJ2.out; have := HK2.out; have := HJ13.out; omega⟩, by repeat (first | exact Drawn0.refl _ | apply Drawn0.step)⟩
                            · rw [if_neg c21] at H
                              exact absurd H (by simp)
                          · rw [if_neg c18] at H
                            exact absurd H (by simp)
                        · rw [if_neg c17] at H
                          exact absurd H (by simp)
                      · replace c16 := Bool.eq_false_iff.mpr c16
                        subst c16
                        have H1 : (some (0, 0, 0)) = some (r1, r2, r3) := by rw [if_neg (show ¬ (false = true) by decide)] at H; exact H
                        clear H
                        have H := H1
                        clear H1
                        simp only [Option.some.injEq, Prod.mk.injEq] at H
                        obtain ⟨rfl, rfl, rfl⟩ := H
                        go_wp2
                        go_ret3
                        exact ⟨by first | rfl | (simp; done) | (simp only [← hji7, ← hji9] <;> (first | rfl | simp)) | (simp [*]; done), by repeat (first | exact Drawn0.refl _ | apply Drawn0.step)⟩
          · rw [if_neg c10] at H
            exact absurd H (by simp)
        · rw [if_neg c8] at H
          exact absurd H (by simp)

/-! ### impl_in: function 50 -/
def impl_in.f (a0 : Int) (a1 : Int) (a2 : Int) : Option (Bool) := if a0 ≥ a1 then (some (decide (a0 ≤ a2))) else (some false)
set_option maxHeartbeats 8000000 in
set_option maxRecDepth 100000 in
theorem impl_in.calls (a0 : Int) (a1 : Int) (a2 : Int) (r : Bool) (w : World) (h : impl_in.f a0 a1 a2 = some r) :
    Calls Try.prog 50 #[.int .i64 a0, .int .i64 a1, .int .i64 a2] w fun e w' => e = .returned (.bool r) ∧ Drawn0 w w' := by
  have H : (if a0 ≥ a1 then (some (decide (a0 ≤ a2))) else (some false)) = some r := h
  clear h
  by_cases c4 : a0 ≥ a1
  · rw [if_pos c4] at H
    have c4b0 : decide (a1 ≤ a0) = true := decide_eq_true c4
    clear c4
    obtain rfl := Option.some.inj H
    go_enter Try.func50, Try.ntmps50
    go_wp2
    go_ret
    exact ⟨by first | rfl | (simp; done) | (simp [*]; done), by repeat (first | exact Drawn0.refl _ | apply Drawn0.step)⟩
  · rw [if_neg c4] at H
    have c4b0 : decide (a1 ≤ a0) = false := decide_eq_false c4
    clear c4
    obtain rfl := Option.some.inj H
    go_enter Try.func50, Try.ntmps50
    go_wp2
    go_ret
    exact ⟨by first | rfl | (simp; done) | (simp [*]; done), by repeat (first | exact Drawn0.refl _ | apply Drawn0.step)⟩

/-! ### impl_bitsOk: function 63 -/
def impl_bitsOk.f (a0 : Int) : Option (Bool) := (impl_in.f a0 3 8).bind fun t102 => (some t102)
set_option maxHeartbeats 8000000 in
set_option maxRecDepth 100000 in
theorem impl_bitsOk.calls (a0 : Int) (r : Bool) (w : World) (h : impl_bitsOk.f a0 = some r) :
    Calls Try.prog 63 #[.int .i64 a0] w fun e w' => e = .returned (.bool r) ∧ Drawn0 w w' := by
  have H : ((impl_in.f a0 3 8).bind fun t102 => (some t102)) = some r := h
  clear h
  replace H := Option.bind_eq_some_iff.mp H
  obtain ⟨t102, A20, H⟩ := H
  replace H : (some t102) = some r := H
  have A2 := Aside0.mk A20
  clear A20
  obtain rfl := Option.some.inj H
  go_enter Try.func63, Try.ntmps63
  go_wp2_with (first | ((with_reducible refine gate_callee (f := 50) rfl ?_); refine goesL_ (some 4) rfl rfl Try.func50 (by kernel_rfl) rfl #[.int .i64 a0, .int .i64 3, .int .i64 8] rfl (by (try simp only [List.map_toArray, List.map_cons, List.map_nil]); first | done | rfl | (simp only [List.length_drop, List.length_take]; rfl)) ?_; (with_reducible refine (impl_in.calls a0 3 8 t102 _ A2.out).mono ?_); rintro e w' ⟨rfl, ⟨nd, rfl⟩⟩; refine ⟨_, rfl, ?_⟩))
  go_ret
  exact ⟨by first | rfl | (simp; done) | (simp [*]; done), by repeat (first | exact Drawn0.refl _ | apply Drawn0.step)⟩

end Go.Proofs.Ytoifedpioonnnaa.PFnExactTakePrefix
