-- PRINTED BY print.sh 35421559b90ae4d0a3588c463048766b98c2df88dd9212a6774a882060cdf62d: not written by this session
import Derived.Test.YtoifedpioonnnaaPFnExactTakePrefixx0
import Derived.Test.YtoifedpioonnnaaPFnExactTakePrefixx1
namespace Go.Proofs.Ytoifedpioonnnaa.PFnExactTakePrefix
open Go.RowKit Go.Proofs.YtoifedpioonnnaaW.PrintWords Go.Proofs.YtoifedpioonnnaaW.PrintLast Go.Proofs.YtoifedpioonnnaaW.PrintMore
attribute [local go_sem] max2_int min2_int max_two min_two max_three min_three max_four min_four   -- for this text's walks alone
set_option linter.unusedVariables false
set_option linter.unusedSimpArgs false

/-! ### impl_TakePrefix: function 41 -/
mutual
def impl_TakePrefix.j0 : Nat → ByteArray → Int → Bool → Option (Int × Int × Int)
  | 0, _, _, _ => none
  | k + 1, x0, x1, x17 => if x17 = true then (some (0, 0, 0)) else (if 0 ≤ x1 then (if 0 < (x0.size : Int) then (if (Go.bits .and .i64 (wrap64 (bt x0 0)) (wrap64 ((shl .i64 1 x1) - 1))) < (wrap64 ((shl .i64 1 x1) - 1)) then (some (Go.bits .and .i64 (wrap64 (bt x0 0)) (wrap64 ((shl .i64 1 x1) - 1)), Go.bits .andNot .i64 (wrap64 (bt x0 0)) (wrap64 ((shl .i64 1 x1) - 1)), 1)) else (impl_TakePrefix.l0 k x0 (Go.bits .and .i64 (wrap64 (bt x0 0)) (wrap64 ((shl .i64 1 x1) - 1))) (Go.bits .andNot .i64 (wrap64 (bt x0 0)) (wrap64 ((shl .i64 1 x1) - 1))) 1)) else (none)) else (none))
def impl_TakePrefix.l0 : Nat → ByteArray → Int → Int → Int → Option (Int × Int × Int)
  | 0, _, _, _, _ => none
  | k + 1, x0, x8, x9, x10 => if x10 < (x0.size : Int) then (impl_TakePrefix.j2 k x0 x8 x9 x10 (decide (x10 ≤ 5))) else (impl_TakePrefix.j2 k x0 x8 x9 x10 false)
def impl_TakePrefix.j2 : Nat → ByteArray → Int → Int → Int → Bool → Option (Int × Int × Int)
  | 0, _, _, _, _, _ => none
  | k + 1, x0, x8, x9, x10, x43 => if x43 = true then (if 0 ≤ x10 then (if x10 < (x0.size : Int) then (if 0 ≤ (wrap64 (7 * (wrap64 (x10 - 1)))) then (if (bt x0 x10) < 128 then (if (wrap64 (x8 + (shl .i64 (wrap64 (Int.tmod (bt x0 x10) 128)) (wrap64 (7 * (wrap64 (x10 - 1))))))) > 1000000000 then (some (0, 0, 0)) else (some (wrap64 (x8 + (shl .i64 (wrap64 (Int.tmod (bt x0 x10) 128)) (wrap64 (7 * (wrap64 (x10 - 1)))))), x9, wrap64 (x10 + 1)))) else (impl_TakePrefix.l0 k x0 (wrap64 (x8 + (shl .i64 (wrap64 (Int.tmod (bt x0 x10) 128)) (wrap64 (7 * (wrap64 (x10 - 1))))))) x9 (wrap64 (x10 + 1)))) else (none)) else (none)) else (none)) else (some (0, 0, 0))
end
def impl_TakePrefix.f (k : Nat) (a0 : ByteArray) (a1 : Int) : Option (Int × Int × Int) := (impl_bitsOk.f a1).bind fun t103 => (if t103 = true then (impl_TakePrefix.j0 k a0 a1 (a0.toList == ([] : List UInt8))) else (impl_TakePrefix.j0 k a0 a1 true))
theorem impl_TakePrefix.mono_l : ∀ k, (∀ y0 y1 y2, LeO (impl_TakePrefix.j0 k y0 y1 y2) (impl_TakePrefix.j0 (k + 1) y0 y1 y2)) ∧ (∀ y0 y1 y2 y3, LeO (impl_TakePrefix.l0 k y0 y1 y2 y3) (impl_TakePrefix.l0 (k + 1) y0 y1 y2 y3)) ∧ (∀ y0 y1 y2 y3 y4, LeO (impl_TakePrefix.j2 k y0 y1 y2 y3 y4) (impl_TakePrefix.j2 (k + 1) y0 y1 y2 y3 y4))
  | 0 => ⟨fun _ _ _ r h => by simp [impl_TakePrefix.j0] at h, fun _ _ _ _ r h => by simp [impl_TakePrefix.l0] at h, fun _ _ _ _ _ r h => by simp [impl_TakePrefix.j2] at h⟩
  | k + 1 => by
    obtain ⟨ih0, ih1, ih2⟩ := impl_TakePrefix.mono_l k
    refine ⟨?_, ?_, ?_⟩
    · intro y0 y1 y2
      unfold impl_TakePrefix.j0
      repeat' first
      | (with_reducible exact ih0 _ _ _)
      | (with_reducible exact ih1 _ _ _ _)
      | (with_reducible exact ih2 _ _ _ _ _)
      | (with_reducible exact LeO.refl _)
      | (with_reducible exact LeO.none _)
      | (with_reducible refine LeO.ite ?_ ?_)
      | (with_reducible refine LeO.bind ?_ (fun _ => ?_))
      | exact ih0 _ _ _
      | exact ih1 _ _ _ _
      | exact ih2 _ _ _ _ _
      | exact LeO.none _
      | refine LeO.ite ?_ ?_
      | refine LeO.bind ?_ (fun _ => ?_)
    · intro y0 y1 y2 y3
      unfold impl_TakePrefix.l0
      repeat' first
      | (with_reducible exact ih0 _ _ _)
      | (with_reducible exact ih1 _ _ _ _)
      | (with_reducible exact ih2 _ _ _ _ _)
      | (with_reducible exact LeO.refl _)
      | (with_reducible exact LeO.none _)
      | (with_reducible refine LeO.ite ?_ ?_)
      | (with_reducible refine LeO.bind ?_ (fun _ => ?_))
      | exact ih0 _ _ _
      | exact ih1 _ _ _ _
      | exact ih2 _ _ _ _ _
      | exact LeO.none _
      | refine LeO.ite ?_ ?_
      | refine LeO.bind ?_ (fun _ => ?_)
    · intro y0 y1 y2 y3 y4
      unfold impl_TakePrefix.j2
      repeat' first
      | (with_reducible exact ih0 _ _ _)
      | (with_reducible exact ih1 _ _ _ _)
      | (with_reducible exact ih2 _ _ _ _ _)
      | (with_reducible exact LeO.refl _)
      | (with_reducible exact LeO.none _)
      | (with_reducible refine LeO.ite ?_ ?_)
      | (with_reducible refine LeO.bind ?_ (fun _ => ?_))
      | exact ih0 _ _ _
      | exact ih1 _ _ _ _
      | exact ih2 _ _ _ _ _
      | exact LeO.none _
      | refine LeO.ite ?_ ?_
      | refine LeO.bind ?_ (fun _ => ?_)
theorem impl_TakePrefix.mono : ∀ a0 a1 k, LeO (impl_TakePrefix.f k a0 a1) (impl_TakePrefix.f (k + 1) a0 a1) := by
  intro a0 a1 k
  obtain ⟨ih0, ih1, ih2⟩ := impl_TakePrefix.mono_l k
  unfold impl_TakePrefix.f
  repeat' first
      | (with_reducible exact ih0 _ _ _)
      | (with_reducible exact ih1 _ _ _ _)
      | (with_reducible exact ih2 _ _ _ _ _)
      | (with_reducible exact LeO.refl _)
      | (with_reducible exact LeO.none _)
      | (with_reducible refine LeO.ite ?_ ?_)
      | (with_reducible refine LeO.bind ?_ (fun _ => ?_))
      | exact ih0 _ _ _
      | exact ih1 _ _ _ _
      | exact ih2 _ _ _ _ _
      | exact LeO.none _
      | refine LeO.ite ?_ ?_
      | refine LeO.bind ?_ (fun _ => ?_)
set_option maxHeartbeats 8000000 in
set_option maxRecDepth 100000 in
theorem impl_TakePrefix.calls (k : Nat) (a0 : ByteArray) (a1 : Int) (r1 : Int) (r2 : Int) (r3 : Int) (w : World) (h : impl_TakePrefix.f k a0 a1 = some (r1, r2, r3)) :
    Calls Try.prog 41 #[.string a0, .int .i64 a1] w fun e w' => e = .returned (.tuple #[.int .i64 r1, .int .i64 r2, .int .i64 r3]) ∧ Drawn0 w w' := by
  have H : ((impl_bitsOk.f a1).bind fun t103 => (if t103 = true then (impl_TakePrefix.j0 k a0 a1 (a0.toList == ([] : List UInt8))) else (impl_TakePrefix.j0 k a0 a1 true))) = some (r1, r2, r3) := h
  clear h
  have HC3 := Aside0.mk H
  clear H
  go_enter Try.func41, Try.ntmps41
  go_upto_region 1 with (fail)
  repeat (go_quiet (fail); go_upto_region 1 with (fail))
  go_cut [17] (fun v17 wc => ∃ (kq : Nat) (x17_2 : Bool), v17 = .bool x17_2 ∧ Aside0 (impl_TakePrefix.j0 kq a0 a1 x17_2 = some (r1, r2, r3)) ∧ Aside0 (kq ≤ k) ∧ Drawn0 w wc)
  case first =>
    have H := HC3.out
    clear HC3
    replace H := Option.bind_eq_some_iff.mp H
    obtain ⟨t103, A40, H⟩ := H
    replace H : (if t103 = true then (impl_TakePrefix.j0 k a0 a1 (a0.toList == ([] : List UInt8))) else (impl_TakePrefix.j0 k a0 a1 true)) = some (r1, r2, r3) := H
    have A4 := Aside0.mk A40
    clear A40
    by_cases c5 : t103 = true
    · subst c5
      have H1 : (impl_TakePrefix.j0 k a0 a1 (a0.toList == ([] : List UInt8))) = some (r1, r2, r3) := by rw [if_pos rfl] at H; exact H
      clear H
      have H := H1
      clear H1
      have H' := Aside0.mk H
      clear H
      go_wp2_with (first | (go_at_call 63; (with_reducible refine (impl_bitsOk.calls a1 true _ A4.out).mono ?_); rintro e w' ⟨rfl, ⟨nd, rfl⟩⟩; (try first | exact ⟨rfl, _, World.drewN_drewN _ _ _⟩ | exact ⟨rfl, _, Eq.trans (World.drewN_drewN _ _ _) (congrArg (World.drewN _) (Nat.add_assoc _ _ _))⟩)))
      repeat (go_quiet (first | (go_at_call 63; (with_reducible refine (impl_bitsOk.calls a1 true _ A4.out).mono ?_); rintro e w' ⟨rfl, ⟨nd, rfl⟩⟩; (try first | exact ⟨rfl, _, World.drewN_drewN _ _ _⟩ | exact ⟨rfl, _, Eq.trans (World.drewN_drewN _ _ _) (congrArg (World.drewN _) (Nat.add_assoc _ _ _))⟩))); try go_wp2_with (first | (go_at_call 63; (with_reducible refine (impl_bitsOk.calls a1 true _ A4.out).mono ?_); rintro e w' ⟨rfl, ⟨nd, rfl⟩⟩; (try first | exact ⟨rfl, _, World.drewN_drewN _ _ _⟩ | exact ⟨rfl, _, Eq.trans (World.drewN_drewN _ _ _) (congrArg (World.drewN _) (Nat.add_assoc _ _ _))⟩))))
      go_meet
      case rel => exact ⟨_, ((a0.toList == ([] : List UInt8))), (by first | rfl | (simp; done) | (simp [*]; done)), H', ⟨by first | omega | exact Nat.le_refl _⟩, by repeat (first | exact Drawn0.refl _ | apply Drawn0.step)⟩
    · replace c5 := Bool.eq_false_iff.mpr c5
      subst c5
      have H1 : (impl_TakePrefix.j0 k a0 a1 true) = some (r1, r2, r3) := by rw [if_neg (show ¬ (false = true) by decide)] at H; exact H
      clear H
      have H := H1
      clear H1
      have H' := Aside0.mk H
      clear H
      go_wp2_with (first | (go_at_call 63; (with_reducible refine (impl_bitsOk.calls a1 false _ A4.out).mono ?_); rintro e w' ⟨rfl, ⟨nd, rfl⟩⟩; (try first | exact ⟨rfl, _, World.drewN_drewN _ _ _⟩ | exact ⟨rfl, _, Eq.trans (World.drewN_drewN _ _ _) (congrArg (World.drewN _) (Nat.add_assoc _ _ _))⟩)))
      repeat (go_quiet (first | (go_at_call 63; (with_reducible refine (impl_bitsOk.calls a1 false _ A4.out).mono ?_); rintro e w' ⟨rfl, ⟨nd, rfl⟩⟩; (try first | exact ⟨rfl, _, World.drewN_drewN _ _ _⟩ | exact ⟨rfl, _, Eq.trans (World.drewN_drewN _ _ _) (congrArg (World.drewN _) (Nat.add_assoc _ _ _))⟩))); try go_wp2_with (first | (go_at_call 63; (with_reducible refine (impl_bitsOk.calls a1 false _ A4.out).mono ?_); rintro e w' ⟨rfl, ⟨nd, rfl⟩⟩; (try first | exact ⟨rfl, _, World.drewN_drewN _ _ _⟩ | exact ⟨rfl, _, Eq.trans (World.drewN_drewN _ _ _) (congrArg (World.drewN _) (Nat.add_assoc _ _ _))⟩))))
      go_meet
      case rel => exact ⟨_, (true), (by first | rfl | (simp; done) | (simp [*]; done)), H', ⟨by first | omega | exact Nat.le_refl _⟩, by repeat (first | exact Drawn0.refl _ | apply Drawn0.step)⟩
  case rest =>
    clear HC3
    try clear p2
    try clear c4
    try clear c5
    obtain ⟨kq, x17_2, rfl, HA, HJ2, ⟨mc2, rfl⟩⟩ := hcut
    cases kq with
    | zero => exact absurd HA.out (by simp [impl_TakePrefix.j0])
    | succ kj2 =>
      have H := HA.out
      clear HA
      simp only [impl_TakePrefix.j0] at H
      by_cases c6 : x17_2 = true
      · subst c6
        have H1 : (some (0, 0, 0)) = some (r1, r2, r3) := by rw [if_pos rfl] at H; exact H
        clear H
        have H := H1
        clear H1
        simp only [Option.some.injEq, Prod.mk.injEq] at H
        obtain ⟨rfl, rfl, rfl⟩ := H
        go_wp2
        repeat (go_quiet (fail); try go_wp2)
        go_ret3
        exact ⟨by first | rfl | (simp; done) | (simp [*]; done), by repeat (first | exact Drawn0.refl _ | apply Drawn0.step)⟩
      · replace c6 := Bool.eq_false_iff.mpr c6
        subst c6
        have H1 : (if 0 ≤ a1 then (if 0 < (a0.size : Int) then (if (Go.bits .and .i64 (wrap64 (bt a0 0)) (wrap64 ((shl .i64 1 a1) - 1))) < (wrap64 ((shl .i64 1 a1) - 1)) then (some (Go.bits .and .i64 (wrap64 (bt a0 0)) (wrap64 ((shl .i64 1 a1) - 1)), Go.bits .andNot .i64 (wrap64 (bt a0 0)) (wrap64 ((shl .i64 1 a1) - 1)), 1)) else (impl_TakePrefix.l0 kj2 a0 (Go.bits .and .i64 (wrap64 (bt a0 0)) (wrap64 ((shl .i64 1 a1) - 1))) (Go.bits .andNot .i64 (wrap64 (bt a0 0)) (wrap64 ((shl .i64 1 a1) - 1))) 1)) else (none)) else (none)) = some (r1, r2, r3) := by rw [if_neg (show ¬ (false = true) by decide)] at H; exact H
        clear H
        have H := H1
        clear H1
        by_cases c7 : 0 ≤ a1
        · rw [if_pos c7] at H
          have c7b0 := eq_true c7
          have c7b1 : decide (0 ≤ a1) = true := decide_eq_true c7
          clear c7
          obtain ⟨ji8, hji8⟩ : ∃ j_ : Int, (shl .i64 1 a1) = j_ := ⟨_, rfl⟩
          replace H : (if 0 < (a0.size : Int) then (if (Go.bits .and .i64 (wrap64 (bt a0 0)) (wrap64 ((ji8) - 1))) < (wrap64 ((ji8) - 1)) then (some (Go.bits .and .i64 (wrap64 (bt a0 0)) (wrap64 ((ji8) - 1)), Go.bits .andNot .i64 (wrap64 (bt a0 0)) (wrap64 ((ji8) - 1)), 1)) else (impl_TakePrefix.l0 kj2 a0 (Go.bits .and .i64 (wrap64 (bt a0 0)) (wrap64 ((ji8) - 1))) (Go.bits .andNot .i64 (wrap64 (bt a0 0)) (wrap64 ((ji8) - 1))) 1)) else (none)) = some (r1, r2, r3) := by first | (rw [hji8] at H; exact H) | (simp only [hji8] at H ⊢; exact H)
          have hji8_ : (IntKind.i64.wrap (1 * 2 ^ min a1.toNat 64)) = ji8 := hji8
          have hji8z : a1 ≤ 64 → (IntKind.i64.wrap (1 * 2 ^ a1.toNat)) = ji8 := shl_small hji8
          have hji8u : (IntKind.i64.wrap (2 ^ min a1.toNat 64)) = ji8 := by have h_ := hji8_; rw [Int.one_mul] at h_; exact h_
          have hji8v : a1 ≤ 64 → (IntKind.i64.wrap (2 ^ a1.toNat)) = ji8 := fun hle_ => by have h_ := hji8z hle_; rw [Int.one_mul] at h_; exact h_
          have hji8y : (wrap64 (1 * 2 ^ min a1.toNat 64)) = ji8 := (i64_w _).symm.trans hji8_
          have hji8x : a1 ≤ 64 → (wrap64 (1 * 2 ^ a1.toNat)) = ji8 := fun h_ => (i64_w _).symm.trans (hji8z h_)
          by_cases c9 : 0 < (a0.size : Int)
          · rw [if_pos c9] at H
            have c9b0 : decide (0 < (a0.size : Int)) = true := decide_eq_true c9
            have c9b1 : decide (0 < a0.size) = true := decide_eq_true (by omega)
            clear c9
            by_cases c12 : (Go.bits .and .i64 (wrap64 (bt a0 0)) (wrap64 ((ji8) - 1))) < (wrap64 ((ji8) - 1))
            · rw [if_pos c12] at H
              have c12b0 : decide ((Go.bits .and .i64 (wrap64 (bt a0 0)) (wrap64 ((ji8) - 1))) < (wrap64 ((ji8) - 1))) = true := decide_eq_true c12
              clear c12
              simp only [Option.some.injEq, Prod.mk.injEq] at H
              obtain ⟨rfl, rfl, rfl⟩ := H
              have p10 : 0 ≤ (0 : Int) := (by omega)
              have q10 : 0 < a0.size := (by have : (0 : Int) < (a0.size : Int) := of_decide_eq_true (by first | (with_reducible assumption) | assumption); omega)
              have hx10 : ∀ h : 0 < a0.size, ((a0[0]'h).toNat : Int) = bt a0 0 := bt_at a0 0
              clear p10
              have qi10 : (0 < (a0.size : Int)) = True := eq_true (of_decide_eq_true (by first | (with_reducible assumption) | assumption))
              replace q10 := eq_true q10
              have p11 : 0 ≤ (0 : Int) := (by omega)
              have q11 : 0 < a0.size := (by have : (0 : Int) < (a0.size : Int) := of_decide_eq_true (by first | (with_reducible assumption) | assumption); omega)
              have hx11 : ∀ h : 0 < a0.size, ((a0[0]'h).toNat : Int) = bt a0 0 := bt_at a0 0
              clear p11
              have qi11 : (0 < (a0.size : Int)) = True := eq_true (of_decide_eq_true (by first | (with_reducible assumption) | assumption))
              replace q11 := eq_true q11
              go_wp2
              repeat (go_quiet (fail); try go_wp2)
              go_ret3
              exact ⟨by first | rfl | (simp; done) | (simp only [← hji8] <;> (first | rfl | simp)) | (simp [*]; done), by repeat (first | exact Drawn0.refl _ | apply Drawn0.step)⟩
            · rw [if_neg c12] at H
              have c12b0 : decide ((Go.bits .and .i64 (wrap64 (bt a0 0)) (wrap64 ((ji8) - 1))) < (wrap64 ((ji8) - 1))) = false := decide_eq_false c12
              clear c12
              have H' := Aside0.mk H
              clear H
              have p10 : 0 ≤ (0 : Int) := (by omega)
              have q10 : 0 < a0.size := (by have : (0 : Int) < (a0.size : Int) := of_decide_eq_true (by first | (with_reducible assumption) | assumption); omega)
              have hx10 : ∀ h : 0 < a0.size, ((a0[0]'h).toNat : Int) = bt a0 0 := bt_at a0 0
              clear p10
              have qi10 : (0 < (a0.size : Int)) = True := eq_true (of_decide_eq_true (by first | (with_reducible assumption) | assumption))
              replace q10 := eq_true q10
              have p11 : 0 ≤ (0 : Int) := (by omega)
              have q11 : 0 < a0.size := (by have : (0 : Int) < (a0.size : Int) := of_decide_eq_true (by first | (with_reducible assumption) | assumption); omega)
              have hx11 : ∀ h : 0 < a0.size, ((a0[0]'h).toNat : Int) = bt a0 0 := bt_at a0 0
              clear p11
              have qi11 : (0 < (a0.size : Int)) = True := eq_true (of_decide_eq_true (by first | (with_reducible assumption) | assumption))
              replace q11 := eq_true q11
              go_wp2
              repeat (go_quiet (fail); try go_wp2)
              go_loopg [8, 10] kj2 (fun kq v8 v10 w' => ∃ (x8_2 : Int) (x10_2 : Int), v8 = .int .i64 x8_2 ∧ v10 = .int .i64 x10_2 ∧ Aside0 (impl_TakePrefix.l0 kq a0 x8_2 (Go.bits .andNot .i64 (wrap64 (bt a0 0)) (wrap64 ((ji8) - 1))) x10_2 = some (r1, r2, r3)) ∧ Aside0 (kq ≤ kj2) ∧ Drawn0 w w')
              case atStart => exact ⟨(Go.bits .and .i64 (wrap64 (bt a0 0)) (wrap64 ((ji8) - 1))), (1), (by first | rfl | (simp; done) | (simp only [← hji8] <;> (first | rfl | simp)) | (simp [*]; done)), (by first | rfl | (simp; done) | (simp [*]; done)), H', ⟨Nat.le_refl _⟩, by repeat (first | exact Drawn0.refl _ | apply Drawn0.step)⟩
              case round =>
                clear H'
                try clear c1
                try clear p1
                try clear q1
                try clear hx1
                try clear qi1
                try clear c2
                try clear p2
                try clear c4
                try clear c5
                try clear c6
                try clear p6
                try clear c7
                try clear c7b0
                try clear c7b1
                try clear c9
                try clear c9b0
                try clear c9b1
                try clear p10
                try clear q10
                try clear hx10
                try clear qi10
                try clear p11
                try clear q11
                try clear hx11
                try clear qi11
                try clear c12
                try clear c12b0
                try clear p10
                try clear p11
                try clear p2
                try clear q10
                try clear q11
                obtain ⟨x8_2, x10_2, rfl, rfl, HA, HK2, ⟨m2, rfl⟩⟩ := hrel
                cases gk with
                | zero => exact absurd HA.out (by simp [impl_TakePrefix.l0])
                | succ k2 =>
                  have H := HA.out
                  clear HA
                  simp only [impl_TakePrefix.l0] at H
                  have HC13 := Aside0.mk H
                  clear H
                  go_upto_region 8 with (fail)
                  repeat (go_quiet (fail); go_upto_region 8 with (fail))
                  go_cut [43] (fun v43 wc => ∃ (kq : Nat) (x43_12 : Bool), v43 = .bool x43_12 ∧ Aside0 (impl_TakePrefix.j2 kq a0 x8_2 (Go.bits .andNot .i64 (wrap64 (bt a0 0)) (wrap64 ((ji8) - 1))) x10_2 x43_12 = some (r1, r2, r3)) ∧ Aside0 (kq ≤ k2) ∧ Drawn0 w wc)
                  case first =>
                    have H := HC13.out
                    clear HC13
                    by_cases c14 : x10_2 < (a0.size : Int)
                    · rw [if_pos c14] at H
                      have c14b0 : decide (x10_2 < (a0.size : Int)) = true := decide_eq_true c14
                      clear c14
                      (first | rw [c14b0] | (simp only [i64_w, i32_w]; rw [c14b0]) | skip)
                      have H' := Aside0.mk H
                      clear H
                      go_wp2
                      repeat (go_quiet (fail); try go_wp2)
                      go_meet
                      case rel => exact ⟨_, (decide (x10_2 ≤ 5)), (by first | rfl | (simp; done) | (simp [*]; done)), H', ⟨by have := HJ2.out; have := HK2.out; first | omega | exact Nat.le_refl _⟩, by repeat (first | exact Drawn0.refl _ | apply Drawn0.step)⟩
                    · rw [if_neg c14] at H
                      have c14b0 : decide (x10_2 < (a0.size : Int)) = false := decide_eq_false c14
                      clear c14
                      (first | rw [c14b0] | (simp only [i64_w, i32_w]; rw [c14b0]) | skip)
                      have H' := Aside0.mk H
                      clear H
                      go_wp2
                      repeat (go_quiet (fail); try go_wp2)
                      go_meet
                      case rel => exact ⟨_, (false), (by first | rfl | (simp; done) | (simp [*]; done)), H', ⟨by have := HJ2.out; have := HK2.out; first | omega | exact Nat.le_refl _⟩, by repeat (first | exact Drawn0.refl _ | apply Drawn0.step)⟩
                  case rest =>
                    clear HC13
                    try clear c1
                    try clear p1
                    try clear q1
                    try clear hx1
                    try clear qi1
                    try clear c2
                    try clear p2
                    try clear c4
                    try clear c5
                    try clear c6
                    try clear p6
                    try clear c7
                    try clear c7b0
                    try clear c7b1
                    try clear c9
                    try clear c9b0
                    try clear c9b1
                    try clear p10
                    try clear q10
                    try clear hx10
                    try clear qi10
                    try clear p11
                    try clear q11
                    try clear hx11
                    try clear qi11
                    try clear c12
                    try clear c12b0
                    try clear c14
                    try clear c14b0
                    try clear p1
                    try clear p10
                    try clear p11
                    try clear p2
                    try clear p6
                    try clear q1
                    try clear q10
                    try clear q11
                    obtain ⟨kq, x43_12, rfl, HA, HJ12, ⟨mc12, rfl⟩⟩ := hcut
                    cases kq with
                    | zero => exact absurd HA.out (by simp [impl_TakePrefix.j2])
                    | succ kj12 =>
                      have H := HA.out
                      clear HA
                      simp only [impl_TakePrefix.j2] at H
                      by_cases c15 : x43_12 = true
                      · subst c15
                        have H1 : (if 0 ≤ x10_2 then (if x10_2 < (a0.size : Int) then (if 0 ≤ (wrap64 (7 * (wrap64 (x10_2 - 1)))) then (if (bt a0 x10_2) < 128 then (if (wrap64 (x8_2 + (shl .i64 (wrap64 (Int.tmod (bt a0 x10_2) 128)) (wrap64 (7 * (wrap64 (x10_2 - 1))))))) > 1000000000 then (some (0, 0, 0)) else (some (wrap64 (x8_2 + (shl .i64 (wrap64 (Int.tmod (bt a0 x10_2) 128)) (wrap64 (7 * (wrap64 (x10_2 - 1)))))), (Go.bits .andNot .i64 (wrap64 (bt a0 0)) (wrap64 ((ji8) - 1))), wrap64 (x10_2 + 1)))) else (impl_TakePrefix.l0 kj12 a0 (wrap64 (x8_2 + (shl .i64 (wrap64 (Int.tmod (bt a0 x10_2) 128)) (wrap64 (7 * (wrap64 (x10_2 - 1))))))) (Go.bits .andNot .i64 (wrap64 (bt a0 0)) (wrap64 ((ji8) - 1))) (wrap64 (x10_2 + 1)))) else (none)) else (none)) else (none)) = some (r1, r2, r3) := by rw [if_pos rfl] at H; exact H
                        clear H
                        have H := H1
                        clear H1
                        by_cases c16 : 0 ≤ x10_2
                        · rw [if_pos c16] at H
                          have c16b0 : decide (0 ≤ x10_2) = true := decide_eq_true c16
                          clear c16
                          by_cases c17 : x10_2 < (a0.size : Int)
                          · rw [if_pos c17] at H
                            have c17b0 : decide (x10_2 < (a0.size : Int)) = true := decide_eq_true c17
                            clear c17
                            obtain ⟨ji19, hji19⟩ : ∃ j_ : Int, (wrap64 (7 * (wrap64 (x10_2 - 1)))) = j_ := ⟨_, rfl⟩
                            replace H : (if 0 ≤ (ji19) then (if (bt a0 x10_2) < 128 then (if (wrap64 (x8_2 + (shl .i64 (wrap64 (Int.tmod (bt a0 x10_2) 128)) (ji19)))) > 1000000000 then (some (0, 0, 0)) else (some (wrap64 (x8_2 + (shl .i64 (wrap64 (Int.tmod (bt a0 x10_2) 128)) (ji19))), (Go.bits .andNot .i64 (wrap64 (bt a0 0)) (wrap64 ((ji8) - 1))), wrap64 (x10_2 + 1)))) else (impl_TakePrefix.l0 kj12 a0 (wrap64 (x8_2 + (shl .i64 (wrap64 (Int.tmod (bt a0 x10_2) 128)) (ji19)))) (Go.bits .andNot .i64 (wrap64 (bt a0 0)) (wrap64 ((ji8) - 1))) (wrap64 (x10_2 + 1)))) else (none)) = some (r1, r2, r3) := by first | (rw [hji19] at H; exact H) | (simp only [hji19] at H ⊢; exact H)
                            have hji19w : (IntKind.i64.wrap (7 * (wrap64 (x10_2 - 1)))) = ji19 := (i64_w _).trans hji19
                            by_cases c20 : 0 ≤ (ji19)
                            · rw [if_pos c20] at H
                              have c20b0 := eq_true c20
                              have c20b1 : decide (0 ≤ (ji19)) = true := decide_eq_true c20
                              clear c20
                              obtain ⟨ji21, hji21⟩ : ∃ j_ : Int, (shl .i64 (wrap64 (Int.tmod (bt a0 x10_2) 128)) (ji19)) = j_ := ⟨_, rfl⟩
                              replace H : (if (bt a0 x10_2) < 128 then (if (wrap64 (x8_2 + (ji21))) > 1000000000 then (some (0, 0, 0)) else (some (wrap64 (x8_2 + (ji21)), (Go.bits .andNot .i64 (wrap64 (bt a0 0)) (wrap64 ((ji8) - 1))), wrap64 (x10_2 + 1)))) else (impl_TakePrefix.l0 kj12 a0 (wrap64 (x8_2 + (ji21))) (Go.bits .andNot .i64 (wrap64 (bt a0 0)) (wrap64 ((ji8) - 1))) (wrap64 (x10_2 + 1)))) = some (r1, r2, r3) := by first | (rw [hji21] at H; exact H) | (simp only [hji21] at H ⊢; exact H)
                              have hji21_ : (IntKind.i64.wrap ((wrap64 (Int.tmod (bt a0 x10_2) 128)) * 2 ^ min (ji19).toNat 64)) = ji21 := hji21
                              have hji21z : (ji19) ≤ 64 → (IntKind.i64.wrap ((wrap64 (Int.tmod (bt a0 x10_2) 128)) * 2 ^ (ji19).toNat)) = ji21 := shl_small hji21
                              have hji21y : (wrap64 ((wrap64 (Int.tmod (bt a0 x10_2) 128)) * 2 ^ min (ji19).toNat 64)) = ji21 := (i64_w _).symm.trans hji21_
                              have hji21x : (ji19) ≤ 64 → (wrap64 ((wrap64 (Int.tmod (bt a0 x10_2) 128)) * 2 ^ (ji19).toNat)) = ji21 := fun h_ => (i64_w _).symm.trans (hji21z h_)
                              by_cases c23 : (bt a0 x10_2) < 128
                              · rw [if_pos c23] at H
                                have c23b0 : decide ((bt a0 x10_2) < 128) = true := decide_eq_true c23
                                clear c23
                                by_cases c24 : (wrap64 (x8_2 + (ji21))) > 1000000000
                                · rw [if_pos c24] at H
                                  have c24b0 : decide (1000000000 < (wrap64 (x8_2 + (ji21)))) = true := decide_eq_true c24
                                  clear c24
                                  simp only [Option.some.injEq, Prod.mk.injEq] at H
                                  obtain ⟨rfl, rfl, rfl⟩ := H
                                  have p18 : 0 ≤ (x10_2 : Int) := of_decide_eq_true (by first | (with_reducible assumption) | assumption)
                                  have q18 : x10_2 < (a0.size : Int) := of_decide_eq_true (by first | (with_reducible assumption) | assumption)
                                  have hx18 := bt_at a0 x10_2
                                  replace p18 := eq_true p18
                                  replace q18 := eq_true q18
                                  have p22 : 0 ≤ (x10_2 : Int) := of_decide_eq_true (by first | (with_reducible assumption) | assumption)
                                  have q22 : x10_2 < (a0.size : Int) := of_decide_eq_true (by first | (with_reducible assumption) | assumption)
                                  have hx22 := bt_at a0 x10_2
                                  replace p22 := eq_true p22
                                  replace q22 := eq_true q22
                                  go_wp2
                                  repeat (go_quiet (fail); try go_wp2)
                                  go_ret3
                                  exact ⟨by first | rfl | (simp; done) | (simp only [← hji8, ← hji19, ← hji21] <;> (first | rfl | simp)) | (simp [*]; done), by repeat (first | exact Drawn0.refl _ | apply Drawn0.step)⟩
                                · rw [if_neg c24] at H
                                  have c24b0 : decide (1000000000 < (wrap64 (x8_2 + (ji21)))) = false := decide_eq_false c24
                                  clear c24
                                  simp only [Option.some.injEq, Prod.mk.injEq] at H
                                  obtain ⟨rfl, rfl, rfl⟩ := H
                                  have p18 : 0 ≤ (x10_2 : Int) := of_decide_eq_true (by first | (with_reducible assumption) | assumption)
                                  have q18 : x10_2 < (a0.size : Int) := of_decide_eq_true (by first | (with_reducible assumption) | assumption)
                                  have hx18 := bt_at a0 x10_2
                                  replace p18 := eq_true p18
                                  replace q18 := eq_true q18
                                  have p22 : 0 ≤ (x10_2 : Int) := of_decide_eq_true (by first | (with_reducible assumption) | assumption)
                                  have q22 : x10_2 < (a0.size : Int) := of_decide_eq_true (by first | (with_reducible assumption) | assumption)
                                  have hx22 := bt_at a0 x10_2
                                  replace p22 := eq_true p22
                                  replace q22 := eq_true q22
                                  go_wp2
                                  repeat (go_quiet (fail); try go_wp2)
                                  go_ret3
                                  exact ⟨by first | rfl | (simp; done) | (simp only [← hji8, ← hji19, ← hji21] <;> (first | rfl | simp)) | (simp [*]; done), by repeat (first | exact Drawn0.refl _ | apply Drawn0.step)⟩
                              · rw [if_neg c23] at H
                                have c23b0 : decide ((bt a0 x10_2) < 128) = false := decide_eq_false c23
                                clear c23
                                have H' := Aside0.mk H
                                clear H
                                have p18 : 0 ≤ (x10_2 : Int) := of_decide_eq_true (by first | (with_reducible assumption) | assumption)
                                have q18 : x10_2 < (a0.size : Int) := of_decide_eq_true (by first | (with_reducible assumption) | assumption)
                                have hx18 := bt_at a0 x10_2
                                replace p18 := eq_true p18
                                replace q18 := eq_true q18
                                have p22 : 0 ≤ (x10_2 : Int) := of_decide_eq_true (by first | (with_reducible assumption) | assumption)
                                have q22 : x10_2 < (a0.size : Int) := of_decide_eq_true (by first | (with_reducible assumption) | assumption)
                                have hx22 := bt_at a0 x10_2
                                replace p22 := eq_true p22
                                replace q22 := eq_true q22
                                go_wp2
                                repeat (go_quiet (fail); try go_wp2)
                                go_roundg kj12
                                case measure => have := HJ2.out; have := HK2.out; have := HJ12.out; omega
                                case rel => exact ⟨(wrap64 (x8_2 + (ji21))), (wrap64 (x10_2 + 1)), (by first | rfl | (simp; done) | (simp only [← hji21] <;> (first | rfl | simp)) | (simp [*]; done)), (by first | rfl | (simp; done) | (simp [*]; done)), H', ⟨by have := HJ2.out; have := HK2.out; have := HJ12.out; omega⟩, by repeat (first | exact Drawn0.refl _ | apply Drawn0.step)⟩
                            · rw [if_neg c20] at H
                              exact absurd H (by simp)
                          · rw [if_neg c17] at H
                            exact absurd H (by simp)
                        · rw [if_neg c16] at H
                          exact absurd H (by simp)
                      · replace c15 := Bool.eq_false_iff.mpr c15
                        subst c15
                        have H1 : (some (0, 0, 0)) = some (r1, r2, r3) := by rw [if_neg (show ¬ (false = true) by decide)] at H; exact H
                        clear H
                        have H := H1
                        clear H1
                        simp only [Option.some.injEq, Prod.mk.injEq] at H
                        obtain ⟨rfl, rfl, rfl⟩ := H
                        go_wp2
                        repeat (go_quiet (fail); try go_wp2)
                        go_ret3
                        exact ⟨by first | rfl | (simp; done) | (simp only [← hji8] <;> (first | rfl | simp)) | (simp [*]; done), by repeat (first | exact Drawn0.refl _ | apply Drawn0.step)⟩
          · rw [if_neg c9] at H
            exact absurd H (by simp)
        · rw [if_neg c7] at H
          exact absurd H (by simp)

/-! ### laws_FnExactTakePrefix: function 11 -/
def laws_FnExactTakePrefix.f (k : Nat) (a0 : ByteArray) (a1 : Int) : Option (Bool) := if (a0.size : Int) > 1048576 then (some true) else ((spec_TakePrefix.f k a0 a1).bind fun bt104 => ((impl_TakePrefix.f k a0 a1).bind fun bt107 => (if bt107.1 = bt104.1 then (if bt107.2.1 = bt104.2.1 then (if bt107.2.2 = bt104.2.2 then (some true) else (some false)) else (some false)) else (some false))))
theorem laws_FnExactTakePrefix.mono : ∀ a0 a1 k, LeO (laws_FnExactTakePrefix.f k a0 a1) (laws_FnExactTakePrefix.f (k + 1) a0 a1) := by
  intro a0 a1 k
  unfold laws_FnExactTakePrefix.f
  repeat' first
      | (with_reducible exact impl_TakePrefix.mono _ _ _)
      | (with_reducible exact spec_TakePrefix.mono _ _ _)
      | (with_reducible exact LeO.refl _)
      | (with_reducible exact LeO.none _)
      | (with_reducible refine LeO.ite ?_ ?_)
      | (with_reducible refine LeO.bind ?_ (fun _ => ?_))
      | exact impl_TakePrefix.mono _ _ _
      | exact spec_TakePrefix.mono _ _ _
      | exact LeO.none _
      | refine LeO.ite ?_ ?_
      | refine LeO.bind ?_ (fun _ => ?_)
set_option maxHeartbeats 8000000 in
set_option maxRecDepth 100000 in
theorem laws_FnExactTakePrefix.calls (k : Nat) (a0 : ByteArray) (a1 : Int) (r : Bool) (w : World) (h : laws_FnExactTakePrefix.f k a0 a1 = some r) :
    Calls Try.prog 11 #[.string a0, .int .i64 a1] w fun e w' => e = .returned (.bool r) ∧ Drawn0 w w' := by
  have H : (if (a0.size : Int) > 1048576 then (some true) else ((spec_TakePrefix.f k a0 a1).bind fun bt104 => ((impl_TakePrefix.f k a0 a1).bind fun bt107 => (if bt107.1 = bt104.1 then (if bt107.2.1 = bt104.2.1 then (if bt107.2.2 = bt104.2.2 then (some true) else (some false)) else (some false)) else (some false))))) = some r := h
  clear h
  by_cases c3 : (a0.size : Int) > 1048576
  · rw [if_pos c3] at H
    have c3b0 : decide (1048576 < (a0.size : Int)) = true := decide_eq_true c3
    have c3b1 : decide (1048576 < a0.size) = true := decide_eq_true (by omega)
    clear c3
    obtain rfl := Option.some.inj H
    go_enter Try.func11, Try.ntmps11
    go_wp2
    go_ret
    exact ⟨by first | rfl | (simp; done) | (simp [*]; done), by repeat (first | exact Drawn0.refl _ | apply Drawn0.step)⟩
  · rw [if_neg c3] at H
    have c3b0 : decide (1048576 < (a0.size : Int)) = false := decide_eq_false c3
    have c3b1 : decide (1048576 < a0.size) = false := decide_eq_false (by omega)
    clear c3
    replace H := Option.bind_eq_some_iff.mp H
    obtain ⟨⟨t104, t105, t106⟩, A40, H⟩ := H
    replace H : ((impl_TakePrefix.f k a0 a1).bind fun bt107 => (if bt107.1 = t104 then (if bt107.2.1 = t105 then (if bt107.2.2 = t106 then (some true) else (some false)) else (some false)) else (some false))) = some r := H
    have A4 := Aside0.mk A40
    clear A40
    replace H := Option.bind_eq_some_iff.mp H
    obtain ⟨⟨t107, t108, t109⟩, A50, H⟩ := H
    replace H : (if t107 = t104 then (if t108 = t105 then (if t109 = t106 then (some true) else (some false)) else (some false)) else (some false)) = some r := H
    have A5 := Aside0.mk A50
    clear A50
    by_cases c6 : t107 = t104
    · rw [if_pos c6] at H
      have c6b0 : (t107 == t104) = true := beq_iff_eq.mpr c6
      have c6b1 : (t107 != t104) = false := bne_eq_false_iff_eq.mpr c6
      clear c6
      by_cases c7 : t108 = t105
      · rw [if_pos c7] at H
        have c7b0 : (t108 == t105) = true := beq_iff_eq.mpr c7
        have c7b1 : (t108 != t105) = false := bne_eq_false_iff_eq.mpr c7
        clear c7
        by_cases c8 : t109 = t106
        · rw [if_pos c8] at H
          have c8b0 : (t109 == t106) = true := beq_iff_eq.mpr c8
          have c8b1 : (t109 != t106) = false := bne_eq_false_iff_eq.mpr c8
          clear c8
          obtain rfl := Option.some.inj H
          go_enter Try.func11, Try.ntmps11
          go_wp2_with (first | ((with_reducible refine gate_callee (f := 40) rfl ?_); refine goesL_ (some 17) rfl rfl Try.func40 (by kernel_rfl) rfl #[.string a0, .int .i64 a1] rfl (by (try simp only [List.map_toArray, List.map_cons, List.map_nil]); first | done | rfl | (simp only [List.length_drop, List.length_take]; rfl)) ?_; (with_reducible refine (spec_TakePrefix.calls k a0 a1 t104 t105 t106 _ A4.out).mono ?_); rintro e w' ⟨rfl, ⟨nd, rfl⟩⟩; refine ⟨_, rfl, ?_⟩) | ((with_reducible refine gate_callee (f := 41) rfl ?_); refine goesL_ (some 24) rfl rfl Try.func41 (by kernel_rfl) rfl #[.string a0, .int .i64 a1] rfl (by (try simp only [List.map_toArray, List.map_cons, List.map_nil]); first | done | rfl | (simp only [List.length_drop, List.length_take]; rfl)) ?_; (with_reducible refine (impl_TakePrefix.calls k a0 a1 t107 t108 t109 _ A5.out).mono ?_); rintro e w' ⟨rfl, ⟨nd, rfl⟩⟩; refine ⟨_, rfl, ?_⟩))
          go_ret
          exact ⟨by first | rfl | (simp; done) | (simp [*]; done), by repeat (first | exact Drawn0.refl _ | apply Drawn0.step)⟩
        · rw [if_neg c8] at H
          have c8b0 : (t109 == t106) = false := beq_eq_false_iff_ne.mpr c8
          have c8b1 : (t109 != t106) = true := bne_iff_ne.mpr c8
          obtain rfl := Option.some.inj H
          go_enter Try.func11, Try.ntmps11
          go_wp2_with (first | ((with_reducible refine gate_callee (f := 40) rfl ?_); refine goesL_ (some 17) rfl rfl Try.func40 (by kernel_rfl) rfl #[.string a0, .int .i64 a1] rfl (by (try simp only [List.map_toArray, List.map_cons, List.map_nil]); first | done | rfl | (simp only [List.length_drop, List.length_take]; rfl)) ?_; (with_reducible refine (spec_TakePrefix.calls k a0 a1 t104 t105 t106 _ A4.out).mono ?_); rintro e w' ⟨rfl, ⟨nd, rfl⟩⟩; refine ⟨_, rfl, ?_⟩) | ((with_reducible refine gate_callee (f := 41) rfl ?_); refine goesL_ (some 24) rfl rfl Try.func41 (by kernel_rfl) rfl #[.string a0, .int .i64 a1] rfl (by (try simp only [List.map_toArray, List.map_cons, List.map_nil]); first | done | rfl | (simp only [List.length_drop, List.length_take]; rfl)) ?_; (with_reducible refine (impl_TakePrefix.calls k a0 a1 t107 t108 t109 _ A5.out).mono ?_); rintro e w' ⟨rfl, ⟨nd, rfl⟩⟩; refine ⟨_, rfl, ?_⟩))
          go_ret
          exact ⟨by first | rfl | (simp; done) | (simp [*]; done), by repeat (first | exact Drawn0.refl _ | apply Drawn0.step)⟩
      · rw [if_neg c7] at H
        have c7b0 : (t108 == t105) = false := beq_eq_false_iff_ne.mpr c7
        have c7b1 : (t108 != t105) = true := bne_iff_ne.mpr c7
        obtain rfl := Option.some.inj H
        go_enter Try.func11, Try.ntmps11
        go_wp2_with (first | ((with_reducible refine gate_callee (f := 40) rfl ?_); refine goesL_ (some 17) rfl rfl Try.func40 (by kernel_rfl) rfl #[.string a0, .int .i64 a1] rfl (by (try simp only [List.map_toArray, List.map_cons, List.map_nil]); first | done | rfl | (simp only [List.length_drop, List.length_take]; rfl)) ?_; (with_reducible refine (spec_TakePrefix.calls k a0 a1 t104 t105 t106 _ A4.out).mono ?_); rintro e w' ⟨rfl, ⟨nd, rfl⟩⟩; refine ⟨_, rfl, ?_⟩) | ((with_reducible refine gate_callee (f := 41) rfl ?_); refine goesL_ (some 24) rfl rfl Try.func41 (by kernel_rfl) rfl #[.string a0, .int .i64 a1] rfl (by (try simp only [List.map_toArray, List.map_cons, List.map_nil]); first | done | rfl | (simp only [List.length_drop, List.length_take]; rfl)) ?_; (with_reducible refine (impl_TakePrefix.calls k a0 a1 t107 t108 t109 _ A5.out).mono ?_); rintro e w' ⟨rfl, ⟨nd, rfl⟩⟩; refine ⟨_, rfl, ?_⟩))
        go_ret
        exact ⟨by first | rfl | (simp; done) | (simp [*]; done), by repeat (first | exact Drawn0.refl _ | apply Drawn0.step)⟩
    · rw [if_neg c6] at H
      have c6b0 : (t107 == t104) = false := beq_eq_false_iff_ne.mpr c6
      have c6b1 : (t107 != t104) = true := bne_iff_ne.mpr c6
      obtain rfl := Option.some.inj H
      go_enter Try.func11, Try.ntmps11
      go_wp2_with (first | ((with_reducible refine gate_callee (f := 40) rfl ?_); refine goesL_ (some 17) rfl rfl Try.func40 (by kernel_rfl) rfl #[.string a0, .int .i64 a1] rfl (by (try simp only [List.map_toArray, List.map_cons, List.map_nil]); first | done | rfl | (simp only [List.length_drop, List.length_take]; rfl)) ?_; (with_reducible refine (spec_TakePrefix.calls k a0 a1 t104 t105 t106 _ A4.out).mono ?_); rintro e w' ⟨rfl, ⟨nd, rfl⟩⟩; refine ⟨_, rfl, ?_⟩) | ((with_reducible refine gate_callee (f := 41) rfl ?_); refine goesL_ (some 24) rfl rfl Try.func41 (by kernel_rfl) rfl #[.string a0, .int .i64 a1] rfl (by (try simp only [List.map_toArray, List.map_cons, List.map_nil]); first | done | rfl | (simp only [List.length_drop, List.length_take]; rfl)) ?_; (with_reducible refine (impl_TakePrefix.calls k a0 a1 t107 t108 t109 _ A5.out).mono ?_); rintro e w' ⟨rfl, ⟨nd, rfl⟩⟩; refine ⟨_, rfl, ?_⟩))
      go_ret
      exact ⟨by first | rfl | (simp; done) | (simp [*]; done), by repeat (first | exact Drawn0.refl _ | apply Drawn0.step)⟩

/-- THE ONE PURE STATEMENT of laws_FnExactTakePrefix: yours. -/
def laws_FnExactTakePrefix.Pure : Prop := ∀ (a0 : ByteArray) (a1 : Int), a0.size ≤ 140737488351232 → (Lit.int .i64 a1).wf = true → ∃ k, laws_FnExactTakePrefix.f k a0 a1 = some true
theorem laws_FnExactTakePrefix.walk (P : laws_FnExactTakePrefix.Pure) (a0 : ByteArray) (a1 : Int) (w : World) (w0 : a0.size ≤ 140737488351232) (w1 : (Lit.int .i64 a1).wf = true) :
    Calls Try.prog 11 #[.string a0, .int .i64 a1] w fun e w' => e = .returned (.bool true) ∧ Below w.heap.size w w' := by
  obtain ⟨k, h⟩ := P a0 a1 w0 w1
  refine (laws_FnExactTakePrefix.calls k a0 a1 true w h).mono ?_
  rintro e w' ⟨rfl, hd⟩
  exact ⟨rfl, hd.below⟩

end Go.Proofs.Ytoifedpioonnnaa.PFnExactTakePrefix
