-- Written by a program of this session (wip/xprint.py).
import Derived.Test.YtilkginahmfagaaDoorPFnExactParseTargetx0
import Derived.Test.YtilkginahmfagaaDoorPFnExactParseTargetx1
namespace Go.Proofs.YtilkginahmfagaaDoor.PFnExactParseTarget
open Go.RowKit Go.Proofs.YtilkginahmfagaaDoorW.PrintWords Go.Proofs.YtilkginahmfagaaDoorW.PrintLast Go.Proofs.YtilkginahmfagaaDoorW.PrintMore
open Go.Proofs.YtilkginahmfagaaDoor.ShortK (bN bD bA sA sZ sS mR mB bX bLt bS cz2 fz2 cx2 cz3 fz3 cx3 cz4 fz4 cx4 cz5 fz5 cx5 cz6 fz6 cx6 cz7 fz7 cx7 cz8 fz8 cx8 cz9 fz9 cx9 cz10 fz10 cx10 cz11 fz11 cx11 cz12 fz12 cx12)
attribute [local go_sem] Go.Proofs.YtilkginahmfagaaDoor.StoreK.isSome_setCell max2_int min2_int max_two min_two max_three min_three max_four min_four   -- for this text's walks alone
set_option linter.unusedVariables false
set_option linter.unusedSimpArgs false

/-! ### spec_ParseTarget: function 17 -/
mutual
def spec_ParseTarget.j0 : Nat → ByteArray → Int → Bool → Option (ByteArray × Int × Bool)
 | 0, _, _, _ => none
 | k + 1, x0, x5, x21 => if x21 = true then (some ((⟨#[]⟩ : ByteArray), 0, false)) else (if 0 ≤ x5 then (if x5 ≤ (x0.size : Int) then ((spec_l17Cut.f k (x0.extract (x5 : Int).toNat x0.size) 47).bind fun bt104 => ((spec_l17Cut.f k bt104.2.1 47).bind fun bt107 => (if bt104.2.2 = true then (if bt107.2.2 = true then (if bt107.2.1.toList = ([] : List UInt8) then ((spec_l17Host.f k bt104.1).bind fun t110 => (if t110 = true then ((spec_l17Number.f k bt107.1).bind fun t111 => ((spec_l17Port.f t111).bind fun t112 => (spec_ParseTarget.j1 k bt104.1 bt107.1 (!t112)))) else (spec_ParseTarget.j1 k bt104.1 bt107.1 true))) else (spec_ParseTarget.j1 k bt104.1 bt107.1 true)) else (spec_ParseTarget.j1 k bt104.1 bt107.1 true)) else (spec_ParseTarget.j1 k bt104.1 bt107.1 true)))) else (none)) else (none))
def spec_ParseTarget.j1 : Nat → ByteArray → ByteArray → Bool → Option (ByteArray × Int × Bool)
 | 0, _, _, _ => none
 | k + 1, x6, x9, x56 => if x56 = true then (some ((⟨#[]⟩ : ByteArray), 0, false)) else ((spec_l17Number.f k x9).bind fun t113 => (some (x6, t113, true)))
end
def spec_ParseTarget.f (k : Nat) (a0 : ByteArray) : Option (ByteArray × Int × Bool) := if (a0.size : Int) < 24 then (spec_ParseTarget.j0 k a0 24 true) else (if 0 ≤ 24 then (if 24 ≤ (a0.size : Int) then (spec_ParseTarget.j0 k a0 24 ((a0.extract 0 24).toList != ([47, 46, 119, 101, 108, 108, 45, 107, 110, 111, 119, 110, 47, 109, 97, 115, 113, 117, 101, 47, 117, 100, 112, 47] : List UInt8))) else (none)) else (none))
theorem spec_ParseTarget.mono_l : ∀ k, (∀ y0 y1 y2, LeO (spec_ParseTarget.j0 k y0 y1 y2) (spec_ParseTarget.j0 (k + 1) y0 y1 y2)) ∧ (∀ y0 y1 y2, LeO (spec_ParseTarget.j1 k y0 y1 y2) (spec_ParseTarget.j1 (k + 1) y0 y1 y2))
 | 0 => ⟨fun _ _ _ r h => by simp [spec_ParseTarget.j0] at h, fun _ _ _ r h => by simp [spec_ParseTarget.j1] at h⟩
 | k + 1 => by
  obtain ⟨ih0, ih1⟩ := spec_ParseTarget.mono_l k
  refine ⟨?_, ?_⟩
  ·intro y0 y1 y2
   unfold spec_ParseTarget.j0
   repeat' first
   | (with_reducible exact ih0 _ _ _)
   | (with_reducible exact ih1 _ _ _)
   | (with_reducible exact spec_l17Cut.mono _ _ _)
   | (with_reducible exact spec_l17Host.mono _ _)
   | (with_reducible exact spec_l17Number.mono _ _)
   | (with_reducible exact LeO.refl _)
   | (with_reducible exact LeO.none _)
   | (with_reducible refine LeO.ite ?_ ?_)
   | (with_reducible refine LeO.bind ?_ (fun _ => ?_))
   | exact ih0 _ _ _
   | exact ih1 _ _ _
   | exact spec_l17Cut.mono _ _ _
   | exact spec_l17Host.mono _ _
   | exact spec_l17Number.mono _ _
   | exact LeO.none _
   | refine LeO.ite ?_ ?_
   | refine LeO.bind ?_ (fun _ => ?_)
  ·intro y0 y1 y2
   unfold spec_ParseTarget.j1
   repeat' first
   | (with_reducible exact ih0 _ _ _)
   | (with_reducible exact ih1 _ _ _)
   | (with_reducible exact spec_l17Cut.mono _ _ _)
   | (with_reducible exact spec_l17Host.mono _ _)
   | (with_reducible exact spec_l17Number.mono _ _)
   | (with_reducible exact LeO.refl _)
   | (with_reducible exact LeO.none _)
   | (with_reducible refine LeO.ite ?_ ?_)
   | (with_reducible refine LeO.bind ?_ (fun _ => ?_))
   | exact ih0 _ _ _
   | exact ih1 _ _ _
   | exact spec_l17Cut.mono _ _ _
   | exact spec_l17Host.mono _ _
   | exact spec_l17Number.mono _ _
   | exact LeO.none _
   | refine LeO.ite ?_ ?_
   | refine LeO.bind ?_ (fun _ => ?_)
theorem spec_ParseTarget.mono : ∀ a0 k, LeO (spec_ParseTarget.f k a0) (spec_ParseTarget.f (k + 1) a0) := by
 intro a0 k
 obtain ⟨ih0, ih1⟩ := spec_ParseTarget.mono_l k
 unfold spec_ParseTarget.f
 repeat' first
   | (with_reducible exact ih0 _ _ _)
   | (with_reducible exact ih1 _ _ _)
   | (with_reducible exact spec_l17Cut.mono _ _ _)
   | (with_reducible exact spec_l17Host.mono _ _)
   | (with_reducible exact spec_l17Number.mono _ _)
   | (with_reducible exact LeO.refl _)
   | (with_reducible exact LeO.none _)
   | (with_reducible refine LeO.ite ?_ ?_)
   | (with_reducible refine LeO.bind ?_ (fun _ => ?_))
   | exact ih0 _ _ _
   | exact ih1 _ _ _
   | exact spec_l17Cut.mono _ _ _
   | exact spec_l17Host.mono _ _
   | exact spec_l17Number.mono _ _
   | exact LeO.none _
   | refine LeO.ite ?_ ?_
   | refine LeO.bind ?_ (fun _ => ?_)
set_option maxHeartbeats 64000000 in
set_option maxRecDepth 100000 in
theorem spec_ParseTarget.calls (k : Nat) (a0 : ByteArray) (r1 : ByteArray) (r2 : Int) (r3 : Bool) (w : World) (h : spec_ParseTarget.f k a0 = some (r1, r2, r3)) :
  Calls Tryd.prog 17 #[.string a0] w fun e w' => e = .returned (.tuple #[.string r1, .int .i64 r2, .bool r3]) ∧ Drawn0 w w' := by
 have H : (if (a0.size : Int) < 24 then (spec_ParseTarget.j0 k a0 24 true) else (if 0 ≤ 24 then (if 24 ≤ (a0.size : Int) then (spec_ParseTarget.j0 k a0 24 ((a0.extract 0 24).toList != ([47, 46, 119, 101, 108, 108, 45, 107, 110, 111, 119, 110, 47, 109, 97, 115, 113, 117, 101, 47, 117, 100, 112, 47] : List UInt8))) else (none)) else (none))) = some (r1, r2, r3) := h
 clear h
 have HC2 := Aside0.mk H
 clear H
 go_enter Tryd.func17, Tryd.ntmps17
 go_upto_region 2 with (fail)
 go_cut [21] (fun v21 wc => ∃ (kq : Nat) (x21_1 : Bool), v21 = .bool x21_1 ∧ Aside0 (spec_ParseTarget.j0 kq a0 24 x21_1 = some (r1, r2, r3)) ∧ Aside0 (kq ≤ k) ∧ Drawn0 w wc)
 case first =>
  have H := HC2.out
  clear HC2
  by_cases c3 : (a0.size : Int) < 24
  ·rw [if_pos c3] at H
   have c3b0 : decide ((a0.size : Int) < 24) = true := decide_eq_true c3
   have c3b1 : decide (a0.size < 24) = true := decide_eq_true (by omega)
   clear c3
   (first | rw [c3b0] | (simp only [i64_w, i32_w]; rw [c3b0]) | skip)
   have H' := Aside0.mk H
   clear H
   go_wp2
   go_meet
   case rel => exact ⟨_, (true), (by first | rfl | (simp; done) | (simp [*]; done)), H', ⟨by first | omega | exact Nat.le_refl _⟩, by repeat (first | exact Drawn0.refl _ | apply Drawn0.step)⟩
  ·rw [if_neg c3] at H
   have c3b0 : decide ((a0.size : Int) < 24) = false := decide_eq_false c3
   have c3b1 : decide (a0.size < 24) = false := decide_eq_false (by omega)
   clear c3
   (first | rw [c3b0] | (simp only [i64_w, i32_w]; rw [c3b0]) | skip)
   by_cases c4 : 0 ≤ 24
   ·rw [if_pos c4] at H
    have c4b0 := eq_true c4
    have c4b1 : decide (0 ≤ 24) = true := decide_eq_true c4
    clear c4
    by_cases c5 : 24 ≤ (a0.size : Int)
    ·rw [if_pos c5] at H
     have c5b0 := eq_true c5
     have c5b1 : decide (24 ≤ (a0.size : Int)) = true := decide_eq_true c5
     clear c5
     have H' := Aside0.mk H
     clear H
     go_wp2
     go_meet
     case rel => exact ⟨_, (((a0.extract 0 24).toList != ([47, 46, 119, 101, 108, 108, 45, 107, 110, 111, 119, 110, 47, 109, 97, 115, 113, 117, 101, 47, 117, 100, 112, 47] : List UInt8))), (by first | rfl | (simp; done) | (simp [*]; done)), H', ⟨by first | omega | exact Nat.le_refl _⟩, by repeat (first | exact Drawn0.refl _ | apply Drawn0.step)⟩
    ·rw [if_neg c5] at H
     exact absurd H (by simp)
   ·rw [if_neg c4] at H
    exact absurd H (by simp)
 case rest =>
  clear HC2
  try clear c1
  try clear p2
  try clear c3
  try clear c3b0
  try clear c3b1
  try clear c4
  try clear c4b0
  try clear c4b1
  try clear c5
  try clear c5b0
  try clear c5b1
  obtain ⟨kq, x21_1, rfl, HA, HJ1, ⟨mc1, rfl⟩⟩ := hcut
  cases kq with
  | zero => exact absurd HA.out (by simp [spec_ParseTarget.j0])
  | succ kj1 =>
   have H := HA.out
   clear HA
   simp only [spec_ParseTarget.j0] at H
   by_cases c6 : x21_1 = true
   ·subst c6
    have H1 : (some ((⟨#[]⟩ : ByteArray), 0, false)) = some (r1, r2, r3) := by rw [if_pos rfl] at H; exact H
    clear H
    have H := H1
    clear H1
    simp only [Option.some.injEq, Prod.mk.injEq] at H
    obtain ⟨rfl, rfl, rfl⟩ := H
    go_wp2
    go_ret3
    exact ⟨by first | rfl | (simp; done) | (simp [*]; done), by repeat (first | exact Drawn0.refl _ | apply Drawn0.step)⟩
   ·replace c6 := Bool.eq_false_iff.mpr c6
    subst c6
    have H1 : (if 0 ≤ 24 then (if 24 ≤ (a0.size : Int) then ((spec_l17Cut.f kj1 (a0.extract (24 : Int).toNat a0.size) 47).bind fun bt104 => ((spec_l17Cut.f kj1 bt104.2.1 47).bind fun bt107 => (if bt104.2.2 = true then (if bt107.2.2 = true then (if bt107.2.1.toList = ([] : List UInt8) then ((spec_l17Host.f kj1 bt104.1).bind fun t110 => (if t110 = true then ((spec_l17Number.f kj1 bt107.1).bind fun t111 => ((spec_l17Port.f t111).bind fun t112 => (spec_ParseTarget.j1 kj1 bt104.1 bt107.1 (!t112)))) else (spec_ParseTarget.j1 kj1 bt104.1 bt107.1 true))) else (spec_ParseTarget.j1 kj1 bt104.1 bt107.1 true)) else (spec_ParseTarget.j1 kj1 bt104.1 bt107.1 true)) else (spec_ParseTarget.j1 kj1 bt104.1 bt107.1 true)))) else (none)) else (none)) = some (r1, r2, r3) := by rw [if_neg (show ¬ (false = true) by decide)] at H; exact H
    clear H
    have H := H1
    clear H1
    by_cases c7 : 0 ≤ 24
    ·rw [if_pos c7] at H
     have c7b0 := eq_true c7
     have c7b1 : decide (0 ≤ 24) = true := decide_eq_true c7
     clear c7
     by_cases c8 : 24 ≤ (a0.size : Int)
     ·rw [if_pos c8] at H
      have c8b0 := eq_true c8
      have c8b1 : decide (24 ≤ (a0.size : Int)) = true := decide_eq_true c8
      clear c8
      replace H := Option.bind_eq_some_iff.mp H
      obtain ⟨⟨t104, t105, t106⟩, A90, H⟩ := H
      replace H : ((spec_l17Cut.f kj1 t105 47).bind fun bt107 => (if t106 = true then (if bt107.2.2 = true then (if bt107.2.1.toList = ([] : List UInt8) then ((spec_l17Host.f kj1 t104).bind fun t110 => (if t110 = true then ((spec_l17Number.f kj1 bt107.1).bind fun t111 => ((spec_l17Port.f t111).bind fun t112 => (spec_ParseTarget.j1 kj1 t104 bt107.1 (!t112)))) else (spec_ParseTarget.j1 kj1 t104 bt107.1 true))) else (spec_ParseTarget.j1 kj1 t104 bt107.1 true)) else (spec_ParseTarget.j1 kj1 t104 bt107.1 true)) else (spec_ParseTarget.j1 kj1 t104 bt107.1 true))) = some (r1, r2, r3) := H
      have A9 := Aside0.mk A90
      clear A90
      replace H := Option.bind_eq_some_iff.mp H
      obtain ⟨⟨t107, t108, t109⟩, A100, H⟩ := H
      replace H : (if t106 = true then (if t109 = true then (if t108.toList = ([] : List UInt8) then ((spec_l17Host.f kj1 t104).bind fun t110 => (if t110 = true then ((spec_l17Number.f kj1 t107).bind fun t111 => ((spec_l17Port.f t111).bind fun t112 => (spec_ParseTarget.j1 kj1 t104 t107 (!t112)))) else (spec_ParseTarget.j1 kj1 t104 t107 true))) else (spec_ParseTarget.j1 kj1 t104 t107 true)) else (spec_ParseTarget.j1 kj1 t104 t107 true)) else (spec_ParseTarget.j1 kj1 t104 t107 true)) = some (r1, r2, r3) := H
      have A10 := Aside0.mk A100
      clear A100
      have HC11 := Aside0.mk H
      clear H
      go_upto_region 6 with (first | ((with_reducible refine gate_callee (f := 44) rfl ?_); refine goesL_ (some 26) rfl rfl Tryd.func44 (by kernel_rfl) rfl #[.string (a0.extract (24 : Int).toNat a0.size), .int .u8 47] rfl (by (try simp only [List.map_toArray, List.map_cons, List.map_nil]); first | done | rfl | (simp only [List.length_drop, List.length_take]; rfl)) ?_; (with_reducible refine (spec_l17Cut.calls kj1 (a0.extract (24 : Int).toNat a0.size) 47 t104 t105 t106 _ A9.out).mono ?_); rintro e w' ⟨rfl, ⟨nd, rfl⟩⟩; refine ⟨_, rfl, ?_⟩) | ((with_reducible refine gate_callee (f := 44) rfl ?_); refine goesL_ (some 32) rfl rfl Tryd.func44 (by kernel_rfl) rfl #[.string t105, .int .u8 47] rfl (by (try simp only [List.map_toArray, List.map_cons, List.map_nil]); first | done | rfl | (simp only [List.length_drop, List.length_take]; rfl)) ?_; (with_reducible refine (spec_l17Cut.calls kj1 t105 47 t107 t108 t109 _ A10.out).mono ?_); rintro e w' ⟨rfl, ⟨nd, rfl⟩⟩; refine ⟨_, rfl, ?_⟩))
      (try simp only [Act.put, sA, sZ, sS])
      go_cut [56] (fun v56 wc => ∃ (kq : Nat) (x56_10 : Bool), v56 = .bool x56_10 ∧ Aside0 (spec_ParseTarget.j1 kq t104 t107 x56_10 = some (r1, r2, r3)) ∧ Aside0 (kq ≤ kj1) ∧ Drawn0 w wc)
      case first =>
       have H := HC11.out
       clear HC11
       by_cases c12 : t106 = true
       ·subst c12
        have H1 : (if t109 = true then (if t108.toList = ([] : List UInt8) then ((spec_l17Host.f kj1 t104).bind fun t110 => (if t110 = true then ((spec_l17Number.f kj1 t107).bind fun t111 => ((spec_l17Port.f t111).bind fun t112 => (spec_ParseTarget.j1 kj1 t104 t107 (!t112)))) else (spec_ParseTarget.j1 kj1 t104 t107 true))) else (spec_ParseTarget.j1 kj1 t104 t107 true)) else (spec_ParseTarget.j1 kj1 t104 t107 true)) = some (r1, r2, r3) := by rw [if_pos rfl] at H; exact H
        clear H
        have H := H1
        clear H1
        by_cases c13 : t109 = true
        ·subst c13
         have H1 : (if t108.toList = ([] : List UInt8) then ((spec_l17Host.f kj1 t104).bind fun t110 => (if t110 = true then ((spec_l17Number.f kj1 t107).bind fun t111 => ((spec_l17Port.f t111).bind fun t112 => (spec_ParseTarget.j1 kj1 t104 t107 (!t112)))) else (spec_ParseTarget.j1 kj1 t104 t107 true))) else (spec_ParseTarget.j1 kj1 t104 t107 true)) = some (r1, r2, r3) := by rw [if_pos rfl] at H; exact H
         clear H
         have H := H1
         clear H1
         by_cases c14 : t108.toList = ([] : List UInt8)
         ·rw [if_pos c14] at H
          have c14b0 : (t108.toList == ([] : List UInt8)) = true := beq_iff_eq.mpr c14
          have c14b1 : (t108.toList != ([] : List UInt8)) = false := bne_eq_false_iff_eq.mpr c14
          clear c14
          (first | rw [c14b0] | (simp only [i64_w, i32_w]; rw [c14b0]) | skip)
          replace H := Option.bind_eq_some_iff.mp H
          obtain ⟨t110, A150, H⟩ := H
          replace H : (if t110 = true then ((spec_l17Number.f kj1 t107).bind fun t111 => ((spec_l17Port.f t111).bind fun t112 => (spec_ParseTarget.j1 kj1 t104 t107 (!t112)))) else (spec_ParseTarget.j1 kj1 t104 t107 true)) = some (r1, r2, r3) := H
          have A15 := Aside0.mk A150
          clear A150
          by_cases c16 : t110 = true
          ·subst c16
           have H1 : ((spec_l17Number.f kj1 t107).bind fun t111 => ((spec_l17Port.f t111).bind fun t112 => (spec_ParseTarget.j1 kj1 t104 t107 (!t112)))) = some (r1, r2, r3) := by rw [if_pos rfl] at H; exact H
           clear H
           have H := H1
           clear H1
           replace H := Option.bind_eq_some_iff.mp H
           obtain ⟨t111, A170, H⟩ := H
           replace H : ((spec_l17Port.f t111).bind fun t112 => (spec_ParseTarget.j1 kj1 t104 t107 (!t112))) = some (r1, r2, r3) := H
           have A17 := Aside0.mk A170
           clear A170
           replace H := Option.bind_eq_some_iff.mp H
           obtain ⟨t112, A180, H⟩ := H
           replace H : (spec_ParseTarget.j1 kj1 t104 t107 (!t112)) = some (r1, r2, r3) := H
           have A18 := Aside0.mk A180
           clear A180
           have H' := Aside0.mk H
           clear H
           go_wp2_with (first | (go_at_call 45; (with_reducible refine (spec_l17Host.calls kj1 t104 true _ A15.out).mono ?_); rintro e w' ⟨rfl, ⟨nd, rfl⟩⟩) | (go_at_call 47; (with_reducible refine (spec_l17Number.calls kj1 t107 t111 _ A17.out).mono ?_); rintro e w' ⟨rfl, ⟨nd, rfl⟩⟩) | (go_at_call 46; (with_reducible refine (spec_l17Port.calls t111 t112 _ A18.out).mono ?_); rintro e w' ⟨rfl, ⟨nd, rfl⟩⟩))
           go_meet
           case rel => exact ⟨_, (!t112), (by first | rfl | (simp; done) | (simp [*]; done)), H', ⟨by have := HJ1.out; first | omega | exact Nat.le_refl _⟩, by repeat (first | exact Drawn0.refl _ | apply Drawn0.step)⟩
          ·replace c16 := Bool.eq_false_iff.mpr c16
           subst c16
           have H1 : (spec_ParseTarget.j1 kj1 t104 t107 true) = some (r1, r2, r3) := by rw [if_neg (show ¬ (false = true) by decide)] at H; exact H
           clear H
           have H := H1
           clear H1
           have H' := Aside0.mk H
           clear H
           go_wp2_with (first | (go_at_call 45; (with_reducible refine (spec_l17Host.calls kj1 t104 false _ A15.out).mono ?_); rintro e w' ⟨rfl, ⟨nd, rfl⟩⟩))
           go_meet
           case rel => exact ⟨_, (true), (by first | rfl | (simp; done) | (simp [*]; done)), H', ⟨by have := HJ1.out; first | omega | exact Nat.le_refl _⟩, by repeat (first | exact Drawn0.refl _ | apply Drawn0.step)⟩
         ·rw [if_neg c14] at H
          have c14b0 : (t108.toList == ([] : List UInt8)) = false := beq_eq_false_iff_ne.mpr c14
          have c14b1 : (t108.toList != ([] : List UInt8)) = true := bne_iff_ne.mpr c14
          (first | rw [c14b0] | (simp only [i64_w, i32_w]; rw [c14b0]) | skip)
          have H' := Aside0.mk H
          clear H
          go_wp2
          go_meet
          case rel => exact ⟨_, (true), (by first | rfl | (simp; done) | (simp [*]; done)), H', ⟨by have := HJ1.out; first | omega | exact Nat.le_refl _⟩, by repeat (first | exact Drawn0.refl _ | apply Drawn0.step)⟩
        ·replace c13 := Bool.eq_false_iff.mpr c13
         subst c13
         have H1 : (spec_ParseTarget.j1 kj1 t104 t107 true) = some (r1, r2, r3) := by rw [if_neg (show ¬ (false = true) by decide)] at H; exact H
         clear H
         have H := H1
         clear H1
         have H' := Aside0.mk H
         clear H
         go_wp2
         go_meet
         case rel => exact ⟨_, (true), (by first | rfl | (simp; done) | (simp [*]; done)), H', ⟨by have := HJ1.out; first | omega | exact Nat.le_refl _⟩, by repeat (first | exact Drawn0.refl _ | apply Drawn0.step)⟩
       ·replace c12 := Bool.eq_false_iff.mpr c12
        subst c12
        have H1 : (spec_ParseTarget.j1 kj1 t104 t107 true) = some (r1, r2, r3) := by rw [if_neg (show ¬ (false = true) by decide)] at H; exact H
        clear H
        have H := H1
        clear H1
        have H' := Aside0.mk H
        clear H
        go_wp2
        go_meet
        case rel => exact ⟨_, (true), (by first | rfl | (simp; done) | (simp [*]; done)), H', ⟨by have := HJ1.out; first | omega | exact Nat.le_refl _⟩, by repeat (first | exact Drawn0.refl _ | apply Drawn0.step)⟩
      case rest =>
       clear HC11
       try clear c1
       try clear p2
       try clear c3
       try clear c3b0
       try clear c3b1
       try clear c4
       try clear c4b0
       try clear c4b1
       try clear c5
       try clear c5b0
       try clear c5b1
       try clear c6
       try clear c7
       try clear c7b0
       try clear c7b1
       try clear c8
       try clear c8b0
       try clear c8b1
       try clear c12
       try clear c13
       try clear c14
       try clear c14b0
       try clear c14b1
       try clear c16
       try clear c17
       try clear p2
       obtain ⟨kq, x56_10, rfl, HA, HJ10, ⟨mc10, rfl⟩⟩ := hcut
       cases kq with
       | zero => exact absurd HA.out (by simp [spec_ParseTarget.j1])
       | succ kj10 =>
        have H := HA.out
        clear HA
        simp only [spec_ParseTarget.j1] at H
        by_cases c19 : x56_10 = true
        ·subst c19
         have H1 : (some ((⟨#[]⟩ : ByteArray), 0, false)) = some (r1, r2, r3) := by rw [if_pos rfl] at H; exact H
         clear H
         have H := H1
         clear H1
         simp only [Option.some.injEq, Prod.mk.injEq] at H
         obtain ⟨rfl, rfl, rfl⟩ := H
         go_wp2
         go_ret3
         exact ⟨by first | rfl | (simp; done) | (simp [*]; done), by repeat (first | exact Drawn0.refl _ | apply Drawn0.step)⟩
        ·replace c19 := Bool.eq_false_iff.mpr c19
         subst c19
         have H1 : ((spec_l17Number.f kj10 t107).bind fun t113 => (some (t104, t113, true))) = some (r1, r2, r3) := by rw [if_neg (show ¬ (false = true) by decide)] at H; exact H
         clear H
         have H := H1
         clear H1
         replace H := Option.bind_eq_some_iff.mp H
         obtain ⟨t113, A200, H⟩ := H
         replace H : (some (t104, t113, true)) = some (r1, r2, r3) := H
         have A20 := Aside0.mk A200
         clear A200
         simp only [Option.some.injEq, Prod.mk.injEq] at H
         obtain ⟨rfl, rfl, rfl⟩ := H
         go_wp2_with (first | ((with_reducible refine gate_callee (f := 47) rfl ?_); refine goesL_ (some 59) rfl rfl Tryd.func47 (by kernel_rfl) rfl #[.string t107] rfl (by (try simp only [List.map_toArray, List.map_cons, List.map_nil]); first | done | rfl | (simp only [List.length_drop, List.length_take]; rfl)) ?_; (with_reducible refine (spec_l17Number.calls kj10 t107 t113 _ A20.out).mono ?_); rintro e w' ⟨rfl, ⟨nd, rfl⟩⟩; refine ⟨_, rfl, ?_⟩))
         go_ret3
         exact ⟨by first | rfl | (simp; done) | (simp [*]; done), by repeat (first | exact Drawn0.refl _ | apply Drawn0.step)⟩
     ·rw [if_neg c8] at H
      exact absurd H (by simp)
    ·rw [if_neg c7] at H
     exact absurd H (by simp)

/-! ### stringslite_HasPrefix: function 112 -/
def stringslite_HasPrefix.f (a0 : ByteArray) (a1 : ByteArray) : Option (Bool) := if (a0.size : Int) ≥ (a1.size : Int) then (if 0 ≤ (a1.size : Int) then (if (a1.size : Int) ≤ (a0.size : Int) then (some ((a0.extract 0 ((a1.size : Int) : Int).toNat).toList == a1.toList)) else (none)) else (none)) else (some false)
set_option maxHeartbeats 64000000 in
set_option maxRecDepth 100000 in
theorem stringslite_HasPrefix.calls (a0 : ByteArray) (a1 : ByteArray) (r : Bool) (w : World) (h : stringslite_HasPrefix.f a0 a1 = some r) :
  Calls Tryd.prog 112 #[.string a0, .string a1] w fun e w' => e = .returned (.bool r) ∧ Drawn0 w w' := by
 have H : (if (a0.size : Int) ≥ (a1.size : Int) then (if 0 ≤ (a1.size : Int) then (if (a1.size : Int) ≤ (a0.size : Int) then (some ((a0.extract 0 ((a1.size : Int) : Int).toNat).toList == a1.toList)) else (none)) else (none)) else (some false)) = some r := h
 clear h
 by_cases c3 : (a0.size : Int) ≥ (a1.size : Int)
 ·rw [if_pos c3] at H
  have c3b0 : decide ((a1.size : Int) ≤ (a0.size : Int)) = true := decide_eq_true c3
  have c3b1 : decide (a1.size ≤ a0.size) = true := decide_eq_true (Int.ofNat_le.mp c3)
  clear c3
  by_cases c4 : 0 ≤ (a1.size : Int)
  ·rw [if_pos c4] at H
   have c4b0 := eq_true c4
   have c4b1 : decide (0 ≤ (a1.size : Int)) = true := decide_eq_true c4
   clear c4
   by_cases c5 : (a1.size : Int) ≤ (a0.size : Int)
   ·rw [if_pos c5] at H
    have c5b0 := eq_true c5
    have c5b1 : decide ((a1.size : Int) ≤ (a0.size : Int)) = true := decide_eq_true c5
    clear c5
    obtain rfl := Option.some.inj H
    go_enter Tryd.func112, Tryd.ntmps112
    go_wp2
    go_ret
    exact ⟨by first | rfl | (simp; done) | (simp [*]; done), by repeat (first | exact Drawn0.refl _ | apply Drawn0.step)⟩
   ·rw [if_neg c5] at H
    exact absurd H (by simp)
  ·rw [if_neg c4] at H
   exact absurd H (by simp)
 ·rw [if_neg c3] at H
  have c3b0 : decide ((a1.size : Int) ≤ (a0.size : Int)) = false := decide_eq_false c3
  have c3b1 : decide (a1.size ≤ a0.size) = false := decide_eq_false (fun h => c3 (Int.ofNat_le.mpr h))
  clear c3
  obtain rfl := Option.some.inj H
  go_enter Tryd.func112, Tryd.ntmps112
  go_wp2
  go_ret
  exact ⟨by first | rfl | (simp; done) | (simp [*]; done), by repeat (first | exact Drawn0.refl _ | apply Drawn0.step)⟩

/-! ### stringslite_TrimPrefix: function 83 -/
def stringslite_TrimPrefix.f (a0 : ByteArray) (a1 : ByteArray) : Option (ByteArray) := (stringslite_HasPrefix.f a0 a1).bind fun t114 => (if t114 = true then (if 0 ≤ (a1.size : Int) then (if (a1.size : Int) ≤ (a0.size : Int) then (some (a0.extract ((a1.size : Int) : Int).toNat a0.size)) else (none)) else (none)) else (some a0))
set_option maxHeartbeats 64000000 in
set_option maxRecDepth 100000 in
theorem stringslite_TrimPrefix.calls (a0 : ByteArray) (a1 : ByteArray) (r : ByteArray) (w : World) (h : stringslite_TrimPrefix.f a0 a1 = some r) :
  Calls Tryd.prog 83 #[.string a0, .string a1] w fun e w' => e = .returned (.string r) ∧ Drawn0 w w' := by
 have H : ((stringslite_HasPrefix.f a0 a1).bind fun t114 => (if t114 = true then (if 0 ≤ (a1.size : Int) then (if (a1.size : Int) ≤ (a0.size : Int) then (some (a0.extract ((a1.size : Int) : Int).toNat a0.size)) else (none)) else (none)) else (some a0))) = some r := h
 clear h
 replace H := Option.bind_eq_some_iff.mp H
 obtain ⟨t114, A30, H⟩ := H
 replace H : (if t114 = true then (if 0 ≤ (a1.size : Int) then (if (a1.size : Int) ≤ (a0.size : Int) then (some (a0.extract ((a1.size : Int) : Int).toNat a0.size)) else (none)) else (none)) else (some a0)) = some r := H
 have A3 := Aside0.mk A30
 clear A30
 by_cases c4 : t114 = true
 ·subst c4
  have H1 : (if 0 ≤ (a1.size : Int) then (if (a1.size : Int) ≤ (a0.size : Int) then (some (a0.extract ((a1.size : Int) : Int).toNat a0.size)) else (none)) else (none)) = some r := by rw [if_pos rfl] at H; exact H
  clear H
  have H := H1
  clear H1
  by_cases c5 : 0 ≤ (a1.size : Int)
  ·rw [if_pos c5] at H
   have c5b0 := eq_true c5
   have c5b1 : decide (0 ≤ (a1.size : Int)) = true := decide_eq_true c5
   clear c5
   by_cases c6 : (a1.size : Int) ≤ (a0.size : Int)
   ·rw [if_pos c6] at H
    have c6b0 := eq_true c6
    have c6b1 : decide ((a1.size : Int) ≤ (a0.size : Int)) = true := decide_eq_true c6
    clear c6
    obtain rfl := Option.some.inj H
    go_enter Tryd.func83, Tryd.ntmps83
    go_wp2_with (first | ((with_reducible refine gate_callee (f := 112) rfl ?_); refine goesL_ (some 7) rfl rfl Tryd.func112 (by kernel_rfl) rfl #[.string a0, .string a1] rfl (by (try simp only [List.map_toArray, List.map_cons, List.map_nil]); first | done | rfl | (simp only [List.length_drop, List.length_take]; rfl)) ?_; (with_reducible refine (stringslite_HasPrefix.calls a0 a1 true _ A3.out).mono ?_); rintro e w' ⟨rfl, ⟨nd, rfl⟩⟩; refine ⟨_, rfl, ?_⟩))
    go_ret
    exact ⟨by first | rfl | (simp; done) | (simp [*]; done), by repeat (first | exact Drawn0.refl _ | apply Drawn0.step)⟩
   ·rw [if_neg c6] at H
    exact absurd H (by simp)
  ·rw [if_neg c5] at H
   exact absurd H (by simp)
 ·replace c4 := Bool.eq_false_iff.mpr c4
  subst c4
  have H1 : (some a0) = some r := by rw [if_neg (show ¬ (false = true) by decide)] at H; exact H
  clear H
  have H := H1
  clear H1
  obtain rfl := Option.some.inj H
  go_enter Tryd.func83, Tryd.ntmps83
  go_wp2_with (first | ((with_reducible refine gate_callee (f := 112) rfl ?_); refine goesL_ (some 7) rfl rfl Tryd.func112 (by kernel_rfl) rfl #[.string a0, .string a1] rfl (by (try simp only [List.map_toArray, List.map_cons, List.map_nil]); first | done | rfl | (simp only [List.length_drop, List.length_take]; rfl)) ?_; (with_reducible refine (stringslite_HasPrefix.calls a0 a1 false _ A3.out).mono ?_); rintro e w' ⟨rfl, ⟨nd, rfl⟩⟩; refine ⟨_, rfl, ?_⟩))
  go_ret
  exact ⟨by first | rfl | (simp; done) | (simp [*]; done), by repeat (first | exact Drawn0.refl _ | apply Drawn0.step)⟩

/-! ### strings_TrimPrefix: function 48 -/
def strings_TrimPrefix.f (a0 : ByteArray) (a1 : ByteArray) : Option (ByteArray) := (stringslite_TrimPrefix.f a0 a1).bind fun t115 => (some t115)
set_option maxHeartbeats 64000000 in
set_option maxRecDepth 100000 in
theorem strings_TrimPrefix.calls (a0 : ByteArray) (a1 : ByteArray) (r : ByteArray) (w : World) (h : strings_TrimPrefix.f a0 a1 = some r) :
  Calls Tryd.prog 48 #[.string a0, .string a1] w fun e w' => e = .returned (.string r) ∧ Drawn0 w w' := by
 have H : ((stringslite_TrimPrefix.f a0 a1).bind fun t115 => (some t115)) = some r := h
 clear h
 replace H := Option.bind_eq_some_iff.mp H
 obtain ⟨t115, A30, H⟩ := H
 replace H : (some t115) = some r := H
 have A3 := Aside0.mk A30
 clear A30
 obtain rfl := Option.some.inj H
 go_enter Tryd.func48, Tryd.ntmps48
 go_wp2_with (first | ((with_reducible refine gate_callee (f := 83) rfl ?_); refine goesL_ (some 7) rfl rfl Tryd.func83 (by kernel_rfl) rfl #[.string a0, .string a1] rfl (by (try simp only [List.map_toArray, List.map_cons, List.map_nil]); first | done | rfl | (simp only [List.length_drop, List.length_take]; rfl)) ?_; (with_reducible refine (stringslite_TrimPrefix.calls a0 a1 t115 _ A3.out).mono ?_); rintro e w' ⟨rfl, ⟨nd, rfl⟩⟩; refine ⟨_, rfl, ?_⟩))
 go_ret
 exact ⟨by first | rfl | (simp; done) | (simp [*]; done), by repeat (first | exact Drawn0.refl _ | apply Drawn0.step)⟩

-- NOT PRINTED: function 157 (bytealg_IndexByteString)

/-! ### stringslite_IndexByte: function 138 -/
def stringslite_IndexByte.f (a0 : ByteArray) (a1 : Int) : Option (Int) := some (Lib.indexByte a0.data.toList a1.toNat.toUInt8)
set_option maxHeartbeats 1000000 in
set_option maxRecDepth 100000 in
theorem stringslite_IndexByte.calls (a0 : ByteArray) (a1 : Int) (r : Int) (w : World) (h : stringslite_IndexByte.f a0 a1 = some r) :
    Calls Tryd.prog 138 #[.string a0, .int .u8 a1] w fun e w' => e = .returned (.int .i64 r) ∧ Drawn0 w w' := by
  obtain rfl := Option.some.inj h
  clear h
  go_enter Tryd.func138, Tryd.ntmps138
  go_wp2
  rw [run_callFunc_extern Tryd.func157 (by kernel_rfl) (by kernel_rfl) (by kernel_rfl) (e := Extern.BytealgIndexByte.indexByte) (by kernel_rfl), Lib.run_indexByteString]
  simp only [Result.andThen]
  rw [Oper.upon_value]
  go_wp2
  go_ret
  exact ⟨rfl, Drawn0.refl _⟩

-- NOT PRINTED: function 139 (bytealg_IndexString)

-- NOT PRINTED: function 140 (bytealg_Cutover)

-- NOT PRINTED: function 158 (bytealg_hashStr_string)

-- NOT PRINTED: function 141 (bytealg_IndexRabinKarp_string)

-- NOT PRINTED: function 113 (stringslite_Index)

-- NOT PRINTED: function 84 (stringslite_Cut)

-- NOT PRINTED: function 49 (strings_Cut)

-- NOT PRINTED: function 159 (strconv_lower)

-- NOT PRINTED: function 160 (strconv_underscoreOK)

-- NOT PRINTED: function 142 (strconv_ParseUint)

-- NOT PRINTED: function 114 (strconv_ParseInt)

-- NOT PRINTED: function 85 (strconv_Atoi_85)

-- NOT PRINTED: function 143 (stringslite_Clone)

-- NOT PRINTED: function 115 (strconv_syntaxError)

-- NOT PRINTED: function 116 (strconv_rangeError)

-- NOT PRINTED: function 161 (strconv_small)

-- NOT PRINTED: function 169 (strconv_log10Pow2)

-- NOT PRINTED: function 170 (bits_Len64)

-- NOT PRINTED: function 171 (strconv_bool2_int)

-- NOT PRINTED: function 162 (strconv_numDigits)

-- NOT PRINTED: function 163 (strconv_formatBase10)

-- NOT PRINTED: function 172 (strconv_isPowerOfTwo)

-- NOT PRINTED: function 177 (bits_TrailingZeros32)

-- NOT PRINTED: function 178 (bits_TrailingZeros64)

-- NOT PRINTED: function 173 (bits_TrailingZeros)

-- NOT PRINTED: function 164 (strconv_formatBits)

-- NOT PRINTED: function 145 (strconv_FormatInt)

-- NOT PRINTED: function 121 (strconv_Itoa_121)

-- NOT PRINTED: function 90 (strconv_Itoa_90)

-- NOT PRINTED: function 144 (errors_New)

-- NOT PRINTED: function 117 (strconv_baseError)

-- NOT PRINTED: function 118 (strconv_bitSizeError)

-- NOT PRINTED: function 86 (strconv_toError)

-- NOT PRINTED: function 50 (strconv_Atoi_50)

/-! ### stringslite_HasSuffix: function 119 -/
def stringslite_HasSuffix.f (a0 : ByteArray) (a1 : ByteArray) : Option (Bool) := if (a0.size : Int) ≥ (a1.size : Int) then (if 0 ≤ (wrap64 ((a0.size : Int) - (a1.size : Int))) then (if (wrap64 ((a0.size : Int) - (a1.size : Int))) ≤ (a0.size : Int) then (some ((a0.extract ((wrap64 ((a0.size : Int) - (a1.size : Int))) : Int).toNat a0.size).toList == a1.toList)) else (none)) else (none)) else (some false)
set_option maxHeartbeats 64000000 in
set_option maxRecDepth 100000 in
theorem stringslite_HasSuffix.calls (a0 : ByteArray) (a1 : ByteArray) (r : Bool) (w : World) (h : stringslite_HasSuffix.f a0 a1 = some r) :
  Calls Tryd.prog 119 #[.string a0, .string a1] w fun e w' => e = .returned (.bool r) ∧ Drawn0 w w' := by
 have H : (if (a0.size : Int) ≥ (a1.size : Int) then (if 0 ≤ (wrap64 ((a0.size : Int) - (a1.size : Int))) then (if (wrap64 ((a0.size : Int) - (a1.size : Int))) ≤ (a0.size : Int) then (some ((a0.extract ((wrap64 ((a0.size : Int) - (a1.size : Int))) : Int).toNat a0.size).toList == a1.toList)) else (none)) else (none)) else (some false)) = some r := h
 clear h
 by_cases c3 : (a0.size : Int) ≥ (a1.size : Int)
 ·rw [if_pos c3] at H
  have c3b0 : decide ((a1.size : Int) ≤ (a0.size : Int)) = true := decide_eq_true c3
  have c3b1 : decide (a1.size ≤ a0.size) = true := decide_eq_true (Int.ofNat_le.mp c3)
  clear c3
  obtain ⟨ji4, hji4⟩ : ∃ j_ : Int, (wrap64 ((a0.size : Int) - (a1.size : Int))) = j_ := ⟨_, rfl⟩
  replace H : (if 0 ≤ (ji4) then (if (ji4) ≤ (a0.size : Int) then (some ((a0.extract ((ji4) : Int).toNat a0.size).toList == a1.toList)) else (none)) else (none)) = some r := by first | (rw [hji4] at H; exact H) | (simp only [hji4] at H ⊢; exact H)
  have hji4w : (IntKind.i64.wrap ((a0.size : Int) - (a1.size : Int))) = ji4 := (i64_w _).trans hji4
  by_cases c5 : 0 ≤ (ji4)
  ·rw [if_pos c5] at H
   have c5b0 := eq_true c5
   have c5b1 : decide (0 ≤ (ji4)) = true := decide_eq_true c5
   clear c5
   by_cases c6 : (ji4) ≤ (a0.size : Int)
   ·rw [if_pos c6] at H
    have c6b0 := eq_true c6
    have c6b1 : decide ((ji4) ≤ (a0.size : Int)) = true := decide_eq_true c6
    clear c6
    obtain rfl := Option.some.inj H
    go_enter Tryd.func119, Tryd.ntmps119
    go_wp2
    go_ret
    exact ⟨by first | rfl | (simp; done) | (simp only [← hji4] <;> (first | rfl | (simp; done))) | (simp only [← hji4, i64_w] <;> (first | rfl | (simp; done))) | (simp [*]; done), by repeat (first | exact Drawn0.refl _ | apply Drawn0.step)⟩
   ·rw [if_neg c6] at H
    exact absurd H (by simp)
  ·rw [if_neg c5] at H
   exact absurd H (by simp)
 ·rw [if_neg c3] at H
  have c3b0 : decide ((a1.size : Int) ≤ (a0.size : Int)) = false := decide_eq_false c3
  have c3b1 : decide (a1.size ≤ a0.size) = false := decide_eq_false (fun h => c3 (Int.ofNat_le.mpr h))
  clear c3
  obtain rfl := Option.some.inj H
  go_enter Tryd.func119, Tryd.ntmps119
  go_wp2
  go_ret
  exact ⟨by first | rfl | (simp; done) | (simp [*]; done), by repeat (first | exact Drawn0.refl _ | apply Drawn0.step)⟩

/-! ### stringslite_TrimSuffix: function 87 -/
def stringslite_TrimSuffix.f (a0 : ByteArray) (a1 : ByteArray) : Option (ByteArray) := (stringslite_HasSuffix.f a0 a1).bind fun t117 => (if t117 = true then (if 0 ≤ (wrap64 ((a0.size : Int) - (a1.size : Int))) then (if (wrap64 ((a0.size : Int) - (a1.size : Int))) ≤ (a0.size : Int) then (some (a0.extract 0 ((wrap64 ((a0.size : Int) - (a1.size : Int))) : Int).toNat)) else (none)) else (none)) else (some a0))
set_option maxHeartbeats 64000000 in
set_option maxRecDepth 100000 in
theorem stringslite_TrimSuffix.calls (a0 : ByteArray) (a1 : ByteArray) (r : ByteArray) (w : World) (h : stringslite_TrimSuffix.f a0 a1 = some r) :
  Calls Tryd.prog 87 #[.string a0, .string a1] w fun e w' => e = .returned (.string r) ∧ Drawn0 w w' := by
 have H : ((stringslite_HasSuffix.f a0 a1).bind fun t117 => (if t117 = true then (if 0 ≤ (wrap64 ((a0.size : Int) - (a1.size : Int))) then (if (wrap64 ((a0.size : Int) - (a1.size : Int))) ≤ (a0.size : Int) then (some (a0.extract 0 ((wrap64 ((a0.size : Int) - (a1.size : Int))) : Int).toNat)) else (none)) else (none)) else (some a0))) = some r := h
 clear h
 replace H := Option.bind_eq_some_iff.mp H
 obtain ⟨t117, A30, H⟩ := H
 replace H : (if t117 = true then (if 0 ≤ (wrap64 ((a0.size : Int) - (a1.size : Int))) then (if (wrap64 ((a0.size : Int) - (a1.size : Int))) ≤ (a0.size : Int) then (some (a0.extract 0 ((wrap64 ((a0.size : Int) - (a1.size : Int))) : Int).toNat)) else (none)) else (none)) else (some a0)) = some r := H
 have A3 := Aside0.mk A30
 clear A30
 by_cases c4 : t117 = true
 ·subst c4
  have H1 : (if 0 ≤ (wrap64 ((a0.size : Int) - (a1.size : Int))) then (if (wrap64 ((a0.size : Int) - (a1.size : Int))) ≤ (a0.size : Int) then (some (a0.extract 0 ((wrap64 ((a0.size : Int) - (a1.size : Int))) : Int).toNat)) else (none)) else (none)) = some r := by rw [if_pos rfl] at H; exact H
  clear H
  have H := H1
  clear H1
  obtain ⟨ji5, hji5⟩ : ∃ j_ : Int, (wrap64 ((a0.size : Int) - (a1.size : Int))) = j_ := ⟨_, rfl⟩
  replace H : (if 0 ≤ (ji5) then (if (ji5) ≤ (a0.size : Int) then (some (a0.extract 0 ((ji5) : Int).toNat)) else (none)) else (none)) = some r := by first | (rw [hji5] at H; exact H) | (simp only [hji5] at H ⊢; exact H)
  (try rw [hji5] at A3)
  have hji5w : (IntKind.i64.wrap ((a0.size : Int) - (a1.size : Int))) = ji5 := (i64_w _).trans hji5
  by_cases c6 : 0 ≤ (ji5)
  ·rw [if_pos c6] at H
   have c6b0 := eq_true c6
   have c6b1 : decide (0 ≤ (ji5)) = true := decide_eq_true c6
   clear c6
   by_cases c7 : (ji5) ≤ (a0.size : Int)
   ·rw [if_pos c7] at H
    have c7b0 := eq_true c7
    have c7b1 : decide ((ji5) ≤ (a0.size : Int)) = true := decide_eq_true c7
    clear c7
    obtain rfl := Option.some.inj H
    go_enter Tryd.func87, Tryd.ntmps87
    go_wp2_with (first | ((with_reducible refine gate_callee (f := 119) rfl ?_); refine goesL_ (some 7) rfl rfl Tryd.func119 (by kernel_rfl) rfl #[.string a0, .string a1] rfl (by (try simp only [List.map_toArray, List.map_cons, List.map_nil]); first | done | rfl | (simp only [List.length_drop, List.length_take]; rfl)) ?_; (with_reducible refine (stringslite_HasSuffix.calls a0 a1 true _ A3.out).mono ?_); rintro e w' ⟨rfl, ⟨nd, rfl⟩⟩; refine ⟨_, rfl, ?_⟩))
    go_ret
    exact ⟨by first | rfl | (simp; done) | (simp only [← hji5] <;> (first | rfl | (simp; done))) | (simp only [← hji5, i64_w] <;> (first | rfl | (simp; done))) | (simp [*]; done), by repeat (first | exact Drawn0.refl _ | apply Drawn0.step)⟩
   ·rw [if_neg c7] at H
    exact absurd H (by simp)
  ·rw [if_neg c6] at H
   exact absurd H (by simp)
 ·replace c4 := Bool.eq_false_iff.mpr c4
  subst c4
  have H1 : (some a0) = some r := by rw [if_neg (show ¬ (false = true) by decide)] at H; exact H
  clear H
  have H := H1
  clear H1
  obtain rfl := Option.some.inj H
  go_enter Tryd.func87, Tryd.ntmps87
  go_wp2_with (first | ((with_reducible refine gate_callee (f := 119) rfl ?_); refine goesL_ (some 7) rfl rfl Tryd.func119 (by kernel_rfl) rfl #[.string a0, .string a1] rfl (by (try simp only [List.map_toArray, List.map_cons, List.map_nil]); first | done | rfl | (simp only [List.length_drop, List.length_take]; rfl)) ?_; (with_reducible refine (stringslite_HasSuffix.calls a0 a1 false _ A3.out).mono ?_); rintro e w' ⟨rfl, ⟨nd, rfl⟩⟩; refine ⟨_, rfl, ?_⟩))
  go_ret
  exact ⟨by first | rfl | (simp; done) | (simp [*]; done), by repeat (first | exact Drawn0.refl _ | apply Drawn0.step)⟩

/-! ### strings_TrimSuffix: function 51 -/
def strings_TrimSuffix.f (a0 : ByteArray) (a1 : ByteArray) : Option (ByteArray) := (stringslite_TrimSuffix.f a0 a1).bind fun t118 => (some t118)
set_option maxHeartbeats 64000000 in
set_option maxRecDepth 100000 in
theorem strings_TrimSuffix.calls (a0 : ByteArray) (a1 : ByteArray) (r : ByteArray) (w : World) (h : strings_TrimSuffix.f a0 a1 = some r) :
  Calls Tryd.prog 51 #[.string a0, .string a1] w fun e w' => e = .returned (.string r) ∧ Drawn0 w w' := by
 have H : ((stringslite_TrimSuffix.f a0 a1).bind fun t118 => (some t118)) = some r := h
 clear h
 replace H := Option.bind_eq_some_iff.mp H
 obtain ⟨t118, A30, H⟩ := H
 replace H : (some t118) = some r := H
 have A3 := Aside0.mk A30
 clear A30
 obtain rfl := Option.some.inj H
 go_enter Tryd.func51, Tryd.ntmps51
 go_wp2_with (first | ((with_reducible refine gate_callee (f := 87) rfl ?_); refine goesL_ (some 7) rfl rfl Tryd.func87 (by kernel_rfl) rfl #[.string a0, .string a1] rfl (by (try simp only [List.map_toArray, List.map_cons, List.map_nil]); first | done | rfl | (simp only [List.length_drop, List.length_take]; rfl)) ?_; (with_reducible refine (stringslite_TrimSuffix.calls a0 a1 t118 _ A3.out).mono ?_); rintro e w' ⟨rfl, ⟨nd, rfl⟩⟩; refine ⟨_, rfl, ?_⟩))
 go_ret
 exact ⟨by first | rfl | (simp; done) | (simp [*]; done), by repeat (first | exact Drawn0.refl _ | apply Drawn0.step)⟩

/-! ### impl_in: function 33 -/
def impl_in.f (a0 : Int) (a1 : Int) (a2 : Int) : Option (Bool) := if a0 ≥ a1 then (some (decide (a0 ≤ a2))) else (some false)
set_option maxHeartbeats 64000000 in
set_option maxRecDepth 100000 in
theorem impl_in.calls (a0 : Int) (a1 : Int) (a2 : Int) (r : Bool) (w : World) (h : impl_in.f a0 a1 a2 = some r) :
  Calls Tryd.prog 33 #[.int .i64 a0, .int .i64 a1, .int .i64 a2] w fun e w' => e = .returned (.bool r) ∧ Drawn0 w w' := by
 have H : (if a0 ≥ a1 then (some (decide (a0 ≤ a2))) else (some false)) = some r := h
 clear h
 by_cases c4 : a0 ≥ a1
 ·rw [if_pos c4] at H
  have c4b0 : decide (a1 ≤ a0) = true := decide_eq_true c4
  clear c4
  obtain rfl := Option.some.inj H
  go_enter Tryd.func33, Tryd.ntmps33
  go_wp2
  go_ret
  exact ⟨by first | rfl | (simp; done) | (simp [*]; done), by repeat (first | exact Drawn0.refl _ | apply Drawn0.step)⟩
 ·rw [if_neg c4] at H
  have c4b0 : decide (a1 ≤ a0) = false := decide_eq_false c4
  clear c4
  obtain rfl := Option.some.inj H
  go_enter Tryd.func33, Tryd.ntmps33
  go_wp2
  go_ret
  exact ⟨by first | rfl | (simp; done) | (simp [*]; done), by repeat (first | exact Drawn0.refl _ | apply Drawn0.step)⟩

/-! ### strings_IndexByte: function 120 -/
def strings_IndexByte.f (a0 : ByteArray) (a1 : Int) : Option (Int) := (stringslite_IndexByte.f a0 a1).bind fun t119 => (some t119)
set_option maxHeartbeats 64000000 in
set_option maxRecDepth 100000 in
theorem strings_IndexByte.calls (a0 : ByteArray) (a1 : Int) (r : Int) (w : World) (h : strings_IndexByte.f a0 a1 = some r) :
  Calls Tryd.prog 120 #[.string a0, .int .u8 a1] w fun e w' => e = .returned (.int .i64 r) ∧ Drawn0 w w' := by
 have H : ((stringslite_IndexByte.f a0 a1).bind fun t119 => (some t119)) = some r := h
 clear h
 replace H := Option.bind_eq_some_iff.mp H
 obtain ⟨t119, A30, H⟩ := H
 replace H : (some t119) = some r := H
 have A3 := Aside0.mk A30
 clear A30
 obtain rfl := Option.some.inj H
 go_enter Tryd.func120, Tryd.ntmps120
 go_wp2_with (first | ((with_reducible refine gate_callee (f := 138) rfl ?_); refine goesL_ (some 7) rfl rfl Tryd.func138 (by kernel_rfl) rfl #[.string a0, .int .u8 a1] rfl (by (try simp only [List.map_toArray, List.map_cons, List.map_nil]); first | done | rfl | (simp only [List.length_drop, List.length_take]; rfl)) ?_; (with_reducible refine (stringslite_IndexByte.calls a0 a1 t119 _ A3.out).mono ?_); rintro e w' ⟨rfl, ⟨nd, rfl⟩⟩; refine ⟨_, rfl, ?_⟩))
 go_ret
 exact ⟨by first | rfl | (simp; done) | (simp [*]; done), by repeat (first | exact Drawn0.refl _ | apply Drawn0.step)⟩

/-! ### impl_isHost: function 88 -/
/-- The signs of a host. -/
def hostSigns : ByteArray := ⟨#[97, 98, 99, 100, 101, 102, 103, 104, 105, 106, 107, 108, 109, 110, 111, 112, 113, 114, 115, 116, 117, 118, 119, 120, 121, 122, 48, 49, 50, 51, 52, 53, 54, 55, 56, 57, 46, 45]⟩
def hostSign (c : Int) : Bool := decide (0 ≤ Lib.indexByte hostSigns.data.toList c.toNat.toUInt8)
/-- Are the bytes of s from i on all such? -/
def hostAll (s : ByteArray) : Bool := decide (∀ i : Nat, i < s.size → hostSign (bt s (i : Int)) = true)
def impl_isHost.f (a0 : ByteArray) : Option (Bool) := if a0.size ≤ 9223372036854775807 then (some (hostAll a0 && decide (1 ≤ (a0.size : Int) ∧ (a0.size : Int) ≤ 60))) else none
set_option maxHeartbeats 4000000 in
set_option maxRecDepth 100000 in
theorem impl_isHost.calls (a0 : ByteArray) (r : Bool) (w : World) (h : impl_isHost.f a0 = some r) :
    Calls Tryd.prog 88 #[.string a0] w fun e w' => e = .returned (.bool r) ∧ Drawn0 w w' := by
  have hs : a0.size ≤ 9223372036854775807 ∧ (hostAll a0 && decide (1 ≤ (a0.size : Int) ∧ (a0.size : Int) ≤ 60)) = r := by
    unfold impl_isHost.f at h
    split at h
    · exact ⟨by assumption, Option.some.inj h⟩
    · cases h
  clear h
  obtain ⟨hsz, hr⟩ := hs
  have HR := Aside0.mk hr
  clear hr
  go_enter Tryd.func88, Tryd.ntmps88
  go_wp2_with fail
  go_loopg [6] a0.size (fun gg v6 wr => ∃ kk : Nat, kk ≤ a0.size ∧ a0.size - kk ≤ gg ∧ v6 = .int .i64 kk ∧ Drawn0 w wr ∧ Aside0 (∀ i : Nat, i < kk → hostSign (bt a0 (i : Int)) = true))
  case atStart => exact ⟨0, Nat.zero_le _, by omega, rfl, by repeat (first | exact Drawn0.refl _ | apply Drawn0.step), ⟨fun i hi => absurd hi (Nat.not_lt_zero _)⟩⟩
  case round =>
    obtain ⟨kk, hkk, hg, rfl, ⟨m1, rfl⟩, AL⟩ := hrel
    by_cases hlt : kk < a0.size
    · have hx4 := bt_at a0 (kk : Int)
      rw [Int.toNat_natCast] at hx4
      have hcall : ∀ W, Calls Tryd.prog 120 #[.string hostSigns, .int .u8 (bt a0 (kk : Int))] W fun e w' => e = .returned (.int .i64 (Lib.indexByte hostSigns.data.toList (bt a0 (kk : Int)).toNat.toUInt8)) ∧ Drawn0 W w' :=
        fun W => strings_IndexByte.calls _ _ _ W (by unfold strings_IndexByte.f stringslite_IndexByte.f; rfl)
      have hq : decide (0 ≤ Lib.indexByte hostSigns.data.toList (bt a0 (kk : Int)).toNat.toUInt8) = hostSign (bt a0 (kk : Int)) := rfl
      generalize Lib.indexByte hostSigns.data.toList (bt a0 (kk : Int)).toNat.toUInt8 = q at hcall hq
      cases hh : hostSign (bt a0 (kk : Int)) with
      | true =>
        rw [hh] at hq
        have hq1 : decide (q < 0) = false := decide_eq_false (by have := of_decide_eq_true hq; omega)
        have AH := Aside0.mk hh
        clear hq hh
        go_wp2_with fail
        refine (hcall _).mono ?_
        rintro e w' ⟨rfl, ⟨m2, rfl⟩⟩
        clear hcall
        go_wp2
        go_roundg (a0.size - (kk + 1))
        case measure => omega
        case rel =>
          refine ⟨kk + 1, by omega, by omega, by go_num, by repeat (first | exact Drawn0.refl _ | apply Drawn0.step), ⟨fun i hi => ?_⟩⟩
          by_cases e : i = kk
          · subst e; exact AH.out
          · exact AL.out i (by omega)
      | false =>
        rw [hh] at hq
        have hq1 : decide (q < 0) = true := decide_eq_true (by have := of_decide_eq_false hq; omega)
        have hf : hostAll a0 = false := decide_eq_false (fun h => by have := h kk hlt; rw [hh] at this; cases this)
        have hr := HR.out
        rw [hf, Bool.false_and] at hr
        subst hr
        clear hq hh hf
        go_wp2_with fail
        refine (hcall _).mono ?_
        rintro e w' ⟨rfl, ⟨m2, rfl⟩⟩
        clear hcall
        go_wp2
        go_ret
        exact ⟨rfl, by repeat (first | exact Drawn0.refl _ | apply Drawn0.step)⟩
    · have e : kk = a0.size := by omega
      subst e
      have hf : hostAll a0 = true := decide_eq_true AL.out
      have hr := HR.out
      rw [hf, Bool.true_and] at hr
      have hin : impl_in.f (a0.size : Int) 1 60 = some r := by
        rw [← hr]
        unfold impl_in.f
        by_cases h1 : (a0.size : Int) ≥ 1
        · rw [if_pos h1]
          by_cases h2 : (a0.size : Int) ≤ 60 <;> simp [h1, h2]
        · rw [if_neg h1]
          simp [show ¬ (1 : Int) ≤ (a0.size : Int) from h1]
      have HIN := Aside0.mk hin
      clear hr hf hin
      go_wp2_with fail
      refine (impl_in.calls _ _ _ r _ HIN.out).mono ?_
      rintro e w' ⟨rfl, ⟨m2, rfl⟩⟩
      go_wp2
      go_ret
      exact ⟨rfl, by repeat (first | exact Drawn0.refl _ | apply Drawn0.step)⟩

/-! ### impl_isPort: function 89 -/
def impl_isPort.f (a0 : Int) : Option (Bool) := (impl_in.f a0 1 65535).bind fun t120 => (some t120)
set_option maxHeartbeats 64000000 in
set_option maxRecDepth 100000 in
theorem impl_isPort.calls (a0 : Int) (r : Bool) (w : World) (h : impl_isPort.f a0 = some r) :
  Calls Tryd.prog 89 #[.int .i64 a0] w fun e w' => e = .returned (.bool r) ∧ Drawn0 w w' := by
 have H : ((impl_in.f a0 1 65535).bind fun t120 => (some t120)) = some r := h
 clear h
 replace H := Option.bind_eq_some_iff.mp H
 obtain ⟨t120, A20, H⟩ := H
 replace H : (some t120) = some r := H
 have A2 := Aside0.mk A20
 clear A20
 obtain rfl := Option.some.inj H
 go_enter Tryd.func89, Tryd.ntmps89
 go_wp2_with (first | ((with_reducible refine gate_callee (f := 33) rfl ?_); refine goesL_ (some 4) rfl rfl Tryd.func33 (by kernel_rfl) rfl #[.int .i64 a0, .int .i64 1, .int .i64 65535] rfl (by (try simp only [List.map_toArray, List.map_cons, List.map_nil]); first | done | rfl | (simp only [List.length_drop, List.length_take]; rfl)) ?_; (with_reducible refine (impl_in.calls a0 1 65535 t120 _ A2.out).mono ?_); rintro e w' ⟨rfl, ⟨nd, rfl⟩⟩; refine ⟨_, rfl, ?_⟩))
 go_ret
 exact ⟨by first | rfl | (simp; done) | (simp [*]; done), by repeat (first | exact Drawn0.refl _ | apply Drawn0.step)⟩

-- NOT PRINTED: function 52 (impl_TargetPath)

-- NOT PRINTED: function 18 (impl_ParseTarget)

-- NOT PRINTED: function 5 (laws_FnExactParseTarget)

end Go.Proofs.YtilkginahmfagaaDoor.PFnExactParseTarget
