-- Written by a program of this session (wip/xprint.py).
import Derived.Test.YtpdoplkiaejpiaaPFnExactFrameBytesx0
import Derived.Test.YtpdoplkiaejpiaaPFnExactFrameBytesx1
namespace Go.Proofs.Ytpdoplkiaejpiaa.PFnExactFrameBytes
open Go.RowKit Go.Proofs.YtpdoplkiaejpiaaW.PrintWords Go.Proofs.YtpdoplkiaejpiaaW.PrintLast Go.Proofs.YtpdoplkiaejpiaaW.PrintMore
open Go.Proofs.Ytpdoplkiaejpiaa.ShortK (bN bD bA sA sZ sS mR mB bX bLt bS cz2 fz2 cx2 cz3 fz3 cx3 cz4 fz4 cx4 cz5 fz5 cx5 cz6 fz6 cx6 cz7 fz7 cx7 cz8 fz8 cx8 cz9 fz9 cx9 cz10 fz10 cx10 cz11 fz11 cx11 cz12 fz12 cx12)
attribute [local go_sem] Go.Proofs.Ytpdoplkiaejpiaa.StoreK.isSome_setCell max2_int min2_int max_two min_two max_three min_three max_four min_four   -- for this text's walks alone
set_option linter.unusedVariables false
set_option linter.unusedSimpArgs false

/-! ### spec_l1Var: function 93 -/
def spec_l1Var.f (k : Nat) (a0 : Int) : Option (ByteArray) := (spec_l1Size.f a0).bind fun t107 => (if t107 = 1 then ((spec_l1Fixed.f k a0 1).bind fun t108 => (some t108)) else (if t107 = 2 then ((spec_l1Fixed.f k (Go.bits .or .i64 a0 16384) 2).bind fun t109 => (some t109)) else (if t107 = 4 then ((spec_l1Fixed.f k (Go.bits .or .i64 a0 2147483648) 4).bind fun t110 => (some t110)) else ((spec_l1Fixed.f k (Go.bits .or .i64 a0 (-4611686018427387904)) 8).bind fun t111 => (some t111)))))
theorem spec_l1Var.mono : ∀ a0 k, LeO (spec_l1Var.f k a0) (spec_l1Var.f (k + 1) a0) := by
 intro a0 k
 unfold spec_l1Var.f
 repeat' first
   | (with_reducible exact spec_l1Fixed.mono _ _ _)
   | (with_reducible exact LeO.refl _)
   | (with_reducible exact LeO.none _)
   | (with_reducible refine LeO.ite ?_ ?_)
   | (with_reducible refine LeO.bind ?_ (fun _ => ?_))
   | exact spec_l1Fixed.mono _ _ _
   | exact LeO.none _
   | refine LeO.ite ?_ ?_
   | refine LeO.bind ?_ (fun _ => ?_)
set_option maxHeartbeats 64000000 in
set_option maxRecDepth 100000 in
theorem spec_l1Var.calls (k : Nat) (a0 : Int) (r : ByteArray) (w : World) (h : spec_l1Var.f k a0 = some r) :
  Calls Try.prog 93 #[.int .i64 a0] w fun e w' => e = .returned (.string r) ∧ Below w.heap.size w w' := by
 have HB := Aside0.mk (Below.refl w.heap.size w)
 have H : ((spec_l1Size.f a0).bind fun t107 => (if t107 = 1 then ((spec_l1Fixed.f k a0 1).bind fun t108 => (some t108)) else (if t107 = 2 then ((spec_l1Fixed.f k (Go.bits .or .i64 a0 16384) 2).bind fun t109 => (some t109)) else (if t107 = 4 then ((spec_l1Fixed.f k (Go.bits .or .i64 a0 2147483648) 4).bind fun t110 => (some t110)) else ((spec_l1Fixed.f k (Go.bits .or .i64 a0 (-4611686018427387904)) 8).bind fun t111 => (some t111)))))) = some r := h
 clear h
 replace H := Option.bind_eq_some_iff.mp H
 obtain ⟨t107, A20, H⟩ := H
 replace H : (if t107 = 1 then ((spec_l1Fixed.f k a0 1).bind fun t108 => (some t108)) else (if t107 = 2 then ((spec_l1Fixed.f k (Go.bits .or .i64 a0 16384) 2).bind fun t109 => (some t109)) else (if t107 = 4 then ((spec_l1Fixed.f k (Go.bits .or .i64 a0 2147483648) 4).bind fun t110 => (some t110)) else ((spec_l1Fixed.f k (Go.bits .or .i64 a0 (-4611686018427387904)) 8).bind fun t111 => (some t111))))) = some r := H
 have A2 := Aside0.mk A20
 clear A20
 by_cases c3 : t107 = 1
 ·rw [if_pos c3] at H
  have c3b0 : (t107 == 1) = true := beq_iff_eq.mpr c3
  have c3b1 : (t107 != 1) = false := bne_eq_false_iff_eq.mpr c3
  clear c3
  replace H := Option.bind_eq_some_iff.mp H
  obtain ⟨t108, A40, H⟩ := H
  replace H : (some t108) = some r := H
  have A4 := Aside0.mk A40
  clear A40
  obtain rfl := Option.some.inj H
  go_enter Try.func93, Try.ntmps93
  go_wp2_with (first | ((with_reducible refine gate_callee (f := 121) rfl ?_); refine goesL_ (some 4) rfl rfl Try.func121 (by kernel_rfl) rfl #[.int .i64 a0] rfl (by (try simp only [List.map_toArray, List.map_cons, List.map_nil]); first | done | rfl | (simp only [List.length_drop, List.length_take]; rfl)) ?_; (with_reducible refine (spec_l1Size.calls a0 t107 _ A2.out).mono ?_); rintro e w' ⟨rfl, ⟨nd, rfl⟩⟩; refine ⟨_, rfl, ?_⟩) | ((with_reducible refine gate_callee (f := 94) rfl ?_); refine goesL_ (some 8) rfl rfl Try.func94 (by kernel_rfl) rfl #[.int .i64 a0, .int .i64 1] rfl (by (try simp only [List.map_toArray, List.map_cons, List.map_nil]); first | done | rfl | (simp only [List.length_drop, List.length_take]; rfl)) ?_; (with_reducible refine (spec_l1Fixed.calls k a0 1 t108 _ A4.out).mono ?_); rintro e w5 ⟨rfl, hb⟩; refine ⟨_, rfl, ?_⟩; have n0_ := bS HB hb; clear HB; have HB := n0_; clear n0_; (try clear hb); (try clear hb2); (try clear hk); (try clear hi)))
  go_ret
  exact ⟨by first | rfl | (simp [errW_none, errW_some] <;> rfl) | (simp [*, errW_none, errW_some] <;> rfl), by repeat (first | (with_reducible first | exact HB.out | apply below_alloc | apply pw_below_drewN | apply below_drew1) | exact HB.out)⟩
 ·rw [if_neg c3] at H
  have c3b0 : (t107 == 1) = false := beq_eq_false_iff_ne.mpr c3
  have c3b1 : (t107 != 1) = true := bne_iff_ne.mpr c3
  by_cases c6 : t107 = 2
  ·rw [if_pos c6] at H
   have c6b0 : (t107 == 2) = true := beq_iff_eq.mpr c6
   have c6b1 : (t107 != 2) = false := bne_eq_false_iff_eq.mpr c6
   clear c6
   replace H := Option.bind_eq_some_iff.mp H
   obtain ⟨t109, A70, H⟩ := H
   replace H : (some t109) = some r := H
   have A7 := Aside0.mk A70
   clear A70
   obtain rfl := Option.some.inj H
   go_enter Try.func93, Try.ntmps93
   go_wp2_with (first | ((with_reducible refine gate_callee (f := 121) rfl ?_); refine goesL_ (some 4) rfl rfl Try.func121 (by kernel_rfl) rfl #[.int .i64 a0] rfl (by (try simp only [List.map_toArray, List.map_cons, List.map_nil]); first | done | rfl | (simp only [List.length_drop, List.length_take]; rfl)) ?_; (with_reducible refine (spec_l1Size.calls a0 t107 _ A2.out).mono ?_); rintro e w' ⟨rfl, ⟨nd, rfl⟩⟩; refine ⟨_, rfl, ?_⟩) | ((with_reducible refine gate_callee (f := 94) rfl ?_); refine goesL_ (some 13) rfl rfl Try.func94 (by kernel_rfl) rfl #[.int .i64 (Go.bits .or .i64 a0 16384), .int .i64 2] rfl (by (try simp only [List.map_toArray, List.map_cons, List.map_nil]); first | done | rfl | (simp only [List.length_drop, List.length_take]; rfl)) ?_; (with_reducible refine (spec_l1Fixed.calls k (Go.bits .or .i64 a0 16384) 2 t109 _ A7.out).mono ?_); rintro e w8 ⟨rfl, hb⟩; refine ⟨_, rfl, ?_⟩; have n0_ := bS HB hb; clear HB; have HB := n0_; clear n0_; (try clear hb); (try clear hb2); (try clear hk); (try clear hi)))
   go_ret
   exact ⟨by first | rfl | (simp [errW_none, errW_some] <;> rfl) | (simp [*, errW_none, errW_some] <;> rfl), by repeat (first | (with_reducible first | exact HB.out | apply below_alloc | apply pw_below_drewN | apply below_drew1) | exact HB.out)⟩
  ·rw [if_neg c6] at H
   have c6b0 : (t107 == 2) = false := beq_eq_false_iff_ne.mpr c6
   have c6b1 : (t107 != 2) = true := bne_iff_ne.mpr c6
   by_cases c9 : t107 = 4
   ·rw [if_pos c9] at H
    have c9b0 : (t107 == 4) = true := beq_iff_eq.mpr c9
    have c9b1 : (t107 != 4) = false := bne_eq_false_iff_eq.mpr c9
    clear c9
    replace H := Option.bind_eq_some_iff.mp H
    obtain ⟨t110, A100, H⟩ := H
    replace H : (some t110) = some r := H
    have A10 := Aside0.mk A100
    clear A100
    obtain rfl := Option.some.inj H
    go_enter Try.func93, Try.ntmps93
    go_wp2_with (first | ((with_reducible refine gate_callee (f := 121) rfl ?_); refine goesL_ (some 4) rfl rfl Try.func121 (by kernel_rfl) rfl #[.int .i64 a0] rfl (by (try simp only [List.map_toArray, List.map_cons, List.map_nil]); first | done | rfl | (simp only [List.length_drop, List.length_take]; rfl)) ?_; (with_reducible refine (spec_l1Size.calls a0 t107 _ A2.out).mono ?_); rintro e w' ⟨rfl, ⟨nd, rfl⟩⟩; refine ⟨_, rfl, ?_⟩) | ((with_reducible refine gate_callee (f := 94) rfl ?_); refine goesL_ (some 18) rfl rfl Try.func94 (by kernel_rfl) rfl #[.int .i64 (Go.bits .or .i64 a0 2147483648), .int .i64 4] rfl (by (try simp only [List.map_toArray, List.map_cons, List.map_nil]); first | done | rfl | (simp only [List.length_drop, List.length_take]; rfl)) ?_; (with_reducible refine (spec_l1Fixed.calls k (Go.bits .or .i64 a0 2147483648) 4 t110 _ A10.out).mono ?_); rintro e w11 ⟨rfl, hb⟩; refine ⟨_, rfl, ?_⟩; have n0_ := bS HB hb; clear HB; have HB := n0_; clear n0_; (try clear hb); (try clear hb2); (try clear hk); (try clear hi)))
    go_ret
    exact ⟨by first | rfl | (simp [errW_none, errW_some] <;> rfl) | (simp [*, errW_none, errW_some] <;> rfl), by repeat (first | (with_reducible first | exact HB.out | apply below_alloc | apply pw_below_drewN | apply below_drew1) | exact HB.out)⟩
   ·rw [if_neg c9] at H
    have c9b0 : (t107 == 4) = false := beq_eq_false_iff_ne.mpr c9
    have c9b1 : (t107 != 4) = true := bne_iff_ne.mpr c9
    replace H := Option.bind_eq_some_iff.mp H
    obtain ⟨t111, A120, H⟩ := H
    replace H : (some t111) = some r := H
    have A12 := Aside0.mk A120
    clear A120
    obtain rfl := Option.some.inj H
    go_enter Try.func93, Try.ntmps93
    go_wp2_with (first | ((with_reducible refine gate_callee (f := 121) rfl ?_); refine goesL_ (some 4) rfl rfl Try.func121 (by kernel_rfl) rfl #[.int .i64 a0] rfl (by (try simp only [List.map_toArray, List.map_cons, List.map_nil]); first | done | rfl | (simp only [List.length_drop, List.length_take]; rfl)) ?_; (with_reducible refine (spec_l1Size.calls a0 t107 _ A2.out).mono ?_); rintro e w' ⟨rfl, ⟨nd, rfl⟩⟩; refine ⟨_, rfl, ?_⟩) | ((with_reducible refine gate_callee (f := 94) rfl ?_); refine goesL_ (some 21) rfl rfl Try.func94 (by kernel_rfl) rfl #[.int .i64 (Go.bits .or .i64 a0 (-4611686018427387904)), .int .i64 8] rfl (by (try simp only [List.map_toArray, List.map_cons, List.map_nil]); first | done | rfl | (simp only [List.length_drop, List.length_take]; rfl)) ?_; (with_reducible refine (spec_l1Fixed.calls k (Go.bits .or .i64 a0 (-4611686018427387904)) 8 t111 _ A12.out).mono ?_); rintro e w13 ⟨rfl, hb⟩; refine ⟨_, rfl, ?_⟩; have n0_ := bS HB hb; clear HB; have HB := n0_; clear n0_; (try clear hb); (try clear hb2); (try clear hk); (try clear hi)))
    go_ret
    exact ⟨by first | rfl | (simp [errW_none, errW_some] <;> rfl) | (simp [*, errW_none, errW_some] <;> rfl), by repeat (first | (with_reducible first | exact HB.out | apply below_alloc | apply pw_below_drewN | apply below_drew1) | exact HB.out)⟩

-- NOT PRINTED: function 43 (spec_l1Bytes)

end Go.Proofs.Ytpdoplkiaejpiaa.PFnExactFrameBytes
