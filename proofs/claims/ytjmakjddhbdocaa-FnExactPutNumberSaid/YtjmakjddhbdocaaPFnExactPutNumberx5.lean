-- Written by a program of this session (wip/xprint.py).
import Derived.Test.YtjmakjddhbdocaaPFnExactPutNumberx0
import Derived.Test.YtjmakjddhbdocaaPFnExactPutNumberx1
import Derived.Test.YtjmakjddhbdocaaPFnExactPutNumberx3
import Derived.Test.YtjmakjddhbdocaaPFnExactPutNumberx4
namespace Go.Proofs.Ytjmakjddhbdocaa.PFnExactPutNumber
open Go.RowKit Go.Proofs.YtjmakjddhbdocaaW.PrintWords Go.Proofs.YtjmakjddhbdocaaW.PrintLast Go.Proofs.YtjmakjddhbdocaaW.PrintMore
open Go.Proofs.Ytjmakjddhbdocaa.ShortK (bN bD bA sA sZ sS cz2 fz2 cz3 fz3 cz4 fz4 cz5 fz5 cz6 fz6 cz7 fz7 cz8 fz8 cz9 fz9 cz10 fz10 cz11 fz11 cz12 fz12)
attribute [local go_sem] Go.Proofs.Ytjmakjddhbdocaa.StoreK.isSome_setCell max2_int min2_int max_two min_two max_three min_three max_four min_four   -- for this text's walks alone
set_option linter.unusedVariables false
set_option linter.unusedSimpArgs false

/-! ### impl_GoodRanges: function 69 -/
def impl_GoodRanges.f (k : Nat) (l0 : List (S105)) : Option (Bool) := if (l0.length : Int) ≤ 20 then ((impl_rangesOk.f k l0).bind fun t158 => (some t158)) else (some false)
theorem impl_GoodRanges.mono : ∀ a0 k, LeO (impl_GoodRanges.f k a0) (impl_GoodRanges.f (k + 1) a0) := by
 intro a0 k
 unfold impl_GoodRanges.f
 repeat' first
   | (with_reducible exact impl_rangesOk.mono _ _)
   | (with_reducible exact LeO.refl _)
   | (with_reducible exact LeO.none _)
   | (with_reducible refine LeO.ite ?_ ?_)
   | (with_reducible refine LeO.bind ?_ (fun _ => ?_))
   | exact impl_rangesOk.mono _ _
   | exact LeO.none _
   | refine LeO.ite ?_ ?_
   | refine LeO.bind ?_ (fun _ => ?_)
set_option maxHeartbeats 64000000 in
set_option maxRecDepth 100000 in
theorem impl_GoodRanges.calls (k : Nat) (A0 : Option Addr) (c0 : Nat) (l0 : List (S105)) (r : Bool) (w : World) (hr0 : Kd.C k105 w A0 l0.length l0) (hc0 : l0.length ≤ c0) (h : impl_GoodRanges.f k l0 = some r) :
  Calls Try.prog 69 #[.slice A0 l0.length c0] w fun e w' => e = .returned (.bool r) ∧ Below w.heap.size w w' := by
 have HR0 := Aside0.mk hr0
 have HC0 := Aside0.mk hc0
 clear hr0 hc0
 have HB := Aside0.mk (Below.refl w.heap.size w)
 have H : (if (l0.length : Int) ≤ 20 then ((impl_rangesOk.f k l0).bind fun t158 => (some t158)) else (some false)) = some r := h
 clear h
 by_cases c2 : (l0.length : Int) ≤ 20
 ·rw [if_pos c2] at H
  have c2b0 : decide ((l0.length : Int) ≤ 20) = true := decide_eq_true c2
  have c2b1 : decide (l0.length ≤ 20) = true := decide_eq_true (by omega)
  clear c2
  replace H := Option.bind_eq_some_iff.mp H
  obtain ⟨t158, A30, H⟩ := H
  replace H : (some t158) = some r := H
  have A3 := Aside0.mk A30
  clear A30
  obtain rfl := Option.some.inj H
  go_enter Try.func69, Try.ntmps69
  go_wp2_with (first | (go_at_call 138; (with_reducible refine (impl_rangesOk.calls k _ _ l0 t158 _ ?side1 ?side2 A3.out).mono ?_); (case side1 => repeat (first | exact HR0.out | (with_reducible refine Kd.C_alloc ?_ _) | (with_reducible refine Kd.C_drewN ?_ _) | (with_reducible refine Kd.C_drew ?_))); (case side2 => exact HC0.out); rintro e w4 ⟨rfl, hb⟩; have n0_ := Aside0.mk (below_step (by repeat (first | (with_reducible first | exact HB.out | apply below_alloc | apply pw_below_drewN | apply below_drew1) | exact HB.out)) hb); clear HB; have HB := n0_; clear n0_; (try clear hb); (try clear hb2); (try clear hk); (try clear hi)))
  go_ret
  exact ⟨by first | rfl | (simp [errW_none, errW_some] <;> rfl) | (simp [*, errW_none, errW_some] <;> rfl), by repeat (first | (with_reducible first | exact HB.out | apply below_alloc | apply pw_below_drewN | apply below_drew1) | exact HB.out)⟩
 ·rw [if_neg c2] at H
  have c2b0 : decide ((l0.length : Int) ≤ 20) = false := decide_eq_false c2
  have c2b1 : decide (l0.length ≤ 20) = false := decide_eq_false (by omega)
  clear c2
  obtain rfl := Option.some.inj H
  go_enter Try.func69, Try.ntmps69
  go_wp2
  go_ret
  exact ⟨by first | rfl | (simp [errW_none, errW_some] <;> rfl) | (simp [*, errW_none, errW_some] <;> rfl), by repeat (first | (with_reducible first | exact HB.out | apply below_alloc | apply pw_below_drewN | apply below_drew1) | exact HB.out)⟩

-- NOT PRINTED: function 208 (impl_Range_208)

-- NOT PRINTED: function 221 (impl_Range_221)

-- NOT PRINTED: function 209 (impl_Range_209)

-- NOT PRINTED: function 216 (bits_Len32)

-- NOT PRINTED: function 217 (bits_Len64)

-- NOT PRINTED: function 200 (bits_Len)

-- NOT PRINTED: function 222 (slices_nextPowerOfTwo)

-- NOT PRINTED: function 223 (slices_xorshift_Next)

-- NOT PRINTED: function 210 (impl_Range_210)

-- NOT PRINTED: function 229 (impl_Range_229)

-- NOT PRINTED: function 225 (impl_Range_225)

-- NOT PRINTED: function 224 (impl_Range_224)

-- NOT PRINTED: function 211 (impl_Range_211)

-- NOT PRINTED: function 212 (impl_Range_212)

-- NOT PRINTED: function 213 (impl_Range_213)

-- NOT PRINTED: function 214 (impl_Range_214)

-- NOT PRINTED: function 215 (impl_Range_215)

-- NOT PRINTED: function 199 (impl_Range_199)

-- NOT PRINTED: function 180 (impl_Range_180)

/-! ### cmp_isNaN_int: function 201 -/
def cmp_isNaN_int.f (a0 : Int) : Option (Bool) := some (a0 != a0)
set_option maxHeartbeats 64000000 in
set_option maxRecDepth 100000 in
theorem cmp_isNaN_int.calls (a0 : Int) (r : Bool) (w : World) (h : cmp_isNaN_int.f a0 = some r) :
  Calls Try.prog 201 #[.int .i64 a0] w fun e w' => e = .returned (.bool r) ∧ Drawn0 w w' := by
 have H : (some (a0 != a0)) = some r := h
 clear h
 obtain rfl := Option.some.inj H
 go_enter Try.func201, Try.ntmps201
 go_wp2
 go_ret
 exact ⟨by first | rfl | (simp; done) | (simp [*]; done), by repeat (first | exact Drawn0.refl _ | apply Drawn0.step)⟩

/-! ### cmp_Compare_int: function 182 -/
def cmp_Compare_int.f (a0 : Int) (a1 : Int) : Option (Int) := (cmp_isNaN_int.f a0).bind fun t159 => ((cmp_isNaN_int.f a1).bind fun t160 => (if t159 = true then (if t160 = true then (some 0) else (some (-1))) else (if t160 = true then (some 1) else (if a0 < a1 then (some (-1)) else (if a0 > a1 then (some 1) else (some 0))))))
set_option maxHeartbeats 64000000 in
set_option maxRecDepth 100000 in
theorem cmp_Compare_int.calls (a0 : Int) (a1 : Int) (r : Int) (w : World) (h : cmp_Compare_int.f a0 a1 = some r) :
  Calls Try.prog 182 #[.int .i64 a0, .int .i64 a1] w fun e w' => e = .returned (.int .i64 r) ∧ Drawn0 w w' := by
 have H : ((cmp_isNaN_int.f a0).bind fun t159 => ((cmp_isNaN_int.f a1).bind fun t160 => (if t159 = true then (if t160 = true then (some 0) else (some (-1))) else (if t160 = true then (some 1) else (if a0 < a1 then (some (-1)) else (if a0 > a1 then (some 1) else (some 0))))))) = some r := h
 clear h
 replace H := Option.bind_eq_some_iff.mp H
 obtain ⟨t159, A30, H⟩ := H
 replace H : ((cmp_isNaN_int.f a1).bind fun t160 => (if t159 = true then (if t160 = true then (some 0) else (some (-1))) else (if t160 = true then (some 1) else (if a0 < a1 then (some (-1)) else (if a0 > a1 then (some 1) else (some 0)))))) = some r := H
 have A3 := Aside0.mk A30
 clear A30
 replace H := Option.bind_eq_some_iff.mp H
 obtain ⟨t160, A40, H⟩ := H
 replace H : (if t159 = true then (if t160 = true then (some 0) else (some (-1))) else (if t160 = true then (some 1) else (if a0 < a1 then (some (-1)) else (if a0 > a1 then (some 1) else (some 0))))) = some r := H
 have A4 := Aside0.mk A40
 clear A40
 by_cases c5 : t159 = true
 ·subst c5
  have H1 : (if t160 = true then (some 0) else (some (-1))) = some r := by rw [if_pos rfl] at H; exact H
  clear H
  have H := H1
  clear H1
  by_cases c6 : t160 = true
  ·subst c6
   have H1 : (some 0) = some r := by rw [if_pos rfl] at H; exact H
   clear H
   have H := H1
   clear H1
   obtain rfl := Option.some.inj H
   go_enter Try.func182, Try.ntmps182
   go_wp2_with (first | ((with_reducible refine gate_callee (f := 201) rfl ?_); refine goesL_ (some 8) rfl rfl Try.func201 (by kernel_rfl) rfl #[.int .i64 a0] rfl (by (try simp only [List.map_toArray, List.map_cons, List.map_nil]); first | done | rfl | (simp only [List.length_drop, List.length_take]; rfl)) ?_; (with_reducible refine (cmp_isNaN_int.calls a0 true _ A3.out).mono ?_); rintro e w' ⟨rfl, ⟨nd, rfl⟩⟩; refine ⟨_, rfl, ?_⟩) | ((with_reducible refine gate_callee (f := 201) rfl ?_); refine goesL_ (some 10) rfl rfl Try.func201 (by kernel_rfl) rfl #[.int .i64 a1] rfl (by (try simp only [List.map_toArray, List.map_cons, List.map_nil]); first | done | rfl | (simp only [List.length_drop, List.length_take]; rfl)) ?_; (with_reducible refine (cmp_isNaN_int.calls a1 true _ A4.out).mono ?_); rintro e w' ⟨rfl, ⟨nd, rfl⟩⟩; refine ⟨_, rfl, ?_⟩))
   go_ret
   exact ⟨by first | rfl | (simp; done) | (simp [*]; done), by repeat (first | exact Drawn0.refl _ | apply Drawn0.step)⟩
  ·replace c6 := Bool.eq_false_iff.mpr c6
   subst c6
   have H1 : (some (-1)) = some r := by rw [if_neg (show ¬ (false = true) by decide)] at H; exact H
   clear H
   have H := H1
   clear H1
   obtain rfl := Option.some.inj H
   go_enter Try.func182, Try.ntmps182
   go_wp2_with (first | ((with_reducible refine gate_callee (f := 201) rfl ?_); refine goesL_ (some 8) rfl rfl Try.func201 (by kernel_rfl) rfl #[.int .i64 a0] rfl (by (try simp only [List.map_toArray, List.map_cons, List.map_nil]); first | done | rfl | (simp only [List.length_drop, List.length_take]; rfl)) ?_; (with_reducible refine (cmp_isNaN_int.calls a0 true _ A3.out).mono ?_); rintro e w' ⟨rfl, ⟨nd, rfl⟩⟩; refine ⟨_, rfl, ?_⟩) | ((with_reducible refine gate_callee (f := 201) rfl ?_); refine goesL_ (some 10) rfl rfl Try.func201 (by kernel_rfl) rfl #[.int .i64 a1] rfl (by (try simp only [List.map_toArray, List.map_cons, List.map_nil]); first | done | rfl | (simp only [List.length_drop, List.length_take]; rfl)) ?_; (with_reducible refine (cmp_isNaN_int.calls a1 false _ A4.out).mono ?_); rintro e w' ⟨rfl, ⟨nd, rfl⟩⟩; refine ⟨_, rfl, ?_⟩))
   go_ret
   exact ⟨by first | rfl | (simp; done) | (simp [*]; done), by repeat (first | exact Drawn0.refl _ | apply Drawn0.step)⟩
 ·replace c5 := Bool.eq_false_iff.mpr c5
  subst c5
  have H1 : (if t160 = true then (some 1) else (if a0 < a1 then (some (-1)) else (if a0 > a1 then (some 1) else (some 0)))) = some r := by rw [if_neg (show ¬ (false = true) by decide)] at H; exact H
  clear H
  have H := H1
  clear H1
  by_cases c7 : t160 = true
  ·subst c7
   have H1 : (some 1) = some r := by rw [if_pos rfl] at H; exact H
   clear H
   have H := H1
   clear H1
   obtain rfl := Option.some.inj H
   go_enter Try.func182, Try.ntmps182
   go_wp2_with (first | ((with_reducible refine gate_callee (f := 201) rfl ?_); refine goesL_ (some 8) rfl rfl Try.func201 (by kernel_rfl) rfl #[.int .i64 a0] rfl (by (try simp only [List.map_toArray, List.map_cons, List.map_nil]); first | done | rfl | (simp only [List.length_drop, List.length_take]; rfl)) ?_; (with_reducible refine (cmp_isNaN_int.calls a0 false _ A3.out).mono ?_); rintro e w' ⟨rfl, ⟨nd, rfl⟩⟩; refine ⟨_, rfl, ?_⟩) | ((with_reducible refine gate_callee (f := 201) rfl ?_); refine goesL_ (some 10) rfl rfl Try.func201 (by kernel_rfl) rfl #[.int .i64 a1] rfl (by (try simp only [List.map_toArray, List.map_cons, List.map_nil]); first | done | rfl | (simp only [List.length_drop, List.length_take]; rfl)) ?_; (with_reducible refine (cmp_isNaN_int.calls a1 true _ A4.out).mono ?_); rintro e w' ⟨rfl, ⟨nd, rfl⟩⟩; refine ⟨_, rfl, ?_⟩))
   go_ret
   exact ⟨by first | rfl | (simp; done) | (simp [*]; done), by repeat (first | exact Drawn0.refl _ | apply Drawn0.step)⟩
  ·replace c7 := Bool.eq_false_iff.mpr c7
   subst c7
   have H1 : (if a0 < a1 then (some (-1)) else (if a0 > a1 then (some 1) else (some 0))) = some r := by rw [if_neg (show ¬ (false = true) by decide)] at H; exact H
   clear H
   have H := H1
   clear H1
   by_cases c8 : a0 < a1
   ·rw [if_pos c8] at H
    have c8b0 : decide (a0 < a1) = true := decide_eq_true c8
    clear c8
    obtain rfl := Option.some.inj H
    go_enter Try.func182, Try.ntmps182
    go_wp2_with (first | ((with_reducible refine gate_callee (f := 201) rfl ?_); refine goesL_ (some 8) rfl rfl Try.func201 (by kernel_rfl) rfl #[.int .i64 a0] rfl (by (try simp only [List.map_toArray, List.map_cons, List.map_nil]); first | done | rfl | (simp only [List.length_drop, List.length_take]; rfl)) ?_; (with_reducible refine (cmp_isNaN_int.calls a0 false _ A3.out).mono ?_); rintro e w' ⟨rfl, ⟨nd, rfl⟩⟩; refine ⟨_, rfl, ?_⟩) | ((with_reducible refine gate_callee (f := 201) rfl ?_); refine goesL_ (some 10) rfl rfl Try.func201 (by kernel_rfl) rfl #[.int .i64 a1] rfl (by (try simp only [List.map_toArray, List.map_cons, List.map_nil]); first | done | rfl | (simp only [List.length_drop, List.length_take]; rfl)) ?_; (with_reducible refine (cmp_isNaN_int.calls a1 false _ A4.out).mono ?_); rintro e w' ⟨rfl, ⟨nd, rfl⟩⟩; refine ⟨_, rfl, ?_⟩))
    go_ret
    exact ⟨by first | rfl | (simp; done) | (simp [*]; done), by repeat (first | exact Drawn0.refl _ | apply Drawn0.step)⟩
   ·rw [if_neg c8] at H
    have c8b0 : decide (a0 < a1) = false := decide_eq_false c8
    clear c8
    by_cases c9 : a0 > a1
    ·rw [if_pos c9] at H
     have c9b0 : decide (a1 < a0) = true := decide_eq_true c9
     clear c9
     obtain rfl := Option.some.inj H
     go_enter Try.func182, Try.ntmps182
     go_wp2_with (first | ((with_reducible refine gate_callee (f := 201) rfl ?_); refine goesL_ (some 8) rfl rfl Try.func201 (by kernel_rfl) rfl #[.int .i64 a0] rfl (by (try simp only [List.map_toArray, List.map_cons, List.map_nil]); first | done | rfl | (simp only [List.length_drop, List.length_take]; rfl)) ?_; (with_reducible refine (cmp_isNaN_int.calls a0 false _ A3.out).mono ?_); rintro e w' ⟨rfl, ⟨nd, rfl⟩⟩; refine ⟨_, rfl, ?_⟩) | ((with_reducible refine gate_callee (f := 201) rfl ?_); refine goesL_ (some 10) rfl rfl Try.func201 (by kernel_rfl) rfl #[.int .i64 a1] rfl (by (try simp only [List.map_toArray, List.map_cons, List.map_nil]); first | done | rfl | (simp only [List.length_drop, List.length_take]; rfl)) ?_; (with_reducible refine (cmp_isNaN_int.calls a1 false _ A4.out).mono ?_); rintro e w' ⟨rfl, ⟨nd, rfl⟩⟩; refine ⟨_, rfl, ?_⟩))
     go_ret
     exact ⟨by first | rfl | (simp; done) | (simp [*]; done), by repeat (first | exact Drawn0.refl _ | apply Drawn0.step)⟩
    ·rw [if_neg c9] at H
     have c9b0 : decide (a1 < a0) = false := decide_eq_false c9
     clear c9
     obtain rfl := Option.some.inj H
     go_enter Try.func182, Try.ntmps182
     go_wp2_with (first | ((with_reducible refine gate_callee (f := 201) rfl ?_); refine goesL_ (some 8) rfl rfl Try.func201 (by kernel_rfl) rfl #[.int .i64 a0] rfl (by (try simp only [List.map_toArray, List.map_cons, List.map_nil]); first | done | rfl | (simp only [List.length_drop, List.length_take]; rfl)) ?_; (with_reducible refine (cmp_isNaN_int.calls a0 false _ A3.out).mono ?_); rintro e w' ⟨rfl, ⟨nd, rfl⟩⟩; refine ⟨_, rfl, ?_⟩) | ((with_reducible refine gate_callee (f := 201) rfl ?_); refine goesL_ (some 10) rfl rfl Try.func201 (by kernel_rfl) rfl #[.int .i64 a1] rfl (by (try simp only [List.map_toArray, List.map_cons, List.map_nil]); first | done | rfl | (simp only [List.length_drop, List.length_take]; rfl)) ?_; (with_reducible refine (cmp_isNaN_int.calls a1 false _ A4.out).mono ?_); rintro e w' ⟨rfl, ⟨nd, rfl⟩⟩; refine ⟨_, rfl, ?_⟩))
     go_ret
     exact ⟨by first | rfl | (simp; done) | (simp [*]; done), by repeat (first | exact Drawn0.refl _ | apply Drawn0.step)⟩

/-! ### impl_united_1: function 181 -/
def impl_united_1.f (a0_0 : Int) (a0_1 : Int) (a1_0 : Int) (a1_1 : Int) : Option (Int) := (cmp_Compare_int.f a1_1 a0_1).bind fun t163 => (some t163)
set_option maxHeartbeats 64000000 in
set_option maxRecDepth 100000 in
theorem impl_united_1.calls (a0_0 : Int) (a0_1 : Int) (a1_0 : Int) (a1_1 : Int) (r : Int) (w : World) (h : impl_united_1.f a0_0 a0_1 a1_0 a1_1 = some r) :
  Calls Try.prog 181 #[.agg #[.int .i64 a0_0, .int .i64 a0_1], .agg #[.int .i64 a1_0, .int .i64 a1_1]] w fun e w' => e = .returned (.int .i64 r) ∧ Below w.heap.size w w' := by
 have hu105 := Try.underlying105
 have HB := Aside0.mk (Below.refl w.heap.size w)
 have H : ((cmp_Compare_int.f a1_1 a0_1).bind fun t163 => (some t163)) = some r := h
 clear h
 replace H := Option.bind_eq_some_iff.mp H
 obtain ⟨t163, A30, H⟩ := H
 replace H : (some t163) = some r := H
 have A3 := Aside0.mk A30
 clear A30
 obtain rfl := Option.some.inj H
 go_enter Try.func181, Try.ntmps181
 go_wp2_with (first | ((with_reducible refine gate_dst (N := 2) rfl ?_); refine box_event ?hg (N := 2) ?hd (cs := #[.int .i64 a0_0, .int .i64 a0_1]) (t := 105) ?hr ?_; (case hd => rfl); (case hg => rfl); (case hr => first | (go_simp; done) | (go_simp; rfl)); intro gb161 hg w4 hbox hb; have n0_ := Aside0.mk (below_step (by repeat (first | (with_reducible first | exact HB.out | apply below_alloc | apply pw_below_drewN | apply below_drew1) | exact HB.out)) hb); have n1_ := Aside0.mk (hbox); have n2_ := Aside0.mk ((by rw [hg]; exact (below_size (by repeat (first | (with_reducible first | exact HB.out | apply below_alloc | apply pw_below_drewN | apply below_drew1) | exact HB.out))) : w.heap.size ≤ gb161)); have n3_ := n2_; clear HB; have HB := n0_; have BK161 := n1_; have GW161 := n2_; have GE161 := n3_; clear n0_ n1_ n2_ n3_; clear hb hbox hg) | ((with_reducible refine gate_dst (N := 3) rfl ?_); refine box_event ?hg (N := 3) ?hd (cs := #[.int .i64 a1_0, .int .i64 a1_1]) (t := 105) ?hr ?_; (case hd => rfl); (case hg => rfl); (case hr => first | (go_simp; done) | (go_simp; rfl)); intro gb162 hg w5 hbox hb; have n0_ := Aside0.mk (blk_below (g := gb161) (o := .cells #[.int .i64 a0_0, .int .i64 a0_1] 105 (0, 0)) (by (with_reducible repeat (first | refine bN ?_ _ | refine bD ?_ | refine bA ?_ _)); exact BK161.out) hb); have n1_ := Aside0.mk (below_step (by repeat (first | (with_reducible first | exact HB.out | apply below_alloc | apply pw_below_drewN | apply below_drew1 | refine below_set ?_ GE161.out) | exact HB.out)) hb); have n2_ := Aside0.mk (hbox); have n3_ := Aside0.mk ((by rw [hg]; exact (below_size (by repeat (first | (with_reducible first | exact HB.out | apply below_alloc | apply pw_below_drewN | apply below_drew1 | refine below_set ?_ GE161.out) | exact HB.out))) : w.heap.size ≤ gb162)); have n4_ := n3_; have n5_ := Aside0.mk ((by rw [hg]; exact Nat.ne_of_lt (blk_lt (g := gb161) (o := .cells #[.int .i64 a0_0, .int .i64 a0_1] 105 (0, 0)) (by (with_reducible repeat (first | refine bN ?_ _ | refine bD ?_ | refine bA ?_ _)); exact BK161.out)) : gb161 ≠ gb162)); have n6_ := Aside0.mk (Ne.symm n5_.out); clear BK161; clear HB; have BK161 := n0_; have HB := n1_; have BK162 := n2_; have GW162 := n3_; have GE162 := n4_; have NB161_162 := n5_; have NB162_161 := n6_; clear n0_ n1_ n2_ n3_ n4_ n5_ n6_; clear hb hbox hg; have hnb6 := NB162_161.out; have hnc6 := NB161_162.out; obtain ⟨hcz7_0, hcz7_1⟩ := cz2 BK162; obtain ⟨hfz7_0, hfz7_1⟩ := fz2 BK162; obtain ⟨hcz8_0, hcz8_1⟩ := cz2 BK161; obtain ⟨hfz8_0, hfz8_1⟩ := fz2 BK161) | ((with_reducible refine gate_callee (f := 182) rfl ?_); refine goesL_ (some 9) rfl rfl Try.func182 (by kernel_rfl) rfl #[.int .i64 a1_1, .int .i64 a0_1] rfl (by (try simp only [List.map_toArray, List.map_cons, List.map_nil]); first | done | rfl | (simp only [List.length_drop, List.length_take]; rfl)) ?_; (with_reducible refine (cmp_Compare_int.calls a1_1 a0_1 t163 _ A3.out).mono ?_); rintro e w' ⟨rfl, ⟨nd, rfl⟩⟩; refine ⟨_, rfl, ?_⟩))
 go_ret
 exact ⟨by first | rfl | (simp [errW_none, errW_some] <;> rfl) | (simp [*, errW_none, errW_some] <;> rfl), by repeat (first | (with_reducible first | exact HB.out | apply below_alloc | apply pw_below_drewN | apply below_drew1 | refine below_set ?_ GE161.out | refine below_set ?_ GE162.out) | exact HB.out)⟩

/-! ### impl_Range_181: function 248 -/
open Go.Shelf Go.Sort in
def sortR_ren : Go.Shelf.Ren := ⟨fun | 6 => 180 | 15 => 200 | 14 => 199 | 28 => 216 | 29 => 217 | 20 => 208 | 21 => 209 | 22 => 210 | 23 => 211 | 24 => 212 | 25 => 213 | 26 => 214 | 27 => 215 | 46 => 221 | 47 => 222 | 48 => 223 | 49 => 224 | 50 => 225 | 57 => 229 | n => n, fun | 22 => 38 | 24 => 105 | 25 => 221 | 3 => 3 | 39 => 226 | 0 => 0 | 53 => 254 | 55 => 190 | 4 => 4 | 46 => 248 | 45 => 247 | 50 => 131 | 5 => 5 | 9 => 9 | 66 => 256 | 70 => 260 | 76 => 264 | 77 => 265 | n => n, fun | n => n⟩
open Go.Shelf in
theorem sortR : Go.Proofs.SlLaysF0.n6 Try.prog sortR_ren := {
  mixed := by kernel_rfl
  f6 := ⟨Try.f180.name, by decide, Try.func180.trans (congrArg some (by kernel_rfl))⟩
  f14 := ⟨Try.f199.name, by decide, Try.func199.trans (congrArg some (by kernel_rfl))⟩
  f15 := Try.func200.trans (congrArg some (by kernel_rfl))
  f20 := ⟨Try.f208.name, by decide, Try.func208.trans (congrArg some (by kernel_rfl))⟩
  f21 := ⟨Try.f209.name, by decide, Try.func209.trans (congrArg some (by kernel_rfl))⟩
  f22 := ⟨Try.f210.name, by decide, Try.func210.trans (congrArg some (by kernel_rfl))⟩
  f23 := ⟨Try.f211.name, by decide, Try.func211.trans (congrArg some (by kernel_rfl))⟩
  f24 := ⟨Try.f212.name, by decide, Try.func212.trans (congrArg some (by kernel_rfl))⟩
  f25 := ⟨Try.f213.name, by decide, Try.func213.trans (congrArg some (by kernel_rfl))⟩
  f26 := ⟨Try.f214.name, by decide, Try.func214.trans (congrArg some (by kernel_rfl))⟩
  f27 := ⟨Try.f215.name, by decide, Try.func215.trans (congrArg some (by kernel_rfl))⟩
  f28 := Try.func216.trans (congrArg some (by kernel_rfl))
  f29 := Try.func217.trans (congrArg some (by kernel_rfl))
  f46 := ⟨Try.f221.name, by decide, Try.func221.trans (congrArg some (by kernel_rfl))⟩
  f47 := Try.func222.trans (congrArg some (by kernel_rfl))
  f48 := Try.func223.trans (congrArg some (by kernel_rfl))
  f49 := ⟨Try.f224.name, by decide, Try.func224.trans (congrArg some (by kernel_rfl))⟩
  f50 := ⟨Try.f225.name, by decide, Try.func225.trans (congrArg some (by kernel_rfl))⟩
  f57 := ⟨Try.f229.name, by decide, Try.func229.trans (congrArg some (by kernel_rfl))⟩
  t0 := Try.underlying0
  a0 := Try.isAgg0
  z0 := Try.sizeOf0
  v0 := Try.zeroValue0
  t3 := Try.underlying3
  a3 := Try.isAgg3
  z3 := Try.sizeOf3
  v3 := Try.zeroValue3
  t4 := Try.underlying4
  a4 := Try.isAgg4
  z4 := Try.sizeOf4
  v4 := Try.zeroValue4
  t5 := Try.underlying5
  a5 := Try.isAgg5
  z5 := Try.sizeOf5
  v5 := Try.zeroValue5
  t9 := Try.underlying9
  a9 := Try.isAgg9
  z9 := Try.sizeOf9
  v9 := Try.zeroValue9
  t22 := Try.underlying38
  a22 := Try.isAgg38
  z22 := Try.sizeOf38
  v22 := Try.zeroValue38
  t25 := Try.underlying221
  a25 := Try.isAgg221
  z25 := Try.sizeOf221
  v25 := Try.zeroValue221
  t39 := Try.underlying226
  a39 := Try.isAgg226
  z39 := Try.sizeOf226
  v39 := Try.zeroValue226
  t45 := Try.underlying247
  a45 := Try.isAgg247
  z45 := Try.sizeOf247
  v45 := Try.zeroValue247
  t46 := Try.underlying248
  a46 := Try.isAgg248
  z46 := Try.sizeOf248
  v46 := Try.zeroValue248
  t50 := Try.underlying131
  a50 := Try.isAgg131
  z50 := Try.sizeOf131
  v50 := Try.zeroValue131
  t53 := Try.underlying254
  a53 := Try.isAgg254
  z53 := Try.sizeOf254
  v53 := Try.zeroValue254
  t55 := Try.underlying190
  a55 := Try.isAgg190
  z55 := Try.sizeOf190
  v55 := Try.zeroValue190
  t66 := Try.underlying256
  a66 := Try.isAgg256
  z66 := Try.sizeOf256
  v66 := Try.zeroValue256
  t70 := Try.underlying260
  a70 := Try.isAgg260
  z70 := Try.sizeOf260
  v70 := Try.zeroValue260
  t76 := Try.underlying264
  a76 := Try.isAgg264
  z76 := Try.sizeOf264
  v76 := Try.zeroValue264
  t77 := Try.underlying265
  a77 := Try.isAgg265
  z77 := Try.sizeOf265
  v77 := Try.zeroValue265 }
/-- A range's two cells; ranges fall by their To. -/
def encR (x : S105) : List Value := [.int .i64 x.f0, .int .i64 x.f1]
def cfR (x y : S105) : Int := Lib.compareInt y.f1 x.f1
instance : Inhabited S105 := ⟨z105⟩
theorem ltR (x y : S105) : ltOf cfR x y = decide (y.f1 < x.f1) := by
  unfold ltOf cfR Lib.compareInt
  by_cases h1 : y.f1 < x.f1
  · simp [h1]
  · by_cases h2 : x.f1 < y.f1 <;> simp [h1, h2]
theorem swoR : Sort.SWO (ltOf cfR) where
  irrefl x := by rw [ltR]; simp
  trans x y z h1 h2 := by rw [ltR] at *; simp at *; omega
  ntrans x y z h1 h2 := by rw [ltR] at *; simp at *; omega
/-- A list of ranges as the library sorts it. -/
def sortR' (l : List S105) : List S105 := (Sort.pdq (ltOf cfR) l.toArray 0 l.length (Lib.bitLen l.length) true true).toList
theorem sortR_facts (l : List S105) : (sortR' l).Perm l ∧ (sortR' l).Pairwise (fun x y => y.f1 ≤ x.f1) := by
  have h := Sort.pdq_sorts (ltOf cfR) swoR l.toArray 0 l.toArray.size (Lib.bitLen l.length) true true (Nat.zero_le _) (Nat.le_refl _) (Or.inl rfl)
  have hs : l.toArray.size = l.length := by simp
  unfold sortR'
  rw [hs] at h
  obtain ⟨⟨p1, p2, p3⟩, h2⟩ := h
  generalize Sort.pdq (ltOf cfR) l.toArray 0 l.length (Lib.bitLen l.length) true true = d at p1 p2 p3 h2
  have e1 : d.extract 0 l.length = d := by rw [← hs, ← p1]; simp
  have e2 : l.toArray.extract 0 l.length = l.toArray := by rw [← hs]; simp
  rw [e1, e2] at p3
  refine ⟨by simpa using p3, ?_⟩
  rw [List.pairwise_iff_getElem]
  intro i j hi hj hij
  have := h2 i j (Nat.zero_le _) hij (by rw [← hs, ← p1]; simpa using hj)
  rw [ltR, getElem!_pos d j (by simpa using hj), getElem!_pos d i (by simpa using hi)] at this
  have := of_decide_eq_false this
  rw [Array.getElem_toList, Array.getElem_toList]
  omega
def impl_Range_181.f (l0 : List S105) : Option (List S105) := if l0.length < 4611686018427387904 then some (sortR' l0) else none
open Go.Sort in
set_option maxHeartbeats 2000000 in
theorem closR (x y : S105) (W : World) : Calls Try.prog 181 #[.agg #[.int .i64 x.f0, .int .i64 x.f1], .agg #[.int .i64 y.f0, .int .i64 y.f1]] W fun e w' => e = .returned (.int .i64 (cfR x y)) ∧ ∃ q os', w' = grow (W.drewN q) os' := by
  have hc : cmp_Compare_int.f y.f1 x.f1 = some (cfR x y) := by
    unfold cmp_Compare_int.f cmp_isNaN_int.f cfR Lib.compareInt
    by_cases h1 : y.f1 < x.f1
    · simp [h1]
    · by_cases h2 : x.f1 < y.f1 <;> simp [h1, h2]
  have HCC := Aside0.mk hc
  clear hc
  go_enter Try.func181, Try.ntmps181
  go_wp2_with fail
  refine (cmp_Compare_int.calls _ _ _ _ HCC.out).mono ?_
  rintro e w' ⟨rfl, ⟨nd, rfl⟩⟩
  go_wp2
  go_ret
  exact ⟨rfl, nd, _, by rw [alloc_eq_grow, alloc_eq_grow, grow_grow]; rfl⟩
open Go.Sort in
set_option maxHeartbeats 2000000 in
set_option maxRecDepth 100000 in
theorem impl_Range_181.calls (P0_ : Nat → Prop) (u9000_ : Value) (l0 : List (S105)) (r : List (S105)) (w0 w : World) (hB : Below w0.heap.size w0 w) (ho0 : Kd.R k105 105 w w0.heap.size P0_ u9000_ l0) (h : impl_Range_181.f l0 = some r) :
    Calls Try.prog 180 #[u9000_, .func (.func 181) #[] #[]] w fun e w' => e = .returned (.tuple #[]) ∧ Kd.R k105 105 w' w0.heap.size (fun k_ => (P0_ k_ ∨ w.heap.size ≤ k_)) u9000_ r ∧ Below w0.heap.size w0 w' ∧ Kept w w' (fun k_ => P0_ k_) := by
  have hl : l0.length < 4611686018427387904 ∧ sortR' l0 = r := by
    unfold impl_Range_181.f at h
    split at h
    · exact ⟨by assumption, Option.some.inj h⟩
    · cases h
  clear h
  obtain ⟨hl, rfl⟩ := hl
  have hmono : ∀ k_, P0_ k_ → (P0_ k_ ∨ w.heap.size ≤ k_) := fun _ hk => .inl hk
  by_cases h0 : 0 < l0.length
  · obtain ⟨g, c, rfl, gb, gl, cl, HG⟩ := Kd.R_form ho0 h0
    have hP : P0_ g := ho0.1 g (by simp [Value.ownBlock])
    have eg : ∀ args w, (callFunc 181 args).run Try.prog w = .ok (.enter 181 args) w := enters_ Try.func181 (by kernel_rfl) rfl
    have hH : HoldsK encR 2 w g 0 l0.toArray := Go.Proofs.Ytjmakjddhbdocaa.SortK.R_holds k105 encR (by decide) (fun _ _ _ _ _ hM => k105_openM hM) ho0
    have hcon := AnyQ.slices_SortFunc_eq sortR 2 Try.isAgg105 Try.sizeOf105 encR (fun _ => rfl) (fun x v hv => by simp [encR] at hv; rcases hv with rfl | rfl <;> rfl) cfR swoR 181 #[] g 0 c l0.toArray w eg (fun _ _ _ _ x y => closR x y _) hH gl (by simpa using hl)
    have hz : l0.toArray.size = l0.length := by simp
    rw [hz] at hcon
    change Calls Try.prog 180 _ _ _ at hcon
    refine hcon.mono ?_
    rintro e w' ⟨rfl, n, os, rfl⟩
    have hlen : (Sort.pdq (ltOf cfR) l0.toArray 0 l0.length (Lib.bitLen l0.length) true true).size = l0.length := by
      have := (sortR_facts l0).1.length_eq
      simpa [sortR'] using this
    have hR := Go.Proofs.Ytjmakjddhbdocaa.SortK.R_sorted k105 encR (fun _ => rfl) (fun _ _ _ x => k105_mkM _ _ _ x) (m := n) _ os hlen ho0
    have hg := Go.Proofs.Ytjmakjddhbdocaa.SortK.sorted_grown encR 2 g n w (Sort.pdq (ltOf cfR) l0.toArray 0 l0.length (Lib.bitLen l0.length) true true) os
    exact ⟨rfl, Kd.R_mono hR hmono, hB.grown hg hB.size (fun k hk => by cases hk; exact gb), Kept.of_grown hg (Kept.refl w _) (fun k hk => by cases hk; exact .inl hP)⟩
  · have e0 : l0 = [] := List.length_eq_zero_iff.1 (by omega)
    subst e0
    obtain ⟨A, c, rfl, hlc, hC⟩ := Kd.R_reads ho0
    have hcon := AnyF.slices_SortFunc_none sortR A c (.func (.func 181) #[] #[]) w
    change Calls Try.prog 180 _ _ _ at hcon
    have er : sortR' [] = [] := List.perm_nil.1 (sortR_facts []).1
    rw [er]
    refine hcon.mono ?_
    rintro e w' ⟨rfl, hw⟩
    rw [hw]
    exact ⟨rfl, Kd.R_mono ho0 hmono, hB, Kept.refl w _⟩
theorem sortR_calls (P0_ : Nat → Prop) (u9000_ : Value) (l0 : List (S105)) (w0 w : World) (hB : Below w0.heap.size w0 w) (ho0 : Kd.R k105 105 w w0.heap.size P0_ u9000_ l0) (hl : l0.length < 4611686018427387904) :
    Calls Try.prog 180 #[u9000_, .func (.func 181) #[] #[]] w fun e w' => e = .returned (.tuple #[]) ∧ Kd.R k105 105 w' w0.heap.size (fun k_ => (P0_ k_ ∨ w.heap.size ≤ k_)) u9000_ (sortR' l0) ∧ Below w0.heap.size w0 w' ∧ Kept w w' (fun k_ => P0_ k_) := impl_Range_181.calls P0_ u9000_ l0 (sortR' l0) w0 w hB ho0 (by unfold impl_Range_181.f; rw [if_pos hl])

/-! ### impl_united: function 130 -/
def unStep (ys : List S105) (x : S105) : List S105 :=
  if 0 < ys.length ∧ (rd_T105 ys ((ys.length : Int) - 1)).f0 ≤ wrap64 (x.f1 + 1) then ys.set (ys.length - 1) ⟨if x.f0 < (rd_T105 ys ((ys.length : Int) - 1)).f0 then x.f0 else (rd_T105 ys ((ys.length : Int) - 1)).f0, (rd_T105 ys ((ys.length : Int) - 1)).f1⟩ else ys ++ [x]
theorem unStep_len (ys : List S105) (x : S105) : (unStep ys x).length ≤ ys.length + 1 := by
  unfold unStep
  split
  · rw [List.length_set]; omega
  · simp
theorem take_fold (s : List S105) (i : Nat) (h : i < s.length) : (s.take (i + 1)).foldl unStep [] = unStep ((s.take i).foldl unStep []) (rd_T105 s (i : Int)) := by
  have e : rd_T105 s (i : Int) = s[i] := by
    unfold rd_T105
    rw [Int.toNat_natCast, List.getD_eq_getElem?_getD, List.getElem?_eq_getElem h]
    rfl
  rw [List.take_succ_eq_append_getElem h, List.foldl_append, e]
  rfl
set_option maxHeartbeats 64000000 in
set_option maxRecDepth 100000 in
theorem united_calls (w0 : World) (v : Value) (l : List S105) (w : World) (hl : l.length < 1000000) (ho : Kd.R k105 105 w w0.heap.size (fun _ => True) v l) (hb : Below w0.heap.size w0 w) :
    Calls Try.prog 130 #[v] w fun e w' => ∃ v' : Value, e = .returned v' ∧ Kd.R k105 105 w' w0.heap.size (fun _ => True) v' ((sortR' l).foldl unStep []) ∧ Below w0.heap.size w0 w' := by
  have HO := Aside0.mk ho
  have HB := Aside0.mk hb
  have hsl : (sortR' l).length = l.length := (sortR_facts l).1.length_eq
  have HLL := Aside0.mk (show l.length < 4611686018427387904 by omega)
  have HSC := Aside0.mk (fun w => sortR_calls (fun _ => True) v l w0 w)
  generalize sortR' l = s at HSC hsl ⊢
  have HL : s.length < 1000000 := by omega
  clear ho hb hsl hl
  have hu38 := Try.underlying38
  go_enter Try.func130, Try.ntmps130
  go_wp2_with fail
  refine (HSC.out _ HB.out HO.out HLL.out).mono ?_
  rintro e w1 ⟨rfl, ho, hb, hk⟩
  obtain ⟨A, c, rfl, hlc, hC⟩ := Kd.R_reads ho
  clear HO HB HSC HLL hk hlc hC
  have HS := Aside0.mk ho
  have HB1 := Aside0.mk hb
  clear ho hb
  go_wp2_with (first | ((with_reducible refine gate_dst (N := 9) rfl ?_); refine Kd.R_lit k105 _ 105 ?hg (N := 9) ?hd (xs := ([] : List (S105))) (inner := []) (ok := fun _ => True) (okp := fun _ => True) ?hr ?hp (fun _ hk => hk) trivial (Below.refl _ _) (Nat.le_refl _) (by simp) ?_; (case hd => rfl); (case hg => rfl); (case hr => first | (go_simp; done) | (go_simp; rfl)); (case hp => exact (Reps.none _ _)); intro v149 w2 ho13 hb hg_ hnew_; clear hg_ hnew_; have HO2 := Aside0.mk ho13; have HB2 := Aside0.mk hb; clear hb ho13))
  go_loopg [3, 12] s.length (fun gg v3 v12 wr => ∃ (i : Nat) (ys : List S105), i ≤ s.length ∧ s.length - i ≤ gg ∧ v12 = .int .i64 i ∧ Aside0 ((s.take i).foldl unStep [] = ys) ∧ ys.length ≤ i ∧ Aside0 (Kd.R k105 105 wr w1.heap.size (fun _ => True) v3 ys) ∧ Aside0 (Below w1.heap.size w1 wr))
  case atStart => exact ⟨0, [], by omega, by omega, rfl, ⟨rfl⟩, by simp, HO2, HB2⟩
  case round =>
    obtain ⟨i, ys, hi, hgg, rfl, HF, hyl, HO, HB⟩ := hrel
    clear HO2 HB2
    have HZ := Aside0.mk HB.out.size
    obtain ⟨B, d, rfl, hyd, hD⟩ := Kd.R_reads HO.out
    clear hyd hD
    by_cases hlt : i < s.length
    · have p1 : (0 : Int) ≤ (i : Int) := by omega
      have q1 : (i : Int) < (s.length : Int) := by omega
      have HC := Aside0.mk (Kd.C_below (Kd.R_reads' HS.out).2.2 HB.out)
      obtain ⟨ad, rfl, hx_0, hx_1⟩ := at_T105 HC.out (i : Int) p1 q1
      generalize hx : rd_T105 s (i : Int) = x at hx_0 hx_1
      have HX := Aside0.mk hx
      clear hx
      rw [Int.toNat_natCast] at hx_0 hx_1
      by_cases hy : 0 < ys.length
      · have hge : ((1 : Int) ≤ (ys.length : Int)) := by omega
        have q0 : (0 : Int) ≤ (ys.length : Int) - 1 := by omega
        have q2 : ((ys.length : Int) - 1) < (ys.length : Int) := by omega
        have ew : IntKind.i64.wrap ((ys.length : Int) - 1) = (ys.length : Int) - 1 := Go.IntWalk.i64_in _ (by omega)
        obtain ⟨gb, d', eB, gbb, gbl, _⟩ := Kd.R_form HO.out hy
        injection eB with eB _ ed
        subst eB; subst ed
        obtain ⟨cs, hcl, hM, hcc, hfr⟩ := Kd.R_elem HO.out z105 ((ys.length : Int) - 1) (by omega) q2
        obtain rfl := k105_openM hM
        change ∀ (j : Nat) (u : Value), [Value.int .i64 (rd_T105 ys ((ys.length : Int) - 1)).f0, Value.int .i64 (rd_T105 ys ((ys.length : Int) - 1)).f1][j]? = some u → _ at hcc
        have hy_0 := hcc 0 _ rfl
        have hy_1 := hcc 1 _ rfl
        have hf_0 := hfr 0
        simp only [show (k105).sz = 2 from rfl, Nat.add_zero] at hy_0 hy_1 hf_0
        rw [show ((ys.length : Int) - 1).toNat = ys.length - 1 from by omega] at hy_0 hy_1 hf_0
        generalize hyy : rd_T105 ys ((ys.length : Int) - 1) = y at *
        by_cases hle : y.f0 ≤ wrap64 (x.f1 + 1)
        · go_wp2_with fail
          go_quiet (fail)
          go_wp2
          have HOq := Aside0.mk (Kd.R_drewN (Kd.R_alloc HO.out (.cells #[.int .i64 x.f0, .int .i64 x.f1] 105)) nq)
          have HBq := Aside0.mk (pw_below_drewN (below_alloc HB.out (.cells #[.int .i64 x.f0, .int .i64 x.f1] 105)) nq)
          have hbk := Go.Proofs.Ytjmakjddhbdocaa.ShortK.bN (blk_new wr (.cells #[.int .i64 x.f0, .int .i64 x.f1] 105)) nq
          have hk_0 : _ = some (Value.int .i64 x.f0) := (blk_cell hbk 0).trans rfl
          clear hcl hM hcc hfr hy_0 hy_1 hf_0 hx_0 hx_1 hbk
          clear HO HB
          generalize (wr.alloc (.cells #[.int .i64 x.f0, .int .i64 x.f1] 105)).drewN nq = wq at *
          obtain ⟨cs, hcl, hM, hcc, hfr⟩ := Kd.R_elem HOq.out z105 ((ys.length : Int) - 1) (by omega) q2
          obtain rfl := k105_openM hM
          have hcc' : ∀ (j : Nat) (u : Value), [Value.int .i64 (rd_T105 ys ((ys.length : Int) - 1)).f0, Value.int .i64 (rd_T105 ys ((ys.length : Int) - 1)).f1][j]? = some u → _ := hcc
          rw [hyy] at hcc'
          have HP : Aside0 (∀ m : Int, Kd.R k105 105 ((wq.setCell ⟨gb, (ys.length - 1) * 2, none⟩ (.int .i64 m))) w1.heap.size (fun _ => True) (.slice (some ⟨gb, 0, none⟩) ys.length d) (ys.set (ys.length - 1) ⟨m, y.f1⟩) ∧ wq.grownBy (wq.setCell ⟨gb, (ys.length - 1) * 2, none⟩ (.int .i64 m)) (some gb)) := ⟨fun m => by
            have h := Kd.R_seg HOq.out ((ys.length : Int) - 1) (by omega) q2 (seg := [.int .i64 m]) (j := 0) hcl (show ∀ (j : Nat) (u : Value), _ → wq.cell? _ = some u from hcc) (show 1 ≤ 2 from by decide) (x' := ⟨m, (rd_T105 ys ((ys.length : Int) - 1)).f1⟩) (k105_mkM _ _ _ _) (fun _ hk => hk)
            rw [hyy, show ((ys.length : Int) - 1).toNat = ys.length - 1 from by omega] at h
            exact h⟩
          have hy_0 := hcc' 0 _ rfl
          have hf_0 := hfr 0
          simp only [show (k105).sz = 2 from rfl, Nat.add_zero] at hy_0 hf_0
          rw [show ((ys.length : Int) - 1).toNat = ys.length - 1 from by omega] at hy_0 hf_0
          clear hcl hM hcc hcc' hfr
          by_cases hm : x.f0 < y.f0
          all_goals
            go_still_tail 12, (by kernel_rfl)
            go_wp2
            go_roundg (s.length - (i + 1))
            case measure => omega
            case rel =>
              refine ⟨i + 1, _, by omega, by omega, by go_num, ⟨?_⟩, ?_, ⟨Kd.R_drew (HP.out _).1⟩, ⟨below_drew (pw_below_grown HBq.out (some gb) HBq.out.size (HP.out _).2 (fun k hk => by cases hk; exact gbb))⟩⟩
              · rw [take_fold s i hlt, HF.out, HX.out]
                unfold unStep
                rw [hyy, if_pos ⟨hy, hle⟩]
                first | rw [if_pos hm] | rw [if_neg hm] | rw [if_neg (Int.not_lt.2 hm)]
              · rw [List.length_set]
                omega
        · go_wp2_with fail
          go_quiet (fail)
          have HOq := Aside0.mk (Kd.R_drewN (Kd.R_alloc HO.out (.cells #[.int .i64 x.f0, .int .i64 x.f1] 105)) nq)
          have HBq := Aside0.mk (pw_below_drewN (below_alloc HB.out (.cells #[.int .i64 x.f0, .int .i64 x.f1] 105)) nq)
          have hbk := Go.Proofs.Ytjmakjddhbdocaa.ShortK.bN (blk_new wr (.cells #[.int .i64 x.f0, .int .i64 x.f1] 105)) nq
          have hk_0 : _ = some (Value.int .i64 x.f0) := (blk_cell hbk 0).trans rfl
          have hk_1 : _ = some (Value.int .i64 x.f1) := (blk_cell hbk 1).trans rfl
          clear hcl hM hcc hfr hy_0 hy_1 hf_0 hx_0 hx_1 hbk HO HB
          generalize (wr.alloc (.cells #[.int .i64 x.f0, .int .i64 x.f1] 105)).drewN nq = wq at *
          go_wp2_with (first | ((with_reducible refine gate_builtin (b := .append) (xs := #[.tmp 44, .tmp 46]) rfl ?_); at_builtin; refine Kd.R_append k105 (w0 := w1) w1.heap.size rfl (.tmp 44) (.tmp 46) 38 105 (.agg #[(.int .i64 0), (.int .i64 0)]) 16 rfl Try.underlying38 info105 rfl (by decide) (by omega) _ ys (⟨x.f0, x.f1⟩ : S105) [.int .i64 x.f0, .int .i64 x.f1] (fun _ => True) (fun _ => False) rfl (by first | (go_simp; done) | (go_simp; rfl)) ?aP (fun _ hk => hk.elim) ?aF ?aO ?aB ?aS ?aL ?_; (case aP => exact k105_mkM _ _ _ (⟨x.f0, x.f1⟩ : S105)); (case aF => exact fun _ _ => trivial); (case aO => exact HOq.out); (case aB => exact HBq.out); (case aS => exact HBq.out.size); (case aL => omega); intro v3 w3 ho hb hg hat; have HO3 := Aside0.mk ho; have HB3 := Aside0.mk hb; clear ho hb hg hat))
          go_roundg (s.length - (i + 1))
          case measure => omega
          case rel => exact ⟨i + 1, ys ++ [x], by omega, by omega, by go_num, ⟨by rw [take_fold s i hlt, HF.out, HX.out]; unfold unStep; rw [if_neg (fun h => by have h2 := h.2; rw [hyy] at h2; omega)]⟩, by simp; omega, HO3, HB3⟩
      · have hge : decide ((1 : Int) ≤ (ys.length : Int)) = false := decide_eq_false (by omega)
        have ew : IntKind.i64.wrap ((ys.length : Int) - 1) = (ys.length : Int) - 1 := Go.IntWalk.i64_in _ (by omega)
        · go_wp2_with fail
          go_quiet (fail)
          have HOq := Aside0.mk (Kd.R_drewN (Kd.R_alloc HO.out (.cells #[.int .i64 x.f0, .int .i64 x.f1] 105)) nq)
          have HBq := Aside0.mk (pw_below_drewN (below_alloc HB.out (.cells #[.int .i64 x.f0, .int .i64 x.f1] 105)) nq)
          have hbk := Go.Proofs.Ytjmakjddhbdocaa.ShortK.bN (blk_new wr (.cells #[.int .i64 x.f0, .int .i64 x.f1] 105)) nq
          have hk_0 : _ = some (Value.int .i64 x.f0) := (blk_cell hbk 0).trans rfl
          have hk_1 : _ = some (Value.int .i64 x.f1) := (blk_cell hbk 1).trans rfl
          clear hx_0 hx_1 hbk HO HB
          generalize (wr.alloc (.cells #[.int .i64 x.f0, .int .i64 x.f1] 105)).drewN nq = wq at *
          go_wp2_with (first | ((with_reducible refine gate_builtin (b := .append) (xs := #[.tmp 44, .tmp 46]) rfl ?_); at_builtin; refine Kd.R_append k105 (w0 := w1) w1.heap.size rfl (.tmp 44) (.tmp 46) 38 105 (.agg #[(.int .i64 0), (.int .i64 0)]) 16 rfl Try.underlying38 info105 rfl (by decide) (by omega) _ ys (⟨x.f0, x.f1⟩ : S105) [.int .i64 x.f0, .int .i64 x.f1] (fun _ => True) (fun _ => False) rfl (by first | (go_simp; done) | (go_simp; rfl)) ?aP (fun _ hk => hk.elim) ?aF ?aO ?aB ?aS ?aL ?_; (case aP => exact k105_mkM _ _ _ (⟨x.f0, x.f1⟩ : S105)); (case aF => exact fun _ _ => trivial); (case aO => exact HOq.out); (case aB => exact HBq.out); (case aS => exact HBq.out.size); (case aL => omega); intro v3 w3 ho hb hg hat; have HO3 := Aside0.mk ho; have HB3 := Aside0.mk hb; clear ho hb hg hat))
          go_roundg (s.length - (i + 1))
          case measure => omega
          case rel => exact ⟨i + 1, ys ++ [x], by omega, by omega, by go_num, ⟨by rw [take_fold s i hlt, HF.out, HX.out]; unfold unStep; rw [if_neg (fun h => hy h.1)]⟩, by simp; omega, HO3, HB3⟩
    · have hge : i = s.length := by omega
      subst hge
      have hF := HF.out
      rw [List.take_length] at hF
      have HF2 := Aside0.mk hF
      clear hF HF
      go_wp2
      go_ret
      exact ⟨_, rfl, by rw [HF2.out]; exact Kd.R_lower HO.out HB1.out.size, HB1.out.trans (HB.out.mono HB1.out.size)⟩

/-! ### impl_Range_131: function 131 -/
def impl_Range_131.f (l0 : List S105) : Option (List S105) := if l0.length < 8796093022208 then (some l0) else none
theorem clone_Range (l : List S105) (h : l.length ≤ 1048576) : impl_Range_131.f l = some l := by unfold impl_Range_131.f; rw [if_pos (by omega)]
set_option maxHeartbeats 4000000 in
set_option maxRecDepth 100000 in
theorem impl_Range_131.calls (A0 : Option Addr) (c0 : Nat) (l0 : List S105) (r : List S105) (w : World) (hr0 : Kd.C k105 w A0 l0.length l0) (hc0 : l0.length ≤ c0) (h : impl_Range_131.f l0 = some r) :
    Calls Try.prog 131 #[.slice A0 l0.length c0] w fun e w' => ∃ v0_ : Value, e = .returned (v0_) ∧ Kd.R k105 105 w' w.heap.size (fun _ => True) v0_ r ∧ Below w.heap.size w w' := by
  have hl : l0.length < 8796093022208 ∧ l0 = r := by
    unfold impl_Range_131.f at h
    split at h
    · exact ⟨by assumption, Option.some.inj h⟩
    · cases h
  clear h
  obtain ⟨hl, rfl⟩ := hl
  have HB := Aside0.mk (Below.refl w.heap.size w)
  cases A0 with
  | none =>
    obtain rfl : l0 = [] := by
      cases l0 with
      | nil => rfl
      | cons x t =>
        obtain ⟨a, ha, _⟩ := hr0.2.2 (by simp)
        cases ha
    have heq : ∀ w : World, (binOp .eql 38 (.slice none 0 c0) (.slice none 0 0)).run Try.prog w = .ok (.bool true) w := fun w => Go.Lib.run_eql_slice_nil w 38 105 none _ _ _ _ Try.underlying38
    clear hr0 hc0 hl
    go_enter Try.func131, Try.ntmps131
    go_wp2
    go_ret
    exact ⟨_, rfl, Kd.R_nil _ _ _ _ _, by repeat (first | (with_reducible first | exact HB.out | apply below_alloc | apply pw_below_drewN | apply below_drew1) | exact HB.out)⟩
  | some ad =>
    have heq : ∀ w : World, (binOp .eql 38 (.slice (some ad) l0.length c0) (.slice none 0 0)).run Try.prog w = .ok (.bool false) w := fun w => Go.Lib.run_eql_slice_nil w 38 105 (some ad) _ _ _ _ Try.underlying38
    have HR0 := Aside0.mk hr0
    have LM := Aside0.mk hl
    clear hr0 hc0 hl
    go_enter Try.func131, Try.ntmps131
    go_wp2_with (first
      | ((with_reducible refine gate_dst (N := 5) rfl ?_); refine Kd.R_lit k105 _ 105 ?hg (N := 5) ?hd (xs := ([] : List (S105))) (inner := []) (ok := fun _ => True) (okp := fun _ => True) ?hr ?hp (fun _ hk => hk) trivial (Below.refl _ _) (Nat.le_refl _) (by simp) ?_; (case hd => rfl); (case hg => rfl); (case hr => first | (go_simp; done) | (go_simp; rfl)); (case hp => exact (Reps.none _ _)); intro v115 w5 ho6 hb hg_ hnew_; clear hg_ hnew_; have n0_ := Aside0.mk (Kd.R_lower ho6 (below_size (by repeat (first | (with_reducible first | exact HB.out | apply below_alloc | apply pw_below_drewN | apply below_drew1) | exact HB.out)))); have n3_ := Aside0.mk (below_step (by repeat (first | (with_reducible first | exact HB.out | apply below_alloc | apply pw_below_drewN | apply below_drew1) | exact HB.out)) hb); clear HB; have HO := n0_; have HB := n3_; clear n0_ n3_; clear hb ho6)
      | ((with_reducible refine gate_builtin (b := .append) (xs := #[.tmp 5, .tmp 6]) rfl ?_); at_builtin; refine Kd.R_append_rows k105 (w0 := w) w.heap.size rfl (.tmp 5) (.tmp 6) 38 105 (.agg #[(.int .i64 0), (.int .i64 0)]) 16 rfl Try.underlying38 info105 rfl (by decide) (by omega) v115 [] l0 _ _ _ (fun _ => True) (fun _ => False) rfl rfl ?aO ?aR (fun _ _ h => h) (fun _ h => h.elim) ?aF ?aB ?aS ?aL ?_; (case aR => repeat (first | exact (Kd.C_below HR0.out HB.out) | (with_reducible refine Kd.C_alloc ?_ _) | (with_reducible refine Kd.C_drewN ?_ _) | (with_reducible refine Kd.C_drew ?_))); (case aB => exact (by repeat (first | (with_reducible first | exact HB.out | apply below_alloc | apply pw_below_drewN | apply below_drew1) | exact HB.out))); (case aF => exact (fun _ _ => trivial)); (case aO => exact (by (with_reducible repeat (first | apply Kd.R_alloc | apply Kd.R_drewN | apply Kd.R_drew)); exact HO.out)); (case aS => exact (below_size (by repeat (first | (with_reducible first | exact HB.out | apply below_alloc | apply pw_below_drewN | apply below_drew1) | exact HB.out)))); (case aL => have := LM.out; simp only [List.length_nil, Nat.zero_add]; omega); intro v118 w9 ho hb hg hat; rw [List.nil_append] at ho; have n2_ := Aside0.mk hb; have n3_ := Aside0.mk ho; clear HB; clear HO; have HB := n2_; have HO := n3_; clear n2_ n3_; clear ho hb hg hat)
      | fail)
    go_ret
    exact ⟨_, rfl, by (with_reducible repeat (first | apply Kd.R_alloc | apply Kd.R_drewN | apply Kd.R_drew)); exact HO.out, by repeat (first | (with_reducible first | exact HB.out | apply below_alloc | apply pw_below_drewN | apply below_drew1) | exact HB.out)⟩

/-! ### impl_PutNumber: function 53 -/
def uniR (l : List S105) : List S105 := (sortR' l).foldl unStep []
theorem good_short {k : Nat} {l : List S105} (h : impl_GoodRanges.f k l = some true) : l.length ≤ 20 := by
  unfold impl_GoodRanges.f at h
  split at h
  · omega
  · cases h
def narrow : Value → Nat → Value
  | .slice A n _, c => .slice A n c
  | v, _ => v
theorem narrow_slice (A : Option Addr) (n c c' : Nat) : narrow (.slice A n c') c = .slice A n c := rfl
attribute [local go_sem] narrow_slice
set_option maxHeartbeats 3200000 in
set_option maxRecDepth 100000 in
theorem laws_markRangeS.callsN (cN : Nat) (k : Nat) (P0_ : Nat → Prop) (u9000_ : Value) (l0 : List (S105)) (a1 : Int) (r1 : Int) (r2 : List (S105)) (w0 w : World) (hB : Below w0.heap.size w0 w) (ho0 : Kd.R k105 105 w w0.heap.size P0_ u9000_ l0) (h : laws_markRangeS.f k l0 a1 = some (r1, r2)) :
  Calls Try.prog 22 #[narrow u9000_ cN, .int .i64 a1] w fun e w' => e = .returned (.int .i64 r1) ∧ Kd.R k105 105 w' w0.heap.size (fun k_ => (P0_ k_ ∨ w.heap.size ≤ k_)) u9000_ r2 ∧ Below w0.heap.size w0 w' ∧ Kept w w' (fun k_ => P0_ k_) := by
 have HO0 := Aside0.mk (show Kd.R k105 105 w w0.heap.size (fun k_ => (P0_ k_ ∨ w.heap.size ≤ k_)) u9000_ l0 from Kd.R_mono ho0 (fun k_ hk => (.inl hk)))
 have HK := Aside0.mk (Kept.refl w (fun k_ => P0_ k_))
 have HW0 := Aside0.mk hB.size
 have HB := Aside0.mk hB
 clear hB
 have H : (laws_markRangeS.l0 k l0 a1 0) = some (r1, r2) := h
 clear h
 have H' := Aside0.mk H
 clear H
 go_enter Try.func22, Try.ntmps22
 go_wp2
 go_loopg [1, 5] k (fun kq v1 v5 w' => ∃ (x0_1 : List (S105)) (x1_1 : Int) (x5_1 : Int), v1 = .int .i64 x1_1 ∧ v5 = .int .i64 x5_1 ∧ Aside0 (laws_markRangeS.l0 kq x0_1 x1_1 x5_1 = some (r1, r2)) ∧ Aside0 (kq ≤ k) ∧ Aside0 (Kd.R k105 105 w' w0.heap.size (fun k_ => (P0_ k_ ∨ w.heap.size ≤ k_)) u9000_ x0_1) ∧ Aside0 (Kept w w' (fun k_ => P0_ k_)) ∧ Aside0 (Below w0.heap.size w0 w'))
 case atStart => exact ⟨(l0), (a1), (0), (by first | rfl | (simp; done) | (simp [*]; done)), (by first | rfl | (simp; done) | (simp [*]; done)), H', ⟨Nat.le_refl _⟩, ⟨by (with_reducible repeat (first | apply Kd.R_alloc | apply Kd.R_drewN | apply Kd.R_drew)); exact HO0.out⟩, ⟨by repeat (first | (with_reducible first | exact HK.out | apply Kept.alloc | apply Kept.drewN | apply Kept.drew) | exact HK.out)⟩, ⟨by repeat (first | (with_reducible first | exact HB.out | apply below_alloc | apply pw_below_drewN | apply below_drew1) | exact HB.out)⟩⟩
 case round =>
  clear H'
  try clear c2
  try clear p2
  obtain ⟨x0_1, x1_1, x5_1, rfl, rfl, HA, HK1, HO_0, HK, HB⟩ := hrel
  cases gk with
  | zero => exact absurd HA.out (by simp [laws_markRangeS.l0])
  | succ k1 =>
   have H := HA.out
   clear HA
   simp only [laws_markRangeS.l0] at H
   by_cases c3 : x5_1 < (x0_1.length : Int)
   ·rw [if_pos c3] at H
    have c3b0 : decide (x5_1 < (x0_1.length : Int)) = true := decide_eq_true c3
    clear c3
    by_cases c4 : 0 ≤ x5_1
    ·rw [if_pos c4] at H
     have c4b0 : decide (0 ≤ x5_1) = true := decide_eq_true c4
     clear c4
     obtain ⟨y116, hy116⟩ : ∃ y_ : List (S105), y_ = (x0_1.set (x5_1 : Int).toNat (⟨x1_1, (rd_T105 x0_1 x5_1).f1⟩ : S105)) := ⟨_, rfl⟩
     replace H : (laws_markRangeS.l0 k1 (y116.set (x5_1 : Int).toNat (⟨(rd_T105 y116 x5_1).f0, wrap64 (x1_1 + 1)⟩ : S105)) (wrap64 ((wrap64 (x1_1 + 1)) + 1)) (wrap64 (x5_1 + 1))) = some (r1, r2) := by first | (rw [hy116]; with_reducible exact H) | (have H2_ := (Option.bind_some _ _).symm.trans H; rw [hy116]; with_reducible exact H2_) | (have H2_ := (Option.bind_some _ _).symm.trans H; with_reducible exact H2_) | with_reducible exact H | (rw [hy116]; exact H) | exact H
     have Ny116 := Aside0.mk hy116
     clear hy116
     obtain ⟨y117, hy117⟩ : ∃ y_ : List (S105), y_ = (y116.set (x5_1 : Int).toNat (⟨(rd_T105 y116 x5_1).f0, wrap64 (x1_1 + 1)⟩ : S105)) := ⟨_, rfl⟩
     replace H : (laws_markRangeS.l0 k1 y117 (wrap64 ((wrap64 (x1_1 + 1)) + 1)) (wrap64 (x5_1 + 1))) = some (r1, r2) := by first | (rw [hy117]; with_reducible exact H) | (have H2_ := (Option.bind_some _ _).symm.trans H; rw [hy117]; with_reducible exact H2_) | (have H2_ := (Option.bind_some _ _).symm.trans H; with_reducible exact H2_) | with_reducible exact H | (rw [hy117]; exact H) | exact H
     have Ny117 := Aside0.mk hy117
     clear hy117
     have H' := Aside0.mk H
     clear H
     obtain ⟨Ao7, co7, eo7⟩ := Kd.R_slice HO_0.out
     subst eo7
     have p5 : 0 ≤ (x5_1 : Int) := of_decide_eq_true (by first | (with_reducible assumption) | assumption)
     have q5 : (x5_1 : Int) < ((x0_1.length : Int) : Int) := of_decide_eq_true (by first | (with_reducible assumption) | assumption)
     obtain ⟨go5, co5, eo5, gb5, gl5, cl5, HG5⟩ := Kd.R_form HO_0.out (by omega)
     (first | cases eo5 | (injection eo5 with ea_ en_ ec_; (first | subst ea_ | (injection ea_ with ea_; subst ea_)); subst ec_; clear en_))
     have GB5 := Aside0.mk gb5
     have GG5 := Aside0.mk HG5
     clear gb5 gl5 HG5
     have HMgo5 := Aside0.mk (show (P0_ go5 ∨ w.heap.size ≤ go5) from (HO_0.out.1 _ rfl))
     obtain ⟨ce5, hcl5, hM5, hcc5, hfr5⟩ := Kd.R_elem HO_0.out z105 (x5_1 : Int) p5 q5
     obtain rfl := k105_openM hM5
     have hx5_0 : wr.cell? ⟨go5, (x5_1 : Int).toNat * 2, none⟩ = some (.int .i64 ((rd_T105 x0_1 x5_1).f0)) := hcc5 0 _ rfl
     have hx5_1 : wr.cell? ⟨go5, (x5_1 : Int).toNat * 2 + 1, none⟩ = some (.int .i64 ((rd_T105 x0_1 x5_1).f1)) := hcc5 1 _ rfl
     have hf5_0 : wr.frozen? ⟨go5, (x5_1 : Int).toNat * 2, none⟩ = false := hfr5 0
     have hf5_1 : wr.frozen? ⟨go5, (x5_1 : Int).toNat * 2 + 1, none⟩ = false := hfr5 1
     clear hcl5 hcc5 hfr5 hM5
     replace p5 := eq_true p5
     replace q5 := eq_true q5
     have HX8 := Aside0.mk (show Kd.R k105 105 wr w0.heap.size (fun k_ => (P0_ k_ ∨ w.heap.size ≤ k_)) (.slice (some ⟨go5, 0, none⟩) x0_1.length co7) x0_1 from (by (with_reducible repeat (first | apply Kd.R_alloc | apply Kd.R_drewN | apply Kd.R_drew)); exact HO_0.out))
     obtain ⟨ce8, hcl8, hM8, hcc8, hfr8⟩ := Kd.R_elem HX8.out z105 (x5_1 : Int) (of_decide_eq_true (by first | (with_reducible assumption) | assumption)) (by have h_ : (x5_1 : Int) < ((x0_1.length : Int) : Int) := of_decide_eq_true (by first | (with_reducible assumption) | assumption); first | exact h_ | (have e_ := (Kd.R_reads' HO_0.out).1; omega) | simpa using h_)
     obtain rfl := k105_openM hM8
     have HP8 := Kd.R_seg HX8.out (x5_1 : Int) (of_decide_eq_true (by first | (with_reducible assumption) | assumption)) (by have h_ : (x5_1 : Int) < ((x0_1.length : Int) : Int) := of_decide_eq_true (by first | (with_reducible assumption) | assumption); first | exact h_ | (have e_ := (Kd.R_reads' HO_0.out).1; omega) | simpa using h_) (seg := [.int .i64 x1_1]) (j := 0) hcl8 hcc8 (show 1 ≤ 2 from by decide) (x' := (⟨x1_1, (rd_T105 x0_1 x5_1).f1⟩ : S105)) (k105_mkM _ _ _ (⟨x1_1, (rd_T105 x0_1 x5_1).f1⟩ : S105) ) (fun _ hk => hk)
     have hx8_0 := hcc8 0 _ rfl
     (try simp only [show (k105).sz = 2 from rfl, Nat.mul_one, Nat.add_zero] at hx8_0)
     have hf8_0 := hfr8 0
     (try simp only [show (k105).sz = 2 from rfl, Nat.mul_one, Nat.add_zero] at hf8_0)
     clear hcl8 hcc8 hfr8 hM8
     go_wp2_with (first | ((with_reducible refine gate_store (t := 3) (p := 16) rfl ?_); refine store_event (t := 3) (p := 16) (v := ?vo_w9) (w1 := (wr.setCell ⟨go5, (x5_1 : Int).toNat * 2, none⟩ (.int .i64 x1_1))) ?hg ?ho ?hn ?hr ?_; (case ho => rfl); (case hg => rfl); (case hn => rfl); (case hr => first | (go_simp; done) | (go_simp; rfl)); intro w9 hw; have hg : wr.grownBy w9 (some go5) := (by rw [hw]; exact HP8.2); have hp_ : Kd.R k105 105 w9 w0.heap.size (fun k_ => (P0_ k_ ∨ w.heap.size ≤ k_)) (.slice (some ⟨go5, 0, none⟩) x0_1.length co7) y116 := (by rw [hw, Ny116.out]; exact HP8.1); clear HP8; have n0_ := Aside0.mk (hp_); have n1_ := Aside0.mk ((by rw [hw]; exact below_set (HB.out) GB5.out : Below w0.heap.size w0 w9)); have n2_ := Aside0.mk (Kept.of_grown (S := (fun k_ => P0_ k_)) hg (by repeat (first | (with_reducible first | exact HK.out | apply Kept.alloc | apply Kept.drewN | apply Kept.drew) | exact HK.out)) (fun k_ e_ => (HO_0.out.1 k_ e_))); clear HO_0; clear HB; clear HK; have HO_0 := n0_; have HB := n1_; have HK := n2_; clear n0_ n1_ n2_; clear hg hw hp_; have p6 : 0 ≤ (x5_1 : Int) := of_decide_eq_true (by first | (with_reducible assumption) | assumption); have q6 : (x5_1 : Int) < ((x0_1.length : Int) : Int) := of_decide_eq_true (by first | (with_reducible assumption) | assumption); obtain ⟨ce6, hcl6, hM6, hcc6, hfr6⟩ := Kd.R_elem HO_0.out z105 (x5_1 : Int) p6 q6; obtain rfl := k105_openM hM6; have hx6_0 : w9.cell? ⟨go5, (x5_1 : Int).toNat * 2, none⟩ = some (.int .i64 ((rd_T105 y116 x5_1).f0)) := hcc6 0 _ rfl; have hx6_1 : w9.cell? ⟨go5, (x5_1 : Int).toNat * 2 + 1, none⟩ = some (.int .i64 ((rd_T105 y116 x5_1).f1)) := hcc6 1 _ rfl; have hf6_0 : w9.frozen? ⟨go5, (x5_1 : Int).toNat * 2, none⟩ = false := hfr6 0; have hf6_1 : w9.frozen? ⟨go5, (x5_1 : Int).toNat * 2 + 1, none⟩ = false := hfr6 1; clear hcl6 hcc6 hfr6 hM6; replace p6 := eq_true p6; replace q6 := eq_true q6; have HX10 := Aside0.mk (show Kd.R k105 105 w9 w0.heap.size (fun k_ => (P0_ k_ ∨ w.heap.size ≤ k_)) (.slice (some ⟨go5, 0, none⟩) x0_1.length co7) y116 from (by (with_reducible repeat (first | apply Kd.R_alloc | apply Kd.R_drewN | apply Kd.R_drew)); exact HO_0.out)); obtain ⟨ce10, hcl10, hM10, hcc10, hfr10⟩ := Kd.R_elem HX10.out z105 (x5_1 : Int) (of_decide_eq_true (by first | (with_reducible assumption) | assumption)) (by have h_ : (x5_1 : Int) < ((x0_1.length : Int) : Int) := of_decide_eq_true (by first | (with_reducible assumption) | assumption); first | exact h_ | (have e_ := (Kd.R_reads' HO_0.out).1; omega) | simpa using h_); obtain rfl := k105_openM hM10; have HP10 := Kd.R_seg HX10.out (x5_1 : Int) (of_decide_eq_true (by first | (with_reducible assumption) | assumption)) (by have h_ : (x5_1 : Int) < ((x0_1.length : Int) : Int) := of_decide_eq_true (by first | (with_reducible assumption) | assumption); first | exact h_ | (have e_ := (Kd.R_reads' HO_0.out).1; omega) | simpa using h_) (seg := [.int .i64 (wrap64 (x1_1 + 1))]) (j := 1) hcl10 hcc10 (show 2 ≤ 2 from by decide) (x' := (⟨(rd_T105 y116 x5_1).f0, wrap64 (x1_1 + 1)⟩ : S105)) (k105_mkM _ _ _ (⟨(rd_T105 y116 x5_1).f0, wrap64 (x1_1 + 1)⟩ : S105) ) (fun _ hk => hk); have hx10_1 := hcc10 1 _ rfl; (try simp only [show (k105).sz = 2 from rfl, Nat.mul_one, Nat.add_zero] at hx10_1); have hf10_1 := hfr10 1; (try simp only [show (k105).sz = 2 from rfl, Nat.mul_one, Nat.add_zero] at hf10_1); clear hcl10 hcc10 hfr10 hM10) | ((with_reducible refine gate_store (t := 3) (p := 23) rfl ?_); refine store_event (t := 3) (p := 23) (v := ?vo_w11) (w1 := (w9.setCell ⟨go5, (x5_1 : Int).toNat * 2 + 1, none⟩ (.int .i64 (wrap64 (x1_1 + 1))))) ?hg ?ho ?hn ?hr ?_; (case ho => rfl); (case hg => rfl); (case hn => rfl); (case hr => first | (go_simp; done) | (go_simp; rfl)); intro w11 hw; have hg : w9.grownBy w11 (some go5) := (by rw [hw]; exact HP10.2); have hp_ : Kd.R k105 105 w11 w0.heap.size (fun k_ => (P0_ k_ ∨ w.heap.size ≤ k_)) (.slice (some ⟨go5, 0, none⟩) x0_1.length co7) y117 := (by rw [hw, Ny117.out]; exact HP10.1); clear HP10; have n0_ := Aside0.mk (hp_); have n1_ := Aside0.mk ((by rw [hw]; exact below_set (HB.out) GB5.out : Below w0.heap.size w0 w11)); have n2_ := Aside0.mk (Kept.of_grown (S := (fun k_ => P0_ k_)) hg (by repeat (first | (with_reducible first | exact HK.out | apply Kept.alloc | apply Kept.drewN | apply Kept.drew) | exact HK.out)) (fun k_ e_ => (HO_0.out.1 k_ e_))); clear HO_0; clear HB; clear HK; have HO_0 := n0_; have HB := n1_; have HK := n2_; clear n0_ n1_ n2_; clear hg hw hp_))
     go_roundg k1
     case measure => have := HK1.out; omega
     case rel => exact ⟨(y117), (wrap64 ((wrap64 (x1_1 + 1)) + 1)), (wrap64 (x5_1 + 1)), (by first | rfl | (simp; done) | (simp [*]; done)), (by first | rfl | (simp; done) | (simp [*]; done)), H', ⟨by have := HK1.out; omega⟩, ⟨by (with_reducible repeat (first | apply Kd.R_alloc | apply Kd.R_drewN | apply Kd.R_drew)); exact HO_0.out⟩, ⟨by repeat (first | (with_reducible first | exact HK.out | apply Kept.alloc | apply Kept.drewN | apply Kept.drew) | exact HK.out)⟩, ⟨by repeat (first | (with_reducible first | exact HB.out | apply below_alloc | apply pw_below_drewN | apply below_drew1) | exact HB.out)⟩⟩
    ·rw [if_neg c4] at H
     exact absurd H (by simp)
   ·rw [if_neg c3] at H
    have c3b0 : decide (x5_1 < (x0_1.length : Int)) = false := decide_eq_false c3
    clear c3
    simp only [Option.some.injEq, Prod.mk.injEq] at H
    obtain ⟨rfl, rfl⟩ := H
    obtain ⟨Ao12, co12, eo12⟩ := Kd.R_slice HO_0.out
    subst eo12
    go_wp2
    go_ret
    exact ⟨by first | rfl | (simp [errW_none, errW_some] <;> rfl) | (simp [*, errW_none, errW_some] <;> rfl), by (with_reducible repeat (first | apply Kd.R_alloc | apply Kd.R_drewN | apply Kd.R_drew)); exact HO_0.out, by repeat (first | (with_reducible first | exact HB.out | apply below_alloc | apply pw_below_drewN | apply below_drew1) | exact HB.out), by repeat (first | (with_reducible first | exact HK.out | apply Kept.alloc | apply Kept.drewN | apply Kept.drew) | exact HK.out)⟩

/-- An own row whose capacity is told less than it is. -/
def RC {α : Type} (d : Kd α) (e : Nat) (w : World) (base : Nat) (ok : Nat → Prop) (v : Value) (xs : List α) : Prop := ∃ A c c', v = .slice A xs.length c ∧ xs.length ≤ c ∧ Kd.R d e w base ok (.slice A xs.length c') xs
def impl_PutNumber.f (k : Nat) (l0 : List S105) (a1 : Int) : Option (List S105 × Bool) := (impl_GoodRanges.f k l0).bind fun t => if t = true then ((impl_isVarint.f a1).bind fun u => if u = true then ((impl_Range_131.f l0).bind fun cl => some ((uniR (cl ++ [⟨a1, a1⟩])).take 20, true)) else some ([], false)) else some ([], false)
theorem impl_PutNumber.mono : ∀ l0 a1 k, LeO (impl_PutNumber.f k l0 a1) (impl_PutNumber.f (k + 1) l0 a1) := by
  intro l0 a1 k
  unfold impl_PutNumber.f
  exact LeO.bind (impl_GoodRanges.mono _ _) (fun _ => LeO.refl _)
set_option maxHeartbeats 1600000 in
set_option maxRecDepth 100000 in
theorem impl_PutNumber.callsRC (k : Nat) (A0 : Option Addr) (c0 : Nat) (l0 : List (S105)) (a1 : Int) (r1 : List (S105)) (r2 : Bool) (w : World) (hr0 : Kd.C k105 w A0 l0.length l0) (hc0 : l0.length ≤ c0) (h : impl_PutNumber.f k l0 a1 = some (r1, r2)) :
    Calls Try.prog 53 #[.slice A0 l0.length c0, .int .i64 a1] w fun e w' => ∃ v0_ : Value, e = .returned (.tuple #[v0_, .bool r2]) ∧ RC k105 105 w' w.heap.size (fun _ => True) v0_ r1 ∧ Below w.heap.size w w' := by
  obtain ⟨t, A, H⟩ := Option.bind_eq_some_iff.mp h
  clear h
  have HR0 := Aside0.mk hr0
  have HC0 := Aside0.mk hc0
  have HA1 := Aside0.mk A
  have NIL : ∀ w', RC k105 105 w' w.heap.size (fun _ => True) (.slice none 0 0) [] := fun w' => ⟨none, 0, 0, rfl, Nat.le_refl _, Kd.R_nil _ _ _ _ _⟩
  clear hr0 hc0 A
  cases t with
  | false =>
    rw [if_neg (by decide)] at H
    simp only [Option.some.injEq, Prod.mk.injEq] at H
    obtain ⟨rfl, rfl⟩ := H
    go_enter Try.func53, Try.ntmps53
    go_wp2_with fail
    refine (impl_GoodRanges.calls k A0 c0 l0 false _ HR0.out HC0.out HA1.out).mono ?_
    rintro e w1 ⟨rfl, hb⟩
    go_wp2
    go_ret2
    exact ⟨_, rfl, NIL _, hb⟩
  | true =>
    rw [if_pos rfl] at H
    obtain ⟨u, A, H⟩ := Option.bind_eq_some_iff.mp H
    have HA2 := Aside0.mk A
    clear A
    cases u with
    | false =>
      rw [if_neg (by decide)] at H
      simp only [Option.some.injEq, Prod.mk.injEq] at H
      obtain ⟨rfl, rfl⟩ := H
      go_enter Try.func53, Try.ntmps53
      go_wp2_with fail
      refine (impl_GoodRanges.calls k A0 c0 l0 true _ HR0.out HC0.out HA1.out).mono ?_
      rintro e w1 ⟨rfl, hb⟩
      have HB := Aside0.mk hb
      clear hb
      go_wp2_with fail
      refine (impl_isVarint.calls a1 false _ HA2.out).mono ?_
      rintro e w2 ⟨rfl, ⟨nd, rfl⟩⟩
      go_wp2
      go_ret2
      exact ⟨_, rfl, NIL _, pw_below_drewN HB.out nd⟩
    | true =>
      rw [if_pos rfl] at H
      obtain ⟨cl, A, H⟩ := Option.bind_eq_some_iff.mp H
      have HL0 := Aside0.mk (good_short HA1.out)
      have HA3 := Aside0.mk A
      clear A
      simp only [Option.some.injEq, Prod.mk.injEq] at H
      obtain ⟨rfl, rfl⟩ := H
      have ecl : cl = l0 := by
        have h := HA3.out
        unfold impl_Range_131.f at h
        split at h
        · exact (Option.some.inj h).symm
        · cases h
      subst ecl
      go_enter Try.func53, Try.ntmps53
      go_wp2_with fail
      refine (impl_GoodRanges.calls k A0 c0 cl true _ HR0.out HC0.out HA1.out).mono ?_
      rintro e w1 ⟨rfl, hb⟩
      have HB := Aside0.mk hb
      clear hb
      go_wp2_with fail
      refine (impl_isVarint.calls a1 true _ HA2.out).mono ?_
      rintro e w2 ⟨rfl, ⟨nd, rfl⟩⟩
      have HB2 := Aside0.mk (pw_below_drewN HB.out nd)
      clear HB
      generalize w1.drewN nd = w2 at *
      go_wp2_with fail
      refine (impl_Range_131.calls A0 c0 cl cl _ (Kd.C_below HR0.out HB2.out) HC0.out HA3.out).mono ?_
      rintro e w3 ⟨v, rfl, ho, hb⟩
      have HO := Aside0.mk (Kd.R_lower ho HB2.out.size)
      have HB3 := Aside0.mk (HB2.out.trans (hb.mono HB2.out.size))
      clear ho hb HB2
      go_wp2_with (first | ((with_reducible refine gate_builtin (b := .append) (xs := #[.tmp 16, .tmp 20]) rfl ?_); at_builtin; refine Kd.R_append k105 (w0 := w) w.heap.size rfl (.tmp 16) (.tmp 20) 38 105 (.agg #[(.int .i64 0), (.int .i64 0)]) 16 rfl Try.underlying38 info105 rfl (by decide) (by omega) _ cl (⟨a1, a1⟩ : S105) [.int .i64 a1, .int .i64 a1] (fun _ => True) (fun _ => False) rfl (by first | (go_simp; done) | (go_simp; rfl)) ?aP (fun _ hk => hk.elim) ?aF ?aO ?aB ?aS ?aL ?_; (case aP => exact k105_mkM _ _ _ (⟨a1, a1⟩ : S105)); (case aF => exact fun _ _ => trivial); (case aO => exact HO.out); (case aB => exact HB3.out); (case aS => exact HB3.out.size); (case aL => have := HL0.out; omega); intro v3 w4 ho hb hg hat; have HO4 := Aside0.mk ho; have HB4 := Aside0.mk hb; clear ho hb hg hat))
      refine (united_calls w v3 (cl ++ [⟨a1, a1⟩]) _ (by rw [List.length_append, List.length_singleton]; have := HL0.out; omega) HO4.out HB4.out).mono ?_
      rintro e w5 ⟨v5, rfl, ho, hb⟩
      change Kd.R k105 105 w5 w.heap.size (fun _ => True) v5 (uniR (cl ++ [⟨a1, a1⟩])) at ho
      obtain ⟨U, hU⟩ : ∃ U, U = uniR (cl ++ [⟨a1, a1⟩]) := ⟨_, rfl⟩
      rw [← hU] at ho
      have HU := Aside0.mk hU
      clear hU
      obtain ⟨A, c, rfl, hlc, hC⟩ := Kd.R_reads ho
      have HO5 := Aside0.mk ho
      have HB5 := Aside0.mk hb
      clear ho hb hC HO4 HB4
      by_cases hm : (20 : Int) < (U.length : Int)
      · have q1 : (20 : Int) ≤ (c : Int) := by omega
        go_wp2
        go_ret2
        have hT := Kd.R_take (m := 20) HO5.out (by omega)
        have e : (U.take 20).length = 20 := by rw [List.length_take]; omega
        refine ⟨_, rfl, ?_, HB5.out⟩
        rw [← HU.out]
        exact ⟨A, 20, c, by rw [e]; rfl, by omega, by rw [e]; exact hT⟩
      · have q1 : (U.length : Int) ≤ (c : Int) := by omega
        go_wp2
        go_ret2
        have e : U.take 20 = U := List.take_of_length_le (by omega)
        refine ⟨_, rfl, ?_, HB5.out⟩
        rw [← HU.out]
        exact ⟨A, U.length, c, by rw [e]; rfl, by rw [e]; exact Nat.le_refl _, by rw [e]; exact HO5.out⟩
theorem impl_PutNumber.calls (k : Nat) (A0 : Option Addr) (c0 : Nat) (l0 : List (S105)) (a1 : Int) (r1 : List (S105)) (r2 : Bool) (w : World) (hr0 : Kd.C k105 w A0 l0.length l0) (hc0 : l0.length ≤ c0) (h : impl_PutNumber.f k l0 a1 = some (r1, r2)) :
    Calls Try.prog 53 #[.slice A0 l0.length c0, .int .i64 a1] w fun e w' => ∃ (v0_ : Value) (cN : Nat), e = .returned (.tuple #[narrow v0_ cN, .bool r2]) ∧ Kd.R k105 105 w' w.heap.size (fun _ => True) v0_ r1 ∧ r1.length ≤ cN ∧ Below w.heap.size w w' := by
  refine (impl_PutNumber.callsRC k A0 c0 l0 a1 r1 r2 w hr0 hc0 h).mono ?_
  rintro e w' ⟨v, rfl, ⟨A, c, c', rfl, hc, ho⟩, hb⟩
  exact ⟨_, c, rfl, ho, hc, hb⟩

end Go.Proofs.Ytjmakjddhbdocaa.PFnExactPutNumber
