-- Written by a program of this session (wip/xprint.py).
import Derived.Test.YtikomfdkdoognaaPFnExactStaticAtx0
import Derived.Test.YtikomfdkdoognaaPFnExactStaticAtx1
namespace Go.Proofs.Ytikomfdkdoognaa.PFnExactStaticAt
open Go.RowKit Go.Proofs.YtikomfdkdoognaaW.PrintWords Go.Proofs.YtikomfdkdoognaaW.PrintLast Go.Proofs.YtikomfdkdoognaaW.PrintMore
open Go.Proofs.Ytikomfdkdoognaa.ShortK (bN bD bA sA sZ sS cz2 fz2 cz3 fz3 cz4 fz4 cz5 fz5 cz6 fz6 cz7 fz7 cz8 fz8 cz9 fz9 cz10 fz10 cz11 fz11 cz12 fz12)
attribute [local go_sem] Go.Proofs.Ytikomfdkdoognaa.StoreK.isSome_setCell max2_int min2_int max_two min_two max_three min_three max_four min_four   -- for this text's walks alone
set_option linter.unusedVariables false
set_option linter.unusedSimpArgs false

attribute [local go_sem high] eqA30
/-! ### laws_szField: function 17 -/
def laws_szField.f (a0_0 : ByteArray) (a0_1 : ByteArray) (a1 : Int) : Option (Int) := if (wrap64 (a1 - (a0_0.size : Int))) < 0 then (some (-1)) else (if (wrap64 ((wrap64 (a1 - (a0_0.size : Int))) - (a0_1.size : Int))) < 0 then (some (-1)) else (some (wrap64 ((wrap64 (a1 - (a0_0.size : Int))) - (a0_1.size : Int)))))
set_option maxHeartbeats 64000000 in
set_option maxRecDepth 100000 in
theorem laws_szField.calls (a0_0 : ByteArray) (a0_1 : ByteArray) (a1 : Int) (r : Int) (w : World) (h : laws_szField.f a0_0 a0_1 a1 = some r) :
  Calls Try.prog 17 #[.agg #[.string a0_0, .string a0_1], .int .i64 a1] w fun e w' => e = .returned (.int .i64 r) ∧ Below w.heap.size w w' := by
 have hu26 := Try.underlying26
 have HB := Aside0.mk (Below.refl w.heap.size w)
 have H : (if (wrap64 (a1 - (a0_0.size : Int))) < 0 then (some (-1)) else (if (wrap64 ((wrap64 (a1 - (a0_0.size : Int))) - (a0_1.size : Int))) < 0 then (some (-1)) else (some (wrap64 ((wrap64 (a1 - (a0_0.size : Int))) - (a0_1.size : Int)))))) = some r := h
 clear h
 by_cases c3 : (wrap64 (a1 - (a0_0.size : Int))) < 0
 ·rw [if_pos c3] at H
  have c3b0 : decide ((wrap64 (a1 - (a0_0.size : Int))) < 0) = true := decide_eq_true c3
  (try (have c3b1 : decide ((IntKind.i64.wrap (a1 - (a0_0.size : Int))) < 0) = true := by simp only [i64_w]; exact (decide_eq_true c3)))
  clear c3
  obtain rfl := Option.some.inj H
  go_enter Try.func17, Try.ntmps17
  go_wp2_with (first | ((with_reducible refine gate_dst (N := 2) rfl ?_); refine box_event ?hg (N := 2) ?hd (cs := #[.string a0_0, .string a0_1]) (t := 26) ?hr ?_; (case hd => rfl); (case hg => rfl); (case hr => first | (go_simp; done) | (go_simp; rfl)); intro gb101 hg w4 hbox hb; have n0_ := Aside0.mk (below_step (by repeat (first | (with_reducible first | exact HB.out | apply below_alloc | apply pw_below_drewN | apply below_drew1) | exact HB.out)) hb); have n1_ := Aside0.mk (hbox); have n2_ := Aside0.mk ((by rw [hg]; exact (below_size (by repeat (first | (with_reducible first | exact HB.out | apply below_alloc | apply pw_below_drewN | apply below_drew1) | exact HB.out))) : w.heap.size ≤ gb101)); have n3_ := n2_; clear HB; have HB := n0_; have BK101 := n1_; have GW101 := n2_; have GE101 := n3_; clear n0_ n1_ n2_ n3_; clear hb hbox hg; obtain ⟨hcz5_0, hcz5_1⟩ := cz2 BK101; obtain ⟨hfz5_0, hfz5_1⟩ := fz2 BK101))
  go_ret
  exact ⟨by first | rfl | (simp [errW_none, errW_some] <;> rfl) | (simp [*, errW_none, errW_some] <;> rfl), by repeat (first | (with_reducible first | exact HB.out | apply below_alloc | apply pw_below_drewN | apply below_drew1 | refine below_set ?_ GE101.out) | exact HB.out)⟩
 ·rw [if_neg c3] at H
  have c3b0 : decide ((wrap64 (a1 - (a0_0.size : Int))) < 0) = false := decide_eq_false c3
  (try (have c3b1 : decide ((IntKind.i64.wrap (a1 - (a0_0.size : Int))) < 0) = false := by simp only [i64_w]; exact (decide_eq_false c3)))
  clear c3
  by_cases c6 : (wrap64 ((wrap64 (a1 - (a0_0.size : Int))) - (a0_1.size : Int))) < 0
  ·rw [if_pos c6] at H
   have c6b0 : decide ((wrap64 ((wrap64 (a1 - (a0_0.size : Int))) - (a0_1.size : Int))) < 0) = true := decide_eq_true c6
   (try (have c6b1 : decide ((IntKind.i64.wrap ((IntKind.i64.wrap (a1 - (a0_0.size : Int))) - (a0_1.size : Int))) < 0) = true := by simp only [i64_w]; exact (decide_eq_true c6)))
   clear c6
   obtain rfl := Option.some.inj H
   go_enter Try.func17, Try.ntmps17
   go_wp2_with (first | ((with_reducible refine gate_dst (N := 2) rfl ?_); refine box_event ?hg (N := 2) ?hd (cs := #[.string a0_0, .string a0_1]) (t := 26) ?hr ?_; (case hd => rfl); (case hg => rfl); (case hr => first | (go_simp; done) | (go_simp; rfl)); intro gb101 hg w7 hbox hb; have n0_ := Aside0.mk (below_step (by repeat (first | (with_reducible first | exact HB.out | apply below_alloc | apply pw_below_drewN | apply below_drew1) | exact HB.out)) hb); have n1_ := Aside0.mk (hbox); have n2_ := Aside0.mk ((by rw [hg]; exact (below_size (by repeat (first | (with_reducible first | exact HB.out | apply below_alloc | apply pw_below_drewN | apply below_drew1) | exact HB.out))) : w.heap.size ≤ gb101)); have n3_ := n2_; clear HB; have HB := n0_; have BK101 := n1_; have GW101 := n2_; have GE101 := n3_; clear n0_ n1_ n2_ n3_; clear hb hbox hg; obtain ⟨hcz8_0, hcz8_1⟩ := cz2 BK101; obtain ⟨hfz8_0, hfz8_1⟩ := fz2 BK101))
   go_ret
   exact ⟨by first | rfl | (simp [errW_none, errW_some] <;> rfl) | (simp [*, errW_none, errW_some] <;> rfl), by repeat (first | (with_reducible first | exact HB.out | apply below_alloc | apply pw_below_drewN | apply below_drew1 | refine below_set ?_ GE101.out) | exact HB.out)⟩
  ·rw [if_neg c6] at H
   have c6b0 : decide ((wrap64 ((wrap64 (a1 - (a0_0.size : Int))) - (a0_1.size : Int))) < 0) = false := decide_eq_false c6
   (try (have c6b1 : decide ((IntKind.i64.wrap ((IntKind.i64.wrap (a1 - (a0_0.size : Int))) - (a0_1.size : Int))) < 0) = false := by simp only [i64_w]; exact (decide_eq_false c6)))
   clear c6
   obtain rfl := Option.some.inj H
   go_enter Try.func17, Try.ntmps17
   go_wp2_with (first | ((with_reducible refine gate_dst (N := 2) rfl ?_); refine box_event ?hg (N := 2) ?hd (cs := #[.string a0_0, .string a0_1]) (t := 26) ?hr ?_; (case hd => rfl); (case hg => rfl); (case hr => first | (go_simp; done) | (go_simp; rfl)); intro gb101 hg w9 hbox hb; have n0_ := Aside0.mk (below_step (by repeat (first | (with_reducible first | exact HB.out | apply below_alloc | apply pw_below_drewN | apply below_drew1) | exact HB.out)) hb); have n1_ := Aside0.mk (hbox); have n2_ := Aside0.mk ((by rw [hg]; exact (below_size (by repeat (first | (with_reducible first | exact HB.out | apply below_alloc | apply pw_below_drewN | apply below_drew1) | exact HB.out))) : w.heap.size ≤ gb101)); have n3_ := n2_; clear HB; have HB := n0_; have BK101 := n1_; have GW101 := n2_; have GE101 := n3_; clear n0_ n1_ n2_ n3_; clear hb hbox hg; obtain ⟨hcz10_0, hcz10_1⟩ := cz2 BK101; obtain ⟨hfz10_0, hfz10_1⟩ := fz2 BK101))
   go_ret
   exact ⟨by first | rfl | (simp [errW_none, errW_some] <;> rfl) | (simp [*, errW_none, errW_some] <;> rfl), by repeat (first | (with_reducible first | exact HB.out | apply below_alloc | apply pw_below_drewN | apply below_drew1 | refine below_set ?_ GE101.out) | exact HB.out)⟩

/-! ### spec_l15Static: function 102 -/
def spec_l15Static.f  : Option ((List (S30))) := some (([(⟨(⟨#[58, 97, 117, 116, 104, 111, 114, 105, 116, 121]⟩ : ByteArray), (⟨#[]⟩ : ByteArray)⟩ : S30), (⟨(⟨#[58, 112, 97, 116, 104]⟩ : ByteArray), (⟨#[47]⟩ : ByteArray)⟩ : S30), (⟨(⟨#[58, 109, 101, 116, 104, 111, 100]⟩ : ByteArray), (⟨#[67, 79, 78, 78, 69, 67, 84]⟩ : ByteArray)⟩ : S30), (⟨(⟨#[58, 109, 101, 116, 104, 111, 100]⟩ : ByteArray), (⟨#[71, 69, 84]⟩ : ByteArray)⟩ : S30), (⟨(⟨#[58, 109, 101, 116, 104, 111, 100]⟩ : ByteArray), (⟨#[80, 79, 83, 84]⟩ : ByteArray)⟩ : S30), (⟨(⟨#[58, 115, 99, 104, 101, 109, 101]⟩ : ByteArray), (⟨#[104, 116, 116, 112]⟩ : ByteArray)⟩ : S30), (⟨(⟨#[58, 115, 99, 104, 101, 109, 101]⟩ : ByteArray), (⟨#[104, 116, 116, 112, 115]⟩ : ByteArray)⟩ : S30), (⟨(⟨#[58, 115, 116, 97, 116, 117, 115]⟩ : ByteArray), (⟨#[50, 48, 48]⟩ : ByteArray)⟩ : S30), (⟨(⟨#[58, 115, 116, 97, 116, 117, 115]⟩ : ByteArray), (⟨#[52, 48, 52]⟩ : ByteArray)⟩ : S30), (⟨(⟨#[58, 115, 116, 97, 116, 117, 115]⟩ : ByteArray), (⟨#[53, 48, 51]⟩ : ByteArray)⟩ : S30), (⟨(⟨#[58, 112, 114, 111, 116, 111, 99, 111, 108]⟩ : ByteArray), (⟨#[99, 111, 110, 110, 101, 99, 116, 45, 117, 100, 112]⟩ : ByteArray)⟩ : S30), (⟨(⟨#[99, 97, 112, 115, 117, 108, 101, 45, 112, 114, 111, 116, 111, 99, 111, 108]⟩ : ByteArray), (⟨#[63, 49]⟩ : ByteArray)⟩ : S30), (⟨(⟨#[99, 111, 110, 116, 101, 110, 116, 45, 108, 101, 110, 103, 116, 104]⟩ : ByteArray), (⟨#[48]⟩ : ByteArray)⟩ : S30), (⟨(⟨#[100, 97, 116, 101]⟩ : ByteArray), (⟨#[]⟩ : ByteArray)⟩ : S30), (⟨(⟨#[117, 115, 101, 114, 45, 97, 103, 101, 110, 116]⟩ : ByteArray), (⟨#[]⟩ : ByteArray)⟩ : S30), (⟨(⟨#[97, 99, 99, 101, 112, 116]⟩ : ByteArray), (⟨#[42, 47, 42]⟩ : ByteArray)⟩ : S30)] : List (S30)))
set_option maxHeartbeats 64000000 in
set_option maxRecDepth 100000 in
theorem spec_l15Static.calls  (r : List (S30)) (w : World) (h : spec_l15Static.f  = some r) :
  Calls Try.prog 102 #[] w fun e w' => ∃ v0_ : Value, e = .returned (v0_) ∧ Kd.R k30 30 w' w.heap.size (fun _ => True) v0_ r ∧ Below w.heap.size w w' := by
 have hu30 := Try.underlying30
 have HB := Aside0.mk (Below.refl w.heap.size w)
 have H : (some (([(⟨(⟨#[58, 97, 117, 116, 104, 111, 114, 105, 116, 121]⟩ : ByteArray), (⟨#[]⟩ : ByteArray)⟩ : S30), (⟨(⟨#[58, 112, 97, 116, 104]⟩ : ByteArray), (⟨#[47]⟩ : ByteArray)⟩ : S30), (⟨(⟨#[58, 109, 101, 116, 104, 111, 100]⟩ : ByteArray), (⟨#[67, 79, 78, 78, 69, 67, 84]⟩ : ByteArray)⟩ : S30), (⟨(⟨#[58, 109, 101, 116, 104, 111, 100]⟩ : ByteArray), (⟨#[71, 69, 84]⟩ : ByteArray)⟩ : S30), (⟨(⟨#[58, 109, 101, 116, 104, 111, 100]⟩ : ByteArray), (⟨#[80, 79, 83, 84]⟩ : ByteArray)⟩ : S30), (⟨(⟨#[58, 115, 99, 104, 101, 109, 101]⟩ : ByteArray), (⟨#[104, 116, 116, 112]⟩ : ByteArray)⟩ : S30), (⟨(⟨#[58, 115, 99, 104, 101, 109, 101]⟩ : ByteArray), (⟨#[104, 116, 116, 112, 115]⟩ : ByteArray)⟩ : S30), (⟨(⟨#[58, 115, 116, 97, 116, 117, 115]⟩ : ByteArray), (⟨#[50, 48, 48]⟩ : ByteArray)⟩ : S30), (⟨(⟨#[58, 115, 116, 97, 116, 117, 115]⟩ : ByteArray), (⟨#[52, 48, 52]⟩ : ByteArray)⟩ : S30), (⟨(⟨#[58, 115, 116, 97, 116, 117, 115]⟩ : ByteArray), (⟨#[53, 48, 51]⟩ : ByteArray)⟩ : S30), (⟨(⟨#[58, 112, 114, 111, 116, 111, 99, 111, 108]⟩ : ByteArray), (⟨#[99, 111, 110, 110, 101, 99, 116, 45, 117, 100, 112]⟩ : ByteArray)⟩ : S30), (⟨(⟨#[99, 97, 112, 115, 117, 108, 101, 45, 112, 114, 111, 116, 111, 99, 111, 108]⟩ : ByteArray), (⟨#[63, 49]⟩ : ByteArray)⟩ : S30), (⟨(⟨#[99, 111, 110, 116, 101, 110, 116, 45, 108, 101, 110, 103, 116, 104]⟩ : ByteArray), (⟨#[48]⟩ : ByteArray)⟩ : S30), (⟨(⟨#[100, 97, 116, 101]⟩ : ByteArray), (⟨#[]⟩ : ByteArray)⟩ : S30), (⟨(⟨#[117, 115, 101, 114, 45, 97, 103, 101, 110, 116]⟩ : ByteArray), (⟨#[]⟩ : ByteArray)⟩ : S30), (⟨(⟨#[97, 99, 99, 101, 112, 116]⟩ : ByteArray), (⟨#[42, 47, 42]⟩ : ByteArray)⟩ : S30)] : List (S30)))) = some r := h
 clear h
 obtain ⟨y102, hy102⟩ : ∃ y_ : List (S30), y_ = (([(⟨(⟨#[58, 97, 117, 116, 104, 111, 114, 105, 116, 121]⟩ : ByteArray), (⟨#[]⟩ : ByteArray)⟩ : S30), (⟨(⟨#[58, 112, 97, 116, 104]⟩ : ByteArray), (⟨#[47]⟩ : ByteArray)⟩ : S30), (⟨(⟨#[58, 109, 101, 116, 104, 111, 100]⟩ : ByteArray), (⟨#[67, 79, 78, 78, 69, 67, 84]⟩ : ByteArray)⟩ : S30), (⟨(⟨#[58, 109, 101, 116, 104, 111, 100]⟩ : ByteArray), (⟨#[71, 69, 84]⟩ : ByteArray)⟩ : S30), (⟨(⟨#[58, 109, 101, 116, 104, 111, 100]⟩ : ByteArray), (⟨#[80, 79, 83, 84]⟩ : ByteArray)⟩ : S30), (⟨(⟨#[58, 115, 99, 104, 101, 109, 101]⟩ : ByteArray), (⟨#[104, 116, 116, 112]⟩ : ByteArray)⟩ : S30), (⟨(⟨#[58, 115, 99, 104, 101, 109, 101]⟩ : ByteArray), (⟨#[104, 116, 116, 112, 115]⟩ : ByteArray)⟩ : S30), (⟨(⟨#[58, 115, 116, 97, 116, 117, 115]⟩ : ByteArray), (⟨#[50, 48, 48]⟩ : ByteArray)⟩ : S30), (⟨(⟨#[58, 115, 116, 97, 116, 117, 115]⟩ : ByteArray), (⟨#[52, 48, 52]⟩ : ByteArray)⟩ : S30), (⟨(⟨#[58, 115, 116, 97, 116, 117, 115]⟩ : ByteArray), (⟨#[53, 48, 51]⟩ : ByteArray)⟩ : S30), (⟨(⟨#[58, 112, 114, 111, 116, 111, 99, 111, 108]⟩ : ByteArray), (⟨#[99, 111, 110, 110, 101, 99, 116, 45, 117, 100, 112]⟩ : ByteArray)⟩ : S30), (⟨(⟨#[99, 97, 112, 115, 117, 108, 101, 45, 112, 114, 111, 116, 111, 99, 111, 108]⟩ : ByteArray), (⟨#[63, 49]⟩ : ByteArray)⟩ : S30), (⟨(⟨#[99, 111, 110, 116, 101, 110, 116, 45, 108, 101, 110, 103, 116, 104]⟩ : ByteArray), (⟨#[48]⟩ : ByteArray)⟩ : S30), (⟨(⟨#[100, 97, 116, 101]⟩ : ByteArray), (⟨#[]⟩ : ByteArray)⟩ : S30), (⟨(⟨#[117, 115, 101, 114, 45, 97, 103, 101, 110, 116]⟩ : ByteArray), (⟨#[]⟩ : ByteArray)⟩ : S30), (⟨(⟨#[97, 99, 99, 101, 112, 116]⟩ : ByteArray), (⟨#[42, 47, 42]⟩ : ByteArray)⟩ : S30)] : List (S30))) := ⟨_, rfl⟩
 replace H : (some y102) = some r := by first | (rw [hy102]; with_reducible exact H) | (have H2_ := (Option.bind_some _ _).symm.trans H; rw [hy102]; with_reducible exact H2_) | (have H2_ := (Option.bind_some _ _).symm.trans H; with_reducible exact H2_) | with_reducible exact H | (rw [hy102]; exact H) | exact H
 have Ny102 := Aside0.mk hy102
 clear hy102
 obtain rfl := Option.some.inj H
 go_enter Try.func102, Try.ntmps102
 go_wp2_with (first | ((with_reducible refine gate_dst (N := 17) rfl ?_); refine Kd.R_lit k30 _ 30 ?hg (N := 17) ?hd (xs := ([(⟨(⟨#[58, 97, 117, 116, 104, 111, 114, 105, 116, 121]⟩ : ByteArray), (⟨#[]⟩ : ByteArray)⟩ : S30), (⟨(⟨#[58, 112, 97, 116, 104]⟩ : ByteArray), (⟨#[47]⟩ : ByteArray)⟩ : S30), (⟨(⟨#[58, 109, 101, 116, 104, 111, 100]⟩ : ByteArray), (⟨#[67, 79, 78, 78, 69, 67, 84]⟩ : ByteArray)⟩ : S30), (⟨(⟨#[58, 109, 101, 116, 104, 111, 100]⟩ : ByteArray), (⟨#[71, 69, 84]⟩ : ByteArray)⟩ : S30), (⟨(⟨#[58, 109, 101, 116, 104, 111, 100]⟩ : ByteArray), (⟨#[80, 79, 83, 84]⟩ : ByteArray)⟩ : S30), (⟨(⟨#[58, 115, 99, 104, 101, 109, 101]⟩ : ByteArray), (⟨#[104, 116, 116, 112]⟩ : ByteArray)⟩ : S30), (⟨(⟨#[58, 115, 99, 104, 101, 109, 101]⟩ : ByteArray), (⟨#[104, 116, 116, 112, 115]⟩ : ByteArray)⟩ : S30), (⟨(⟨#[58, 115, 116, 97, 116, 117, 115]⟩ : ByteArray), (⟨#[50, 48, 48]⟩ : ByteArray)⟩ : S30), (⟨(⟨#[58, 115, 116, 97, 116, 117, 115]⟩ : ByteArray), (⟨#[52, 48, 52]⟩ : ByteArray)⟩ : S30), (⟨(⟨#[58, 115, 116, 97, 116, 117, 115]⟩ : ByteArray), (⟨#[53, 48, 51]⟩ : ByteArray)⟩ : S30), (⟨(⟨#[58, 112, 114, 111, 116, 111, 99, 111, 108]⟩ : ByteArray), (⟨#[99, 111, 110, 110, 101, 99, 116, 45, 117, 100, 112]⟩ : ByteArray)⟩ : S30), (⟨(⟨#[99, 97, 112, 115, 117, 108, 101, 45, 112, 114, 111, 116, 111, 99, 111, 108]⟩ : ByteArray), (⟨#[63, 49]⟩ : ByteArray)⟩ : S30), (⟨(⟨#[99, 111, 110, 116, 101, 110, 116, 45, 108, 101, 110, 103, 116, 104]⟩ : ByteArray), (⟨#[48]⟩ : ByteArray)⟩ : S30), (⟨(⟨#[100, 97, 116, 101]⟩ : ByteArray), (⟨#[]⟩ : ByteArray)⟩ : S30), (⟨(⟨#[117, 115, 101, 114, 45, 97, 103, 101, 110, 116]⟩ : ByteArray), (⟨#[]⟩ : ByteArray)⟩ : S30), (⟨(⟨#[97, 99, 99, 101, 112, 116]⟩ : ByteArray), (⟨#[42, 47, 42]⟩ : ByteArray)⟩ : S30)] : List (S30))) (inner := [.string (⟨#[58, 97, 117, 116, 104, 111, 114, 105, 116, 121]⟩ : ByteArray), .string (⟨#[]⟩ : ByteArray), .string (⟨#[58, 112, 97, 116, 104]⟩ : ByteArray), .string (⟨#[47]⟩ : ByteArray), .string (⟨#[58, 109, 101, 116, 104, 111, 100]⟩ : ByteArray), .string (⟨#[67, 79, 78, 78, 69, 67, 84]⟩ : ByteArray), .string (⟨#[58, 109, 101, 116, 104, 111, 100]⟩ : ByteArray), .string (⟨#[71, 69, 84]⟩ : ByteArray), .string (⟨#[58, 109, 101, 116, 104, 111, 100]⟩ : ByteArray), .string (⟨#[80, 79, 83, 84]⟩ : ByteArray), .string (⟨#[58, 115, 99, 104, 101, 109, 101]⟩ : ByteArray), .string (⟨#[104, 116, 116, 112]⟩ : ByteArray), .string (⟨#[58, 115, 99, 104, 101, 109, 101]⟩ : ByteArray), .string (⟨#[104, 116, 116, 112, 115]⟩ : ByteArray), .string (⟨#[58, 115, 116, 97, 116, 117, 115]⟩ : ByteArray), .string (⟨#[50, 48, 48]⟩ : ByteArray), .string (⟨#[58, 115, 116, 97, 116, 117, 115]⟩ : ByteArray), .string (⟨#[52, 48, 52]⟩ : ByteArray), .string (⟨#[58, 115, 116, 97, 116, 117, 115]⟩ : ByteArray), .string (⟨#[53, 48, 51]⟩ : ByteArray), .string (⟨#[58, 112, 114, 111, 116, 111, 99, 111, 108]⟩ : ByteArray), .string (⟨#[99, 111, 110, 110, 101, 99, 116, 45, 117, 100, 112]⟩ : ByteArray), .string (⟨#[99, 97, 112, 115, 117, 108, 101, 45, 112, 114, 111, 116, 111, 99, 111, 108]⟩ : ByteArray), .string (⟨#[63, 49]⟩ : ByteArray), .string (⟨#[99, 111, 110, 116, 101, 110, 116, 45, 108, 101, 110, 103, 116, 104]⟩ : ByteArray), .string (⟨#[48]⟩ : ByteArray), .string (⟨#[100, 97, 116, 101]⟩ : ByteArray), .string (⟨#[]⟩ : ByteArray), .string (⟨#[117, 115, 101, 114, 45, 97, 103, 101, 110, 116]⟩ : ByteArray), .string (⟨#[]⟩ : ByteArray), .string (⟨#[97, 99, 99, 101, 112, 116]⟩ : ByteArray), .string (⟨#[42, 47, 42]⟩ : ByteArray)]) (ok := fun _ => True) (okp := fun _ => True) ?hr ?hp (fun _ hk => hk) trivial (Below.refl _ _) (Nat.le_refl _) (by simp) ?_; (case hd => rfl); (case hg => rfl); (case hr => first | (go_simp; done) | (go_simp; rfl)); (case hp => exact (Reps.c2 (show Kd.M k30 _ _ _ (⟨(⟨#[58, 97, 117, 116, 104, 111, 114, 105, 116, 121]⟩ : ByteArray), (⟨#[]⟩ : ByteArray)⟩ : S30) [.string (⟨#[58, 97, 117, 116, 104, 111, 114, 105, 116, 121]⟩ : ByteArray), .string (⟨#[]⟩ : ByteArray)] from (k30_mkM _ _ _ (⟨(⟨#[58, 97, 117, 116, 104, 111, 114, 105, 116, 121]⟩ : ByteArray), (⟨#[]⟩ : ByteArray)⟩ : S30) )) (Reps.c2 (show Kd.M k30 _ _ _ (⟨(⟨#[58, 112, 97, 116, 104]⟩ : ByteArray), (⟨#[47]⟩ : ByteArray)⟩ : S30) [.string (⟨#[58, 112, 97, 116, 104]⟩ : ByteArray), .string (⟨#[47]⟩ : ByteArray)] from (k30_mkM _ _ _ (⟨(⟨#[58, 112, 97, 116, 104]⟩ : ByteArray), (⟨#[47]⟩ : ByteArray)⟩ : S30) )) (Reps.c2 (show Kd.M k30 _ _ _ (⟨(⟨#[58, 109, 101, 116, 104, 111, 100]⟩ : ByteArray), (⟨#[67, 79, 78, 78, 69, 67, 84]⟩ : ByteArray)⟩ : S30) [.string (⟨#[58, 109, 101, 116, 104, 111, 100]⟩ : ByteArray), .string (⟨#[67, 79, 78, 78, 69, 67, 84]⟩ : ByteArray)] from (k30_mkM _ _ _ (⟨(⟨#[58, 109, 101, 116, 104, 111, 100]⟩ : ByteArray), (⟨#[67, 79, 78, 78, 69, 67, 84]⟩ : ByteArray)⟩ : S30) )) (Reps.c2 (show Kd.M k30 _ _ _ (⟨(⟨#[58, 109, 101, 116, 104, 111, 100]⟩ : ByteArray), (⟨#[71, 69, 84]⟩ : ByteArray)⟩ : S30) [.string (⟨#[58, 109, 101, 116, 104, 111, 100]⟩ : ByteArray), .string (⟨#[71, 69, 84]⟩ : ByteArray)] from (k30_mkM _ _ _ (⟨(⟨#[58, 109, 101, 116, 104, 111, 100]⟩ : ByteArray), (⟨#[71, 69, 84]⟩ : ByteArray)⟩ : S30) )) (Reps.c2 (show Kd.M k30 _ _ _ (⟨(⟨#[58, 109, 101, 116, 104, 111, 100]⟩ : ByteArray), (⟨#[80, 79, 83, 84]⟩ : ByteArray)⟩ : S30) [.string (⟨#[58, 109, 101, 116, 104, 111, 100]⟩ : ByteArray), .string (⟨#[80, 79, 83, 84]⟩ : ByteArray)] from (k30_mkM _ _ _ (⟨(⟨#[58, 109, 101, 116, 104, 111, 100]⟩ : ByteArray), (⟨#[80, 79, 83, 84]⟩ : ByteArray)⟩ : S30) )) (Reps.c2 (show Kd.M k30 _ _ _ (⟨(⟨#[58, 115, 99, 104, 101, 109, 101]⟩ : ByteArray), (⟨#[104, 116, 116, 112]⟩ : ByteArray)⟩ : S30) [.string (⟨#[58, 115, 99, 104, 101, 109, 101]⟩ : ByteArray), .string (⟨#[104, 116, 116, 112]⟩ : ByteArray)] from (k30_mkM _ _ _ (⟨(⟨#[58, 115, 99, 104, 101, 109, 101]⟩ : ByteArray), (⟨#[104, 116, 116, 112]⟩ : ByteArray)⟩ : S30) )) (Reps.c2 (show Kd.M k30 _ _ _ (⟨(⟨#[58, 115, 99, 104, 101, 109, 101]⟩ : ByteArray), (⟨#[104, 116, 116, 112, 115]⟩ : ByteArray)⟩ : S30) [.string (⟨#[58, 115, 99, 104, 101, 109, 101]⟩ : ByteArray), .string (⟨#[104, 116, 116, 112, 115]⟩ : ByteArray)] from (k30_mkM _ _ _ (⟨(⟨#[58, 115, 99, 104, 101, 109, 101]⟩ : ByteArray), (⟨#[104, 116, 116, 112, 115]⟩ : ByteArray)⟩ : S30) )) (Reps.c2 (show Kd.M k30 _ _ _ (⟨(⟨#[58, 115, 116, 97, 116, 117, 115]⟩ : ByteArray), (⟨#[50, 48, 48]⟩ : ByteArray)⟩ : S30) [.string (⟨#[58, 115, 116, 97, 116, 117, 115]⟩ : ByteArray), .string (⟨#[50, 48, 48]⟩ : ByteArray)] from (k30_mkM _ _ _ (⟨(⟨#[58, 115, 116, 97, 116, 117, 115]⟩ : ByteArray), (⟨#[50, 48, 48]⟩ : ByteArray)⟩ : S30) )) (Reps.c2 (show Kd.M k30 _ _ _ (⟨(⟨#[58, 115, 116, 97, 116, 117, 115]⟩ : ByteArray), (⟨#[52, 48, 52]⟩ : ByteArray)⟩ : S30) [.string (⟨#[58, 115, 116, 97, 116, 117, 115]⟩ : ByteArray), .string (⟨#[52, 48, 52]⟩ : ByteArray)] from (k30_mkM _ _ _ (⟨(⟨#[58, 115, 116, 97, 116, 117, 115]⟩ : ByteArray), (⟨#[52, 48, 52]⟩ : ByteArray)⟩ : S30) )) (Reps.c2 (show Kd.M k30 _ _ _ (⟨(⟨#[58, 115, 116, 97, 116, 117, 115]⟩ : ByteArray), (⟨#[53, 48, 51]⟩ : ByteArray)⟩ : S30) [.string (⟨#[58, 115, 116, 97, 116, 117, 115]⟩ : ByteArray), .string (⟨#[53, 48, 51]⟩ : ByteArray)] from (k30_mkM _ _ _ (⟨(⟨#[58, 115, 116, 97, 116, 117, 115]⟩ : ByteArray), (⟨#[53, 48, 51]⟩ : ByteArray)⟩ : S30) )) (Reps.c2 (show Kd.M k30 _ _ _ (⟨(⟨#[58, 112, 114, 111, 116, 111, 99, 111, 108]⟩ : ByteArray), (⟨#[99, 111, 110, 110, 101, 99, 116, 45, 117, 100, 112]⟩ : ByteArray)⟩ : S30) [.string (⟨#[58, 112, 114, 111, 116, 111, 99, 111, 108]⟩ : ByteArray), .string (⟨#[99, 111, 110, 110, 101, 99, 116, 45, 117, 100, 112]⟩ : ByteArray)] from (k30_mkM _ _ _ (⟨(⟨#[58, 112, 114, 111, 116, 111, 99, 111, 108]⟩ : ByteArray), (⟨#[99, 111, 110, 110, 101, 99, 116, 45, 117, 100, 112]⟩ : ByteArray)⟩ : S30) )) (Reps.c2 (show Kd.M k30 _ _ _ (⟨(⟨#[99, 97, 112, 115, 117, 108, 101, 45, 112, 114, 111, 116, 111, 99, 111, 108]⟩ : ByteArray), (⟨#[63, 49]⟩ : ByteArray)⟩ : S30) [.string (⟨#[99, 97, 112, 115, 117, 108, 101, 45, 112, 114, 111, 116, 111, 99, 111, 108]⟩ : ByteArray), .string (⟨#[63, 49]⟩ : ByteArray)] from (k30_mkM _ _ _ (⟨(⟨#[99, 97, 112, 115, 117, 108, 101, 45, 112, 114, 111, 116, 111, 99, 111, 108]⟩ : ByteArray), (⟨#[63, 49]⟩ : ByteArray)⟩ : S30) )) (Reps.c2 (show Kd.M k30 _ _ _ (⟨(⟨#[99, 111, 110, 116, 101, 110, 116, 45, 108, 101, 110, 103, 116, 104]⟩ : ByteArray), (⟨#[48]⟩ : ByteArray)⟩ : S30) [.string (⟨#[99, 111, 110, 116, 101, 110, 116, 45, 108, 101, 110, 103, 116, 104]⟩ : ByteArray), .string (⟨#[48]⟩ : ByteArray)] from (k30_mkM _ _ _ (⟨(⟨#[99, 111, 110, 116, 101, 110, 116, 45, 108, 101, 110, 103, 116, 104]⟩ : ByteArray), (⟨#[48]⟩ : ByteArray)⟩ : S30) )) (Reps.c2 (show Kd.M k30 _ _ _ (⟨(⟨#[100, 97, 116, 101]⟩ : ByteArray), (⟨#[]⟩ : ByteArray)⟩ : S30) [.string (⟨#[100, 97, 116, 101]⟩ : ByteArray), .string (⟨#[]⟩ : ByteArray)] from (k30_mkM _ _ _ (⟨(⟨#[100, 97, 116, 101]⟩ : ByteArray), (⟨#[]⟩ : ByteArray)⟩ : S30) )) (Reps.c2 (show Kd.M k30 _ _ _ (⟨(⟨#[117, 115, 101, 114, 45, 97, 103, 101, 110, 116]⟩ : ByteArray), (⟨#[]⟩ : ByteArray)⟩ : S30) [.string (⟨#[117, 115, 101, 114, 45, 97, 103, 101, 110, 116]⟩ : ByteArray), .string (⟨#[]⟩ : ByteArray)] from (k30_mkM _ _ _ (⟨(⟨#[117, 115, 101, 114, 45, 97, 103, 101, 110, 116]⟩ : ByteArray), (⟨#[]⟩ : ByteArray)⟩ : S30) )) (Reps.c2 (show Kd.M k30 _ _ _ (⟨(⟨#[97, 99, 99, 101, 112, 116]⟩ : ByteArray), (⟨#[42, 47, 42]⟩ : ByteArray)⟩ : S30) [.string (⟨#[97, 99, 99, 101, 112, 116]⟩ : ByteArray), .string (⟨#[42, 47, 42]⟩ : ByteArray)] from (k30_mkM _ _ _ (⟨(⟨#[97, 99, 99, 101, 112, 116]⟩ : ByteArray), (⟨#[42, 47, 42]⟩ : ByteArray)⟩ : S30) )) (Reps.none _ _)))))))))))))))))); intro v103 w1 ho2 hb hg_ hnew_; clear hg_ hnew_; (first | rw [← Ny102.out] at ho2 | (simp only [Int.reduceToNat] at ho2; rw [← Ny102.out] at ho2)); have n0_ := Aside0.mk (Kd.R_lower ho2 (below_size (by repeat (first | (with_reducible first | exact HB.out | apply below_alloc | apply pw_below_drewN | apply below_drew1) | exact HB.out)))); have n1_ := Aside0.mk (below_step (by repeat (first | (with_reducible first | exact HB.out | apply below_alloc | apply pw_below_drewN | apply below_drew1) | exact HB.out)) hb); clear HB; have HO104 := n0_; have HB := n1_; clear n0_ n1_; clear hb ho2))
 go_ret
 exact ⟨_, by first | rfl | (simp [errW_none, errW_some] <;> rfl) | (simp [*, errW_none, errW_some] <;> rfl), by (with_reducible repeat (first | apply Kd.R_alloc | apply Kd.R_drewN | apply Kd.R_drew)); exact HO104.out, by repeat (first | (with_reducible first | exact HB.out | apply below_alloc | apply pw_below_drewN | apply below_drew1) | exact HB.out)⟩

/-! ### spec_l15At: function 63 -/
mutual
def spec_l15At.l0 : Nat → Int → Int → List (S30) → Int → Int → ByteArray → ByteArray → Option (Int × Int)
 | 0, _, _, _, _, _, _, _ => none
 | k + 1, x4, x5, x8, x9, x10, x106000, x106001 => if x10 < x9 then (if 0 ≤ x10 then (if x10 < (x8.length : Int) then (if x4 < 0 then (spec_l15At.j1 k x4 x5 x10 x8 x9 x10 ((((rd_T30 x8 x10).f0).toList) == x106000.toList && ((((rd_T30 x8 x10).f1).toList) == x106001.toList)) x106000 x106001 ((rd_T30 x8 x10).f0) ((rd_T30 x8 x10).f1)) else (spec_l15At.j1 k x4 x5 x10 x8 x9 x10 false x106000 x106001 ((rd_T30 x8 x10).f0) ((rd_T30 x8 x10).f1))) else (none)) else (none)) else (some (x4, x5))
def spec_l15At.j1 : Nat → Int → Int → Int → List (S30) → Int → Int → Bool → ByteArray → ByteArray → ByteArray → ByteArray → Option (Int × Int)
 | 0, _, _, _, _, _, _, _, _, _, _, _ => none
 | k + 1, x4, x5, x6, x8, x9, x10, x21, x106000, x106001, x111000, x111001 => if x21 = true then (spec_l15At.j2 k x6 x5 x6 x8 x9 x10 x106000 x106001 x111000 x111001) else (spec_l15At.j2 k x4 x5 x6 x8 x9 x10 x106000 x106001 x111000 x111001)
def spec_l15At.j2 : Nat → Int → Int → Int → List (S30) → Int → Int → ByteArray → ByteArray → ByteArray → ByteArray → Option (Int × Int)
 | 0, _, _, _, _, _, _, _, _, _, _ => none
 | k + 1, x4, x5, x6, x8, x9, x10, x106000, x106001, x111000, x111001 => if x5 < 0 then (if x111000.toList = x106000.toList then (spec_l15At.l0 k x4 x6 x8 x9 (wrap64 (x10 + 1)) x106000 x106001) else (spec_l15At.l0 k x4 x5 x8 x9 (wrap64 (x10 + 1)) x106000 x106001)) else (spec_l15At.l0 k x4 x5 x8 x9 (wrap64 (x10 + 1)) x106000 x106001)
end
def spec_l15At.f (k : Nat) (a0_0 : ByteArray) (a0_1 : ByteArray) : Option (Int × Int) := (spec_l15Static.f).bind fun t106 => (spec_l15At.l0 k (-1) (-1) t106 (t106.length : Int) 0 a0_0 a0_1)
theorem spec_l15At.mono_l : ∀ k, (∀ y0 y1 y2 y3 y4 y5 y6, LeO (spec_l15At.l0 k y0 y1 y2 y3 y4 y5 y6) (spec_l15At.l0 (k + 1) y0 y1 y2 y3 y4 y5 y6)) ∧ (∀ y0 y1 y2 y3 y4 y5 y6 y7 y8 y9 y10, LeO (spec_l15At.j1 k y0 y1 y2 y3 y4 y5 y6 y7 y8 y9 y10) (spec_l15At.j1 (k + 1) y0 y1 y2 y3 y4 y5 y6 y7 y8 y9 y10)) ∧ (∀ y0 y1 y2 y3 y4 y5 y6 y7 y8 y9, LeO (spec_l15At.j2 k y0 y1 y2 y3 y4 y5 y6 y7 y8 y9) (spec_l15At.j2 (k + 1) y0 y1 y2 y3 y4 y5 y6 y7 y8 y9))
 | 0 => ⟨fun _ _ _ _ _ _ _ r h => by simp [spec_l15At.l0] at h, fun _ _ _ _ _ _ _ _ _ _ _ r h => by simp [spec_l15At.j1] at h, fun _ _ _ _ _ _ _ _ _ _ r h => by simp [spec_l15At.j2] at h⟩
 | k + 1 => by
  obtain ⟨ih0, ih1, ih2⟩ := spec_l15At.mono_l k
  refine ⟨?_, ?_, ?_⟩
  ·intro y0 y1 y2 y3 y4 y5 y6
   unfold spec_l15At.l0
   repeat' first
   | (with_reducible exact ih0 _ _ _ _ _ _ _)
   | (with_reducible exact ih1 _ _ _ _ _ _ _ _ _ _ _)
   | (with_reducible exact ih2 _ _ _ _ _ _ _ _ _ _)
   | (with_reducible exact LeO.refl _)
   | (with_reducible exact LeO.none _)
   | (with_reducible refine LeO.ite ?_ ?_)
   | (with_reducible refine LeO.bind ?_ (fun _ => ?_))
   | exact ih0 _ _ _ _ _ _ _
   | exact ih1 _ _ _ _ _ _ _ _ _ _ _
   | exact ih2 _ _ _ _ _ _ _ _ _ _
   | exact LeO.none _
   | refine LeO.ite ?_ ?_
   | refine LeO.bind ?_ (fun _ => ?_)
  ·intro y0 y1 y2 y3 y4 y5 y6 y7 y8 y9 y10
   unfold spec_l15At.j1
   repeat' first
   | (with_reducible exact ih0 _ _ _ _ _ _ _)
   | (with_reducible exact ih1 _ _ _ _ _ _ _ _ _ _ _)
   | (with_reducible exact ih2 _ _ _ _ _ _ _ _ _ _)
   | (with_reducible exact LeO.refl _)
   | (with_reducible exact LeO.none _)
   | (with_reducible refine LeO.ite ?_ ?_)
   | (with_reducible refine LeO.bind ?_ (fun _ => ?_))
   | exact ih0 _ _ _ _ _ _ _
   | exact ih1 _ _ _ _ _ _ _ _ _ _ _
   | exact ih2 _ _ _ _ _ _ _ _ _ _
   | exact LeO.none _
   | refine LeO.ite ?_ ?_
   | refine LeO.bind ?_ (fun _ => ?_)
  ·intro y0 y1 y2 y3 y4 y5 y6 y7 y8 y9
   unfold spec_l15At.j2
   repeat' first
   | (with_reducible exact ih0 _ _ _ _ _ _ _)
   | (with_reducible exact ih1 _ _ _ _ _ _ _ _ _ _ _)
   | (with_reducible exact ih2 _ _ _ _ _ _ _ _ _ _)
   | (with_reducible exact LeO.refl _)
   | (with_reducible exact LeO.none _)
   | (with_reducible refine LeO.ite ?_ ?_)
   | (with_reducible refine LeO.bind ?_ (fun _ => ?_))
   | exact ih0 _ _ _ _ _ _ _
   | exact ih1 _ _ _ _ _ _ _ _ _ _ _
   | exact ih2 _ _ _ _ _ _ _ _ _ _
   | exact LeO.none _
   | refine LeO.ite ?_ ?_
   | refine LeO.bind ?_ (fun _ => ?_)
theorem spec_l15At.mono : ∀ a0 a1 k, LeO (spec_l15At.f k a0 a1) (spec_l15At.f (k + 1) a0 a1) := by
 intro a0 a1 k
 obtain ⟨ih0, ih1, ih2⟩ := spec_l15At.mono_l k
 unfold spec_l15At.f
 repeat' first
   | (with_reducible exact ih0 _ _ _ _ _ _ _)
   | (with_reducible exact ih1 _ _ _ _ _ _ _ _ _ _ _)
   | (with_reducible exact ih2 _ _ _ _ _ _ _ _ _ _)
   | (with_reducible exact LeO.refl _)
   | (with_reducible exact LeO.none _)
   | (with_reducible refine LeO.ite ?_ ?_)
   | (with_reducible refine LeO.bind ?_ (fun _ => ?_))
   | exact ih0 _ _ _ _ _ _ _
   | exact ih1 _ _ _ _ _ _ _ _ _ _ _
   | exact ih2 _ _ _ _ _ _ _ _ _ _
   | exact LeO.none _
   | refine LeO.ite ?_ ?_
   | refine LeO.bind ?_ (fun _ => ?_)
set_option maxHeartbeats 64000000 in
set_option maxRecDepth 100000 in
theorem spec_l15At.calls (k : Nat) (a0_0 : ByteArray) (a0_1 : ByteArray) (r1 : Int) (r2 : Int) (w : World) (h : spec_l15At.f k a0_0 a0_1 = some (r1, r2)) :
  Calls Try.prog 63 #[.agg #[.string a0_0, .string a0_1]] w fun e w' => e = .returned (.tuple #[.int .i64 r1, .int .i64 r2]) ∧ Below w.heap.size w w' := by
 have hu30 := Try.underlying30
 have HB := Aside0.mk (Below.refl w.heap.size w)
 have H : ((spec_l15Static.f).bind fun t106 => (spec_l15At.l0 k (-1) (-1) t106 (t106.length : Int) 0 a0_0 a0_1)) = some (r1, r2) := h
 clear h
 replace H := Option.bind_eq_some_iff.mp H
 obtain ⟨t106, A20, H⟩ := H
 replace H : (spec_l15At.l0 k (-1) (-1) t106 (t106.length : Int) 0 a0_0 a0_1) = some (r1, r2) := H
 have A2 := Aside0.mk A20
 clear A20
 have H' := Aside0.mk H
 clear H
 go_enter Try.func63, Try.ntmps63
 go_wp2_with (first | ((with_reducible refine gate_dst (N := 1) rfl ?_); refine box_event ?hg (N := 1) ?hd (cs := #[.string a0_0, .string a0_1]) (t := 30) ?hr ?_; (case hd => rfl); (case hg => rfl); (case hr => first | (go_simp; done) | (go_simp; rfl)); intro gb105 hg w3 hbox hb; have n0_ := Aside0.mk (below_step (by repeat (first | (with_reducible first | exact HB.out | apply below_alloc | apply pw_below_drewN | apply below_drew1) | exact HB.out)) hb); have n1_ := Aside0.mk (hbox); have n2_ := Aside0.mk ((by rw [hg]; exact (below_size (by repeat (first | (with_reducible first | exact HB.out | apply below_alloc | apply pw_below_drewN | apply below_drew1) | exact HB.out))) : w.heap.size ≤ gb105)); have n3_ := n2_; clear HB; have HB := n0_; have BK105 := n1_; have GW105 := n2_; have GE105 := n3_; clear n0_ n1_ n2_ n3_; clear hb hbox hg) | ((with_reducible refine gate_callee (f := 102) rfl ?_); refine goesL_ (some 8) rfl rfl Try.func102 (by kernel_rfl) rfl #[] rfl (by (try simp only [List.map_toArray, List.map_cons, List.map_nil]); first | done | rfl | (simp only [List.length_drop, List.length_take]; rfl)) ?_; (with_reducible refine (spec_l15Static.calls  t106 _ A2.out).mono ?_); rintro e w4 ⟨v107, rfl, ho0, hb⟩; refine ⟨_, rfl, ?_⟩; have n0_ := Aside0.mk (Kd.R_lower (Kd.R_newB ho0 (g := gb105) (o := .cells #[.string a0_0, .string a0_1] 30 (0, 0)) (by (with_reducible repeat (first | refine bN ?_ _ | refine bD ?_ | refine bA ?_ _)); exact BK105.out)) (below_size (by repeat (first | (with_reducible first | exact HB.out | apply below_alloc | apply pw_below_drewN | apply below_drew1 | refine below_set ?_ GE105.out) | exact HB.out)))); have n1_ := Aside0.mk (blk_below (g := gb105) (o := .cells #[.string a0_0, .string a0_1] 30 (0, 0)) (by (with_reducible repeat (first | refine bN ?_ _ | refine bD ?_ | refine bA ?_ _)); exact BK105.out) hb); have n2_ := Aside0.mk (below_step (by repeat (first | (with_reducible first | exact HB.out | apply below_alloc | apply pw_below_drewN | apply below_drew1 | refine below_set ?_ GE105.out) | exact HB.out)) hb); clear BK105; clear HB; have HO108 := n0_; have BK105 := n1_; have HB := n2_; clear n0_ n1_ n2_; (try clear hb); (try clear hb2); (try clear hk); (try clear hi); (try clear ho0); obtain ⟨Ao5, co5, eo5⟩ := Kd.R_slice HO108.out; subst eo5))
 go_loopg [4, 5, 10] k (fun kq v4 v5 v10 w' => ∃ (x4_1 : Int) (x5_1 : Int) (x10_1 : Int), v4 = .int .i64 x4_1 ∧ v5 = .int .i64 x5_1 ∧ v10 = .int .i64 x10_1 ∧ Aside0 (spec_l15At.l0 kq x4_1 x5_1 t106 (t106.length : Int) x10_1 a0_0 a0_1 = some (r1, r2)) ∧ Aside0 (kq ≤ k) ∧ Aside0 (Kd.R k30 30 w' w.heap.size (fun k_ => k_ ≠ gb105) (.slice Ao5 t106.length co5) t106) ∧ Aside0 (w'.heap[gb105]? = some (.cells #[.string a0_0, .string a0_1] 30 (0, 0))) ∧ Aside0 (Below w.heap.size w w'))
 case atStart => exact ⟨((-1)), ((-1)), (0), (by first | rfl | (simp; done) | (simp [*]; done)), (by first | rfl | (simp; done) | (simp [*]; done)), (by first | rfl | (simp; done) | (simp [*]; done)), H', ⟨Nat.le_refl _⟩, ⟨by (with_reducible repeat (first | apply Kd.R_alloc | apply Kd.R_drewN | apply Kd.R_drew)); exact Kd.R_mono HO108.out (fun _ hk => hk.2)⟩, ⟨by (with_reducible repeat (first | refine bN ?_ _ | refine bD ?_ | refine bA ?_ _)); exact BK105.out⟩, ⟨by repeat (first | (with_reducible first | exact HB.out | apply below_alloc | apply pw_below_drewN | apply below_drew1 | refine below_set ?_ GE105.out) | exact HB.out)⟩⟩
 case round =>
  clear H'
  try clear c1
  try clear p2
  obtain ⟨x4_1, x5_1, x10_1, rfl, rfl, rfl, HA, HK1, HO_8, BK105, HB⟩ := hrel
  cases gk with
  | zero => exact absurd HA.out (by simp [spec_l15At.l0])
  | succ k1 =>
   have H := HA.out
   clear HA
   simp only [spec_l15At.l0] at H
   by_cases c6 : x10_1 < (t106.length : Int)
   ·rw [if_pos c6] at H
    have c6b0 : decide (x10_1 < (t106.length : Int)) = true := decide_eq_true c6
    clear c6
    by_cases c7 : 0 ≤ x10_1
    ·rw [if_pos c7] at H
     have c7b0 : decide (0 ≤ x10_1) = true := decide_eq_true c7
     clear c7
     by_cases c8 : x10_1 < (t106.length : Int)
     ·rw [if_pos c8] at H
      have c8b0 : decide (x10_1 < (t106.length : Int)) = true := decide_eq_true c8
      clear c8
      have HC9 := Aside0.mk H
      clear H
      have p109 : 0 ≤ (x10_1 : Int) := of_decide_eq_true (by first | (with_reducible assumption) | assumption)
      have q109 : x10_1 < (t106.length : Int) := of_decide_eq_true (by first | (with_reducible assumption) | assumption)
      obtain ⟨ad109, e109, hx109_0, hx109_1⟩ := at_T30 (Kd.R_reads' HO_8.out).2.2 x10_1 p109 q109
      cases e109
      replace p109 := eq_true p109
      replace q109 := eq_true q109
      go_upto_region 6 with (first | ((with_reducible refine gate_dst (N := 7) rfl ?_); refine box_event ?hg (N := 7) ?hd (cs := #[.string (⟨#[]⟩ : ByteArray), .string (⟨#[]⟩ : ByteArray)]) (t := 30) ?hr ?_; (case hd => rfl); (case hg => rfl); (case hr => first | (go_simp; done) | (go_simp; rfl)); intro gb110 hg w10 hbox hb; have n0_ := Aside0.mk (Kd.R_below (Kd.R_elderB (by (with_reducible repeat (first | apply Kd.R_alloc | apply Kd.R_drewN | apply Kd.R_drew)); exact HO_8.out) gb110 (Nat.le_of_eq hg.symm)) hb); have n1_ := Aside0.mk (blk_below (g := gb105) (o := .cells #[.string a0_0, .string a0_1] 30 (0, 0)) (by (with_reducible repeat (first | refine bN ?_ _ | refine bD ?_ | refine bA ?_ _)); exact BK105.out) hb); have n2_ := Aside0.mk (below_step (by repeat (first | (with_reducible first | exact HB.out | apply below_alloc | apply pw_below_drewN | apply below_drew1 | refine below_set ?_ GE105.out) | exact HB.out)) hb); have n3_ := Aside0.mk (hbox); have n4_ := Aside0.mk ((by rw [hg]; exact (below_size (by repeat (first | (with_reducible first | exact HB.out | apply below_alloc | apply pw_below_drewN | apply below_drew1 | refine below_set ?_ GE105.out) | exact HB.out))) : w.heap.size ≤ gb110)); have n5_ := n4_; have n6_ := Aside0.mk ((by rw [hg]; exact Nat.ne_of_lt (blk_lt (g := gb105) (o := .cells #[.string a0_0, .string a0_1] 30 (0, 0)) (by (with_reducible repeat (first | refine bN ?_ _ | refine bD ?_ | refine bA ?_ _)); exact BK105.out)) : gb105 ≠ gb110)); have n7_ := Aside0.mk (Ne.symm n6_.out); clear HO_8; clear BK105; clear HB; have HO_8 := n0_; have BK105 := n1_; have HB := n2_; have BK110 := n3_; have GW110 := n4_; have GE110 := n5_; have NB105_110 := n6_; have NB110_105 := n7_; clear n0_ n1_ n2_ n3_ n4_ n5_ n6_ n7_; clear hb hbox hg; have hnb11 := NB110_105.out; have hnc11 := NB105_110.out; obtain ⟨hcz12_0, hcz12_1⟩ := cz2 BK110; obtain ⟨hfz12_0, hfz12_1⟩ := fz2 BK110))
      (try simp only [Act.put, sA, sZ, sS])
      go_cut [21] (fun v21 wc => ∃ (kq : Nat) (x21_8 : Bool), v21 = .bool x21_8 ∧ Aside0 (spec_l15At.j1 kq x4_1 x5_1 x10_1 t106 (t106.length : Int) x10_1 x21_8 a0_0 a0_1 ((rd_T30 t106 x10_1).f0) ((rd_T30 t106 x10_1).f1) = some (r1, r2)) ∧ Aside0 (kq ≤ k1) ∧ Aside0 (Kd.R k30 30 wc w.heap.size (fun k_ => k_ ≠ gb105 ∧ k_ ≠ gb110) (.slice (some ad109) t106.length co5) t106) ∧ Aside0 (wc.heap[gb105]? = some (.cells #[.string a0_0, .string a0_1] 30 (0, 0))) ∧ Aside0 (wc.heap[gb110]? = some (.cells #[.string ((rd_T30 t106 x10_1).f0), .string ((rd_T30 t106 x10_1).f1)] 30 (0, 0))) ∧ Aside0 (Below w.heap.size w wc))
      case first =>
       have H := HC9.out
       clear HC9
       by_cases c13 : x4_1 < 0
       ·rw [if_pos c13] at H
        have c13b0 : decide (x4_1 < 0) = true := decide_eq_true c13
        clear c13
        (first | rw [c13b0] | (simp only [i64_w, i32_w]; rw [c13b0]) | skip)
        have H' := Aside0.mk H
        clear H
        have hnb14 := NB110_105.out
        have hnc14 := NB105_110.out
        obtain ⟨hcz15_0, hcz15_1⟩ := cz2 BK110
        obtain ⟨hfz15_0, hfz15_1⟩ := fz2 BK110
        obtain ⟨hcz16_0, hcz16_1⟩ := cz2 BK105
        obtain ⟨hfz16_0, hfz16_1⟩ := fz2 BK105
        go_wp2
        go_meet
        case rel => exact ⟨_, (((((rd_T30 t106 x10_1).f0).toList) == a0_0.toList && ((((rd_T30 t106 x10_1).f1).toList) == a0_1.toList))), (by first | rfl | (simp; done) | (simp [*]; done)), H', ⟨by have := HK1.out; first | omega | exact Nat.le_refl _⟩, ⟨by (with_reducible repeat (first | apply Kd.R_alloc | apply Kd.R_drewN | apply Kd.R_drew)); exact Kd.R_mono (Kd.R_far (p := ⟨gb110, 1, none⟩) (Kd.R_far (p := ⟨gb110, 0, none⟩) (Kd.R_mono HO_8.out (fun k_ hk => (⟨hk, hk.2⟩ : _ ∧ k_ ≠ gb110))) (fun _ hk => hk.2) (.string ((rd_T30 t106 x10_1).f0))) (fun _ hk => hk.2) (.string ((rd_T30 t106 x10_1).f1))) (fun _ hk => ⟨hk.1.1, hk.1.2⟩)⟩, ⟨by (with_reducible repeat (first | refine bN ?_ _ | refine bD ?_ | refine bA ?_ _)); refine blk_far ?_ NB105_110.out _; (with_reducible repeat (first | refine bN ?_ _ | refine bD ?_ | refine bA ?_ _)); refine blk_far ?_ NB105_110.out _; (with_reducible repeat (first | refine bN ?_ _ | refine bD ?_ | refine bA ?_ _)); exact BK105.out⟩, ⟨by (with_reducible repeat (first | refine bN ?_ _ | refine bD ?_ | refine bA ?_ _)); refine blk_put (cs := #[.string ((rd_T30 t106 x10_1).f0), .string (⟨#[]⟩ : ByteArray)]) ?_ 1 _ rfl; (with_reducible repeat (first | refine bN ?_ _ | refine bD ?_ | refine bA ?_ _)); refine blk_put (cs := #[.string (⟨#[]⟩ : ByteArray), .string (⟨#[]⟩ : ByteArray)]) ?_ 0 _ rfl; (with_reducible repeat (first | refine bN ?_ _ | refine bD ?_ | refine bA ?_ _)); exact BK110.out⟩, ⟨by repeat (first | (with_reducible first | exact HB.out | apply below_alloc | apply pw_below_drewN | apply below_drew1 | refine below_set ?_ GE105.out | refine below_set ?_ GE110.out) | exact HB.out)⟩⟩
       ·rw [if_neg c13] at H
        have c13b0 : decide (x4_1 < 0) = false := decide_eq_false c13
        clear c13
        (first | rw [c13b0] | (simp only [i64_w, i32_w]; rw [c13b0]) | skip)
        have H' := Aside0.mk H
        clear H
        go_wp2
        go_meet
        case rel => exact ⟨_, (false), (by first | rfl | (simp; done) | (simp [*]; done)), H', ⟨by have := HK1.out; first | omega | exact Nat.le_refl _⟩, ⟨by (with_reducible repeat (first | apply Kd.R_alloc | apply Kd.R_drewN | apply Kd.R_drew)); exact Kd.R_mono (Kd.R_far (p := ⟨gb110, 1, none⟩) (Kd.R_far (p := ⟨gb110, 0, none⟩) (Kd.R_mono HO_8.out (fun k_ hk => (⟨hk, hk.2⟩ : _ ∧ k_ ≠ gb110))) (fun _ hk => hk.2) (.string ((rd_T30 t106 x10_1).f0))) (fun _ hk => hk.2) (.string ((rd_T30 t106 x10_1).f1))) (fun _ hk => ⟨hk.1.1, hk.1.2⟩)⟩, ⟨by (with_reducible repeat (first | refine bN ?_ _ | refine bD ?_ | refine bA ?_ _)); refine blk_far ?_ NB105_110.out _; (with_reducible repeat (first | refine bN ?_ _ | refine bD ?_ | refine bA ?_ _)); refine blk_far ?_ NB105_110.out _; (with_reducible repeat (first | refine bN ?_ _ | refine bD ?_ | refine bA ?_ _)); exact BK105.out⟩, ⟨by (with_reducible repeat (first | refine bN ?_ _ | refine bD ?_ | refine bA ?_ _)); refine blk_put (cs := #[.string ((rd_T30 t106 x10_1).f0), .string (⟨#[]⟩ : ByteArray)]) ?_ 1 _ rfl; (with_reducible repeat (first | refine bN ?_ _ | refine bD ?_ | refine bA ?_ _)); refine blk_put (cs := #[.string (⟨#[]⟩ : ByteArray), .string (⟨#[]⟩ : ByteArray)]) ?_ 0 _ rfl; (with_reducible repeat (first | refine bN ?_ _ | refine bD ?_ | refine bA ?_ _)); exact BK110.out⟩, ⟨by repeat (first | (with_reducible first | exact HB.out | apply below_alloc | apply pw_below_drewN | apply below_drew1 | refine below_set ?_ GE105.out | refine below_set ?_ GE110.out) | exact HB.out)⟩⟩
      case rest =>
       clear HC9
       try clear c1
       try clear p1
       try clear q1
       try clear hx1
       try clear p2
       try clear c6
       try clear c6b0
       try clear c7
       try clear c7b0
       try clear c8
       try clear c8b0
       try clear c10
       try clear p10
       try clear q10
       try clear hx10
       try clear c11
       try clear c13
       try clear c13b0
       try clear c14
       try clear hcz12_0
       try clear hcz12_1
       try clear hcz15_0
       try clear hcz15_1
       try clear hcz16_0
       try clear hcz16_1
       try clear hfz12_0
       try clear hfz12_1
       try clear hfz15_0
       try clear hfz15_1
       try clear hfz16_0
       try clear hfz16_1
       try clear hx109_0
       try clear hx109_1
       try clear p109
       try clear p2
       try clear q109
       obtain ⟨kq, x21_8, rfl, HA, HJ8, HO_8, BK105, BK110, HB⟩ := hcut
       cases kq with
       | zero => exact absurd HA.out (by simp [spec_l15At.j1])
       | succ kj8 =>
        have H := HA.out
        clear HA
        simp only [spec_l15At.j1] at H
        have HC17 := Aside0.mk H
        clear H
        go_upto_if 21 with (fail)
        go_cut [4] (fun v4 wc => ∃ (kq : Nat) (x4_16 : Int), v4 = .int .i64 x4_16 ∧ Aside0 (spec_l15At.j2 kq x4_16 x5_1 x10_1 t106 (t106.length : Int) x10_1 a0_0 a0_1 ((rd_T30 t106 x10_1).f0) ((rd_T30 t106 x10_1).f1) = some (r1, r2)) ∧ Aside0 (kq ≤ kj8) ∧ Aside0 (Kd.R k30 30 wc w.heap.size (fun k_ => k_ ≠ gb105 ∧ k_ ≠ gb110) (.slice (some ad109) t106.length co5) t106) ∧ Aside0 (wc.heap[gb105]? = some (.cells #[.string a0_0, .string a0_1] 30 (0, 0))) ∧ Aside0 (wc.heap[gb110]? = some (.cells #[.string ((rd_T30 t106 x10_1).f0), .string ((rd_T30 t106 x10_1).f1)] 30 (0, 0))) ∧ Aside0 (Below w.heap.size w wc))
        case first =>
         have H := HC17.out
         clear HC17
         by_cases c18 : x21_8 = true
         ·subst c18
          have H1 : (spec_l15At.j2 kj8 x10_1 x5_1 x10_1 t106 (t106.length : Int) x10_1 a0_0 a0_1 ((rd_T30 t106 x10_1).f0) ((rd_T30 t106 x10_1).f1)) = some (r1, r2) := by rw [if_pos rfl] at H; exact H
          clear H
          have H := H1
          clear H1
          have H' := Aside0.mk H
          clear H
          go_wp2
          go_meet
          case rel => exact ⟨_, (x10_1), (by first | rfl | (simp; done) | (simp [*]; done)), H', ⟨by have := HK1.out; have := HJ8.out; first | omega | exact Nat.le_refl _⟩, ⟨by (with_reducible repeat (first | apply Kd.R_alloc | apply Kd.R_drewN | apply Kd.R_drew)); exact HO_8.out⟩, ⟨by (with_reducible repeat (first | refine bN ?_ _ | refine bD ?_ | refine bA ?_ _)); exact BK105.out⟩, ⟨by (with_reducible repeat (first | refine bN ?_ _ | refine bD ?_ | refine bA ?_ _)); exact BK110.out⟩, ⟨by repeat (first | (with_reducible first | exact HB.out | apply below_alloc | apply pw_below_drewN | apply below_drew1 | refine below_set ?_ GE105.out | refine below_set ?_ GE110.out) | exact HB.out)⟩⟩
         ·replace c18 := Bool.eq_false_iff.mpr c18
          subst c18
          have H1 : (spec_l15At.j2 kj8 x4_1 x5_1 x10_1 t106 (t106.length : Int) x10_1 a0_0 a0_1 ((rd_T30 t106 x10_1).f0) ((rd_T30 t106 x10_1).f1)) = some (r1, r2) := by rw [if_neg (show ¬ (false = true) by decide)] at H; exact H
          clear H
          have H := H1
          clear H1
          have H' := Aside0.mk H
          clear H
          go_wp2
          go_meet
          case rel => exact ⟨_, (x4_1), (by first | rfl | (simp; done) | (simp [*]; done)), H', ⟨by have := HK1.out; have := HJ8.out; first | omega | exact Nat.le_refl _⟩, ⟨by (with_reducible repeat (first | apply Kd.R_alloc | apply Kd.R_drewN | apply Kd.R_drew)); exact HO_8.out⟩, ⟨by (with_reducible repeat (first | refine bN ?_ _ | refine bD ?_ | refine bA ?_ _)); exact BK105.out⟩, ⟨by (with_reducible repeat (first | refine bN ?_ _ | refine bD ?_ | refine bA ?_ _)); exact BK110.out⟩, ⟨by repeat (first | (with_reducible first | exact HB.out | apply below_alloc | apply pw_below_drewN | apply below_drew1 | refine below_set ?_ GE105.out | refine below_set ?_ GE110.out) | exact HB.out)⟩⟩
        case rest =>
         clear HC17
         try clear c1
         try clear p1
         try clear q1
         try clear hx1
         try clear p2
         try clear c6
         try clear c6b0
         try clear c7
         try clear c7b0
         try clear c8
         try clear c8b0
         try clear c10
         try clear p10
         try clear q10
         try clear hx10
         try clear c11
         try clear c13
         try clear c13b0
         try clear c14
         try clear c18
         try clear hcz12_0
         try clear hcz12_1
         try clear hcz15_0
         try clear hcz15_1
         try clear hcz16_0
         try clear hcz16_1
         try clear hfz12_0
         try clear hfz12_1
         try clear hfz15_0
         try clear hfz15_1
         try clear hfz16_0
         try clear hfz16_1
         try clear hx109_0
         try clear hx109_1
         try clear p1
         try clear p10
         try clear p109
         try clear p2
         try clear q1
         try clear q10
         try clear q109
         obtain ⟨kq, x4_16, rfl, HA, HJ16, HO_8, BK105, BK110, HB⟩ := hcut
         cases kq with
         | zero => exact absurd HA.out (by simp [spec_l15At.j2])
         | succ kj16 =>
          have H := HA.out
          clear HA
          simp only [spec_l15At.j2] at H
          by_cases c19 : x5_1 < 0
          ·rw [if_pos c19] at H
           have c19b0 : decide (x5_1 < 0) = true := decide_eq_true c19
           clear c19
           by_cases c20 : ((rd_T30 t106 x10_1).f0).toList = a0_0.toList
           ·rw [if_pos c20] at H
            have c20b0 : (((rd_T30 t106 x10_1).f0).toList == a0_0.toList) = true := beq_iff_eq.mpr c20
            have c20b1 : (((rd_T30 t106 x10_1).f0).toList != a0_0.toList) = false := bne_eq_false_iff_eq.mpr c20
            clear c20
            have H' := Aside0.mk H
            clear H
            have hnb21 := NB110_105.out
            have hnc21 := NB105_110.out
            obtain ⟨hcz22_0, hcz22_1⟩ := cz2 BK110
            obtain ⟨hfz22_0, hfz22_1⟩ := fz2 BK110
            obtain ⟨hcz23_0, hcz23_1⟩ := cz2 BK105
            obtain ⟨hfz23_0, hfz23_1⟩ := fz2 BK105
            go_wp2
            go_roundg kj16
            case measure => have := HK1.out; have := HJ8.out; have := HJ16.out; omega
            case rel => exact ⟨(x4_16), (x10_1), (wrap64 (x10_1 + 1)), (by first | rfl | (simp; done) | (simp [*]; done)), (by first | rfl | (simp; done) | (simp [*]; done)), (by first | rfl | (simp; done) | (simp [*]; done)), H', ⟨by have := HK1.out; have := HJ8.out; have := HJ16.out; omega⟩, ⟨by (with_reducible repeat (first | apply Kd.R_alloc | apply Kd.R_drewN | apply Kd.R_drew)); exact Kd.R_mono HO_8.out (fun _ hk => hk.1)⟩, ⟨by (with_reducible repeat (first | refine bN ?_ _ | refine bD ?_ | refine bA ?_ _)); exact BK105.out⟩, ⟨by repeat (first | (with_reducible first | exact HB.out | apply below_alloc | apply pw_below_drewN | apply below_drew1 | refine below_set ?_ GE105.out | refine below_set ?_ GE110.out) | exact HB.out)⟩⟩
           ·rw [if_neg c20] at H
            have c20b0 : (((rd_T30 t106 x10_1).f0).toList == a0_0.toList) = false := beq_eq_false_iff_ne.mpr c20
            have c20b1 : (((rd_T30 t106 x10_1).f0).toList != a0_0.toList) = true := bne_iff_ne.mpr c20
            have H' := Aside0.mk H
            clear H
            have hnb24 := NB110_105.out
            have hnc24 := NB105_110.out
            obtain ⟨hcz25_0, hcz25_1⟩ := cz2 BK110
            obtain ⟨hfz25_0, hfz25_1⟩ := fz2 BK110
            obtain ⟨hcz26_0, hcz26_1⟩ := cz2 BK105
            obtain ⟨hfz26_0, hfz26_1⟩ := fz2 BK105
            go_wp2
            go_roundg kj16
            case measure => have := HK1.out; have := HJ8.out; have := HJ16.out; omega
            case rel => exact ⟨(x4_16), (x5_1), (wrap64 (x10_1 + 1)), (by first | rfl | (simp; done) | (simp [*]; done)), (by first | rfl | (simp; done) | (simp [*]; done)), (by first | rfl | (simp; done) | (simp [*]; done)), H', ⟨by have := HK1.out; have := HJ8.out; have := HJ16.out; omega⟩, ⟨by (with_reducible repeat (first | apply Kd.R_alloc | apply Kd.R_drewN | apply Kd.R_drew)); exact Kd.R_mono HO_8.out (fun _ hk => hk.1)⟩, ⟨by (with_reducible repeat (first | refine bN ?_ _ | refine bD ?_ | refine bA ?_ _)); exact BK105.out⟩, ⟨by repeat (first | (with_reducible first | exact HB.out | apply below_alloc | apply pw_below_drewN | apply below_drew1 | refine below_set ?_ GE105.out | refine below_set ?_ GE110.out) | exact HB.out)⟩⟩
          ·rw [if_neg c19] at H
           have c19b0 : decide (x5_1 < 0) = false := decide_eq_false c19
           clear c19
           have H' := Aside0.mk H
           clear H
           go_wp2
           go_roundg kj16
           case measure => have := HK1.out; have := HJ8.out; have := HJ16.out; omega
           case rel => exact ⟨(x4_16), (x5_1), (wrap64 (x10_1 + 1)), (by first | rfl | (simp; done) | (simp [*]; done)), (by first | rfl | (simp; done) | (simp [*]; done)), (by first | rfl | (simp; done) | (simp [*]; done)), H', ⟨by have := HK1.out; have := HJ8.out; have := HJ16.out; omega⟩, ⟨by (with_reducible repeat (first | apply Kd.R_alloc | apply Kd.R_drewN | apply Kd.R_drew)); exact Kd.R_mono HO_8.out (fun _ hk => hk.1)⟩, ⟨by (with_reducible repeat (first | refine bN ?_ _ | refine bD ?_ | refine bA ?_ _)); exact BK105.out⟩, ⟨by repeat (first | (with_reducible first | exact HB.out | apply below_alloc | apply pw_below_drewN | apply below_drew1 | refine below_set ?_ GE105.out | refine below_set ?_ GE110.out) | exact HB.out)⟩⟩
     ·rw [if_neg c8] at H
      exact absurd H (by simp)
    ·rw [if_neg c7] at H
     exact absurd H (by simp)
   ·rw [if_neg c6] at H
    have c6b0 : decide (x10_1 < (t106.length : Int)) = false := decide_eq_false c6
    clear c6
    simp only [Option.some.injEq, Prod.mk.injEq] at H
    obtain ⟨rfl, rfl⟩ := H
    go_wp2
    go_ret2
    exact ⟨by first | rfl | (simp [errW_none, errW_some] <;> rfl) | (simp [*, errW_none, errW_some] <;> rfl), by repeat (first | (with_reducible first | exact HB.out | apply below_alloc | apply pw_below_drewN | apply below_drew1 | refine below_set ?_ GE105.out) | exact HB.out)⟩

/-! ### spec_StaticAt: function 18 -/
def spec_StaticAt.f (k : Nat) (a0_0 : ByteArray) (a0_1 : ByteArray) : Option (Int × Int) := (spec_l15At.f k a0_0 a0_1).bind fun bt112 => (some (bt112.1, bt112.2))
theorem spec_StaticAt.mono : ∀ a0 a1 k, LeO (spec_StaticAt.f k a0 a1) (spec_StaticAt.f (k + 1) a0 a1) := by
 intro a0 a1 k
 unfold spec_StaticAt.f
 repeat' first
   | (with_reducible exact spec_l15At.mono _ _ _)
   | (with_reducible exact LeO.refl _)
   | (with_reducible exact LeO.none _)
   | (with_reducible refine LeO.ite ?_ ?_)
   | (with_reducible refine LeO.bind ?_ (fun _ => ?_))
   | exact spec_l15At.mono _ _ _
   | exact LeO.none _
   | refine LeO.ite ?_ ?_
   | refine LeO.bind ?_ (fun _ => ?_)
set_option maxHeartbeats 64000000 in
set_option maxRecDepth 100000 in
theorem spec_StaticAt.calls (k : Nat) (a0_0 : ByteArray) (a0_1 : ByteArray) (r1 : Int) (r2 : Int) (w : World) (h : spec_StaticAt.f k a0_0 a0_1 = some (r1, r2)) :
  Calls Try.prog 18 #[.agg #[.string a0_0, .string a0_1]] w fun e w' => e = .returned (.tuple #[.int .i64 r1, .int .i64 r2]) ∧ Below w.heap.size w w' := by
 have hu30 := Try.underlying30
 have HB := Aside0.mk (Below.refl w.heap.size w)
 have H : ((spec_l15At.f k a0_0 a0_1).bind fun bt112 => (some (bt112.1, bt112.2))) = some (r1, r2) := h
 clear h
 replace H := Option.bind_eq_some_iff.mp H
 obtain ⟨⟨t112, t113⟩, A20, H⟩ := H
 replace H : (some (t112, t113)) = some (r1, r2) := H
 have A2 := Aside0.mk A20
 clear A20
 simp only [Option.some.injEq, Prod.mk.injEq] at H
 obtain ⟨rfl, rfl⟩ := H
 go_enter Try.func18, Try.ntmps18
 go_wp2_with (first | ((with_reducible refine gate_dst (N := 1) rfl ?_); refine box_event ?hg (N := 1) ?hd (cs := #[.string a0_0, .string a0_1]) (t := 30) ?hr ?_; (case hd => rfl); (case hg => rfl); (case hr => first | (go_simp; done) | (go_simp; rfl)); intro gb111 hg w3 hbox hb; have n0_ := Aside0.mk (below_step (by repeat (first | (with_reducible first | exact HB.out | apply below_alloc | apply pw_below_drewN | apply below_drew1) | exact HB.out)) hb); have n1_ := Aside0.mk (hbox); have n2_ := Aside0.mk ((by rw [hg]; exact (below_size (by repeat (first | (with_reducible first | exact HB.out | apply below_alloc | apply pw_below_drewN | apply below_drew1) | exact HB.out))) : w.heap.size ≤ gb111)); have n3_ := n2_; clear HB; have HB := n0_; have BK111 := n1_; have GW111 := n2_; have GE111 := n3_; clear n0_ n1_ n2_ n3_; clear hb hbox hg; obtain ⟨hcz4_0, hcz4_1⟩ := cz2 BK111; obtain ⟨hfz4_0, hfz4_1⟩ := fz2 BK111) | ((with_reducible refine gate_callee (f := 63) rfl ?_); refine goesL_ (some 5) rfl rfl Try.func63 (by kernel_rfl) rfl #[.agg #[.string a0_0, .string a0_1]] rfl (by (try simp only [List.map_toArray, List.map_cons, List.map_nil]); first | done | rfl | (simp only [List.length_drop, List.length_take]; rfl)) ?_; (with_reducible refine (spec_l15At.calls k a0_0 a0_1 t112 t113 _ A2.out).mono ?_); rintro e w5 ⟨rfl, hb⟩; refine ⟨_, rfl, ?_⟩; have n0_ := Aside0.mk (blk_below (g := gb111) (o := .cells #[.string a0_0, .string a0_1] 30 (0, 0)) (by (with_reducible repeat (first | refine bN ?_ _ | refine bD ?_ | refine bA ?_ _)); exact BK111.out) hb); have n1_ := Aside0.mk (below_step (by repeat (first | (with_reducible first | exact HB.out | apply below_alloc | apply pw_below_drewN | apply below_drew1 | refine below_set ?_ GE111.out) | exact HB.out)) hb); clear BK111; clear HB; have BK111 := n0_; have HB := n1_; clear n0_ n1_; (try clear hb); (try clear hb2); (try clear hk); (try clear hi)))
 go_ret2
 exact ⟨by first | rfl | (simp [errW_none, errW_some] <;> rfl) | (simp [*, errW_none, errW_some] <;> rfl), by repeat (first | (with_reducible first | exact HB.out | apply below_alloc | apply pw_below_drewN | apply below_drew1 | refine below_set ?_ GE111.out) | exact HB.out)⟩

/-! ### laws_toField: function 19 -/
def laws_toField.f (a0_0 : ByteArray) (a0_1 : ByteArray) : Option (ByteArray × ByteArray) := some (a0_0, a0_1)
set_option maxHeartbeats 64000000 in
set_option maxRecDepth 100000 in
theorem laws_toField.calls (a0_0 : ByteArray) (a0_1 : ByteArray) (r1 : ByteArray) (r2 : ByteArray) (w : World) (h : laws_toField.f a0_0 a0_1 = some (r1, r2)) :
  Calls Try.prog 19 #[.agg #[.string a0_0, .string a0_1]] w fun e w' => e = .returned (.agg #[.string r1, .string r2]) ∧ Below w.heap.size w w' := by
 have hu26 := Try.underlying26
 have hu30 := Try.underlying30
 have HB := Aside0.mk (Below.refl w.heap.size w)
 have H : (some (a0_0, a0_1)) = some (r1, r2) := h
 clear h
 simp only [Option.some.injEq, Prod.mk.injEq] at H
 obtain ⟨rfl, rfl⟩ := H
 go_enter Try.func19, Try.ntmps19
 go_wp2_with (first | ((with_reducible refine gate_dst (N := 1) rfl ?_); refine box_event ?hg (N := 1) ?hd (cs := #[.string a0_0, .string a0_1]) (t := 26) ?hr ?_; (case hd => rfl); (case hg => rfl); (case hr => first | (go_simp; done) | (go_simp; rfl)); intro gb114 hg w2 hbox hb; have n0_ := Aside0.mk (below_step (by repeat (first | (with_reducible first | exact HB.out | apply below_alloc | apply pw_below_drewN | apply below_drew1) | exact HB.out)) hb); have n1_ := Aside0.mk (hbox); have n2_ := Aside0.mk ((by rw [hg]; exact (below_size (by repeat (first | (with_reducible first | exact HB.out | apply below_alloc | apply pw_below_drewN | apply below_drew1) | exact HB.out))) : w.heap.size ≤ gb114)); have n3_ := n2_; clear HB; have HB := n0_; have BK114 := n1_; have GW114 := n2_; have GE114 := n3_; clear n0_ n1_ n2_ n3_; clear hb hbox hg) | ((with_reducible refine gate_dst (N := 2) rfl ?_); refine box_event ?hg (N := 2) ?hd (cs := #[.string (⟨#[]⟩ : ByteArray), .string (⟨#[]⟩ : ByteArray)]) (t := 30) ?hr ?_; (case hd => rfl); (case hg => rfl); (case hr => first | (go_simp; done) | (go_simp; rfl)); intro gb115 hg w3 hbox hb; have n0_ := Aside0.mk (blk_below (g := gb114) (o := .cells #[.string a0_0, .string a0_1] 26 (0, 0)) (by (with_reducible repeat (first | refine bN ?_ _ | refine bD ?_ | refine bA ?_ _)); exact BK114.out) hb); have n1_ := Aside0.mk (below_step (by repeat (first | (with_reducible first | exact HB.out | apply below_alloc | apply pw_below_drewN | apply below_drew1 | refine below_set ?_ GE114.out) | exact HB.out)) hb); have n2_ := Aside0.mk (hbox); have n3_ := Aside0.mk ((by rw [hg]; exact (below_size (by repeat (first | (with_reducible first | exact HB.out | apply below_alloc | apply pw_below_drewN | apply below_drew1 | refine below_set ?_ GE114.out) | exact HB.out))) : w.heap.size ≤ gb115)); have n4_ := n3_; have n5_ := Aside0.mk ((by rw [hg]; exact Nat.ne_of_lt (blk_lt (g := gb114) (o := .cells #[.string a0_0, .string a0_1] 26 (0, 0)) (by (with_reducible repeat (first | refine bN ?_ _ | refine bD ?_ | refine bA ?_ _)); exact BK114.out)) : gb114 ≠ gb115)); have n6_ := Aside0.mk (Ne.symm n5_.out); clear BK114; clear HB; have BK114 := n0_; have HB := n1_; have BK115 := n2_; have GW115 := n3_; have GE115 := n4_; have NB114_115 := n5_; have NB115_114 := n6_; clear n0_ n1_ n2_ n3_ n4_ n5_ n6_; clear hb hbox hg) | ((with_reducible refine gate_dst (N := 3) rfl ?_); refine box_event ?hg (N := 3) ?hd (cs := #[.string (⟨#[]⟩ : ByteArray), .string (⟨#[]⟩ : ByteArray)]) (t := 30) ?hr ?_; (case hd => rfl); (case hg => rfl); (case hr => first | (go_simp; done) | (go_simp; rfl)); intro gb116 hg w4 hbox hb; have n0_ := Aside0.mk (blk_below (g := gb114) (o := .cells #[.string a0_0, .string a0_1] 26 (0, 0)) (by (with_reducible repeat (first | refine bN ?_ _ | refine bD ?_ | refine bA ?_ _)); exact BK114.out) hb); have n1_ := Aside0.mk (blk_below (g := gb115) (o := .cells #[.string (⟨#[]⟩ : ByteArray), .string (⟨#[]⟩ : ByteArray)] 30 (0, 0)) (by (with_reducible repeat (first | refine bN ?_ _ | refine bD ?_ | refine bA ?_ _)); exact BK115.out) hb); have n2_ := Aside0.mk (below_step (by repeat (first | (with_reducible first | exact HB.out | apply below_alloc | apply pw_below_drewN | apply below_drew1 | refine below_set ?_ GE114.out | refine below_set ?_ GE115.out) | exact HB.out)) hb); have n3_ := Aside0.mk (hbox); have n4_ := Aside0.mk ((by rw [hg]; exact (below_size (by repeat (first | (with_reducible first | exact HB.out | apply below_alloc | apply pw_below_drewN | apply below_drew1 | refine below_set ?_ GE114.out | refine below_set ?_ GE115.out) | exact HB.out))) : w.heap.size ≤ gb116)); have n5_ := n4_; have n6_ := Aside0.mk ((by rw [hg]; exact Nat.ne_of_lt (blk_lt (g := gb114) (o := .cells #[.string a0_0, .string a0_1] 26 (0, 0)) (by (with_reducible repeat (first | refine bN ?_ _ | refine bD ?_ | refine bA ?_ _)); exact BK114.out)) : gb114 ≠ gb116)); have n7_ := Aside0.mk (Ne.symm n6_.out); have n8_ := Aside0.mk ((by rw [hg]; exact Nat.ne_of_lt (blk_lt (g := gb115) (o := .cells #[.string (⟨#[]⟩ : ByteArray), .string (⟨#[]⟩ : ByteArray)] 30 (0, 0)) (by (with_reducible repeat (first | refine bN ?_ _ | refine bD ?_ | refine bA ?_ _)); exact BK115.out)) : gb115 ≠ gb116)); have n9_ := Aside0.mk (Ne.symm n8_.out); clear BK114; clear BK115; clear HB; have BK114 := n0_; have BK115 := n1_; have HB := n2_; have BK116 := n3_; have GW116 := n4_; have GE116 := n5_; have NB114_116 := n6_; have NB116_114 := n7_; have NB115_116 := n8_; have NB116_115 := n9_; clear n0_ n1_ n2_ n3_ n4_ n5_ n6_ n7_ n8_ n9_; clear hb hbox hg; have hnb5 := NB114_115.out; have hnc5 := NB115_114.out; have hnb6 := NB114_116.out; have hnc6 := NB116_114.out; obtain ⟨hcz7_0, hcz7_1⟩ := cz2 BK114; obtain ⟨hfz7_0, hfz7_1⟩ := fz2 BK114; have hnb8 := NB116_115.out; have hnc8 := NB115_116.out; obtain ⟨hcz9_0, hcz9_1⟩ := cz2 BK116; obtain ⟨hfz9_0, hfz9_1⟩ := fz2 BK116; obtain ⟨hcz10_0, hcz10_1⟩ := cz2 BK115; obtain ⟨hfz10_0, hfz10_1⟩ := fz2 BK115))
 refine bodyPost_ret (results_cell_row rfl _ _ gb115 30 #[.string a0_0, .string a0_1] (0, 0) _ rfl (by (with_reducible repeat (first | refine bN ?_ _ | refine bD ?_ | refine bA ?_ _)); refine blk_put (cs := #[.string a0_0, .string (⟨#[]⟩ : ByteArray)]) ?_ 1 _ rfl; (with_reducible repeat (first | refine bN ?_ _ | refine bD ?_ | refine bA ?_ _)); refine blk_put (cs := #[.string (⟨#[]⟩ : ByteArray), .string (⟨#[]⟩ : ByteArray)]) ?_ 0 _ rfl; (with_reducible repeat (first | refine bN ?_ _ | refine bD ?_ | refine bA ?_ _)); refine blk_far ?_ NB115_116.out _; (with_reducible repeat (first | refine bN ?_ _ | refine bD ?_ | refine bA ?_ _)); refine blk_far ?_ NB115_116.out _; (with_reducible repeat (first | refine bN ?_ _ | refine bD ?_ | refine bA ?_ _)); exact BK115.out) Try.underlying30 rfl (by kernel_rfl)) rfl ?_
 exact ⟨by first | rfl | (simp [errW_none, errW_some] <;> rfl) | (simp [*, errW_none, errW_some] <;> rfl), by repeat (first | (with_reducible first | exact HB.out | apply below_alloc | apply pw_below_drewN | apply below_drew1 | refine below_set ?_ GE114.out | refine below_set ?_ GE115.out | refine below_set ?_ GE116.out) | exact HB.out)⟩

/-! ### impl_Field_64: function 64 -/
def impl_Field_64.l0 : Nat → List (S30) → Int → Int → ByteArray → ByteArray → Option (Int)
 | 0, _, _, _, _, _ => none
 | k + 1, x0, x7, x8, x118000, x118001 => if x8 < x7 then (if 0 ≤ x8 then (if x8 < (x0.length : Int) then (if (x118000.toList == (((rd_T30 x0 x8).f0).toList) && (x118001.toList == (((rd_T30 x0 x8).f1).toList))) = true then (some x8) else (impl_Field_64.l0 k x0 x7 (wrap64 (x8 + 1)) x118000 x118001)) else (none)) else (none)) else (some (-1))
def impl_Field_64.f (k : Nat) (l0 : List (S30)) (a1_0 : ByteArray) (a1_1 : ByteArray) : Option (Int) := impl_Field_64.l0 k l0 (l0.length : Int) 0 a1_0 a1_1
theorem impl_Field_64.mono_l : ∀ k, (∀ y0 y1 y2 y3 y4, LeO (impl_Field_64.l0 k y0 y1 y2 y3 y4) (impl_Field_64.l0 (k + 1) y0 y1 y2 y3 y4))
 | 0 => fun _ _ _ _ _ r h => by simp [impl_Field_64.l0] at h
 | k + 1 => by
  have ih0 := impl_Field_64.mono_l k
  ·intro y0 y1 y2 y3 y4
   unfold impl_Field_64.l0
   repeat' first
   | (with_reducible exact ih0 _ _ _ _ _)
   | (with_reducible exact LeO.refl _)
   | (with_reducible exact LeO.none _)
   | (with_reducible refine LeO.ite ?_ ?_)
   | (with_reducible refine LeO.bind ?_ (fun _ => ?_))
   | exact ih0 _ _ _ _ _
   | exact LeO.none _
   | refine LeO.ite ?_ ?_
   | refine LeO.bind ?_ (fun _ => ?_)
theorem impl_Field_64.mono : ∀ a0 a1 a2 k, LeO (impl_Field_64.f k a0 a1 a2) (impl_Field_64.f (k + 1) a0 a1 a2) := by
 intro a0 a1 a2 k
 have ih0 := impl_Field_64.mono_l k
 unfold impl_Field_64.f
 repeat' first
   | (with_reducible exact ih0 _ _ _ _ _)
   | (with_reducible exact LeO.refl _)
   | (with_reducible exact LeO.none _)
   | (with_reducible refine LeO.ite ?_ ?_)
   | (with_reducible refine LeO.bind ?_ (fun _ => ?_))
   | exact ih0 _ _ _ _ _
   | exact LeO.none _
   | refine LeO.ite ?_ ?_
   | refine LeO.bind ?_ (fun _ => ?_)
set_option maxHeartbeats 64000000 in
set_option maxRecDepth 100000 in
theorem impl_Field_64.calls (k : Nat) (A0 : Option Addr) (c0 : Nat) (l0 : List (S30)) (a1_0 : ByteArray) (a1_1 : ByteArray) (r : Int) (w : World) (hr0 : Kd.C k30 w A0 l0.length l0) (hc0 : l0.length ≤ c0) (h : impl_Field_64.f k l0 a1_0 a1_1 = some r) :
  Calls Try.prog 64 #[.slice A0 l0.length c0, .agg #[.string a1_0, .string a1_1]] w fun e w' => e = .returned (.int .i64 r) ∧ Below w.heap.size w w' := by
 have hu30 := Try.underlying30
 have HR0 := Aside0.mk hr0
 have HC0 := Aside0.mk hc0
 clear hr0 hc0
 have HB := Aside0.mk (Below.refl w.heap.size w)
 have H : (impl_Field_64.l0 k l0 (l0.length : Int) 0 a1_0 a1_1) = some r := h
 clear h
 have H' := Aside0.mk H
 clear H
 go_enter Try.func64, Try.ntmps64
 go_wp2_with (first | ((with_reducible refine gate_dst (N := 3) rfl ?_); refine box_event ?hg (N := 3) ?hd (cs := #[.string a1_0, .string a1_1]) (t := 30) ?hr ?_; (case hd => rfl); (case hg => rfl); (case hr => first | (go_simp; done) | (go_simp; rfl)); intro gb117 hg w3 hbox hb; have n0_ := Aside0.mk (below_step (by repeat (first | (with_reducible first | exact HB.out | apply below_alloc | apply pw_below_drewN | apply below_drew1) | exact HB.out)) hb); have n1_ := Aside0.mk (hbox); have n2_ := Aside0.mk ((by rw [hg]; exact (below_size (by repeat (first | (with_reducible first | exact HB.out | apply below_alloc | apply pw_below_drewN | apply below_drew1) | exact HB.out))) : w.heap.size ≤ gb117)); have n3_ := n2_; clear HB; have HB := n0_; have BK117 := n1_; have GW117 := n2_; have GE117 := n3_; clear n0_ n1_ n2_ n3_; clear hb hbox hg))
 repeat (go_quiet (first | ((with_reducible refine gate_dst (N := 3) rfl ?_); refine box_event ?hg (N := 3) ?hd (cs := #[.string a1_0, .string a1_1]) (t := 30) ?hr ?_; (case hd => rfl); (case hg => rfl); (case hr => first | (go_simp; done) | (go_simp; rfl)); intro gb117 hg w3 hbox hb; have n0_ := Aside0.mk (below_step (by repeat (first | (with_reducible first | exact HB.out | apply below_alloc | apply pw_below_drewN | apply below_drew1) | exact HB.out)) hb); have n1_ := Aside0.mk (hbox); have n2_ := Aside0.mk ((by rw [hg]; exact (below_size (by repeat (first | (with_reducible first | exact HB.out | apply below_alloc | apply pw_below_drewN | apply below_drew1) | exact HB.out))) : w.heap.size ≤ gb117)); have n3_ := n2_; clear HB; have HB := n0_; have BK117 := n1_; have GW117 := n2_; have GE117 := n3_; clear n0_ n1_ n2_ n3_; clear hb hbox hg)); try go_wp2_with (first | ((with_reducible refine gate_dst (N := 3) rfl ?_); refine box_event ?hg (N := 3) ?hd (cs := #[.string a1_0, .string a1_1]) (t := 30) ?hr ?_; (case hd => rfl); (case hg => rfl); (case hr => first | (go_simp; done) | (go_simp; rfl)); intro gb117 hg w3 hbox hb; have n0_ := Aside0.mk (below_step (by repeat (first | (with_reducible first | exact HB.out | apply below_alloc | apply pw_below_drewN | apply below_drew1) | exact HB.out)) hb); have n1_ := Aside0.mk (hbox); have n2_ := Aside0.mk ((by rw [hg]; exact (below_size (by repeat (first | (with_reducible first | exact HB.out | apply below_alloc | apply pw_below_drewN | apply below_drew1) | exact HB.out))) : w.heap.size ≤ gb117)); have n3_ := n2_; clear HB; have HB := n0_; have BK117 := n1_; have GW117 := n2_; have GE117 := n3_; clear n0_ n1_ n2_ n3_; clear hb hbox hg)))
 go_loopg [8] k (fun kq v8 w' => ∃ (x8_1 : Int), v8 = .int .i64 x8_1 ∧ Aside0 (impl_Field_64.l0 kq l0 (l0.length : Int) x8_1 a1_0 a1_1 = some r) ∧ Aside0 (kq ≤ k) ∧ Aside0 (w'.heap[gb117]? = some (.cells #[.string a1_0, .string a1_1] 30 (0, 0))) ∧ Aside0 (Below w.heap.size w w'))
 case atStart => exact ⟨(0), (by first | rfl | (simp; done) | (simp [*]; done)), H', ⟨Nat.le_refl _⟩, ⟨by (with_reducible repeat (first | refine bN ?_ _ | refine bD ?_ | refine bA ?_ _)); exact BK117.out⟩, ⟨by repeat (first | (with_reducible first | exact HB.out | apply below_alloc | apply pw_below_drewN | apply below_drew1 | refine below_set ?_ GE117.out) | exact HB.out)⟩⟩
 case round =>
  clear H'
  try clear p2
  obtain ⟨x8_1, rfl, HA, HK1, BK117, HB⟩ := hrel
  cases gk with
  | zero => exact absurd HA.out (by simp [impl_Field_64.l0])
  | succ k1 =>
   have H := HA.out
   clear HA
   simp only [impl_Field_64.l0] at H
   by_cases c4 : x8_1 < (l0.length : Int)
   ·rw [if_pos c4] at H
    have c4b0 : decide (x8_1 < (l0.length : Int)) = true := decide_eq_true c4
    clear c4
    by_cases c5 : 0 ≤ x8_1
    ·rw [if_pos c5] at H
     have c5b0 : decide (0 ≤ x8_1) = true := decide_eq_true c5
     clear c5
     by_cases c6 : x8_1 < (l0.length : Int)
     ·rw [if_pos c6] at H
      have c6b0 : decide (x8_1 < (l0.length : Int)) = true := decide_eq_true c6
      clear c6
      by_cases c7 : (a1_0.toList == (((rd_T30 l0 x8_1).f0).toList) && (a1_1.toList == (((rd_T30 l0 x8_1).f1).toList))) = true
      ·rw [if_pos c7] at H
       have c7b0 : (a1_0.toList == (((rd_T30 l0 x8_1).f0).toList) && (a1_1.toList == (((rd_T30 l0 x8_1).f1).toList))) = true := c7
       (try (have c7b1 : decide (a1_0.toList = (((rd_T30 l0 x8_1).f0).toList) && (a1_1.toList == (((rd_T30 l0 x8_1).f1).toList))) = true := by simpa using c7))
       (try (have c7b2 : (a1_0.toList == (((rd_T30 l0 x8_1).f0).toList) && (a1_1.toList == (((rd_T30 l0 x8_1).f1).toList))) = true := by simpa using c7))
       clear c7
       obtain rfl := Option.some.inj H
       obtain ⟨hcz8_0, hcz8_1⟩ := cz2 BK117
       obtain ⟨hfz8_0, hfz8_1⟩ := fz2 BK117
       have p118 : 0 ≤ (x8_1 : Int) := of_decide_eq_true (by first | (with_reducible assumption) | assumption)
       have q118 : x8_1 < (l0.length : Int) := of_decide_eq_true (by first | (with_reducible assumption) | assumption)
       obtain ⟨ad118, e118, hx118_0, hx118_1⟩ := at_T30 HR0.out x8_1 p118 q118
       cases e118
       replace hx118_0 := (HB.out.cell (World.block_lt_of_cell? w _ hx118_0)).trans hx118_0
       replace hx118_1 := (HB.out.cell (World.block_lt_of_cell? w _ hx118_1)).trans hx118_1
       replace p118 := eq_true p118
       replace q118 := eq_true q118
       go_wp2
       repeat (go_quiet (fail); try go_wp2)
       go_ret
       exact ⟨by first | rfl | (simp [errW_none, errW_some] <;> rfl) | (simp [*, errW_none, errW_some] <;> rfl), by repeat (first | (with_reducible first | exact HB.out | apply below_alloc | apply pw_below_drewN | apply below_drew1 | refine below_set ?_ GE117.out) | exact HB.out)⟩
      ·rw [if_neg c7] at H
       have c7b0 : (a1_0.toList == (((rd_T30 l0 x8_1).f0).toList) && (a1_1.toList == (((rd_T30 l0 x8_1).f1).toList))) = false := by simpa using c7
       (try (have c7b1 : decide (a1_0.toList = (((rd_T30 l0 x8_1).f0).toList) && (a1_1.toList == (((rd_T30 l0 x8_1).f1).toList))) = false := by simpa using c7))
       (try (have c7b2 : (a1_0.toList == (((rd_T30 l0 x8_1).f0).toList) && (a1_1.toList == (((rd_T30 l0 x8_1).f1).toList))) = false := by simpa using c7))
       (try (have c7b3 : ¬ (a1_0.toList = (((rd_T30 l0 x8_1).f0).toList) && (a1_1.toList == (((rd_T30 l0 x8_1).f1).toList))) := by simpa using c7))
       clear c7
       have H' := Aside0.mk H
       clear H
       obtain ⟨hcz9_0, hcz9_1⟩ := cz2 BK117
       obtain ⟨hfz9_0, hfz9_1⟩ := fz2 BK117
       have p118 : 0 ≤ (x8_1 : Int) := of_decide_eq_true (by first | (with_reducible assumption) | assumption)
       have q118 : x8_1 < (l0.length : Int) := of_decide_eq_true (by first | (with_reducible assumption) | assumption)
       obtain ⟨ad118, e118, hx118_0, hx118_1⟩ := at_T30 HR0.out x8_1 p118 q118
       cases e118
       replace hx118_0 := (HB.out.cell (World.block_lt_of_cell? w _ hx118_0)).trans hx118_0
       replace hx118_1 := (HB.out.cell (World.block_lt_of_cell? w _ hx118_1)).trans hx118_1
       replace p118 := eq_true p118
       replace q118 := eq_true q118
       go_wp2
       repeat (go_quiet (fail); try go_wp2)
       go_roundg k1
       case measure => have := HK1.out; omega
       case rel => exact ⟨(wrap64 (x8_1 + 1)), (by first | rfl | (simp; done) | (simp [*]; done)), H', ⟨by have := HK1.out; omega⟩, ⟨by (with_reducible repeat (first | refine bN ?_ _ | refine bD ?_ | refine bA ?_ _)); exact BK117.out⟩, ⟨by repeat (first | (with_reducible first | exact HB.out | apply below_alloc | apply pw_below_drewN | apply below_drew1 | refine below_set ?_ GE117.out) | exact HB.out)⟩⟩
     ·rw [if_neg c6] at H
      exact absurd H (by simp)
    ·rw [if_neg c5] at H
     exact absurd H (by simp)
   ·rw [if_neg c4] at H
    have c4b0 : decide (x8_1 < (l0.length : Int)) = false := decide_eq_false c4
    clear c4
    obtain rfl := Option.some.inj H
    go_wp2
    repeat (go_quiet (fail); try go_wp2)
    go_ret
    exact ⟨by first | rfl | (simp [errW_none, errW_some] <;> rfl) | (simp [*, errW_none, errW_some] <;> rfl), by repeat (first | (with_reducible first | exact HB.out | apply below_alloc | apply pw_below_drewN | apply below_drew1 | refine below_set ?_ GE117.out) | exact HB.out)⟩

/-! ### impl_static: function 65 -/
def impl_static.f  : Option ((List (S30))) := some (([(⟨(⟨#[58, 97, 117, 116, 104, 111, 114, 105, 116, 121]⟩ : ByteArray), (⟨#[]⟩ : ByteArray)⟩ : S30), (⟨(⟨#[58, 112, 97, 116, 104]⟩ : ByteArray), (⟨#[47]⟩ : ByteArray)⟩ : S30), (⟨(⟨#[58, 109, 101, 116, 104, 111, 100]⟩ : ByteArray), (⟨#[67, 79, 78, 78, 69, 67, 84]⟩ : ByteArray)⟩ : S30), (⟨(⟨#[58, 109, 101, 116, 104, 111, 100]⟩ : ByteArray), (⟨#[71, 69, 84]⟩ : ByteArray)⟩ : S30), (⟨(⟨#[58, 109, 101, 116, 104, 111, 100]⟩ : ByteArray), (⟨#[80, 79, 83, 84]⟩ : ByteArray)⟩ : S30), (⟨(⟨#[58, 115, 99, 104, 101, 109, 101]⟩ : ByteArray), (⟨#[104, 116, 116, 112]⟩ : ByteArray)⟩ : S30), (⟨(⟨#[58, 115, 99, 104, 101, 109, 101]⟩ : ByteArray), (⟨#[104, 116, 116, 112, 115]⟩ : ByteArray)⟩ : S30), (⟨(⟨#[58, 115, 116, 97, 116, 117, 115]⟩ : ByteArray), (⟨#[50, 48, 48]⟩ : ByteArray)⟩ : S30), (⟨(⟨#[58, 115, 116, 97, 116, 117, 115]⟩ : ByteArray), (⟨#[52, 48, 52]⟩ : ByteArray)⟩ : S30), (⟨(⟨#[58, 115, 116, 97, 116, 117, 115]⟩ : ByteArray), (⟨#[53, 48, 51]⟩ : ByteArray)⟩ : S30), (⟨(⟨#[58, 112, 114, 111, 116, 111, 99, 111, 108]⟩ : ByteArray), (⟨#[99, 111, 110, 110, 101, 99, 116, 45, 117, 100, 112]⟩ : ByteArray)⟩ : S30), (⟨(⟨#[99, 97, 112, 115, 117, 108, 101, 45, 112, 114, 111, 116, 111, 99, 111, 108]⟩ : ByteArray), (⟨#[63, 49]⟩ : ByteArray)⟩ : S30), (⟨(⟨#[99, 111, 110, 116, 101, 110, 116, 45, 108, 101, 110, 103, 116, 104]⟩ : ByteArray), (⟨#[48]⟩ : ByteArray)⟩ : S30), (⟨(⟨#[100, 97, 116, 101]⟩ : ByteArray), (⟨#[]⟩ : ByteArray)⟩ : S30), (⟨(⟨#[117, 115, 101, 114, 45, 97, 103, 101, 110, 116]⟩ : ByteArray), (⟨#[]⟩ : ByteArray)⟩ : S30), (⟨(⟨#[97, 99, 99, 101, 112, 116]⟩ : ByteArray), (⟨#[42, 47, 42]⟩ : ByteArray)⟩ : S30)] : List (S30)))
set_option maxHeartbeats 64000000 in
set_option maxRecDepth 100000 in
theorem impl_static.calls  (r : List (S30)) (w : World) (h : impl_static.f  = some r) :
  Calls Try.prog 65 #[] w fun e w' => ∃ v0_ : Value, e = .returned (v0_) ∧ Kd.R k30 30 w' w.heap.size (fun _ => True) v0_ r ∧ Below w.heap.size w w' := by
 have hu30 := Try.underlying30
 have HB := Aside0.mk (Below.refl w.heap.size w)
 have H : (some (([(⟨(⟨#[58, 97, 117, 116, 104, 111, 114, 105, 116, 121]⟩ : ByteArray), (⟨#[]⟩ : ByteArray)⟩ : S30), (⟨(⟨#[58, 112, 97, 116, 104]⟩ : ByteArray), (⟨#[47]⟩ : ByteArray)⟩ : S30), (⟨(⟨#[58, 109, 101, 116, 104, 111, 100]⟩ : ByteArray), (⟨#[67, 79, 78, 78, 69, 67, 84]⟩ : ByteArray)⟩ : S30), (⟨(⟨#[58, 109, 101, 116, 104, 111, 100]⟩ : ByteArray), (⟨#[71, 69, 84]⟩ : ByteArray)⟩ : S30), (⟨(⟨#[58, 109, 101, 116, 104, 111, 100]⟩ : ByteArray), (⟨#[80, 79, 83, 84]⟩ : ByteArray)⟩ : S30), (⟨(⟨#[58, 115, 99, 104, 101, 109, 101]⟩ : ByteArray), (⟨#[104, 116, 116, 112]⟩ : ByteArray)⟩ : S30), (⟨(⟨#[58, 115, 99, 104, 101, 109, 101]⟩ : ByteArray), (⟨#[104, 116, 116, 112, 115]⟩ : ByteArray)⟩ : S30), (⟨(⟨#[58, 115, 116, 97, 116, 117, 115]⟩ : ByteArray), (⟨#[50, 48, 48]⟩ : ByteArray)⟩ : S30), (⟨(⟨#[58, 115, 116, 97, 116, 117, 115]⟩ : ByteArray), (⟨#[52, 48, 52]⟩ : ByteArray)⟩ : S30), (⟨(⟨#[58, 115, 116, 97, 116, 117, 115]⟩ : ByteArray), (⟨#[53, 48, 51]⟩ : ByteArray)⟩ : S30), (⟨(⟨#[58, 112, 114, 111, 116, 111, 99, 111, 108]⟩ : ByteArray), (⟨#[99, 111, 110, 110, 101, 99, 116, 45, 117, 100, 112]⟩ : ByteArray)⟩ : S30), (⟨(⟨#[99, 97, 112, 115, 117, 108, 101, 45, 112, 114, 111, 116, 111, 99, 111, 108]⟩ : ByteArray), (⟨#[63, 49]⟩ : ByteArray)⟩ : S30), (⟨(⟨#[99, 111, 110, 116, 101, 110, 116, 45, 108, 101, 110, 103, 116, 104]⟩ : ByteArray), (⟨#[48]⟩ : ByteArray)⟩ : S30), (⟨(⟨#[100, 97, 116, 101]⟩ : ByteArray), (⟨#[]⟩ : ByteArray)⟩ : S30), (⟨(⟨#[117, 115, 101, 114, 45, 97, 103, 101, 110, 116]⟩ : ByteArray), (⟨#[]⟩ : ByteArray)⟩ : S30), (⟨(⟨#[97, 99, 99, 101, 112, 116]⟩ : ByteArray), (⟨#[42, 47, 42]⟩ : ByteArray)⟩ : S30)] : List (S30)))) = some r := h
 clear h
 obtain ⟨y119, hy119⟩ : ∃ y_ : List (S30), y_ = (([(⟨(⟨#[58, 97, 117, 116, 104, 111, 114, 105, 116, 121]⟩ : ByteArray), (⟨#[]⟩ : ByteArray)⟩ : S30), (⟨(⟨#[58, 112, 97, 116, 104]⟩ : ByteArray), (⟨#[47]⟩ : ByteArray)⟩ : S30), (⟨(⟨#[58, 109, 101, 116, 104, 111, 100]⟩ : ByteArray), (⟨#[67, 79, 78, 78, 69, 67, 84]⟩ : ByteArray)⟩ : S30), (⟨(⟨#[58, 109, 101, 116, 104, 111, 100]⟩ : ByteArray), (⟨#[71, 69, 84]⟩ : ByteArray)⟩ : S30), (⟨(⟨#[58, 109, 101, 116, 104, 111, 100]⟩ : ByteArray), (⟨#[80, 79, 83, 84]⟩ : ByteArray)⟩ : S30), (⟨(⟨#[58, 115, 99, 104, 101, 109, 101]⟩ : ByteArray), (⟨#[104, 116, 116, 112]⟩ : ByteArray)⟩ : S30), (⟨(⟨#[58, 115, 99, 104, 101, 109, 101]⟩ : ByteArray), (⟨#[104, 116, 116, 112, 115]⟩ : ByteArray)⟩ : S30), (⟨(⟨#[58, 115, 116, 97, 116, 117, 115]⟩ : ByteArray), (⟨#[50, 48, 48]⟩ : ByteArray)⟩ : S30), (⟨(⟨#[58, 115, 116, 97, 116, 117, 115]⟩ : ByteArray), (⟨#[52, 48, 52]⟩ : ByteArray)⟩ : S30), (⟨(⟨#[58, 115, 116, 97, 116, 117, 115]⟩ : ByteArray), (⟨#[53, 48, 51]⟩ : ByteArray)⟩ : S30), (⟨(⟨#[58, 112, 114, 111, 116, 111, 99, 111, 108]⟩ : ByteArray), (⟨#[99, 111, 110, 110, 101, 99, 116, 45, 117, 100, 112]⟩ : ByteArray)⟩ : S30), (⟨(⟨#[99, 97, 112, 115, 117, 108, 101, 45, 112, 114, 111, 116, 111, 99, 111, 108]⟩ : ByteArray), (⟨#[63, 49]⟩ : ByteArray)⟩ : S30), (⟨(⟨#[99, 111, 110, 116, 101, 110, 116, 45, 108, 101, 110, 103, 116, 104]⟩ : ByteArray), (⟨#[48]⟩ : ByteArray)⟩ : S30), (⟨(⟨#[100, 97, 116, 101]⟩ : ByteArray), (⟨#[]⟩ : ByteArray)⟩ : S30), (⟨(⟨#[117, 115, 101, 114, 45, 97, 103, 101, 110, 116]⟩ : ByteArray), (⟨#[]⟩ : ByteArray)⟩ : S30), (⟨(⟨#[97, 99, 99, 101, 112, 116]⟩ : ByteArray), (⟨#[42, 47, 42]⟩ : ByteArray)⟩ : S30)] : List (S30))) := ⟨_, rfl⟩
 replace H : (some y119) = some r := by first | (rw [hy119]; with_reducible exact H) | (have H2_ := (Option.bind_some _ _).symm.trans H; rw [hy119]; with_reducible exact H2_) | (have H2_ := (Option.bind_some _ _).symm.trans H; with_reducible exact H2_) | with_reducible exact H | (rw [hy119]; exact H) | exact H
 have Ny119 := Aside0.mk hy119
 clear hy119
 obtain rfl := Option.some.inj H
 go_enter Try.func65, Try.ntmps65
 go_wp2_with (first | ((with_reducible refine gate_dst (N := 17) rfl ?_); refine Kd.R_lit k30 _ 30 ?hg (N := 17) ?hd (xs := ([(⟨(⟨#[58, 97, 117, 116, 104, 111, 114, 105, 116, 121]⟩ : ByteArray), (⟨#[]⟩ : ByteArray)⟩ : S30), (⟨(⟨#[58, 112, 97, 116, 104]⟩ : ByteArray), (⟨#[47]⟩ : ByteArray)⟩ : S30), (⟨(⟨#[58, 109, 101, 116, 104, 111, 100]⟩ : ByteArray), (⟨#[67, 79, 78, 78, 69, 67, 84]⟩ : ByteArray)⟩ : S30), (⟨(⟨#[58, 109, 101, 116, 104, 111, 100]⟩ : ByteArray), (⟨#[71, 69, 84]⟩ : ByteArray)⟩ : S30), (⟨(⟨#[58, 109, 101, 116, 104, 111, 100]⟩ : ByteArray), (⟨#[80, 79, 83, 84]⟩ : ByteArray)⟩ : S30), (⟨(⟨#[58, 115, 99, 104, 101, 109, 101]⟩ : ByteArray), (⟨#[104, 116, 116, 112]⟩ : ByteArray)⟩ : S30), (⟨(⟨#[58, 115, 99, 104, 101, 109, 101]⟩ : ByteArray), (⟨#[104, 116, 116, 112, 115]⟩ : ByteArray)⟩ : S30), (⟨(⟨#[58, 115, 116, 97, 116, 117, 115]⟩ : ByteArray), (⟨#[50, 48, 48]⟩ : ByteArray)⟩ : S30), (⟨(⟨#[58, 115, 116, 97, 116, 117, 115]⟩ : ByteArray), (⟨#[52, 48, 52]⟩ : ByteArray)⟩ : S30), (⟨(⟨#[58, 115, 116, 97, 116, 117, 115]⟩ : ByteArray), (⟨#[53, 48, 51]⟩ : ByteArray)⟩ : S30), (⟨(⟨#[58, 112, 114, 111, 116, 111, 99, 111, 108]⟩ : ByteArray), (⟨#[99, 111, 110, 110, 101, 99, 116, 45, 117, 100, 112]⟩ : ByteArray)⟩ : S30), (⟨(⟨#[99, 97, 112, 115, 117, 108, 101, 45, 112, 114, 111, 116, 111, 99, 111, 108]⟩ : ByteArray), (⟨#[63, 49]⟩ : ByteArray)⟩ : S30), (⟨(⟨#[99, 111, 110, 116, 101, 110, 116, 45, 108, 101, 110, 103, 116, 104]⟩ : ByteArray), (⟨#[48]⟩ : ByteArray)⟩ : S30), (⟨(⟨#[100, 97, 116, 101]⟩ : ByteArray), (⟨#[]⟩ : ByteArray)⟩ : S30), (⟨(⟨#[117, 115, 101, 114, 45, 97, 103, 101, 110, 116]⟩ : ByteArray), (⟨#[]⟩ : ByteArray)⟩ : S30), (⟨(⟨#[97, 99, 99, 101, 112, 116]⟩ : ByteArray), (⟨#[42, 47, 42]⟩ : ByteArray)⟩ : S30)] : List (S30))) (inner := [.string (⟨#[58, 97, 117, 116, 104, 111, 114, 105, 116, 121]⟩ : ByteArray), .string (⟨#[]⟩ : ByteArray), .string (⟨#[58, 112, 97, 116, 104]⟩ : ByteArray), .string (⟨#[47]⟩ : ByteArray), .string (⟨#[58, 109, 101, 116, 104, 111, 100]⟩ : ByteArray), .string (⟨#[67, 79, 78, 78, 69, 67, 84]⟩ : ByteArray), .string (⟨#[58, 109, 101, 116, 104, 111, 100]⟩ : ByteArray), .string (⟨#[71, 69, 84]⟩ : ByteArray), .string (⟨#[58, 109, 101, 116, 104, 111, 100]⟩ : ByteArray), .string (⟨#[80, 79, 83, 84]⟩ : ByteArray), .string (⟨#[58, 115, 99, 104, 101, 109, 101]⟩ : ByteArray), .string (⟨#[104, 116, 116, 112]⟩ : ByteArray), .string (⟨#[58, 115, 99, 104, 101, 109, 101]⟩ : ByteArray), .string (⟨#[104, 116, 116, 112, 115]⟩ : ByteArray), .string (⟨#[58, 115, 116, 97, 116, 117, 115]⟩ : ByteArray), .string (⟨#[50, 48, 48]⟩ : ByteArray), .string (⟨#[58, 115, 116, 97, 116, 117, 115]⟩ : ByteArray), .string (⟨#[52, 48, 52]⟩ : ByteArray), .string (⟨#[58, 115, 116, 97, 116, 117, 115]⟩ : ByteArray), .string (⟨#[53, 48, 51]⟩ : ByteArray), .string (⟨#[58, 112, 114, 111, 116, 111, 99, 111, 108]⟩ : ByteArray), .string (⟨#[99, 111, 110, 110, 101, 99, 116, 45, 117, 100, 112]⟩ : ByteArray), .string (⟨#[99, 97, 112, 115, 117, 108, 101, 45, 112, 114, 111, 116, 111, 99, 111, 108]⟩ : ByteArray), .string (⟨#[63, 49]⟩ : ByteArray), .string (⟨#[99, 111, 110, 116, 101, 110, 116, 45, 108, 101, 110, 103, 116, 104]⟩ : ByteArray), .string (⟨#[48]⟩ : ByteArray), .string (⟨#[100, 97, 116, 101]⟩ : ByteArray), .string (⟨#[]⟩ : ByteArray), .string (⟨#[117, 115, 101, 114, 45, 97, 103, 101, 110, 116]⟩ : ByteArray), .string (⟨#[]⟩ : ByteArray), .string (⟨#[97, 99, 99, 101, 112, 116]⟩ : ByteArray), .string (⟨#[42, 47, 42]⟩ : ByteArray)]) (ok := fun _ => True) (okp := fun _ => True) ?hr ?hp (fun _ hk => hk) trivial (Below.refl _ _) (Nat.le_refl _) (by simp) ?_; (case hd => rfl); (case hg => rfl); (case hr => first | (go_simp; done) | (go_simp; rfl)); (case hp => exact (Reps.c2 (show Kd.M k30 _ _ _ (⟨(⟨#[58, 97, 117, 116, 104, 111, 114, 105, 116, 121]⟩ : ByteArray), (⟨#[]⟩ : ByteArray)⟩ : S30) [.string (⟨#[58, 97, 117, 116, 104, 111, 114, 105, 116, 121]⟩ : ByteArray), .string (⟨#[]⟩ : ByteArray)] from (k30_mkM _ _ _ (⟨(⟨#[58, 97, 117, 116, 104, 111, 114, 105, 116, 121]⟩ : ByteArray), (⟨#[]⟩ : ByteArray)⟩ : S30) )) (Reps.c2 (show Kd.M k30 _ _ _ (⟨(⟨#[58, 112, 97, 116, 104]⟩ : ByteArray), (⟨#[47]⟩ : ByteArray)⟩ : S30) [.string (⟨#[58, 112, 97, 116, 104]⟩ : ByteArray), .string (⟨#[47]⟩ : ByteArray)] from (k30_mkM _ _ _ (⟨(⟨#[58, 112, 97, 116, 104]⟩ : ByteArray), (⟨#[47]⟩ : ByteArray)⟩ : S30) )) (Reps.c2 (show Kd.M k30 _ _ _ (⟨(⟨#[58, 109, 101, 116, 104, 111, 100]⟩ : ByteArray), (⟨#[67, 79, 78, 78, 69, 67, 84]⟩ : ByteArray)⟩ : S30) [.string (⟨#[58, 109, 101, 116, 104, 111, 100]⟩ : ByteArray), .string (⟨#[67, 79, 78, 78, 69, 67, 84]⟩ : ByteArray)] from (k30_mkM _ _ _ (⟨(⟨#[58, 109, 101, 116, 104, 111, 100]⟩ : ByteArray), (⟨#[67, 79, 78, 78, 69, 67, 84]⟩ : ByteArray)⟩ : S30) )) (Reps.c2 (show Kd.M k30 _ _ _ (⟨(⟨#[58, 109, 101, 116, 104, 111, 100]⟩ : ByteArray), (⟨#[71, 69, 84]⟩ : ByteArray)⟩ : S30) [.string (⟨#[58, 109, 101, 116, 104, 111, 100]⟩ : ByteArray), .string (⟨#[71, 69, 84]⟩ : ByteArray)] from (k30_mkM _ _ _ (⟨(⟨#[58, 109, 101, 116, 104, 111, 100]⟩ : ByteArray), (⟨#[71, 69, 84]⟩ : ByteArray)⟩ : S30) )) (Reps.c2 (show Kd.M k30 _ _ _ (⟨(⟨#[58, 109, 101, 116, 104, 111, 100]⟩ : ByteArray), (⟨#[80, 79, 83, 84]⟩ : ByteArray)⟩ : S30) [.string (⟨#[58, 109, 101, 116, 104, 111, 100]⟩ : ByteArray), .string (⟨#[80, 79, 83, 84]⟩ : ByteArray)] from (k30_mkM _ _ _ (⟨(⟨#[58, 109, 101, 116, 104, 111, 100]⟩ : ByteArray), (⟨#[80, 79, 83, 84]⟩ : ByteArray)⟩ : S30) )) (Reps.c2 (show Kd.M k30 _ _ _ (⟨(⟨#[58, 115, 99, 104, 101, 109, 101]⟩ : ByteArray), (⟨#[104, 116, 116, 112]⟩ : ByteArray)⟩ : S30) [.string (⟨#[58, 115, 99, 104, 101, 109, 101]⟩ : ByteArray), .string (⟨#[104, 116, 116, 112]⟩ : ByteArray)] from (k30_mkM _ _ _ (⟨(⟨#[58, 115, 99, 104, 101, 109, 101]⟩ : ByteArray), (⟨#[104, 116, 116, 112]⟩ : ByteArray)⟩ : S30) )) (Reps.c2 (show Kd.M k30 _ _ _ (⟨(⟨#[58, 115, 99, 104, 101, 109, 101]⟩ : ByteArray), (⟨#[104, 116, 116, 112, 115]⟩ : ByteArray)⟩ : S30) [.string (⟨#[58, 115, 99, 104, 101, 109, 101]⟩ : ByteArray), .string (⟨#[104, 116, 116, 112, 115]⟩ : ByteArray)] from (k30_mkM _ _ _ (⟨(⟨#[58, 115, 99, 104, 101, 109, 101]⟩ : ByteArray), (⟨#[104, 116, 116, 112, 115]⟩ : ByteArray)⟩ : S30) )) (Reps.c2 (show Kd.M k30 _ _ _ (⟨(⟨#[58, 115, 116, 97, 116, 117, 115]⟩ : ByteArray), (⟨#[50, 48, 48]⟩ : ByteArray)⟩ : S30) [.string (⟨#[58, 115, 116, 97, 116, 117, 115]⟩ : ByteArray), .string (⟨#[50, 48, 48]⟩ : ByteArray)] from (k30_mkM _ _ _ (⟨(⟨#[58, 115, 116, 97, 116, 117, 115]⟩ : ByteArray), (⟨#[50, 48, 48]⟩ : ByteArray)⟩ : S30) )) (Reps.c2 (show Kd.M k30 _ _ _ (⟨(⟨#[58, 115, 116, 97, 116, 117, 115]⟩ : ByteArray), (⟨#[52, 48, 52]⟩ : ByteArray)⟩ : S30) [.string (⟨#[58, 115, 116, 97, 116, 117, 115]⟩ : ByteArray), .string (⟨#[52, 48, 52]⟩ : ByteArray)] from (k30_mkM _ _ _ (⟨(⟨#[58, 115, 116, 97, 116, 117, 115]⟩ : ByteArray), (⟨#[52, 48, 52]⟩ : ByteArray)⟩ : S30) )) (Reps.c2 (show Kd.M k30 _ _ _ (⟨(⟨#[58, 115, 116, 97, 116, 117, 115]⟩ : ByteArray), (⟨#[53, 48, 51]⟩ : ByteArray)⟩ : S30) [.string (⟨#[58, 115, 116, 97, 116, 117, 115]⟩ : ByteArray), .string (⟨#[53, 48, 51]⟩ : ByteArray)] from (k30_mkM _ _ _ (⟨(⟨#[58, 115, 116, 97, 116, 117, 115]⟩ : ByteArray), (⟨#[53, 48, 51]⟩ : ByteArray)⟩ : S30) )) (Reps.c2 (show Kd.M k30 _ _ _ (⟨(⟨#[58, 112, 114, 111, 116, 111, 99, 111, 108]⟩ : ByteArray), (⟨#[99, 111, 110, 110, 101, 99, 116, 45, 117, 100, 112]⟩ : ByteArray)⟩ : S30) [.string (⟨#[58, 112, 114, 111, 116, 111, 99, 111, 108]⟩ : ByteArray), .string (⟨#[99, 111, 110, 110, 101, 99, 116, 45, 117, 100, 112]⟩ : ByteArray)] from (k30_mkM _ _ _ (⟨(⟨#[58, 112, 114, 111, 116, 111, 99, 111, 108]⟩ : ByteArray), (⟨#[99, 111, 110, 110, 101, 99, 116, 45, 117, 100, 112]⟩ : ByteArray)⟩ : S30) )) (Reps.c2 (show Kd.M k30 _ _ _ (⟨(⟨#[99, 97, 112, 115, 117, 108, 101, 45, 112, 114, 111, 116, 111, 99, 111, 108]⟩ : ByteArray), (⟨#[63, 49]⟩ : ByteArray)⟩ : S30) [.string (⟨#[99, 97, 112, 115, 117, 108, 101, 45, 112, 114, 111, 116, 111, 99, 111, 108]⟩ : ByteArray), .string (⟨#[63, 49]⟩ : ByteArray)] from (k30_mkM _ _ _ (⟨(⟨#[99, 97, 112, 115, 117, 108, 101, 45, 112, 114, 111, 116, 111, 99, 111, 108]⟩ : ByteArray), (⟨#[63, 49]⟩ : ByteArray)⟩ : S30) )) (Reps.c2 (show Kd.M k30 _ _ _ (⟨(⟨#[99, 111, 110, 116, 101, 110, 116, 45, 108, 101, 110, 103, 116, 104]⟩ : ByteArray), (⟨#[48]⟩ : ByteArray)⟩ : S30) [.string (⟨#[99, 111, 110, 116, 101, 110, 116, 45, 108, 101, 110, 103, 116, 104]⟩ : ByteArray), .string (⟨#[48]⟩ : ByteArray)] from (k30_mkM _ _ _ (⟨(⟨#[99, 111, 110, 116, 101, 110, 116, 45, 108, 101, 110, 103, 116, 104]⟩ : ByteArray), (⟨#[48]⟩ : ByteArray)⟩ : S30) )) (Reps.c2 (show Kd.M k30 _ _ _ (⟨(⟨#[100, 97, 116, 101]⟩ : ByteArray), (⟨#[]⟩ : ByteArray)⟩ : S30) [.string (⟨#[100, 97, 116, 101]⟩ : ByteArray), .string (⟨#[]⟩ : ByteArray)] from (k30_mkM _ _ _ (⟨(⟨#[100, 97, 116, 101]⟩ : ByteArray), (⟨#[]⟩ : ByteArray)⟩ : S30) )) (Reps.c2 (show Kd.M k30 _ _ _ (⟨(⟨#[117, 115, 101, 114, 45, 97, 103, 101, 110, 116]⟩ : ByteArray), (⟨#[]⟩ : ByteArray)⟩ : S30) [.string (⟨#[117, 115, 101, 114, 45, 97, 103, 101, 110, 116]⟩ : ByteArray), .string (⟨#[]⟩ : ByteArray)] from (k30_mkM _ _ _ (⟨(⟨#[117, 115, 101, 114, 45, 97, 103, 101, 110, 116]⟩ : ByteArray), (⟨#[]⟩ : ByteArray)⟩ : S30) )) (Reps.c2 (show Kd.M k30 _ _ _ (⟨(⟨#[97, 99, 99, 101, 112, 116]⟩ : ByteArray), (⟨#[42, 47, 42]⟩ : ByteArray)⟩ : S30) [.string (⟨#[97, 99, 99, 101, 112, 116]⟩ : ByteArray), .string (⟨#[42, 47, 42]⟩ : ByteArray)] from (k30_mkM _ _ _ (⟨(⟨#[97, 99, 99, 101, 112, 116]⟩ : ByteArray), (⟨#[42, 47, 42]⟩ : ByteArray)⟩ : S30) )) (Reps.none _ _)))))))))))))))))); intro v120 w1 ho2 hb hg_ hnew_; clear hg_ hnew_; (first | rw [← Ny119.out] at ho2 | (simp only [Int.reduceToNat] at ho2; rw [← Ny119.out] at ho2)); have n0_ := Aside0.mk (Kd.R_lower ho2 (below_size (by repeat (first | (with_reducible first | exact HB.out | apply below_alloc | apply pw_below_drewN | apply below_drew1) | exact HB.out)))); have n1_ := Aside0.mk (below_step (by repeat (first | (with_reducible first | exact HB.out | apply below_alloc | apply pw_below_drewN | apply below_drew1) | exact HB.out)) hb); clear HB; have HO121 := n0_; have HB := n1_; clear n0_ n1_; clear hb ho2))
 go_ret
 exact ⟨_, by first | rfl | (simp [errW_none, errW_some] <;> rfl) | (simp [*, errW_none, errW_some] <;> rfl), by (with_reducible repeat (first | apply Kd.R_alloc | apply Kd.R_drewN | apply Kd.R_drew)); exact HO121.out, by repeat (first | (with_reducible first | exact HB.out | apply below_alloc | apply pw_below_drewN | apply below_drew1) | exact HB.out)⟩

/-! ### impl_Field_66: function 66 -/
open Go.Proofs.Ytikomfdkdoognaa.IdxK (idxF idxF_hit idxF_miss idxF_nn)
set_option maxHeartbeats 2000000 in
theorem idxF_Field (A : Option Addr) (c : Nat) (l : List S30) (g : Nat) (lb : Array Value) (p : S30 → Bool) (w : World) (eg : ∀ args w, (callFunc g args).run Try.prog w = .ok (.enter g args) w)
    (hp : ∀ (W : World) (x : S30), x ∈ l → Below w.heap.size w W → Calls Try.prog g (#[.agg #[.string x.f0, .string x.f1]] ++ lb) W fun e w' => e = .returned (.bool (p x)) ∧ Below w.heap.size w w') (hr : Kd.C k30 w A l.length l) :
    Calls Try.prog 66 #[.slice A l.length c, .func (.func g) #[] lb] w fun e w' => e = .returned (.int .i64 (idxF p l)) ∧ Below w.heap.size w w' := by
  have hbig := hr.2.1
  go_enter Try.func66, Try.ntmps66
  go_wp2
  go_loopg [5, 8] l.length (fun gg _ s8 wr => ∃ kk : Nat, kk ≤ l.length ∧ l.length - kk ≤ gg ∧ s8 = .int .i64 kk ∧ Aside (Below w.heap.size w wr) ∧ Aside (∀ j, j < kk → p (l.getD j z30) = false))
  case atStart => exact ⟨0, Nat.zero_le _, by omega, rfl, Below.refl _ w, fun j hj => absurd hj (Nat.not_lt_zero _)⟩
  case round =>
    obtain ⟨kk, hkk, hg, rfl, BW, AL⟩ := hrel
    by_cases hlt : kk < l.length
    · have hltz : (kk : Int) < (l.length : Int) := by omega
      obtain ⟨ad, eA, hx0, hx1⟩ := at_T30 (Kd.C_below hr BW.out) (kk : Int) (by omega) hltz
      have hmem : rd_T30 l kk ∈ l := by
        unfold rd_T30
        rw [Int.toNat_natCast, List.getD_eq_getElem?_getD, List.getElem?_eq_getElem hlt]
        exact List.getElem_mem hlt
      have hcall := hp wr (rd_T30 l kk) hmem BW.out
      have hy : rd_T30 l kk = l.getD kk z30 := by unfold rd_T30; rw [Int.toNat_natCast]
      subst eA
      clear hp
      rw [Int.toNat_natCast] at hx0 hx1
      generalize rd_T30 l kk = y at hx0 hx1 hcall hy
      have B : Aside (y = l.getD kk z30) := hy
      clear hy hmem
      cases hq : p y with
      | true =>
        rw [hq] at hcall
        go_wp2_with fail
        refine hcall.mono ?_
        rintro e w' ⟨rfl, hb'⟩
        go_wp2
        go_ret
        refine ⟨?_, hb'⟩
        rw [idxF_hit p z30 l kk hlt (by rw [← B.out]; exact hq) AL.out]
        rfl
      | false =>
        rw [hq] at hcall
        go_wp2_with fail
        refine hcall.mono ?_
        rintro e w' ⟨rfl, hb'⟩
        go_wp2
        go_roundg (l.length - (kk + 1))
        case measure => omega
        case rel =>
          refine ⟨kk + 1, by omega, by omega, by go_num, hb', (show Aside _ from fun j hj => ?_)⟩
          by_cases e : j = kk
          · subst e
            rw [← B.out]; exact hq
          · exact AL.out j (by omega)
    · have hltz : ¬ (kk : Int) < (l.length : Int) := by omega
      have e : kk = l.length := by omega
      subst e
      go_wp2
      go_ret
      refine ⟨?_, BW.out⟩
      rw [idxF_miss p z30 l AL.out]
      rfl

/-! ### impl_StaticAt: function 20 -/
def impl_StaticAt.f (k : Nat) (a0_0 : ByteArray) (a0_1 : ByteArray) : Option (Int × Int) := (impl_static.f).bind fun l => ((impl_Field_64.f k l a0_0 a0_1).bind fun i => (some (i, Go.Proofs.Ytikomfdkdoognaa.IdxK.idxF (fun g => g.f0.toList == a0_0.toList) l)))
theorem impl_StaticAt.mono : ∀ a0 a1 k, LeO (impl_StaticAt.f k a0 a1) (impl_StaticAt.f (k + 1) a0 a1) := by
  intro a0 a1 k
  unfold impl_StaticAt.f
  exact LeO.bind (LeO.refl _) (fun _ => LeO.bind (impl_Field_64.mono _ _ _ _) (fun _ => LeO.refl _))
set_option maxHeartbeats 4000000 in
theorem staticAt1_calls (n0 n1 : ByteArray) (B : Nat) (w : World) (hB : B < w.heap.size) (hcell : w.cell? ⟨B, 0, none⟩ = some (.string n0)) (W : World) (x : S30) (hb : Below w.heap.size w W) :
    Calls Try.prog 67 #[.agg #[.string x.f0, .string x.f1], .pointer (some ⟨B, 0, none⟩)] W fun e w' => e = .returned (.bool (x.f0.toList == n0.toList)) ∧ Below w.heap.size w w' := by
  have hc : W.cell? ⟨B, 0, none⟩ = some (.string n0) := (hb.cell (p := ⟨B, 0, none⟩) hB).trans hcell
  have hBW : B < W.heap.size := Nat.lt_of_lt_of_le hB hb.size
  have hne : B ≠ W.heap.size := by omega
  have HD := Aside0.mk (hb.alloc hb.size (.cells #[.string x.f0, .string x.f1] 30))
  clear hb hcell
  go_enter Try.func67, Try.ntmps67
  go_wp2
  go_ret
  exact ⟨rfl, HD.out⟩
set_option maxHeartbeats 16000000 in
set_option maxRecDepth 100000 in
theorem impl_StaticAt.calls (k : Nat) (a0_0 : ByteArray) (a0_1 : ByteArray) (r1 : Int) (r2 : Int) (w : World) (h : impl_StaticAt.f k a0_0 a0_1 = some (r1, r2)) :
    Calls Try.prog 20 #[.agg #[.string a0_0, .string a0_1]] w fun e w' => e = .returned (.tuple #[.int .i64 r1, .int .i64 r2]) ∧ Below w.heap.size w w' := by
  obtain ⟨l, A1, H⟩ := Option.bind_eq_some_iff.mp h
  obtain ⟨i, A2, H⟩ := Option.bind_eq_some_iff.mp H
  clear h
  simp only [Option.some.injEq, Prod.mk.injEq] at H
  obtain ⟨rfl, rfl⟩ := H
  have HA1 := Aside0.mk A1
  have HA2 := Aside0.mk A2
  clear A1 A2
  have hB0 : Below w.heap.size w (w.alloc (.cells #[.string a0_0, .string a0_1] 30)) := (Below.refl _ w).alloc (Nat.le_refl _) _
  have HB := Aside0.mk hB0
  have HC0 : Aside0 ((w.alloc (.cells #[.string a0_0, .string a0_1] 30)).heap[w.heap.size]? = some (.cells #[.string a0_0, .string a0_1] 30 (0, 0))) := ⟨blk_new w _⟩
  clear hB0
  go_enter Try.func20, Try.ntmps20
  go_wp2_with fail
  clear H
  generalize hgb : w.heap.size = gb at HC0 ⊢
  have HG : Aside0 (gb < (w.alloc (.cells #[.string a0_0, .string a0_1] 30)).heap.size) := ⟨by rw [← hgb]; simp⟩
  have HGE : Aside0 (w.heap.size ≤ gb) := ⟨by omega⟩
  generalize w.alloc (.cells #[.string a0_0, .string a0_1] 30) = w1 at HB HC0 HG ⊢
  rw [← hgb]
  refine start_ (n := 8) (S := fun w' => w'.cell? ⟨gb, 0, none⟩ = some (.string a0_0) ∧ w'.cell? ⟨gb, 1, none⟩ = some (.string a0_1)) (ds := []) (Go.Proofs.Ytikomfdkdoognaa.StoreK.bm 8 0) (by kernel_rfl) rfl rfl ⟨(blk_cell (blk_drew HC0.out) 0).trans rfl, (blk_cell (blk_drew HC0.out) 1).trans rfl⟩ (fun hHeld => ?_)
  have HC := Aside0.mk (blk_drew HC0.out)
  have HB2 : Aside0 (Below w.heap.size w w1.drew) := ⟨by first | exact below_drew1 HB.out | (apply below_drew1; exact HB.out)⟩
  have HG2 : Aside0 (gb < w1.drew.heap.size) := ⟨HG.out⟩
  clear HB HC0 HG
  generalize w1.drew = w2 at HC HB2 HG2 hHeld ⊢
  refine pure_ (i := 4) (N := some 8) (v := ?_) (a' := ?_) (Go.Proofs.Ytikomfdkdoognaa.StoreK.bm 8 16) rfl rfl (by kernel_rfl) (fun _ _ _ h => h) (Or.inl ⟨by rfl, ?_⟩) ?_ ?_
  rotate_left
  · intro w'
    go_simp
    with_reducible rfl
  rotate_left
  · simp only [Act.put, List.setIfInBounds_toArray, List.set_cons_zero, List.set_cons_succ, i64_w, i32_w]
    rfl
  refine take_ (i := 1) (N := some 5) (v := ?_) (a' := ?_) (Go.Proofs.Ytikomfdkdoognaa.StoreK.bm 8 18) rfl rfl (by kernel_rfl) (fun _ _ _ h => h) (Or.inl ⟨by rfl, ?_⟩) hHeld ?_ ?_
  rotate_left
  · rintro w' ⟨s0, s1⟩
    go_simp
    with_reducible rfl
  rotate_left
  · simp only [Act.put, List.setIfInBounds_toArray, List.set_cons_zero, List.set_cons_succ, i64_w, i32_w]
    rfl
  refine one_ (i := 0) (N := some 4) (Go.Proofs.Ytikomfdkdoognaa.StoreK.bm 8 19) rfl rfl (by kernel_rfl) (by decide) (fun K hK => ?_)
  refine goes_ Try.func65 (by kernel_rfl) rfl #[] (by rfl) rfl rfl (by (try simp only [List.map_toArray, List.map_cons, List.map_nil]); first | done | rfl) ?_
  refine (impl_static.calls l _ HA1.out).mono ?_
  rintro e w3 ⟨v0, rfl, ho, hb⟩
  refine ⟨_, rfl, ?_⟩
  obtain ⟨A3, c3, rfl, hl3, hC3⟩ := Kd.R_reads ho
  have HR3 := Aside0.mk hC3
  have HL3 := Aside0.mk hl3
  have HC3 := Aside0.mk (blk_below HC.out hb)
  have HB3 := Aside0.mk (HB2.out.trans (hb.mono HB2.out.size))
  have HG3 : Aside0 (gb < w3.heap.size) := ⟨Nat.lt_of_lt_of_le HG2.out hb.size⟩
  clear ho hl3 hC3 hb
  refine hK.out _ _ ⟨(blk_cell HC3.out 0).trans rfl, (blk_cell HC3.out 1).trans rfl⟩ (fun hHeld => ?_)
  clear hK K
  refine norm_ (a' := ?_) ?_ ?_
  rotate_left
  · show Act.put _ (some 4) _ = _
    simp only [Act.put, List.setIfInBounds_toArray, List.set_cons_zero, List.set_cons_succ, i64_w, i32_w]
    rfl
  refine one_ (i := 2) (N := some 6) (Go.Proofs.Ytikomfdkdoognaa.StoreK.bm 8 23) rfl rfl (by kernel_rfl) (by decide) (fun K hK => ?_)
  refine goes_ Try.func64 (by kernel_rfl) rfl #[.slice A3 l.length c3, .agg #[.string a0_0, .string a0_1]] (by rfl) rfl rfl (by (try simp only [List.map_toArray, List.map_cons, List.map_nil]); first | done | rfl) ?_
  refine (impl_Field_64.calls k A3 c3 l a0_0 a0_1 i _ HR3.out HL3.out HA2.out).mono ?_
  rintro e w4 ⟨rfl, hb⟩
  refine ⟨_, rfl, ?_⟩
  have HC4 := Aside0.mk (blk_below HC3.out hb)
  have HB4 := Aside0.mk (HB3.out.trans (hb.mono HB3.out.size))
  have HG4 : Aside0 (gb < w4.heap.size) := ⟨Nat.lt_of_lt_of_le HG3.out hb.size⟩
  clear hb
  refine hK.out _ _ ⟨(blk_cell HC4.out 0).trans rfl, (blk_cell HC4.out 1).trans rfl⟩ (fun hHeld => ?_)
  clear hK K
  refine norm_ (a' := ?_) ?_ ?_
  rotate_left
  · show Act.put _ (some 6) _ = _
    simp only [Act.put, List.setIfInBounds_toArray, List.set_cons_zero, List.set_cons_succ, i64_w, i32_w]
    rfl
  refine one_ (i := 3) (N := some 7) (Go.Proofs.Ytikomfdkdoognaa.StoreK.bm 8 31) rfl rfl (by kernel_rfl) (by decide) (fun K hK => ?_)
  refine goes_ Try.func65 (by kernel_rfl) rfl #[] (by rfl) rfl rfl (by (try simp only [List.map_toArray, List.map_cons, List.map_nil]); first | done | rfl) ?_
  refine (impl_static.calls l _ HA1.out).mono ?_
  rintro e w5 ⟨v5, rfl, ho, hb⟩
  refine ⟨_, rfl, ?_⟩
  obtain ⟨A5, c5, rfl, hl5, hC5⟩ := Kd.R_reads ho
  have HR5 := Aside0.mk hC5
  have HC5 := Aside0.mk (blk_below HC4.out hb)
  have HB5 := Aside0.mk (HB4.out.trans (hb.mono HB4.out.size))
  have HG5 : Aside0 (gb < w5.heap.size) := ⟨Nat.lt_of_lt_of_le HG4.out hb.size⟩
  clear ho hl5 hC5 hb
  refine hK.out _ _ ⟨(blk_cell HC5.out 0).trans rfl, (blk_cell HC5.out 1).trans rfl⟩ (fun hHeld => ?_)
  clear hK K
  refine norm_ (a' := ?_) ?_ ?_
  rotate_left
  · show Act.put _ (some 7) _ = _
    simp only [Act.put, List.setIfInBounds_toArray, List.set_cons_zero, List.set_cons_succ, i64_w, i32_w]
    rfl
  have eg : ∀ args w, (callFunc 67 args).run Try.prog w = .ok (.enter 67 args) w := enters_ Try.func67 (by kernel_rfl) rfl
  refine one_ (i := 5) (N := some 9) (Go.Proofs.Ytikomfdkdoognaa.StoreK.bm 8 63) rfl rfl (by kernel_rfl) (by decide) (fun K hK => ?_)
  refine goes_ Try.func66 (by kernel_rfl) rfl #[.slice A5 l.length c5, .func (.func 67) #[] #[.pointer (some ⟨gb, 0, none⟩)]] (by rfl) rfl rfl (by (try simp only [List.map_toArray, List.map_cons, List.map_nil]); first | done | rfl) ?_
  refine (idxF_Field A5 c5 l 67 #[.pointer (some ⟨gb, 0, none⟩)] (fun g => g.f0.toList == a0_0.toList) _ eg (fun W x _ hb => staticAt1_calls a0_0 a0_1 gb _ HG5.out ((blk_cell HC5.out 0).trans rfl) W x hb) HR5.out).mono ?_
  rintro e w6 ⟨rfl, hb⟩
  refine ⟨_, rfl, ?_⟩
  have HC6 := Aside0.mk (blk_below HC5.out hb)
  have HB6 := Aside0.mk (HB5.out.trans (hb.mono HB5.out.size))
  clear hb
  refine hK.out _ _ ⟨(blk_cell HC6.out 0).trans rfl, (blk_cell HC6.out 1).trans rfl⟩ (fun hHeld => ?_)
  clear hK K
  refine norm_ (a' := ?_) ?_ ?_
  rotate_left
  · show Act.put _ (some 9) _ = _
    simp only [Act.put, List.setIfInBounds_toArray, List.set_cons_zero, List.set_cons_succ, i64_w, i32_w]
    rfl
  refine pure_ (i := 6) (N := some 2) (v := ?_) (a' := ?_) (Go.Proofs.Ytikomfdkdoognaa.StoreK.bm 8 127) rfl rfl (by kernel_rfl) (fun _ _ _ h => h) (Or.inl ⟨by rfl, ?_⟩) ?_ ?_
  rotate_left
  · intro w'
    go_simp
    with_reducible rfl
  rotate_left
  · simp only [Act.put, List.setIfInBounds_toArray, List.set_cons_zero, List.set_cons_succ, i64_w, i32_w]
    rfl
  refine pure_ (i := 7) (N := some 3) (v := ?_) (a' := ?_) (Go.Proofs.Ytikomfdkdoognaa.StoreK.bm 8 255) rfl rfl (by kernel_rfl) (fun _ _ _ h => h) (Or.inl ⟨by rfl, ?_⟩) ?_ ?_
  rotate_left
  · intro w'
    go_simp
    with_reducible rfl
  rotate_left
  · simp only [Act.put, List.setIfInBounds_toArray, List.set_cons_zero, List.set_cons_succ, i64_w, i32_w]
    rfl
  refine done_ (by kernel_rfl) ?_
  go_wp2
  go_ret2
  exact ⟨rfl, HB6.out⟩

end Go.Proofs.Ytikomfdkdoognaa.PFnExactStaticAt
