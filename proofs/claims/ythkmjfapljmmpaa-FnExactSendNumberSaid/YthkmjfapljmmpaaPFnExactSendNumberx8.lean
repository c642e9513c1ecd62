-- Written by a program of this session (wip/xprint.py).
import Derived.Test.YthkmjfapljmmpaaPFnExactSendNumberx0
import Derived.Test.YthkmjfapljmmpaaPFnExactSendNumberx5
import Derived.Test.YthkmjfapljmmpaaPFnExactSendNumberx6
import Derived.Test.YthkmjfapljmmpaaPFnExactSendNumberx7
namespace Go.Proofs.Ythkmjfapljmmpaa.PFnExactSendNumber
open Go.RowKit Go.Proofs.YthkmjfapljmmpaaW.PrintWords Go.Proofs.YthkmjfapljmmpaaW.PrintLast Go.Proofs.YthkmjfapljmmpaaW.PrintMore
open Go.Proofs.Ythkmjfapljmmpaa.ShortK (bN bD bA sA sZ sS mR mB bX bLt bS cz2 fz2 cx2 cz3 fz3 cx3 cz4 fz4 cx4 cz5 fz5 cx5 cz6 fz6 cx6 cz7 fz7 cx7 cz8 fz8 cx8 cz9 fz9 cx9 cz10 fz10 cx10 cz11 fz11 cx11 cz12 fz12 cx12)
open Go.Proofs.Ythkmjfapljmmpaa.StoreK (bm)
attribute [local go_sem] Go.Proofs.Ythkmjfapljmmpaa.StoreK.isSome_setCell max2_int min2_int max_two min_two max_three min_three max_four min_four   -- for this text's walks alone
set_option linter.unusedVariables false
set_option linter.unusedSimpArgs false

/-! ### impl_SendNumber: function 47 -/
mutual
def impl_SendNumber.j0 : Nat → Bool → Int → List (S83) → Bool → Int → Int → Int → Int → Int → Int → Int → Option (Int × (List (S83)) × Bool × Int × Int × Int × Int × Bool)
 | 0, _, _, _, _, _, _, _, _, _, _, _ => none
 | k + 1, x27, x188000, x188001, x188002, x188003, x188004, x188005, x188006, x189000, x189001, x189002 => if x27 = true then (some (0, ([] : List (S83)), false, 0, 0, 0, 0, false)) else (if (x188001.length : Int) > 0 then (if 0 ≤ (wrap64 ((x188001.length : Int) - 1)) then (if (wrap64 ((x188001.length : Int) - 1)) < (x188001.length : Int) then (if ((rd_T83 x188001 (wrap64 ((x188001.length : Int) - 1))).f0) ≥ x189000 then (impl_SendNumber.j1 k true x188000 x188001 x188002 x188003 x188004 x188005 x188006 x189000 x189001 x189002) else (impl_SendNumber.j1 k (decide (((rd_T83 x188001 (wrap64 ((x188001.length : Int) - 1))).f1) > x189001)) x188000 x188001 x188002 x188003 x188004 x188005 x188006 x189000 x189001 x189002)) else (none)) else (none)) else (impl_SendNumber.j1 k false x188000 x188001 x188002 x188003 x188004 x188005 x188006 x189000 x189001 x189002))
def impl_SendNumber.j1 : Nat → Bool → Int → List (S83) → Bool → Int → Int → Int → Int → Int → Int → Int → Option (Int × (List (S83)) × Bool × Int × Int × Int × Int × Bool)
 | 0, _, _, _, _, _, _, _, _, _, _, _ => none
 | k + 1, x57, x188000, x188001, x188002, x188003, x188004, x188005, x188006, x189000, x189001, x189002 => if x57 = true then (some (0, ([] : List (S83)), false, 0, 0, 0, 0, false)) else ((impl_Sent.f x188001).bind fun t194 => ((some (([(⟨x189000, x189001, x189002⟩ : S83)] : List (S83)) : List (S83))).bind fun y197 => (if t194.length + y197.length < 5864062014805 then (some (x188000, (t194 ++ y197), x188002, x188003, x188004, x188005, x188006, true)) else (none))))
end
def impl_SendNumber.f (k : Nat) (a0_0 : Int) (l0_1 : List (S83)) (a0_2 : Bool) (a0_3 : Int) (a0_4 : Int) (a0_5 : Int) (a0_6 : Int) (a1_0 : Int) (a1_1 : Int) (a1_2 : Int) : Option (Int × (List (S83)) × Bool × Int × Int × Int × Int × Bool) := (impl_GoodSpace.f k a0_0 l0_1 a0_2 a0_3 a0_4 a0_5 a0_6).bind fun t190 => (if t190 = true then (if (l0_1.length : Int) ≥ 60 then (impl_SendNumber.j0 k true a0_0 l0_1 a0_2 a0_3 a0_4 a0_5 a0_6 a1_0 a1_1 a1_2) else ((impl_sentOk.f a1_0 a1_1 a1_2).bind fun t191 => (if t191 = true then (impl_SendNumber.j0 k (decide (a1_0 ≤ a0_0)) a0_0 l0_1 a0_2 a0_3 a0_4 a0_5 a0_6 a1_0 a1_1 a1_2) else (impl_SendNumber.j0 k true a0_0 l0_1 a0_2 a0_3 a0_4 a0_5 a0_6 a1_0 a1_1 a1_2)))) else (impl_SendNumber.j0 k true a0_0 l0_1 a0_2 a0_3 a0_4 a0_5 a0_6 a1_0 a1_1 a1_2))
theorem impl_SendNumber.mono_l : ∀ k, (∀ y0 y1 y2 y3 y4 y5 y6 y7 y8 y9 y10, LeO (impl_SendNumber.j0 k y0 y1 y2 y3 y4 y5 y6 y7 y8 y9 y10) (impl_SendNumber.j0 (k + 1) y0 y1 y2 y3 y4 y5 y6 y7 y8 y9 y10)) ∧ (∀ y0 y1 y2 y3 y4 y5 y6 y7 y8 y9 y10, LeO (impl_SendNumber.j1 k y0 y1 y2 y3 y4 y5 y6 y7 y8 y9 y10) (impl_SendNumber.j1 (k + 1) y0 y1 y2 y3 y4 y5 y6 y7 y8 y9 y10))
 | 0 => ⟨fun _ _ _ _ _ _ _ _ _ _ _ r h => by simp [impl_SendNumber.j0] at h, fun _ _ _ _ _ _ _ _ _ _ _ r h => by simp [impl_SendNumber.j1] at h⟩
 | k + 1 => by
  obtain ⟨ih0, ih1⟩ := impl_SendNumber.mono_l k
  refine ⟨?_, ?_⟩
  ·intro y0 y1 y2 y3 y4 y5 y6 y7 y8 y9 y10
   unfold impl_SendNumber.j0
   repeat' first
   | (with_reducible exact ih0 _ _ _ _ _ _ _ _ _ _ _)
   | (with_reducible exact ih1 _ _ _ _ _ _ _ _ _ _ _)
   | (with_reducible exact impl_GoodSpace.mono _ _ _ _ _ _ _ _)
   | (with_reducible exact LeO.refl _)
   | (with_reducible exact LeO.none _)
   | (with_reducible refine LeO.ite ?_ ?_)
   | (with_reducible refine LeO.bind ?_ (fun _ => ?_))
   | exact ih0 _ _ _ _ _ _ _ _ _ _ _
   | exact ih1 _ _ _ _ _ _ _ _ _ _ _
   | exact impl_GoodSpace.mono _ _ _ _ _ _ _ _
   | exact LeO.none _
   | refine LeO.ite ?_ ?_
   | refine LeO.bind ?_ (fun _ => ?_)
  ·intro y0 y1 y2 y3 y4 y5 y6 y7 y8 y9 y10
   unfold impl_SendNumber.j1
   repeat' first
   | (with_reducible exact ih0 _ _ _ _ _ _ _ _ _ _ _)
   | (with_reducible exact ih1 _ _ _ _ _ _ _ _ _ _ _)
   | (with_reducible exact impl_GoodSpace.mono _ _ _ _ _ _ _ _)
   | (with_reducible exact LeO.refl _)
   | (with_reducible exact LeO.none _)
   | (with_reducible refine LeO.ite ?_ ?_)
   | (with_reducible refine LeO.bind ?_ (fun _ => ?_))
   | exact ih0 _ _ _ _ _ _ _ _ _ _ _
   | exact ih1 _ _ _ _ _ _ _ _ _ _ _
   | exact impl_GoodSpace.mono _ _ _ _ _ _ _ _
   | exact LeO.none _
   | refine LeO.ite ?_ ?_
   | refine LeO.bind ?_ (fun _ => ?_)
theorem impl_SendNumber.mono : ∀ a0 a1 a2 a3 a4 a5 a6 a7 a8 a9 k, LeO (impl_SendNumber.f k a0 a1 a2 a3 a4 a5 a6 a7 a8 a9) (impl_SendNumber.f (k + 1) a0 a1 a2 a3 a4 a5 a6 a7 a8 a9) := by
 intro a0 a1 a2 a3 a4 a5 a6 a7 a8 a9 k
 obtain ⟨ih0, ih1⟩ := impl_SendNumber.mono_l k
 unfold impl_SendNumber.f
 repeat' first
   | (with_reducible exact ih0 _ _ _ _ _ _ _ _ _ _ _)
   | (with_reducible exact ih1 _ _ _ _ _ _ _ _ _ _ _)
   | (with_reducible exact impl_GoodSpace.mono _ _ _ _ _ _ _ _)
   | (with_reducible exact LeO.refl _)
   | (with_reducible exact LeO.none _)
   | (with_reducible refine LeO.ite ?_ ?_)
   | (with_reducible refine LeO.bind ?_ (fun _ => ?_))
   | exact ih0 _ _ _ _ _ _ _ _ _ _ _
   | exact ih1 _ _ _ _ _ _ _ _ _ _ _
   | exact impl_GoodSpace.mono _ _ _ _ _ _ _ _
   | exact LeO.none _
   | refine LeO.ite ?_ ?_
   | refine LeO.bind ?_ (fun _ => ?_)
def impl_SendNumber.T4 : Bool × List (List Nat × List Nat) := (true, [([], []), ([0], [0]), ([1], [1]), ([2], [2]), ([3, 2], [2, 3]), ([2], [2]), ([5, 2], [2, 5]), ([4, 6, 2], [2, 4, 6]), ([7, 2], [2, 7]), ([8, 2], [2, 8]), ([2], [2]), ([10, 2], [2, 10]), ([9, 11, 2], [2, 9, 11]), ([12, 2, 2], [2, 12]), ([13], [13]), ([14, 13], [13, 14]), ([13], [13]), ([16, 13], [13, 16]), ([15, 17, 13], [13, 15, 17]), ([18, 13], [13, 18]), ([19, 13], [13, 19]), ([13], [13]), ([21, 13], [13, 21]), ([20, 22, 13], [13, 20, 22]), ([13, 23, 2], [2, 13, 23]), ([2, 24], [2, 24])])
def impl_SendNumber.B4 : List Nat := [0, 1, 3, 7, 15, 7, 39, 127, 255, 511, 7, 1031, 4095, 8191, 16383, 32767, 16383, 81919, 262143, 524287, 1048575, 16383, 2113535, 8388607, 16777215, 33554431]
theorem impl_SendNumber.tab4 : rtab .any (opsOf Try.f47 4) = impl_SendNumber.T4 := by kernel_rfl
theorem impl_SendNumber.bits4 : waitsOk impl_SendNumber.T4.2 impl_SendNumber.B4 = true := by kernel_rfl
def impl_SendNumber.T6 : Bool × List (List Nat × List Nat) := (true, [([], []), ([0], [0]), ([1], [1]), ([], []), ([3], [3]), ([2, 4, 2], [2, 4]), ([0, 1, 2, 3, 4, 5], []), ([6, 5, 5, 0, 1, 2, 3, 4, 5], [5, 6])])
def impl_SendNumber.B6 : List Nat := [0, 1, 3, 0, 8, 31, 63, 127]
theorem impl_SendNumber.tab6 : rtab .any (opsOf Try.f47 6) = impl_SendNumber.T6 := by kernel_rfl
theorem impl_SendNumber.bits6 : waitsOk impl_SendNumber.T6.2 impl_SendNumber.B6 = true := by kernel_rfl
set_option maxHeartbeats 64000000 in
set_option maxRecDepth 100000 in
theorem impl_SendNumber.calls (k : Nat) (a0_0 : Int) (A0_1 : Option Addr) (c0_1 : Nat) (l0_1 : List (S83)) (a0_2 : Bool) (a0_3 : Int) (a0_4 : Int) (a0_5 : Int) (a0_6 : Int) (a1_0 : Int) (a1_1 : Int) (a1_2 : Int) (r1 : Int) (r2 : List (S83)) (r3 : Bool) (r4 : Int) (r5 : Int) (r6 : Int) (r7 : Int) (r8 : Bool) (w : World) (hr0_1 : Kd.C k83 w A0_1 l0_1.length l0_1) (hc0_1 : l0_1.length ≤ c0_1) (h : impl_SendNumber.f k a0_0 l0_1 a0_2 a0_3 a0_4 a0_5 a0_6 a1_0 a1_1 a1_2 = some (r1, r2, r3, r4, r5, r6, r7, r8)) :
  Calls Try.prog 47 #[.agg #[.int .i64 a0_0, .slice A0_1 l0_1.length c0_1, .bool a0_2, .int .i64 a0_3, .int .i64 a0_4, .int .i64 a0_5, .int .i64 a0_6], .agg #[.int .i64 a1_0, .int .i64 a1_1, .int .i64 a1_2]] w fun e w' => ∃ v1_ : Value, e = .returned (.tuple #[.agg #[.int .i64 r1, v1_, .bool r3, .int .i64 r4, .int .i64 r5, .int .i64 r6, .int .i64 r7], .bool r8]) ∧ Kd.R k83 83 w' w.heap.size (fun _ => True) v1_ r2 ∧ Below w.heap.size w w' := by
 have hu79 := Try.underlying79
 have hu83 := Try.underlying83
 have HR0_1 := Aside0.mk hr0_1
 have HC0_1 := Aside0.mk hc0_1
 clear hr0_1 hc0_1
 have HB := Aside0.mk (Below.refl w.heap.size w)
 have H : ((impl_GoodSpace.f k a0_0 l0_1 a0_2 a0_3 a0_4 a0_5 a0_6).bind fun t190 => (if t190 = true then (if (l0_1.length : Int) ≥ 60 then (impl_SendNumber.j0 k true a0_0 l0_1 a0_2 a0_3 a0_4 a0_5 a0_6 a1_0 a1_1 a1_2) else ((impl_sentOk.f a1_0 a1_1 a1_2).bind fun t191 => (if t191 = true then (impl_SendNumber.j0 k (decide (a1_0 ≤ a0_0)) a0_0 l0_1 a0_2 a0_3 a0_4 a0_5 a0_6 a1_0 a1_1 a1_2) else (impl_SendNumber.j0 k true a0_0 l0_1 a0_2 a0_3 a0_4 a0_5 a0_6 a1_0 a1_1 a1_2)))) else (impl_SendNumber.j0 k true a0_0 l0_1 a0_2 a0_3 a0_4 a0_5 a0_6 a1_0 a1_1 a1_2))) = some (r1, r2, r3, r4, r5, r6, r7, r8) := h
 clear h
 have HC3 := Aside0.mk H
 clear H
 go_enter Try.func47, Try.ntmps47
 go_upto_region 1 with (first | ((with_reducible refine gate_dst (N := 2) rfl ?_); (try (refine gate_guard (by rfl) ?_; dsimp only)); refine box_event ?hg (N := 2) ?hd (cs := #[.int .i64 a0_0, .slice A0_1 l0_1.length c0_1, .bool a0_2, .int .i64 a0_3, .int .i64 a0_4, .int .i64 a0_5, .int .i64 a0_6]) (t := 79) ?hr ?_; (case hd => rfl); (case hg => rfl); (case hr => first | (go_simp; done) | (go_simp; rfl)); intro gb187 hg w4 hbox hb; have n0_ := bS HB hb; have n1_ := Aside0.mk (hbox); have n2_ := Aside0.mk ((by rw [hg]; exact (below_size (by repeat (first | (with_reducible first | exact HB.out | apply below_alloc | apply pw_below_drewN | apply below_drew1) | exact HB.out))) : w.heap.size ≤ gb187)); have n3_ := n2_; clear HB; have HB := n0_; have BK187 := n1_; have GW187 := n2_; have GE187 := n3_; clear n0_ n1_ n2_ n3_; clear hb hbox hg) | ((with_reducible refine gate_dst (N := 3) rfl ?_); (try (refine gate_guard (by rfl) ?_; dsimp only)); refine box_event ?hg (N := 3) ?hd (cs := #[.int .i64 a1_0, .int .i64 a1_1, .int .i64 a1_2]) (t := 83) ?hr ?_; (case hd => rfl); (case hg => rfl); (case hr => first | (go_simp; done) | (go_simp; rfl)); intro gb188 hg w5 hbox hb; have n0_ := bX BK187 hb; have n1_ := bS HB hb; have n2_ := Aside0.mk (hbox); have n3_ := Aside0.mk ((by rw [hg]; exact (below_size (by repeat (first | (with_reducible first | exact HB.out | apply below_alloc | apply pw_below_drewN | apply below_drew1 | refine below_set ?_ GE187.out) | exact HB.out))) : w.heap.size ≤ gb188)); have n4_ := n3_; have n5_ := Aside0.mk ((by rw [hg]; exact Nat.ne_of_lt (bLt BK187) : gb187 ≠ gb188)); have n6_ := Aside0.mk ((by rw [hg]; exact Nat.ne_of_gt (bLt BK187) : gb188 ≠ gb187)); clear BK187; clear HB; have BK187 := n0_; have HB := n1_; have BK188 := n2_; have GW188 := n3_; have GE188 := n4_; have NB187_188 := n5_; have NB188_187 := n6_; clear n0_ n1_ n2_ n3_ n4_ n5_ n6_; clear hb hbox hg) | ((with_reducible refine gate_dst (N := 4) rfl ?_); (try (refine gate_guard (by rfl) ?_; dsimp only)); refine box_event ?hg (N := 4) ?hd (cs := #[.int .i64 0, .slice none 0 0, .bool false, .int .i64 0, .int .i64 0, .int .i64 0, .int .i64 0]) (t := 79) ?hr ?_; (case hd => rfl); (case hg => rfl); (case hr => first | (go_simp; done) | (go_simp; rfl)); intro gb189 hg w6 hbox hb; have n0_ := bX BK187 hb; have n1_ := bX BK188 hb; have n2_ := bS HB hb; have n3_ := Aside0.mk (hbox); have n4_ := Aside0.mk ((by rw [hg]; exact (below_size (by repeat (first | (with_reducible first | exact HB.out | apply below_alloc | apply pw_below_drewN | apply below_drew1 | refine below_set ?_ GE187.out | refine below_set ?_ GE188.out) | exact HB.out))) : w.heap.size ≤ gb189)); have n5_ := n4_; have n6_ := Aside0.mk ((by rw [hg]; exact Nat.ne_of_lt (bLt BK187) : gb187 ≠ gb189)); have n7_ := Aside0.mk ((by rw [hg]; exact Nat.ne_of_gt (bLt BK187) : gb189 ≠ gb187)); have n8_ := Aside0.mk ((by rw [hg]; exact Nat.ne_of_lt (bLt BK188) : gb188 ≠ gb189)); have n9_ := Aside0.mk ((by rw [hg]; exact Nat.ne_of_gt (bLt BK188) : gb189 ≠ gb188)); clear BK187; clear BK188; clear HB; have BK187 := n0_; have BK188 := n1_; have HB := n2_; have BK189 := n3_; have GW189 := n4_; have GE189 := n5_; have NB187_189 := n6_; have NB189_187 := n7_; have NB188_189 := n8_; have NB189_188 := n9_; clear n0_ n1_ n2_ n3_ n4_ n5_ n6_ n7_ n8_ n9_; clear hb hbox hg))
 (try simp only [Act.put, sA, sZ, sS])
 go_cut [27] (fun v27 wc => ∃ (kq : Nat) (x27_2 : Bool), v27 = .bool x27_2 ∧ Aside0 (impl_SendNumber.j0 kq x27_2 a0_0 l0_1 a0_2 a0_3 a0_4 a0_5 a0_6 a1_0 a1_1 a1_2 = some (r1, r2, r3, r4, r5, r6, r7, r8)) ∧ Aside0 (kq ≤ k) ∧ Aside0 (wc.heap[gb187]? = some (.cells #[.int .i64 a0_0, (.slice A0_1 l0_1.length c0_1), .bool a0_2, .int .i64 a0_3, .int .i64 a0_4, .int .i64 a0_5, .int .i64 a0_6] 79 (0, 0))) ∧ Aside0 (wc.heap[gb188]? = some (.cells #[.int .i64 a1_0, .int .i64 a1_1, .int .i64 a1_2] 83 (0, 0))) ∧ Aside0 (wc.heap[gb189]? = some (.cells #[.int .i64 0, (.slice none 0 0), .bool false, .int .i64 0, .int .i64 0, .int .i64 0, .int .i64 0] 79 (0, 0))) ∧ Aside0 (Below w.heap.size w wc))
 case first =>
  have H := HC3.out
  clear HC3
  replace H := Option.bind_eq_some_iff.mp H
  obtain ⟨t190, A70, H⟩ := H
  replace H : (if t190 = true then (if (l0_1.length : Int) ≥ 60 then (impl_SendNumber.j0 k true a0_0 l0_1 a0_2 a0_3 a0_4 a0_5 a0_6 a1_0 a1_1 a1_2) else ((impl_sentOk.f a1_0 a1_1 a1_2).bind fun t191 => (if t191 = true then (impl_SendNumber.j0 k (decide (a1_0 ≤ a0_0)) a0_0 l0_1 a0_2 a0_3 a0_4 a0_5 a0_6 a1_0 a1_1 a1_2) else (impl_SendNumber.j0 k true a0_0 l0_1 a0_2 a0_3 a0_4 a0_5 a0_6 a1_0 a1_1 a1_2)))) else (impl_SendNumber.j0 k true a0_0 l0_1 a0_2 a0_3 a0_4 a0_5 a0_6 a1_0 a1_1 a1_2)) = some (r1, r2, r3, r4, r5, r6, r7, r8) := H
  have A7 := Aside0.mk A70
  clear A70
  by_cases c8 : t190 = true
  ·subst c8
   have H1 : (if (l0_1.length : Int) ≥ 60 then (impl_SendNumber.j0 k true a0_0 l0_1 a0_2 a0_3 a0_4 a0_5 a0_6 a1_0 a1_1 a1_2) else ((impl_sentOk.f a1_0 a1_1 a1_2).bind fun t191 => (if t191 = true then (impl_SendNumber.j0 k (decide (a1_0 ≤ a0_0)) a0_0 l0_1 a0_2 a0_3 a0_4 a0_5 a0_6 a1_0 a1_1 a1_2) else (impl_SendNumber.j0 k true a0_0 l0_1 a0_2 a0_3 a0_4 a0_5 a0_6 a1_0 a1_1 a1_2)))) = some (r1, r2, r3, r4, r5, r6, r7, r8) := by rw [if_pos rfl] at H; exact H
   clear H
   have H := H1
   clear H1
   by_cases c9 : (l0_1.length : Int) ≥ 60
   ·rw [if_pos c9] at H
    have c9b0 : decide (60 ≤ (l0_1.length : Int)) = true := decide_eq_true c9
    have c9b1 : decide (60 ≤ l0_1.length) = true := decide_eq_true (by omega)
    clear c9
    (first | rw [c9b0] | (simp only [i64_w, i32_w]; rw [c9b0]) | skip)
    have H' := Aside0.mk H
    clear H
    have hnb10 := NB187_188.out
    have hnc10 := NB188_187.out
    have hnb11 := NB187_189.out
    have hnc11 := NB189_187.out
    obtain ⟨hcz12_0, hcz12_1, hcz12_2, hcz12_3, hcz12_4, hcz12_5, hcz12_6⟩ := cz7 BK187
    obtain ⟨hfz12_0, hfz12_1, hfz12_2, hfz12_3, hfz12_4, hfz12_5, hfz12_6⟩ := fz7 BK187
    go_wp2_with (first | ((with_reducible refine gate_callee (f := 121) rfl ?_); refine goesL_ (some 8) rfl rfl Try.func121 (by kernel_rfl) rfl #[.agg #[.int .i64 a0_0, .slice A0_1 l0_1.length c0_1, .bool a0_2, .int .i64 a0_3, .int .i64 a0_4, .int .i64 a0_5, .int .i64 a0_6]] rfl (by (try simp only [List.map_toArray, List.map_cons, List.map_nil]); first | done | rfl | (simp only [List.length_drop, List.length_take]; rfl)) ?_; (with_reducible refine (impl_GoodSpace.calls k a0_0 _ _ l0_1 a0_2 a0_3 a0_4 a0_5 a0_6 true _ ?side1 ?side2 A7.out).mono ?_); (case side1 => repeat (first | exact (Kd.C_below HR0_1.out HB.out) | (with_reducible refine Kd.C_alloc ?_ _) | (with_reducible refine Kd.C_drewN ?_ _) | (with_reducible refine Kd.C_drew ?_))); (case side2 => exact HC0_1.out); rintro e w13 ⟨rfl, hb⟩; refine ⟨_, rfl, ?_⟩; have n0_ := bX BK187 hb; have n1_ := bX BK188 hb; have n2_ := bX BK189 hb; have n3_ := bS HB hb; clear BK187; clear BK188; clear BK189; clear HB; have BK187 := n0_; have BK188 := n1_; have BK189 := n2_; have HB := n3_; clear n0_ n1_ n2_ n3_; (try clear hb); (try clear hb2); (try clear hk); (try clear hi); obtain ⟨hcz14_0, hcz14_1, hcz14_2, hcz14_3, hcz14_4, hcz14_5, hcz14_6⟩ := cz7 BK187; obtain ⟨hfz14_0, hfz14_1, hfz14_2, hfz14_3, hfz14_4, hfz14_5, hfz14_6⟩ := fz7 BK187))
    go_meet
    case rel => exact ⟨_, (true), (by first | rfl | (simp; done) | (simp [*]; done)), H', ⟨by first | omega | exact Nat.le_refl _⟩, ⟨by (with_reducible repeat (first | refine bN ?_ _ | refine bD ?_ | refine bA ?_ _)); exact BK187.out⟩, ⟨by (with_reducible repeat (first | refine bN ?_ _ | refine bD ?_ | refine bA ?_ _)); exact BK188.out⟩, ⟨by (with_reducible repeat (first | refine bN ?_ _ | refine bD ?_ | refine bA ?_ _)); exact BK189.out⟩, ⟨by repeat (first | (with_reducible first | exact HB.out | apply below_alloc | apply pw_below_drewN | apply below_drew1 | refine below_set ?_ GE187.out | refine below_set ?_ GE188.out | refine below_set ?_ GE189.out) | exact HB.out)⟩⟩
   ·rw [if_neg c9] at H
    have c9b0 : decide (60 ≤ (l0_1.length : Int)) = false := decide_eq_false c9
    have c9b1 : decide (60 ≤ l0_1.length) = false := decide_eq_false (by omega)
    clear c9
    (first | rw [c9b0] | (simp only [i64_w, i32_w]; rw [c9b0]) | skip)
    replace H := Option.bind_eq_some_iff.mp H
    obtain ⟨t191, A150, H⟩ := H
    replace H : (if t191 = true then (impl_SendNumber.j0 k (decide (a1_0 ≤ a0_0)) a0_0 l0_1 a0_2 a0_3 a0_4 a0_5 a0_6 a1_0 a1_1 a1_2) else (impl_SendNumber.j0 k true a0_0 l0_1 a0_2 a0_3 a0_4 a0_5 a0_6 a1_0 a1_1 a1_2)) = some (r1, r2, r3, r4, r5, r6, r7, r8) := H
    have A15 := Aside0.mk A150
    clear A150
    by_cases c16 : t191 = true
    ·subst c16
     have H1 : (impl_SendNumber.j0 k (decide (a1_0 ≤ a0_0)) a0_0 l0_1 a0_2 a0_3 a0_4 a0_5 a0_6 a1_0 a1_1 a1_2) = some (r1, r2, r3, r4, r5, r6, r7, r8) := by rw [if_pos rfl] at H; exact H
     clear H
     have H := H1
     clear H1
     have H' := Aside0.mk H
     clear H
     have hnb17 := NB187_188.out
     have hnc17 := NB188_187.out
     have hnb18 := NB187_189.out
     have hnc18 := NB189_187.out
     obtain ⟨hcz19_0, hcz19_1, hcz19_2, hcz19_3, hcz19_4, hcz19_5, hcz19_6⟩ := cz7 BK187
     obtain ⟨hfz19_0, hfz19_1, hfz19_2, hfz19_3, hfz19_4, hfz19_5, hfz19_6⟩ := fz7 BK187
     go_wp2_with (first | ((with_reducible refine gate_callee (f := 121) rfl ?_); refine goesL_ (some 8) rfl rfl Try.func121 (by kernel_rfl) rfl #[.agg #[.int .i64 a0_0, .slice A0_1 l0_1.length c0_1, .bool a0_2, .int .i64 a0_3, .int .i64 a0_4, .int .i64 a0_5, .int .i64 a0_6]] rfl (by (try simp only [List.map_toArray, List.map_cons, List.map_nil]); first | done | rfl | (simp only [List.length_drop, List.length_take]; rfl)) ?_; (with_reducible refine (impl_GoodSpace.calls k a0_0 _ _ l0_1 a0_2 a0_3 a0_4 a0_5 a0_6 true _ ?side1 ?side2 A7.out).mono ?_); (case side1 => repeat (first | exact (Kd.C_below HR0_1.out HB.out) | (with_reducible refine Kd.C_alloc ?_ _) | (with_reducible refine Kd.C_drewN ?_ _) | (with_reducible refine Kd.C_drew ?_))); (case side2 => exact HC0_1.out); rintro e w20 ⟨rfl, hb⟩; refine ⟨_, rfl, ?_⟩; have n0_ := bX BK187 hb; have n1_ := bX BK188 hb; have n2_ := bX BK189 hb; have n3_ := bS HB hb; clear BK187; clear BK188; clear BK189; clear HB; have BK187 := n0_; have BK188 := n1_; have BK189 := n2_; have HB := n3_; clear n0_ n1_ n2_ n3_; (try clear hb); (try clear hb2); (try clear hk); (try clear hi); obtain ⟨hcz21_0, hcz21_1, hcz21_2, hcz21_3, hcz21_4, hcz21_5, hcz21_6⟩ := cz7 BK187; obtain ⟨hfz21_0, hfz21_1, hfz21_2, hfz21_3, hfz21_4, hfz21_5, hfz21_6⟩ := fz7 BK187; have hnb22 := NB188_189.out; have hnc22 := NB189_188.out; obtain ⟨hcz23_0, hcz23_1, hcz23_2⟩ := cz3 BK188; obtain ⟨hfz23_0, hfz23_1, hfz23_2⟩ := fz3 BK188) | (go_at_call 122; (with_reducible refine (impl_sentOk.calls a1_0 a1_1 a1_2 true _ A15.out).mono ?_); rintro e w24 ⟨rfl, hb⟩; have n0_ := bX BK187 hb; have n1_ := bX BK188 hb; have n2_ := bX BK189 hb; have n3_ := bS HB hb; clear BK187; clear BK188; clear BK189; clear HB; have BK187 := n0_; have BK188 := n1_; have BK189 := n2_; have HB := n3_; clear n0_ n1_ n2_ n3_; (try clear hb); (try clear hb2); (try clear hk); (try clear hi); obtain ⟨hcz25_0, hcz25_1, hcz25_2⟩ := cz3 BK188; obtain ⟨hfz25_0, hfz25_1, hfz25_2⟩ := fz3 BK188; obtain ⟨hcz26_0, hcz26_1, hcz26_2, hcz26_3, hcz26_4, hcz26_5, hcz26_6⟩ := cz7 BK187; obtain ⟨hfz26_0, hfz26_1, hfz26_2, hfz26_3, hfz26_4, hfz26_5, hfz26_6⟩ := fz7 BK187))
     go_meet
     case rel => exact ⟨_, (decide (a1_0 ≤ a0_0)), (by first | rfl | (simp; done) | (simp [*]; done)), H', ⟨by first | omega | exact Nat.le_refl _⟩, ⟨by (with_reducible repeat (first | refine bN ?_ _ | refine bD ?_ | refine bA ?_ _)); exact BK187.out⟩, ⟨by (with_reducible repeat (first | refine bN ?_ _ | refine bD ?_ | refine bA ?_ _)); exact BK188.out⟩, ⟨by (with_reducible repeat (first | refine bN ?_ _ | refine bD ?_ | refine bA ?_ _)); exact BK189.out⟩, ⟨by repeat (first | (with_reducible first | exact HB.out | apply below_alloc | apply pw_below_drewN | apply below_drew1 | refine below_set ?_ GE187.out | refine below_set ?_ GE188.out | refine below_set ?_ GE189.out) | exact HB.out)⟩⟩
    ·replace c16 := Bool.eq_false_iff.mpr c16
     subst c16
     have H1 : (impl_SendNumber.j0 k true a0_0 l0_1 a0_2 a0_3 a0_4 a0_5 a0_6 a1_0 a1_1 a1_2) = some (r1, r2, r3, r4, r5, r6, r7, r8) := by rw [if_neg (show ¬ (false = true) by decide)] at H; exact H
     clear H
     have H := H1
     clear H1
     have H' := Aside0.mk H
     clear H
     have hnb27 := NB187_188.out
     have hnc27 := NB188_187.out
     have hnb28 := NB187_189.out
     have hnc28 := NB189_187.out
     obtain ⟨hcz29_0, hcz29_1, hcz29_2, hcz29_3, hcz29_4, hcz29_5, hcz29_6⟩ := cz7 BK187
     obtain ⟨hfz29_0, hfz29_1, hfz29_2, hfz29_3, hfz29_4, hfz29_5, hfz29_6⟩ := fz7 BK187
     go_wp2_with (first | ((with_reducible refine gate_callee (f := 121) rfl ?_); refine goesL_ (some 8) rfl rfl Try.func121 (by kernel_rfl) rfl #[.agg #[.int .i64 a0_0, .slice A0_1 l0_1.length c0_1, .bool a0_2, .int .i64 a0_3, .int .i64 a0_4, .int .i64 a0_5, .int .i64 a0_6]] rfl (by (try simp only [List.map_toArray, List.map_cons, List.map_nil]); first | done | rfl | (simp only [List.length_drop, List.length_take]; rfl)) ?_; (with_reducible refine (impl_GoodSpace.calls k a0_0 _ _ l0_1 a0_2 a0_3 a0_4 a0_5 a0_6 true _ ?side1 ?side2 A7.out).mono ?_); (case side1 => repeat (first | exact (Kd.C_below HR0_1.out HB.out) | (with_reducible refine Kd.C_alloc ?_ _) | (with_reducible refine Kd.C_drewN ?_ _) | (with_reducible refine Kd.C_drew ?_))); (case side2 => exact HC0_1.out); rintro e w30 ⟨rfl, hb⟩; refine ⟨_, rfl, ?_⟩; have n0_ := bX BK187 hb; have n1_ := bX BK188 hb; have n2_ := bX BK189 hb; have n3_ := bS HB hb; clear BK187; clear BK188; clear BK189; clear HB; have BK187 := n0_; have BK188 := n1_; have BK189 := n2_; have HB := n3_; clear n0_ n1_ n2_ n3_; (try clear hb); (try clear hb2); (try clear hk); (try clear hi); obtain ⟨hcz31_0, hcz31_1, hcz31_2, hcz31_3, hcz31_4, hcz31_5, hcz31_6⟩ := cz7 BK187; obtain ⟨hfz31_0, hfz31_1, hfz31_2, hfz31_3, hfz31_4, hfz31_5, hfz31_6⟩ := fz7 BK187; have hnb32 := NB188_189.out; have hnc32 := NB189_188.out; obtain ⟨hcz33_0, hcz33_1, hcz33_2⟩ := cz3 BK188; obtain ⟨hfz33_0, hfz33_1, hfz33_2⟩ := fz3 BK188) | (go_at_call 122; (with_reducible refine (impl_sentOk.calls a1_0 a1_1 a1_2 false _ A15.out).mono ?_); rintro e w34 ⟨rfl, hb⟩; have n0_ := bX BK187 hb; have n1_ := bX BK188 hb; have n2_ := bX BK189 hb; have n3_ := bS HB hb; clear BK187; clear BK188; clear BK189; clear HB; have BK187 := n0_; have BK188 := n1_; have BK189 := n2_; have HB := n3_; clear n0_ n1_ n2_ n3_; (try clear hb); (try clear hb2); (try clear hk); (try clear hi)))
     go_meet
     case rel => exact ⟨_, (true), (by first | rfl | (simp; done) | (simp [*]; done)), H', ⟨by first | omega | exact Nat.le_refl _⟩, ⟨by (with_reducible repeat (first | refine bN ?_ _ | refine bD ?_ | refine bA ?_ _)); exact BK187.out⟩, ⟨by (with_reducible repeat (first | refine bN ?_ _ | refine bD ?_ | refine bA ?_ _)); exact BK188.out⟩, ⟨by (with_reducible repeat (first | refine bN ?_ _ | refine bD ?_ | refine bA ?_ _)); exact BK189.out⟩, ⟨by repeat (first | (with_reducible first | exact HB.out | apply below_alloc | apply pw_below_drewN | apply below_drew1 | refine below_set ?_ GE187.out | refine below_set ?_ GE188.out | refine below_set ?_ GE189.out) | exact HB.out)⟩⟩
  ·replace c8 := Bool.eq_false_iff.mpr c8
   subst c8
   have H1 : (impl_SendNumber.j0 k true a0_0 l0_1 a0_2 a0_3 a0_4 a0_5 a0_6 a1_0 a1_1 a1_2) = some (r1, r2, r3, r4, r5, r6, r7, r8) := by rw [if_neg (show ¬ (false = true) by decide)] at H; exact H
   clear H
   have H := H1
   clear H1
   have H' := Aside0.mk H
   clear H
   have hnb35 := NB187_188.out
   have hnc35 := NB188_187.out
   have hnb36 := NB187_189.out
   have hnc36 := NB189_187.out
   obtain ⟨hcz37_0, hcz37_1, hcz37_2, hcz37_3, hcz37_4, hcz37_5, hcz37_6⟩ := cz7 BK187
   obtain ⟨hfz37_0, hfz37_1, hfz37_2, hfz37_3, hfz37_4, hfz37_5, hfz37_6⟩ := fz7 BK187
   go_wp2_with (first | ((with_reducible refine gate_callee (f := 121) rfl ?_); refine goesL_ (some 8) rfl rfl Try.func121 (by kernel_rfl) rfl #[.agg #[.int .i64 a0_0, .slice A0_1 l0_1.length c0_1, .bool a0_2, .int .i64 a0_3, .int .i64 a0_4, .int .i64 a0_5, .int .i64 a0_6]] rfl (by (try simp only [List.map_toArray, List.map_cons, List.map_nil]); first | done | rfl | (simp only [List.length_drop, List.length_take]; rfl)) ?_; (with_reducible refine (impl_GoodSpace.calls k a0_0 _ _ l0_1 a0_2 a0_3 a0_4 a0_5 a0_6 false _ ?side1 ?side2 A7.out).mono ?_); (case side1 => repeat (first | exact (Kd.C_below HR0_1.out HB.out) | (with_reducible refine Kd.C_alloc ?_ _) | (with_reducible refine Kd.C_drewN ?_ _) | (with_reducible refine Kd.C_drew ?_))); (case side2 => exact HC0_1.out); rintro e w38 ⟨rfl, hb⟩; refine ⟨_, rfl, ?_⟩; have n0_ := bX BK187 hb; have n1_ := bX BK188 hb; have n2_ := bX BK189 hb; have n3_ := bS HB hb; clear BK187; clear BK188; clear BK189; clear HB; have BK187 := n0_; have BK188 := n1_; have BK189 := n2_; have HB := n3_; clear n0_ n1_ n2_ n3_; (try clear hb); (try clear hb2); (try clear hk); (try clear hi)))
   go_meet
   case rel => exact ⟨_, (true), (by first | rfl | (simp; done) | (simp [*]; done)), H', ⟨by first | omega | exact Nat.le_refl _⟩, ⟨by (with_reducible repeat (first | refine bN ?_ _ | refine bD ?_ | refine bA ?_ _)); exact BK187.out⟩, ⟨by (with_reducible repeat (first | refine bN ?_ _ | refine bD ?_ | refine bA ?_ _)); exact BK188.out⟩, ⟨by (with_reducible repeat (first | refine bN ?_ _ | refine bD ?_ | refine bA ?_ _)); exact BK189.out⟩, ⟨by repeat (first | (with_reducible first | exact HB.out | apply below_alloc | apply pw_below_drewN | apply below_drew1 | refine below_set ?_ GE187.out | refine below_set ?_ GE188.out | refine below_set ?_ GE189.out) | exact HB.out)⟩⟩
 case rest =>
  clear HC3
  try clear c1
  try clear c2
  try clear p2
  try clear c3
  try clear c4
  try clear c8
  try clear c9
  try clear c9b0
  try clear c9b1
  try clear c10
  try clear c11
  try clear c12
  try clear c16
  try clear c17
  try clear c18
  try clear c22
  try clear c27
  try clear c28
  try clear c32
  try clear c35
  try clear c36
  try clear hcz12_0
  try clear hcz12_1
  try clear hcz12_2
  try clear hcz12_3
  try clear hcz12_4
  try clear hcz12_5
  try clear hcz12_6
  try clear hcz14_0
  try clear hcz14_1
  try clear hcz14_2
  try clear hcz14_3
  try clear hcz14_4
  try clear hcz14_5
  try clear hcz14_6
  try clear hcz19_0
  try clear hcz19_1
  try clear hcz19_2
  try clear hcz19_3
  try clear hcz19_4
  try clear hcz19_5
  try clear hcz19_6
  try clear hcz21_0
  try clear hcz21_1
  try clear hcz21_2
  try clear hcz21_3
  try clear hcz21_4
  try clear hcz21_5
  try clear hcz21_6
  try clear hcz23_0
  try clear hcz23_1
  try clear hcz23_2
  try clear hcz25_0
  try clear hcz25_1
  try clear hcz25_2
  try clear hcz26_0
  try clear hcz26_1
  try clear hcz26_2
  try clear hcz26_3
  try clear hcz26_4
  try clear hcz26_5
  try clear hcz26_6
  try clear hcz29_0
  try clear hcz29_1
  try clear hcz29_2
  try clear hcz29_3
  try clear hcz29_4
  try clear hcz29_5
  try clear hcz29_6
  try clear hcz31_0
  try clear hcz31_1
  try clear hcz31_2
  try clear hcz31_3
  try clear hcz31_4
  try clear hcz31_5
  try clear hcz31_6
  try clear hcz33_0
  try clear hcz33_1
  try clear hcz33_2
  try clear hcz37_0
  try clear hcz37_1
  try clear hcz37_2
  try clear hcz37_3
  try clear hcz37_4
  try clear hcz37_5
  try clear hcz37_6
  try clear hfz12_0
  try clear hfz12_1
  try clear hfz12_2
  try clear hfz12_3
  try clear hfz12_4
  try clear hfz12_5
  try clear hfz12_6
  try clear hfz14_0
  try clear hfz14_1
  try clear hfz14_2
  try clear hfz14_3
  try clear hfz14_4
  try clear hfz14_5
  try clear hfz14_6
  try clear hfz19_0
  try clear hfz19_1
  try clear hfz19_2
  try clear hfz19_3
  try clear hfz19_4
  try clear hfz19_5
  try clear hfz19_6
  try clear hfz21_0
  try clear hfz21_1
  try clear hfz21_2
  try clear hfz21_3
  try clear hfz21_4
  try clear hfz21_5
  try clear hfz21_6
  try clear hfz23_0
  try clear hfz23_1
  try clear hfz23_2
  try clear hfz25_0
  try clear hfz25_1
  try clear hfz25_2
  try clear hfz26_0
  try clear hfz26_1
  try clear hfz26_2
  try clear hfz26_3
  try clear hfz26_4
  try clear hfz26_5
  try clear hfz26_6
  try clear hfz29_0
  try clear hfz29_1
  try clear hfz29_2
  try clear hfz29_3
  try clear hfz29_4
  try clear hfz29_5
  try clear hfz29_6
  try clear hfz31_0
  try clear hfz31_1
  try clear hfz31_2
  try clear hfz31_3
  try clear hfz31_4
  try clear hfz31_5
  try clear hfz31_6
  try clear hfz33_0
  try clear hfz33_1
  try clear hfz33_2
  try clear hfz37_0
  try clear hfz37_1
  try clear hfz37_2
  try clear hfz37_3
  try clear hfz37_4
  try clear hfz37_5
  try clear hfz37_6
  obtain ⟨kq, x27_2, rfl, HA, HJ2, BK187, BK188, BK189, HB⟩ := hcut
  cases kq with
  | zero => exact absurd HA.out (by simp [impl_SendNumber.j0])
  | succ kj2 =>
   have H := HA.out
   clear HA
   simp only [impl_SendNumber.j0] at H
   by_cases c39 : x27_2 = true
   ·subst c39
    have H1 : (some (0, ([] : List (S83)), false, 0, 0, 0, 0, false)) = some (r1, r2, r3, r4, r5, r6, r7, r8) := by rw [if_pos rfl] at H; exact H
    clear H
    have H := H1
    clear H1
    simp only [Option.some.injEq, Prod.mk.injEq] at H
    obtain ⟨rfl, rfl, rfl, rfl, rfl, rfl, rfl, rfl⟩ := H
    have hnb40 := NB189_187.out
    have hnc40 := NB187_189.out
    have hnb41 := NB189_188.out
    have hnc41 := NB188_189.out
    obtain ⟨hcz42_0, hcz42_1, hcz42_2, hcz42_3, hcz42_4, hcz42_5, hcz42_6⟩ := cz7 BK189
    obtain ⟨hfz42_0, hfz42_1, hfz42_2, hfz42_3, hfz42_4, hfz42_5, hfz42_6⟩ := fz7 BK189
    go_wp2
    refine bodyPost_ret (results_ct rfl _ _ gb189 79 #[.int .i64 0, .slice none 0 0, .bool false, .int .i64 0, .int .i64 0, .int .i64 0, .int .i64 0] (0, 0) _ rfl (by (with_reducible repeat (first | refine bN ?_ _ | refine bD ?_ | refine bA ?_ _)); refine blk_put (cs := #[.int .i64 0, .slice none 0 0, .bool false, .int .i64 0, .int .i64 0, .int .i64 0, .int .i64 0]) ?_ 6 _ rfl; (with_reducible repeat (first | refine bN ?_ _ | refine bD ?_ | refine bA ?_ _)); refine blk_put (cs := #[.int .i64 0, .slice none 0 0, .bool false, .int .i64 0, .int .i64 0, .int .i64 0, .int .i64 0]) ?_ 5 _ rfl; (with_reducible repeat (first | refine bN ?_ _ | refine bD ?_ | refine bA ?_ _)); refine blk_put (cs := #[.int .i64 0, .slice none 0 0, .bool false, .int .i64 0, .int .i64 0, .int .i64 0, .int .i64 0]) ?_ 4 _ rfl; (with_reducible repeat (first | refine bN ?_ _ | refine bD ?_ | refine bA ?_ _)); refine blk_put (cs := #[.int .i64 0, .slice none 0 0, .bool false, .int .i64 0, .int .i64 0, .int .i64 0, .int .i64 0]) ?_ 3 _ rfl; (with_reducible repeat (first | refine bN ?_ _ | refine bD ?_ | refine bA ?_ _)); refine blk_put (cs := #[.int .i64 0, .slice none 0 0, .bool false, .int .i64 0, .int .i64 0, .int .i64 0, .int .i64 0]) ?_ 2 _ rfl; (with_reducible repeat (first | refine bN ?_ _ | refine bD ?_ | refine bA ?_ _)); refine blk_put (cs := #[.int .i64 0, .slice none 0 0, .bool false, .int .i64 0, .int .i64 0, .int .i64 0, .int .i64 0]) ?_ 1 _ rfl; (with_reducible repeat (first | refine bN ?_ _ | refine bD ?_ | refine bA ?_ _)); refine blk_put (cs := #[.int .i64 0, .slice none 0 0, .bool false, .int .i64 0, .int .i64 0, .int .i64 0, .int .i64 0]) ?_ 0 _ rfl; (with_reducible repeat (first | refine bN ?_ _ | refine bD ?_ | refine bA ?_ _)); exact BK189.out) Try.underlying79 rfl (by kernel_rfl)) rfl ?_
    exact ⟨_, by first | rfl | (simp [errW_none, errW_some] <;> rfl) | (simp [*, errW_none, errW_some] <;> rfl), by first | exact Kd.R_nil _ _ _ _ _ | exact Kd.N_nil _ _ _ _ _ | exact Kd.V_nil _ _ _ _ _ | exact Kd.Q_nil _ _ _ _ _ | exact Kd.S_nil _ _ _ _ _, by repeat (first | (with_reducible first | exact HB.out | apply below_alloc | apply pw_below_drewN | apply below_drew1 | refine below_set ?_ GE187.out | refine below_set ?_ GE188.out | refine below_set ?_ GE189.out) | exact HB.out)⟩
   ·replace c39 := Bool.eq_false_iff.mpr c39
    subst c39
    have H1 : (if (l0_1.length : Int) > 0 then (if 0 ≤ (wrap64 ((l0_1.length : Int) - 1)) then (if (wrap64 ((l0_1.length : Int) - 1)) < (l0_1.length : Int) then (if ((rd_T83 l0_1 (wrap64 ((l0_1.length : Int) - 1))).f0) ≥ a1_0 then (impl_SendNumber.j1 kj2 true a0_0 l0_1 a0_2 a0_3 a0_4 a0_5 a0_6 a1_0 a1_1 a1_2) else (impl_SendNumber.j1 kj2 (decide (((rd_T83 l0_1 (wrap64 ((l0_1.length : Int) - 1))).f1) > a1_1)) a0_0 l0_1 a0_2 a0_3 a0_4 a0_5 a0_6 a1_0 a1_1 a1_2)) else (none)) else (none)) else (impl_SendNumber.j1 kj2 false a0_0 l0_1 a0_2 a0_3 a0_4 a0_5 a0_6 a1_0 a1_1 a1_2)) = some (r1, r2, r3, r4, r5, r6, r7, r8) := by rw [if_neg (show ¬ (false = true) by decide)] at H; exact H
    clear H
    have H := H1
    clear H1
    have HC43 := Aside0.mk H
    clear H
    have hnb44 := NB187_188.out
    have hnc44 := NB188_187.out
    have hnb45 := NB187_189.out
    have hnc45 := NB189_187.out
    obtain ⟨hcz46_0, hcz46_1, hcz46_2, hcz46_3, hcz46_4, hcz46_5, hcz46_6⟩ := cz7 BK187
    obtain ⟨hfz46_0, hfz46_1, hfz46_2, hfz46_3, hfz46_4, hfz46_5, hfz46_6⟩ := fz7 BK187
    go_upto_region 4 with (fail)
    go_cut [57] (fun v57 wc => ∃ (kq : Nat) (x57_42 : Bool), v57 = .bool x57_42 ∧ Aside0 (impl_SendNumber.j1 kq x57_42 a0_0 l0_1 a0_2 a0_3 a0_4 a0_5 a0_6 a1_0 a1_1 a1_2 = some (r1, r2, r3, r4, r5, r6, r7, r8)) ∧ Aside0 (kq ≤ kj2) ∧ Aside0 (wc.heap[gb187]? = some (.cells #[.int .i64 a0_0, (.slice A0_1 l0_1.length c0_1), .bool a0_2, .int .i64 a0_3, .int .i64 a0_4, .int .i64 a0_5, .int .i64 a0_6] 79 (0, 0))) ∧ Aside0 (wc.heap[gb188]? = some (.cells #[.int .i64 a1_0, .int .i64 a1_1, .int .i64 a1_2] 83 (0, 0))) ∧ Aside0 (wc.heap[gb189]? = some (.cells #[.int .i64 0, (.slice none 0 0), .bool false, .int .i64 0, .int .i64 0, .int .i64 0, .int .i64 0] 79 (0, 0))) ∧ Aside0 (Below w.heap.size w wc))
    case first =>
     have H := HC43.out
     clear HC43
     by_cases c47 : (l0_1.length : Int) > 0
     ·rw [if_pos c47] at H
      have c47b0 : decide (0 < (l0_1.length : Int)) = true := decide_eq_true c47
      have c47b1 : decide (0 < l0_1.length) = true := decide_eq_true (by omega)
      clear c47
      (first | rw [c47b0] | (simp only [i64_w, i32_w]; rw [c47b0]) | skip)
      obtain ⟨ji48, hji48⟩ : ∃ j_ : Int, (wrap64 ((l0_1.length : Int) - 1)) = j_ := ⟨_, rfl⟩
      replace H : (if 0 ≤ (ji48) then (if (ji48) < (l0_1.length : Int) then (if ((rd_T83 l0_1 (ji48)).f0) ≥ a1_0 then (impl_SendNumber.j1 kj2 true a0_0 l0_1 a0_2 a0_3 a0_4 a0_5 a0_6 a1_0 a1_1 a1_2) else (impl_SendNumber.j1 kj2 (decide (((rd_T83 l0_1 (ji48)).f1) > a1_1)) a0_0 l0_1 a0_2 a0_3 a0_4 a0_5 a0_6 a1_0 a1_1 a1_2)) else (none)) else (none)) = some (r1, r2, r3, r4, r5, r6, r7, r8) := by first | (rw [hji48] at H; exact H) | (simp only [hji48] at H ⊢; exact H)
      have hji48w : (IntKind.i64.wrap ((l0_1.length : Int) - 1)) = ji48 := (i64_w _).trans hji48
      by_cases c49 : 0 ≤ (ji48)
      ·rw [if_pos c49] at H
       have c49b0 : decide (0 ≤ (ji48)) = true := decide_eq_true c49
       clear c49
       by_cases c50 : (ji48) < (l0_1.length : Int)
       ·rw [if_pos c50] at H
        have c50b0 : decide ((ji48) < (l0_1.length : Int)) = true := decide_eq_true c50
        clear c50
        by_cases c51 : ((rd_T83 l0_1 (ji48)).f0) ≥ a1_0
        ·rw [if_pos c51] at H
         have c51b0 : decide (a1_0 ≤ ((rd_T83 l0_1 (ji48)).f0)) = true := decide_eq_true c51
         clear c51
         have H' := Aside0.mk H
         clear H
         try go_wp2
         have n0_ := Aside0.mk (blk_drew BK187.out)
         have n1_ := Aside0.mk (blk_drew BK188.out)
         have n2_ := Aside0.mk (blk_drew BK189.out)
         have n3_ := Aside0.mk (below_drew1 HB.out)
         clear BK187
         clear BK188
         clear BK189
         clear HB
         have BK187 := n0_
         have BK188 := n1_
         have BK189 := n2_
         have HB := n3_
         clear n0_ n1_ n2_ n3_
         have p192 : 0 ≤ ((ji48) : Int) := of_decide_eq_true (by first | (with_reducible assumption) | assumption)
         have q192 : (ji48) < (l0_1.length : Int) := of_decide_eq_true (by first | (with_reducible assumption) | assumption)
         obtain ⟨ad192, e192, hx192_0, hx192_1, hx192_2⟩ := at_T83 HR0_1.out (ji48) p192 q192
         have hw192_2 := hx192_2
         have hw192_1 := hx192_1
         have hw192_0 := hx192_0
         cases e192
         replace hx192_0 := (HB.out.cell (World.block_lt_of_cell? w _ hx192_0)).trans hx192_0
         replace hx192_1 := (HB.out.cell (World.block_lt_of_cell? w _ hx192_1)).trans hx192_1
         replace hx192_2 := (HB.out.cell (World.block_lt_of_cell? w _ hx192_2)).trans hx192_2
         replace p192 := eq_true p192
         replace q192 := eq_true q192
         refine start_ (n := 26) (S := fun w' => w'.cell? ⟨gb187, 0, none⟩ = some (.int .i64 a0_0) ∧ w'.cell? ⟨gb187, 1, none⟩ = some (.slice (some ad192) l0_1.length c0_1) ∧ w'.cell? ⟨gb187, 2, none⟩ = some (.bool a0_2) ∧ w'.cell? ⟨gb187, 3, none⟩ = some (.int .i64 a0_3) ∧ w'.cell? ⟨gb187, 4, none⟩ = some (.int .i64 a0_4) ∧ w'.cell? ⟨gb187, 5, none⟩ = some (.int .i64 a0_5) ∧ w'.cell? ⟨gb187, 6, none⟩ = some (.int .i64 a0_6) ∧ w'.cell? ⟨gb188, 0, none⟩ = some (.int .i64 a1_0) ∧ w'.cell? ⟨gb188, 1, none⟩ = some (.int .i64 a1_1) ∧ w'.cell? ⟨gb188, 2, none⟩ = some (.int .i64 a1_2) ∧ w'.cell? (ad192.add (((ji48)).toNat * 3)) = some (.int .i64 ((rd_T83 l0_1 (ji48)).f0)) ∧ w'.cell? ⟨(ad192.add (((ji48)).toNat * 3)).block, (ad192.add (((ji48)).toNat * 3)).off + 1, none⟩ = some (.int .i64 ((rd_T83 l0_1 (ji48)).f1)) ∧ w'.cell? ⟨(ad192.add (((ji48)).toNat * 3)).block, (ad192.add (((ji48)).toNat * 3)).off + 2, none⟩ = some (.int .i64 ((rd_T83 l0_1 (ji48)).f2))) (ds := []) (bm 26 0) (by kernel_rfl) rfl rfl ⟨(blk_cell BK187.out 0).trans rfl, (blk_cell BK187.out 1).trans rfl, (blk_cell BK187.out 2).trans rfl, (blk_cell BK187.out 3).trans rfl, (blk_cell BK187.out 4).trans rfl, (blk_cell BK187.out 5).trans rfl, (blk_cell BK187.out 6).trans rfl, (blk_cell BK188.out 0).trans rfl, (blk_cell BK188.out 1).trans rfl, (blk_cell BK188.out 2).trans rfl, ((HB.out.cell (World.block_lt_of_cell? w _ hw192_0)).trans hw192_0), ((HB.out.cell (World.block_lt_of_cell? w _ hw192_1)).trans hw192_1), ((HB.out.cell (World.block_lt_of_cell? w _ hw192_2)).trans hw192_2)⟩ (fun hHeld => ?_); refine with_tabW impl_SendNumber.tab4 impl_SendNumber.bits4 (fun HT_ HW_ => ?_)
         generalize wc.drew = w52 at BK187 BK188 BK189 HB hx192_0 hx192_1 hx192_2 hHeld ⊢
         refine pure_ (i := 0) (N := some 32) (v := ?_) (a' := ?_) (bm 26 1) rfl rfl (any_of HT_.out (by kernel_rfl)) (fun _ _ _ h => h) (Or.inl ⟨by rfl, ?_⟩) ?_ ?_
         rotate_left
         ·intro w'
          go_simp
          with_reducible rfl
         rotate_left
         ·simp only [Act.put, sA, sZ, sS, i64_w, i32_w]
          rfl
         refine pure_ (i := 1) (N := some 33) (v := ?_) (a' := ?_) (bm 26 3) rfl rfl (any_of HT_.out (by kernel_rfl)) (fun _ _ _ h => h) (Or.inl ⟨by rfl, ?_⟩) ?_ ?_
         rotate_left
         ·intro w'
          go_simp
          with_reducible rfl
         rotate_left
         ·simp only [Act.put, sA, sZ, sS, i64_w, i32_w]
          rfl
         refine pure_ (i := 2) (N := some 34) (v := ?_) (a' := ?_) (bm 26 7) rfl rfl (any_of HT_.out (by kernel_rfl)) (fun _ _ _ h => h) (Or.inl ⟨by rfl, ?_⟩) ?_ ?_
         rotate_left
         ·intro w'
          go_simp
          with_reducible rfl
         rotate_left
         ·simp only [Act.put, sA, sZ, sS, i64_w, i32_w]
          rfl
         refine pure_ (i := 3) (N := some 35) (v := ?_) (a' := ?_) (bm 26 15) rfl rfl (any_of HT_.out (by kernel_rfl)) (fun _ _ _ h => h) (Or.inl ⟨by rfl, ?_⟩) ?_ ?_
         rotate_left
         ·intro w'
          go_simp
          with_reducible rfl
         rotate_left
         ·simp only [Act.put, sA, sZ, sS, i64_w, i32_w]
          rfl
         refine pure_ (i := 5) (N := some 37) (v := ?_) (a' := ?_) (bm 26 47) rfl rfl (any_of HT_.out (by kernel_rfl)) (fun _ _ _ h => h) (Or.inl ⟨by rfl, ?_⟩) ?_ ?_
         rotate_left
         ·intro w'
          go_simp
          with_reducible rfl
         rotate_left
         ·simp only [Act.put, sA, sZ, sS, i64_w, i32_w]
          rfl
         refine pure_ (i := 6) (N := some 38) (v := ?_) (a' := ?_) (bm 26 111) rfl rfl (any_of HT_.out (by kernel_rfl)) (fun _ _ _ h => h) (Or.inl ⟨by rfl, ?_⟩) ?_ ?_
         rotate_left
         ·intro w'
          go_simp
          with_reducible rfl
         rotate_left
         ·simp only [Act.put, sA, sZ, sS, i64_w, i32_w]
          rfl
         refine pure_ (i := 10) (N := some 42) (v := ?_) (a' := ?_) (bm 26 1135) rfl rfl (any_of HT_.out (by kernel_rfl)) (fun _ _ _ h => h) (Or.inl ⟨by rfl, ?_⟩) ?_ ?_
         rotate_left
         ·intro w'
          go_simp
          with_reducible rfl
         rotate_left
         ·simp only [Act.put, sA, sZ, sS, i64_w, i32_w]
          rfl
         refine take_ (i := 4) (N := some 36) (v := ?_) (a' := ?_) (bm 26 1151) rfl rfl (take_ofW HT_.out HW_.out (by kernel_rfl)) (fun _ _ _ h => h) (Or.inl ⟨by rfl, ?_⟩) hHeld ?_ ?_
         rotate_left
         ·rintro w' ⟨s0, s1, s2, s3, s4, s5, s6, s7, s8, s9, s10, s11, s12⟩
          go_simp
          with_reducible rfl
         rotate_left
         ·simp only [Act.put, sA, sZ, sS, i64_w, i32_w]
          rfl
         refine pure_ (i := 7) (N := some 39) (v := ?_) (a' := ?_) (bm 26 1279) rfl rfl (any_of HT_.out (by kernel_rfl)) (fun _ _ _ h => h) (Or.inl ⟨by rfl, ?_⟩) ?_ ?_
         rotate_left
         ·intro w'
          go_simp
          with_reducible rfl
         rotate_left
         ·simp only [Act.put, sA, sZ, sS, i64_w, i32_w]
          rfl
         refine pure_ (i := 8) (N := some 40) (v := ?_) (a' := ?_) (bm 26 1535) rfl rfl (any_of HT_.out (by kernel_rfl)) (fun _ _ _ h => h) (Or.inl ⟨by rfl, ?_⟩) ?_ ?_
         rotate_left
         ·intro w'
          go_simp
          with_reducible rfl
         rotate_left
         ·simp only [Act.put, sA, sZ, sS, i64_w, i32_w]
          rfl
         refine take_ (i := 9) (N := some 41) (v := ?_) (a' := ?_) (bm 26 2047) rfl rfl (take_ofW HT_.out HW_.out (by kernel_rfl)) (fun _ _ _ h => h) (Or.inl ⟨by rfl, ?_⟩) hHeld ?_ ?_
         rotate_left
         ·rintro w' ⟨s0, s1, s2, s3, s4, s5, s6, s7, s8, s9, s10, s11, s12⟩
          go_simp
          with_reducible rfl
         rotate_left
         ·simp only [Act.put, sA, sZ, sS, i64_w, i32_w]
          rfl
         refine take_ (i := 11) (N := some 43) (v := ?_) (a' := ?_) (bm 26 4095) rfl rfl (take_ofW HT_.out HW_.out (by kernel_rfl)) (fun _ _ _ h => h) (Or.inl ⟨by rfl, ?_⟩) hHeld ?_ ?_
         rotate_left
         ·rintro w' ⟨s0, s1, s2, s3, s4, s5, s6, s7, s8, s9, s10, s11, s12⟩
          go_simp
          with_reducible rfl
         rotate_left
         ·simp only [Act.put, sA, sZ, sS, i64_w, i32_w]
          rfl
         refine pure_ (i := 12) (N := some 44) (v := ?_) (a' := ?_) (bm 26 8191) rfl rfl (any_of HT_.out (by kernel_rfl)) (fun _ _ _ h => h) (Or.inl ⟨by rfl, ?_⟩) ?_ ?_
         rotate_left
         ·intro w'
          go_simp
          with_reducible rfl
         rotate_left
         ·simp only [Act.put, sA, sZ, sS, i64_w, i32_w]
          rfl
         refine pure_ (i := 13) (N := some 45) (v := ?_) (a' := ?_) (bm 26 16383) rfl rfl (any_of HT_.out (by kernel_rfl)) (fun _ _ _ h => h) (Or.inl ⟨by rfl, ?_⟩) ?_ ?_
         rotate_left
         ·intro w'
          go_simp
          with_reducible rfl
         rotate_left
         ·simp only [Act.put, sA, sZ, sS, i64_w, i32_w]
          rfl
         refine pure_ (i := 14) (N := some 46) (v := undef) (a' := ?_) (bm 26 32767) rfl rfl (any_of HT_.out (by kernel_rfl)) (fun _ _ _ h => h) (Or.inr ⟨by rfl, rfl⟩) ?_ ?_
         rotate_left
         ·simp only [Act.put, sA, sZ, sS, i64_w, i32_w]
          rfl
         refine pure_ (i := 15) (N := some 47) (v := undef) (a' := ?_) (bm 26 65535) rfl rfl (any_of HT_.out (by kernel_rfl)) (fun _ _ _ h => h) (Or.inr ⟨by rfl, rfl⟩) ?_ ?_
         rotate_left
         ·simp only [Act.put, sA, sZ, sS, i64_w, i32_w]
          rfl
         refine pure_ (i := 16) (N := some 48) (v := undef) (a' := ?_) (bm 26 131071) rfl rfl (any_of HT_.out (by kernel_rfl)) (fun _ _ _ h => h) (Or.inr ⟨by rfl, rfl⟩) ?_ ?_
         rotate_left
         ·simp only [Act.put, sA, sZ, sS, i64_w, i32_w]
          rfl
         refine pure_ (i := 17) (N := some 49) (v := undef) (a' := ?_) (bm 26 262143) rfl rfl (any_of HT_.out (by kernel_rfl)) (fun _ _ _ h => h) (Or.inr ⟨by rfl, rfl⟩) ?_ ?_
         rotate_left
         ·simp only [Act.put, sA, sZ, sS, i64_w, i32_w]
          rfl
         refine pure_ (i := 18) (N := some 50) (v := undef) (a' := ?_) (bm 26 524287) rfl rfl (any_of HT_.out (by kernel_rfl)) (fun _ _ _ h => h) (Or.inr ⟨by rfl, rfl⟩) ?_ ?_
         rotate_left
         ·simp only [Act.put, sA, sZ, sS, i64_w, i32_w]
          rfl
         refine pure_ (i := 19) (N := some 51) (v := undef) (a' := ?_) (bm 26 1048575) rfl rfl (any_of HT_.out (by kernel_rfl)) (fun _ _ _ h => h) (Or.inr ⟨by rfl, rfl⟩) ?_ ?_
         rotate_left
         ·simp only [Act.put, sA, sZ, sS, i64_w, i32_w]
          rfl
         refine pure_ (i := 20) (N := some 52) (v := undef) (a' := ?_) (bm 26 2097151) rfl rfl (any_of HT_.out (by kernel_rfl)) (fun _ _ _ h => h) (Or.inr ⟨by rfl, rfl⟩) ?_ ?_
         rotate_left
         ·simp only [Act.put, sA, sZ, sS, i64_w, i32_w]
          rfl
         refine pure_ (i := 21) (N := some 53) (v := undef) (a' := ?_) (bm 26 4194303) rfl rfl (any_of HT_.out (by kernel_rfl)) (fun _ _ _ h => h) (Or.inr ⟨by rfl, rfl⟩) ?_ ?_
         rotate_left
         ·simp only [Act.put, sA, sZ, sS, i64_w, i32_w]
          rfl
         refine pure_ (i := 22) (N := some 54) (v := undef) (a' := ?_) (bm 26 8388607) rfl rfl (any_of HT_.out (by kernel_rfl)) (fun _ _ _ h => h) (Or.inr ⟨by rfl, rfl⟩) ?_ ?_
         rotate_left
         ·simp only [Act.put, sA, sZ, sS, i64_w, i32_w]
          rfl
         refine pure_ (i := 23) (N := some 55) (v := undef) (a' := ?_) (bm 26 16777215) rfl rfl (any_of HT_.out (by kernel_rfl)) (fun _ _ _ h => h) (Or.inr ⟨by rfl, rfl⟩) ?_ ?_
         rotate_left
         ·simp only [Act.put, sA, sZ, sS, i64_w, i32_w]
          rfl
         refine pure_ (i := 24) (N := some 56) (v := ?_) (a' := ?_) (bm 26 33554431) rfl rfl (any_of HT_.out (by kernel_rfl)) (fun _ _ _ h => h) (Or.inl ⟨by rfl, ?_⟩) ?_ ?_
         rotate_left
         ·intro w'
          go_simp
          with_reducible rfl
         rotate_left
         ·simp only [Act.put, sA, sZ, sS, i64_w, i32_w]
          rfl
         refine pure_ (i := 25) (N := some 57) (v := ?_) (a' := ?_) (bm 26 67108863) rfl rfl (any_of HT_.out (by kernel_rfl)) (fun _ _ _ h => h) (Or.inl ⟨by rfl, ?_⟩) ?_ ?_
         rotate_left
         ·intro w'
          go_simp
          with_reducible rfl
         rotate_left
         ·simp only [Act.put, sA, sZ, sS, i64_w, i32_w]
          rfl
         refine done_ (done_of HT_.out (by kernel_rfl)) ?_
         try go_wp2
         go_meet
         case rel => exact ⟨_, (true), (by first | rfl | (simp; done) | (simp [*]; done)), H', ⟨by have := HJ2.out; first | omega | exact Nat.le_refl _⟩, ⟨by (with_reducible repeat (first | refine bN ?_ _ | refine bD ?_ | refine bA ?_ _)); exact BK187.out⟩, ⟨by (with_reducible repeat (first | refine bN ?_ _ | refine bD ?_ | refine bA ?_ _)); exact BK188.out⟩, ⟨by (with_reducible repeat (first | refine bN ?_ _ | refine bD ?_ | refine bA ?_ _)); exact BK189.out⟩, ⟨by repeat (first | (with_reducible first | exact HB.out | apply below_alloc | apply pw_below_drewN | apply below_drew1 | refine below_set ?_ GE187.out | refine below_set ?_ GE188.out | refine below_set ?_ GE189.out) | exact HB.out)⟩⟩
        ·rw [if_neg c51] at H
         have c51b0 : decide (a1_0 ≤ ((rd_T83 l0_1 (ji48)).f0)) = false := decide_eq_false c51
         clear c51
         have H' := Aside0.mk H
         clear H
         try go_wp2
         have n0_ := Aside0.mk (blk_drew BK187.out)
         have n1_ := Aside0.mk (blk_drew BK188.out)
         have n2_ := Aside0.mk (blk_drew BK189.out)
         have n3_ := Aside0.mk (below_drew1 HB.out)
         clear BK187
         clear BK188
         clear BK189
         clear HB
         have BK187 := n0_
         have BK188 := n1_
         have BK189 := n2_
         have HB := n3_
         clear n0_ n1_ n2_ n3_
         have p192 : 0 ≤ ((ji48) : Int) := of_decide_eq_true (by first | (with_reducible assumption) | assumption)
         have q192 : (ji48) < (l0_1.length : Int) := of_decide_eq_true (by first | (with_reducible assumption) | assumption)
         obtain ⟨ad192, e192, hx192_0, hx192_1, hx192_2⟩ := at_T83 HR0_1.out (ji48) p192 q192
         have hw192_2 := hx192_2
         have hw192_1 := hx192_1
         have hw192_0 := hx192_0
         cases e192
         replace hx192_0 := (HB.out.cell (World.block_lt_of_cell? w _ hx192_0)).trans hx192_0
         replace hx192_1 := (HB.out.cell (World.block_lt_of_cell? w _ hx192_1)).trans hx192_1
         replace hx192_2 := (HB.out.cell (World.block_lt_of_cell? w _ hx192_2)).trans hx192_2
         replace p192 := eq_true p192
         replace q192 := eq_true q192
         have p193 : 0 ≤ ((ji48) : Int) := of_decide_eq_true (by first | (with_reducible assumption) | assumption)
         have q193 : (ji48) < (l0_1.length : Int) := of_decide_eq_true (by first | (with_reducible assumption) | assumption)
         obtain ⟨ad193, e193, hx193_0, hx193_1, hx193_2⟩ := at_T83 HR0_1.out (ji48) p193 q193
         have hw193_2 := hx193_2
         have hw193_1 := hx193_1
         have hw193_0 := hx193_0
         obtain rfl : ad192 = ad193 := (by injection e193)
         replace hx193_0 := (HB.out.cell (World.block_lt_of_cell? w _ hx193_0)).trans hx193_0
         replace hx193_1 := (HB.out.cell (World.block_lt_of_cell? w _ hx193_1)).trans hx193_1
         replace hx193_2 := (HB.out.cell (World.block_lt_of_cell? w _ hx193_2)).trans hx193_2
         replace p193 := eq_true p193
         replace q193 := eq_true q193
         refine start_ (n := 26) (S := fun w' => w'.cell? ⟨gb187, 0, none⟩ = some (.int .i64 a0_0) ∧ w'.cell? ⟨gb187, 1, none⟩ = some (.slice (some ad192) l0_1.length c0_1) ∧ w'.cell? ⟨gb187, 2, none⟩ = some (.bool a0_2) ∧ w'.cell? ⟨gb187, 3, none⟩ = some (.int .i64 a0_3) ∧ w'.cell? ⟨gb187, 4, none⟩ = some (.int .i64 a0_4) ∧ w'.cell? ⟨gb187, 5, none⟩ = some (.int .i64 a0_5) ∧ w'.cell? ⟨gb187, 6, none⟩ = some (.int .i64 a0_6) ∧ w'.cell? ⟨gb188, 0, none⟩ = some (.int .i64 a1_0) ∧ w'.cell? ⟨gb188, 1, none⟩ = some (.int .i64 a1_1) ∧ w'.cell? ⟨gb188, 2, none⟩ = some (.int .i64 a1_2) ∧ w'.cell? (ad192.add (((ji48)).toNat * 3)) = some (.int .i64 ((rd_T83 l0_1 (ji48)).f0)) ∧ w'.cell? ⟨(ad192.add (((ji48)).toNat * 3)).block, (ad192.add (((ji48)).toNat * 3)).off + 1, none⟩ = some (.int .i64 ((rd_T83 l0_1 (ji48)).f1)) ∧ w'.cell? ⟨(ad192.add (((ji48)).toNat * 3)).block, (ad192.add (((ji48)).toNat * 3)).off + 2, none⟩ = some (.int .i64 ((rd_T83 l0_1 (ji48)).f2)) ∧ w'.cell? (ad192.add (((ji48)).toNat * 3)) = some (.int .i64 ((rd_T83 l0_1 (ji48)).f0)) ∧ w'.cell? ⟨(ad192.add (((ji48)).toNat * 3)).block, (ad192.add (((ji48)).toNat * 3)).off + 1, none⟩ = some (.int .i64 ((rd_T83 l0_1 (ji48)).f1)) ∧ w'.cell? ⟨(ad192.add (((ji48)).toNat * 3)).block, (ad192.add (((ji48)).toNat * 3)).off + 2, none⟩ = some (.int .i64 ((rd_T83 l0_1 (ji48)).f2))) (ds := []) (bm 26 0) (by kernel_rfl) rfl rfl ⟨(blk_cell BK187.out 0).trans rfl, (blk_cell BK187.out 1).trans rfl, (blk_cell BK187.out 2).trans rfl, (blk_cell BK187.out 3).trans rfl, (blk_cell BK187.out 4).trans rfl, (blk_cell BK187.out 5).trans rfl, (blk_cell BK187.out 6).trans rfl, (blk_cell BK188.out 0).trans rfl, (blk_cell BK188.out 1).trans rfl, (blk_cell BK188.out 2).trans rfl, ((HB.out.cell (World.block_lt_of_cell? w _ hw192_0)).trans hw192_0), ((HB.out.cell (World.block_lt_of_cell? w _ hw192_1)).trans hw192_1), ((HB.out.cell (World.block_lt_of_cell? w _ hw192_2)).trans hw192_2), ((HB.out.cell (World.block_lt_of_cell? w _ hw193_0)).trans hw193_0), ((HB.out.cell (World.block_lt_of_cell? w _ hw193_1)).trans hw193_1), ((HB.out.cell (World.block_lt_of_cell? w _ hw193_2)).trans hw193_2)⟩ (fun hHeld => ?_); refine with_tabW impl_SendNumber.tab4 impl_SendNumber.bits4 (fun HT_ HW_ => ?_)
         generalize wc.drew = w53 at BK187 BK188 BK189 HB hx192_0 hx192_1 hx192_2 hx193_0 hx193_1 hx193_2 hHeld ⊢
         refine pure_ (i := 0) (N := some 32) (v := ?_) (a' := ?_) (bm 26 1) rfl rfl (any_of HT_.out (by kernel_rfl)) (fun _ _ _ h => h) (Or.inl ⟨by rfl, ?_⟩) ?_ ?_
         rotate_left
         ·intro w'
          go_simp
          with_reducible rfl
         rotate_left
         ·simp only [Act.put, sA, sZ, sS, i64_w, i32_w]
          rfl
         refine pure_ (i := 1) (N := some 33) (v := ?_) (a' := ?_) (bm 26 3) rfl rfl (any_of HT_.out (by kernel_rfl)) (fun _ _ _ h => h) (Or.inl ⟨by rfl, ?_⟩) ?_ ?_
         rotate_left
         ·intro w'
          go_simp
          with_reducible rfl
         rotate_left
         ·simp only [Act.put, sA, sZ, sS, i64_w, i32_w]
          rfl
         refine pure_ (i := 2) (N := some 34) (v := ?_) (a' := ?_) (bm 26 7) rfl rfl (any_of HT_.out (by kernel_rfl)) (fun _ _ _ h => h) (Or.inl ⟨by rfl, ?_⟩) ?_ ?_
         rotate_left
         ·intro w'
          go_simp
          with_reducible rfl
         rotate_left
         ·simp only [Act.put, sA, sZ, sS, i64_w, i32_w]
          rfl
         refine pure_ (i := 3) (N := some 35) (v := ?_) (a' := ?_) (bm 26 15) rfl rfl (any_of HT_.out (by kernel_rfl)) (fun _ _ _ h => h) (Or.inl ⟨by rfl, ?_⟩) ?_ ?_
         rotate_left
         ·intro w'
          go_simp
          with_reducible rfl
         rotate_left
         ·simp only [Act.put, sA, sZ, sS, i64_w, i32_w]
          rfl
         refine pure_ (i := 5) (N := some 37) (v := ?_) (a' := ?_) (bm 26 47) rfl rfl (any_of HT_.out (by kernel_rfl)) (fun _ _ _ h => h) (Or.inl ⟨by rfl, ?_⟩) ?_ ?_
         rotate_left
         ·intro w'
          go_simp
          with_reducible rfl
         rotate_left
         ·simp only [Act.put, sA, sZ, sS, i64_w, i32_w]
          rfl
         refine pure_ (i := 6) (N := some 38) (v := ?_) (a' := ?_) (bm 26 111) rfl rfl (any_of HT_.out (by kernel_rfl)) (fun _ _ _ h => h) (Or.inl ⟨by rfl, ?_⟩) ?_ ?_
         rotate_left
         ·intro w'
          go_simp
          with_reducible rfl
         rotate_left
         ·simp only [Act.put, sA, sZ, sS, i64_w, i32_w]
          rfl
         refine pure_ (i := 10) (N := some 42) (v := ?_) (a' := ?_) (bm 26 1135) rfl rfl (any_of HT_.out (by kernel_rfl)) (fun _ _ _ h => h) (Or.inl ⟨by rfl, ?_⟩) ?_ ?_
         rotate_left
         ·intro w'
          go_simp
          with_reducible rfl
         rotate_left
         ·simp only [Act.put, sA, sZ, sS, i64_w, i32_w]
          rfl
         refine take_ (i := 4) (N := some 36) (v := ?_) (a' := ?_) (bm 26 1151) rfl rfl (take_ofW HT_.out HW_.out (by kernel_rfl)) (fun _ _ _ h => h) (Or.inl ⟨by rfl, ?_⟩) hHeld ?_ ?_
         rotate_left
         ·rintro w' ⟨s0, s1, s2, s3, s4, s5, s6, s7, s8, s9, s10, s11, s12, s13, s14, s15⟩
          go_simp
          with_reducible rfl
         rotate_left
         ·simp only [Act.put, sA, sZ, sS, i64_w, i32_w]
          rfl
         refine pure_ (i := 7) (N := some 39) (v := ?_) (a' := ?_) (bm 26 1279) rfl rfl (any_of HT_.out (by kernel_rfl)) (fun _ _ _ h => h) (Or.inl ⟨by rfl, ?_⟩) ?_ ?_
         rotate_left
         ·intro w'
          go_simp
          with_reducible rfl
         rotate_left
         ·simp only [Act.put, sA, sZ, sS, i64_w, i32_w]
          rfl
         refine pure_ (i := 8) (N := some 40) (v := ?_) (a' := ?_) (bm 26 1535) rfl rfl (any_of HT_.out (by kernel_rfl)) (fun _ _ _ h => h) (Or.inl ⟨by rfl, ?_⟩) ?_ ?_
         rotate_left
         ·intro w'
          go_simp
          with_reducible rfl
         rotate_left
         ·simp only [Act.put, sA, sZ, sS, i64_w, i32_w]
          rfl
         refine take_ (i := 9) (N := some 41) (v := ?_) (a' := ?_) (bm 26 2047) rfl rfl (take_ofW HT_.out HW_.out (by kernel_rfl)) (fun _ _ _ h => h) (Or.inl ⟨by rfl, ?_⟩) hHeld ?_ ?_
         rotate_left
         ·rintro w' ⟨s0, s1, s2, s3, s4, s5, s6, s7, s8, s9, s10, s11, s12, s13, s14, s15⟩
          go_simp
          with_reducible rfl
         rotate_left
         ·simp only [Act.put, sA, sZ, sS, i64_w, i32_w]
          rfl
         refine take_ (i := 11) (N := some 43) (v := ?_) (a' := ?_) (bm 26 4095) rfl rfl (take_ofW HT_.out HW_.out (by kernel_rfl)) (fun _ _ _ h => h) (Or.inl ⟨by rfl, ?_⟩) hHeld ?_ ?_
         rotate_left
         ·rintro w' ⟨s0, s1, s2, s3, s4, s5, s6, s7, s8, s9, s10, s11, s12, s13, s14, s15⟩
          go_simp
          with_reducible rfl
         rotate_left
         ·simp only [Act.put, sA, sZ, sS, i64_w, i32_w]
          rfl
         refine pure_ (i := 12) (N := some 44) (v := ?_) (a' := ?_) (bm 26 8191) rfl rfl (any_of HT_.out (by kernel_rfl)) (fun _ _ _ h => h) (Or.inl ⟨by rfl, ?_⟩) ?_ ?_
         rotate_left
         ·intro w'
          go_simp
          with_reducible rfl
         rotate_left
         ·simp only [Act.put, sA, sZ, sS, i64_w, i32_w]
          rfl
         refine pure_ (i := 13) (N := some 45) (v := ?_) (a' := ?_) (bm 26 16383) rfl rfl (any_of HT_.out (by kernel_rfl)) (fun _ _ _ h => h) (Or.inl ⟨by rfl, ?_⟩) ?_ ?_
         rotate_left
         ·intro w'
          go_simp
          with_reducible rfl
         rotate_left
         ·simp only [Act.put, sA, sZ, sS, i64_w, i32_w]
          rfl
         refine pure_ (i := 14) (N := some 46) (v := ?_) (a' := ?_) (bm 26 32767) rfl rfl (any_of HT_.out (by kernel_rfl)) (fun _ _ _ h => h) (Or.inl ⟨by rfl, ?_⟩) ?_ ?_
         rotate_left
         ·intro w'
          go_simp
          with_reducible rfl
         rotate_left
         ·simp only [Act.put, sA, sZ, sS, i64_w, i32_w]
          rfl
         refine pure_ (i := 16) (N := some 48) (v := ?_) (a' := ?_) (bm 26 98303) rfl rfl (any_of HT_.out (by kernel_rfl)) (fun _ _ _ h => h) (Or.inl ⟨by rfl, ?_⟩) ?_ ?_
         rotate_left
         ·intro w'
          go_simp
          with_reducible rfl
         rotate_left
         ·simp only [Act.put, sA, sZ, sS, i64_w, i32_w]
          rfl
         refine pure_ (i := 17) (N := some 49) (v := ?_) (a' := ?_) (bm 26 229375) rfl rfl (any_of HT_.out (by kernel_rfl)) (fun _ _ _ h => h) (Or.inl ⟨by rfl, ?_⟩) ?_ ?_
         rotate_left
         ·intro w'
          go_simp
          with_reducible rfl
         rotate_left
         ·simp only [Act.put, sA, sZ, sS, i64_w, i32_w]
          rfl
         refine pure_ (i := 21) (N := some 53) (v := ?_) (a' := ?_) (bm 26 2326527) rfl rfl (any_of HT_.out (by kernel_rfl)) (fun _ _ _ h => h) (Or.inl ⟨by rfl, ?_⟩) ?_ ?_
         rotate_left
         ·intro w'
          go_simp
          with_reducible rfl
         rotate_left
         ·simp only [Act.put, sA, sZ, sS, i64_w, i32_w]
          rfl
         refine take_ (i := 15) (N := some 47) (v := ?_) (a' := ?_) (bm 26 2359295) rfl rfl (take_ofW HT_.out HW_.out (by kernel_rfl)) (fun _ _ _ h => h) (Or.inl ⟨by rfl, ?_⟩) hHeld ?_ ?_
         rotate_left
         ·rintro w' ⟨s0, s1, s2, s3, s4, s5, s6, s7, s8, s9, s10, s11, s12, s13, s14, s15⟩
          go_simp
          with_reducible rfl
         rotate_left
         ·simp only [Act.put, sA, sZ, sS, i64_w, i32_w]
          rfl
         refine pure_ (i := 18) (N := some 50) (v := ?_) (a' := ?_) (bm 26 2621439) rfl rfl (any_of HT_.out (by kernel_rfl)) (fun _ _ _ h => h) (Or.inl ⟨by rfl, ?_⟩) ?_ ?_
         rotate_left
         ·intro w'
          go_simp
          with_reducible rfl
         rotate_left
         ·simp only [Act.put, sA, sZ, sS, i64_w, i32_w]
          rfl
         refine pure_ (i := 19) (N := some 51) (v := ?_) (a' := ?_) (bm 26 3145727) rfl rfl (any_of HT_.out (by kernel_rfl)) (fun _ _ _ h => h) (Or.inl ⟨by rfl, ?_⟩) ?_ ?_
         rotate_left
         ·intro w'
          go_simp
          with_reducible rfl
         rotate_left
         ·simp only [Act.put, sA, sZ, sS, i64_w, i32_w]
          rfl
         refine take_ (i := 20) (N := some 52) (v := ?_) (a' := ?_) (bm 26 4194303) rfl rfl (take_ofW HT_.out HW_.out (by kernel_rfl)) (fun _ _ _ h => h) (Or.inl ⟨by rfl, ?_⟩) hHeld ?_ ?_
         rotate_left
         ·rintro w' ⟨s0, s1, s2, s3, s4, s5, s6, s7, s8, s9, s10, s11, s12, s13, s14, s15⟩
          go_simp
          with_reducible rfl
         rotate_left
         ·simp only [Act.put, sA, sZ, sS, i64_w, i32_w]
          rfl
         refine take_ (i := 22) (N := some 54) (v := ?_) (a' := ?_) (bm 26 8388607) rfl rfl (take_ofW HT_.out HW_.out (by kernel_rfl)) (fun _ _ _ h => h) (Or.inl ⟨by rfl, ?_⟩) hHeld ?_ ?_
         rotate_left
         ·rintro w' ⟨s0, s1, s2, s3, s4, s5, s6, s7, s8, s9, s10, s11, s12, s13, s14, s15⟩
          go_simp
          with_reducible rfl
         rotate_left
         ·simp only [Act.put, sA, sZ, sS, i64_w, i32_w]
          rfl
         refine pure_ (i := 23) (N := some 55) (v := ?_) (a' := ?_) (bm 26 16777215) rfl rfl (any_of HT_.out (by kernel_rfl)) (fun _ _ _ h => h) (Or.inl ⟨by rfl, ?_⟩) ?_ ?_
         rotate_left
         ·intro w'
          go_simp
          with_reducible rfl
         rotate_left
         ·simp only [Act.put, sA, sZ, sS, i64_w, i32_w]
          rfl
         refine pure_ (i := 24) (N := some 56) (v := ?_) (a' := ?_) (bm 26 33554431) rfl rfl (any_of HT_.out (by kernel_rfl)) (fun _ _ _ h => h) (Or.inl ⟨by rfl, ?_⟩) ?_ ?_
         rotate_left
         ·intro w'
          go_simp
          with_reducible rfl
         rotate_left
         ·simp only [Act.put, sA, sZ, sS, i64_w, i32_w]
          rfl
         refine pure_ (i := 25) (N := some 57) (v := ?_) (a' := ?_) (bm 26 67108863) rfl rfl (any_of HT_.out (by kernel_rfl)) (fun _ _ _ h => h) (Or.inl ⟨by rfl, ?_⟩) ?_ ?_
         rotate_left
         ·intro w'
          go_simp
          with_reducible rfl
         rotate_left
         ·simp only [Act.put, sA, sZ, sS, i64_w, i32_w]
          rfl
         refine done_ (done_of HT_.out (by kernel_rfl)) ?_
         try go_wp2
         go_meet
         case rel => exact ⟨_, (decide (((rd_T83 l0_1 (ji48)).f1) > a1_1)), (by first | rfl | (simp; done) | (simp only [← hji48] <;> (first | rfl | (simp; done))) | (simp only [← hji48, i64_w] <;> (first | rfl | (simp; done))) | (simp [*]; done)), H', ⟨by have := HJ2.out; first | omega | exact Nat.le_refl _⟩, ⟨by (with_reducible repeat (first | refine bN ?_ _ | refine bD ?_ | refine bA ?_ _)); exact BK187.out⟩, ⟨by (with_reducible repeat (first | refine bN ?_ _ | refine bD ?_ | refine bA ?_ _)); exact BK188.out⟩, ⟨by (with_reducible repeat (first | refine bN ?_ _ | refine bD ?_ | refine bA ?_ _)); exact BK189.out⟩, ⟨by repeat (first | (with_reducible first | exact HB.out | apply below_alloc | apply pw_below_drewN | apply below_drew1 | refine below_set ?_ GE187.out | refine below_set ?_ GE188.out | refine below_set ?_ GE189.out) | exact HB.out)⟩⟩
       ·rw [if_neg c50] at H
        exact absurd H (by simp)
      ·rw [if_neg c49] at H
       exact absurd H (by simp)
     ·rw [if_neg c47] at H
      have c47b0 : decide (0 < (l0_1.length : Int)) = false := decide_eq_false c47
      have c47b1 : decide (0 < l0_1.length) = false := decide_eq_false (by omega)
      clear c47
      (first | rw [c47b0] | (simp only [i64_w, i32_w]; rw [c47b0]) | skip)
      have H' := Aside0.mk H
      clear H
      try go_wp2
      have n0_ := Aside0.mk (blk_drew BK187.out)
      have n1_ := Aside0.mk (blk_drew BK188.out)
      have n2_ := Aside0.mk (blk_drew BK189.out)
      have n3_ := Aside0.mk (below_drew1 HB.out)
      clear BK187
      clear BK188
      clear BK189
      clear HB
      have BK187 := n0_
      have BK188 := n1_
      have BK189 := n2_
      have HB := n3_
      clear n0_ n1_ n2_ n3_
      refine start_ (n := 26) (S := fun w' => True) (ds := []) (bm 26 0) (by kernel_rfl) rfl rfl trivial (fun hHeld => ?_); refine with_tabW impl_SendNumber.tab4 impl_SendNumber.bits4 (fun HT_ HW_ => ?_)
      generalize wc.drew = w54 at BK187 BK188 BK189 HB hHeld ⊢
      refine pure_ (i := 0) (N := some 32) (v := ?_) (a' := ?_) (bm 26 1) rfl rfl (any_of HT_.out (by kernel_rfl)) (fun _ _ _ h => h) (Or.inl ⟨by rfl, ?_⟩) ?_ ?_
      rotate_left
      ·intro w'
       go_simp
       with_reducible rfl
      rotate_left
      ·simp only [Act.put, sA, sZ, sS, i64_w, i32_w]
       rfl
      refine pure_ (i := 1) (N := some 33) (v := ?_) (a' := ?_) (bm 26 3) rfl rfl (any_of HT_.out (by kernel_rfl)) (fun _ _ _ h => h) (Or.inl ⟨by rfl, ?_⟩) ?_ ?_
      rotate_left
      ·intro w'
       go_simp
       with_reducible rfl
      rotate_left
      ·simp only [Act.put, sA, sZ, sS, i64_w, i32_w]
       rfl
      refine pure_ (i := 2) (N := some 34) (v := ?_) (a' := ?_) (bm 26 7) rfl rfl (any_of HT_.out (by kernel_rfl)) (fun _ _ _ h => h) (Or.inl ⟨by rfl, ?_⟩) ?_ ?_
      rotate_left
      ·intro w'
       go_simp
       with_reducible rfl
      rotate_left
      ·simp only [Act.put, sA, sZ, sS, i64_w, i32_w]
       rfl
      refine pure_ (i := 3) (N := some 35) (v := undef) (a' := ?_) (bm 26 15) rfl rfl (any_of HT_.out (by kernel_rfl)) (fun _ _ _ h => h) (Or.inr ⟨by rfl, rfl⟩) ?_ ?_
      rotate_left
      ·simp only [Act.put, sA, sZ, sS, i64_w, i32_w]
       rfl
      refine pure_ (i := 4) (N := some 36) (v := undef) (a' := ?_) (bm 26 31) rfl rfl (any_of HT_.out (by kernel_rfl)) (fun _ _ _ h => h) (Or.inr ⟨by rfl, rfl⟩) ?_ ?_
      rotate_left
      ·simp only [Act.put, sA, sZ, sS, i64_w, i32_w]
       rfl
      refine pure_ (i := 5) (N := some 37) (v := undef) (a' := ?_) (bm 26 63) rfl rfl (any_of HT_.out (by kernel_rfl)) (fun _ _ _ h => h) (Or.inr ⟨by rfl, rfl⟩) ?_ ?_
      rotate_left
      ·simp only [Act.put, sA, sZ, sS, i64_w, i32_w]
       rfl
      refine pure_ (i := 6) (N := some 38) (v := undef) (a' := ?_) (bm 26 127) rfl rfl (any_of HT_.out (by kernel_rfl)) (fun _ _ _ h => h) (Or.inr ⟨by rfl, rfl⟩) ?_ ?_
      rotate_left
      ·simp only [Act.put, sA, sZ, sS, i64_w, i32_w]
       rfl
      refine pure_ (i := 7) (N := some 39) (v := undef) (a' := ?_) (bm 26 255) rfl rfl (any_of HT_.out (by kernel_rfl)) (fun _ _ _ h => h) (Or.inr ⟨by rfl, rfl⟩) ?_ ?_
      rotate_left
      ·simp only [Act.put, sA, sZ, sS, i64_w, i32_w]
       rfl
      refine pure_ (i := 8) (N := some 40) (v := undef) (a' := ?_) (bm 26 511) rfl rfl (any_of HT_.out (by kernel_rfl)) (fun _ _ _ h => h) (Or.inr ⟨by rfl, rfl⟩) ?_ ?_
      rotate_left
      ·simp only [Act.put, sA, sZ, sS, i64_w, i32_w]
       rfl
      refine pure_ (i := 9) (N := some 41) (v := undef) (a' := ?_) (bm 26 1023) rfl rfl (any_of HT_.out (by kernel_rfl)) (fun _ _ _ h => h) (Or.inr ⟨by rfl, rfl⟩) ?_ ?_
      rotate_left
      ·simp only [Act.put, sA, sZ, sS, i64_w, i32_w]
       rfl
      refine pure_ (i := 10) (N := some 42) (v := undef) (a' := ?_) (bm 26 2047) rfl rfl (any_of HT_.out (by kernel_rfl)) (fun _ _ _ h => h) (Or.inr ⟨by rfl, rfl⟩) ?_ ?_
      rotate_left
      ·simp only [Act.put, sA, sZ, sS, i64_w, i32_w]
       rfl
      refine pure_ (i := 11) (N := some 43) (v := undef) (a' := ?_) (bm 26 4095) rfl rfl (any_of HT_.out (by kernel_rfl)) (fun _ _ _ h => h) (Or.inr ⟨by rfl, rfl⟩) ?_ ?_
      rotate_left
      ·simp only [Act.put, sA, sZ, sS, i64_w, i32_w]
       rfl
      refine pure_ (i := 12) (N := some 44) (v := undef) (a' := ?_) (bm 26 8191) rfl rfl (any_of HT_.out (by kernel_rfl)) (fun _ _ _ h => h) (Or.inr ⟨by rfl, rfl⟩) ?_ ?_
      rotate_left
      ·simp only [Act.put, sA, sZ, sS, i64_w, i32_w]
       rfl
      refine pure_ (i := 13) (N := some 45) (v := undef) (a' := ?_) (bm 26 16383) rfl rfl (any_of HT_.out (by kernel_rfl)) (fun _ _ _ h => h) (Or.inr ⟨by rfl, rfl⟩) ?_ ?_
      rotate_left
      ·simp only [Act.put, sA, sZ, sS, i64_w, i32_w]
       rfl
      refine pure_ (i := 14) (N := some 46) (v := undef) (a' := ?_) (bm 26 32767) rfl rfl (any_of HT_.out (by kernel_rfl)) (fun _ _ _ h => h) (Or.inr ⟨by rfl, rfl⟩) ?_ ?_
      rotate_left
      ·simp only [Act.put, sA, sZ, sS, i64_w, i32_w]
       rfl
      refine pure_ (i := 15) (N := some 47) (v := undef) (a' := ?_) (bm 26 65535) rfl rfl (any_of HT_.out (by kernel_rfl)) (fun _ _ _ h => h) (Or.inr ⟨by rfl, rfl⟩) ?_ ?_
      rotate_left
      ·simp only [Act.put, sA, sZ, sS, i64_w, i32_w]
       rfl
      refine pure_ (i := 16) (N := some 48) (v := undef) (a' := ?_) (bm 26 131071) rfl rfl (any_of HT_.out (by kernel_rfl)) (fun _ _ _ h => h) (Or.inr ⟨by rfl, rfl⟩) ?_ ?_
      rotate_left
      ·simp only [Act.put, sA, sZ, sS, i64_w, i32_w]
       rfl
      refine pure_ (i := 17) (N := some 49) (v := undef) (a' := ?_) (bm 26 262143) rfl rfl (any_of HT_.out (by kernel_rfl)) (fun _ _ _ h => h) (Or.inr ⟨by rfl, rfl⟩) ?_ ?_
      rotate_left
      ·simp only [Act.put, sA, sZ, sS, i64_w, i32_w]
       rfl
      refine pure_ (i := 18) (N := some 50) (v := undef) (a' := ?_) (bm 26 524287) rfl rfl (any_of HT_.out (by kernel_rfl)) (fun _ _ _ h => h) (Or.inr ⟨by rfl, rfl⟩) ?_ ?_
      rotate_left
      ·simp only [Act.put, sA, sZ, sS, i64_w, i32_w]
       rfl
      refine pure_ (i := 19) (N := some 51) (v := undef) (a' := ?_) (bm 26 1048575) rfl rfl (any_of HT_.out (by kernel_rfl)) (fun _ _ _ h => h) (Or.inr ⟨by rfl, rfl⟩) ?_ ?_
      rotate_left
      ·simp only [Act.put, sA, sZ, sS, i64_w, i32_w]
       rfl
      refine pure_ (i := 20) (N := some 52) (v := undef) (a' := ?_) (bm 26 2097151) rfl rfl (any_of HT_.out (by kernel_rfl)) (fun _ _ _ h => h) (Or.inr ⟨by rfl, rfl⟩) ?_ ?_
      rotate_left
      ·simp only [Act.put, sA, sZ, sS, i64_w, i32_w]
       rfl
      refine pure_ (i := 21) (N := some 53) (v := undef) (a' := ?_) (bm 26 4194303) rfl rfl (any_of HT_.out (by kernel_rfl)) (fun _ _ _ h => h) (Or.inr ⟨by rfl, rfl⟩) ?_ ?_
      rotate_left
      ·simp only [Act.put, sA, sZ, sS, i64_w, i32_w]
       rfl
      refine pure_ (i := 22) (N := some 54) (v := undef) (a' := ?_) (bm 26 8388607) rfl rfl (any_of HT_.out (by kernel_rfl)) (fun _ _ _ h => h) (Or.inr ⟨by rfl, rfl⟩) ?_ ?_
      rotate_left
      ·simp only [Act.put, sA, sZ, sS, i64_w, i32_w]
       rfl
      refine pure_ (i := 23) (N := some 55) (v := undef) (a' := ?_) (bm 26 16777215) rfl rfl (any_of HT_.out (by kernel_rfl)) (fun _ _ _ h => h) (Or.inr ⟨by rfl, rfl⟩) ?_ ?_
      rotate_left
      ·simp only [Act.put, sA, sZ, sS, i64_w, i32_w]
       rfl
      refine pure_ (i := 24) (N := some 56) (v := undef) (a' := ?_) (bm 26 33554431) rfl rfl (any_of HT_.out (by kernel_rfl)) (fun _ _ _ h => h) (Or.inr ⟨by rfl, rfl⟩) ?_ ?_
      rotate_left
      ·simp only [Act.put, sA, sZ, sS, i64_w, i32_w]
       rfl
      refine pure_ (i := 25) (N := some 57) (v := ?_) (a' := ?_) (bm 26 67108863) rfl rfl (any_of HT_.out (by kernel_rfl)) (fun _ _ _ h => h) (Or.inl ⟨by rfl, ?_⟩) ?_ ?_
      rotate_left
      ·intro w'
       go_simp
       with_reducible rfl
      rotate_left
      ·simp only [Act.put, sA, sZ, sS, i64_w, i32_w]
       rfl
      refine done_ (done_of HT_.out (by kernel_rfl)) ?_
      try go_wp2
      go_meet
      case rel => exact ⟨_, (false), (by first | rfl | (simp; done) | (simp [*]; done)), H', ⟨by have := HJ2.out; first | omega | exact Nat.le_refl _⟩, ⟨by (with_reducible repeat (first | refine bN ?_ _ | refine bD ?_ | refine bA ?_ _)); exact BK187.out⟩, ⟨by (with_reducible repeat (first | refine bN ?_ _ | refine bD ?_ | refine bA ?_ _)); exact BK188.out⟩, ⟨by (with_reducible repeat (first | refine bN ?_ _ | refine bD ?_ | refine bA ?_ _)); exact BK189.out⟩, ⟨by repeat (first | (with_reducible first | exact HB.out | apply below_alloc | apply pw_below_drewN | apply below_drew1 | refine below_set ?_ GE187.out | refine below_set ?_ GE188.out | refine below_set ?_ GE189.out) | exact HB.out)⟩⟩
    case rest =>
     clear HC43
     try clear p1
     try clear q1
     try clear hx1
     try clear p2
     try clear c4
     try clear c5
     try clear p19
     try clear q19
     try clear hx19
     try clear c47
     try clear c47b0
     try clear c47b1
     try clear c49
     try clear c50
     try clear c51
     try clear c51b0
     try clear hx192_0
     try clear hx192_1
     try clear hx192_2
     try clear hx193_0
     try clear hx193_1
     try clear hx193_2
     try clear p192
     try clear p193
     try clear q192
     try clear q193
     obtain ⟨kq, x57_42, rfl, HA, HJ42, BK187, BK188, BK189, HB⟩ := hcut
     cases kq with
     | zero => exact absurd HA.out (by simp [impl_SendNumber.j1])
     | succ kj42 =>
      have H := HA.out
      clear HA
      simp only [impl_SendNumber.j1] at H
      by_cases c55 : x57_42 = true
      ·subst c55
       have H1 : (some (0, ([] : List (S83)), false, 0, 0, 0, 0, false)) = some (r1, r2, r3, r4, r5, r6, r7, r8) := by rw [if_pos rfl] at H; exact H
       clear H
       have H := H1
       clear H1
       simp only [Option.some.injEq, Prod.mk.injEq] at H
       obtain ⟨rfl, rfl, rfl, rfl, rfl, rfl, rfl, rfl⟩ := H
       have hnb56 := NB189_187.out
       have hnc56 := NB187_189.out
       have hnb57 := NB189_188.out
       have hnc57 := NB188_189.out
       obtain ⟨hcz58_0, hcz58_1, hcz58_2, hcz58_3, hcz58_4, hcz58_5, hcz58_6⟩ := cz7 BK189
       obtain ⟨hfz58_0, hfz58_1, hfz58_2, hfz58_3, hfz58_4, hfz58_5, hfz58_6⟩ := fz7 BK189
       go_wp2
       refine bodyPost_ret (results_ct rfl _ _ gb189 79 #[.int .i64 0, .slice none 0 0, .bool false, .int .i64 0, .int .i64 0, .int .i64 0, .int .i64 0] (0, 0) _ rfl (by (with_reducible repeat (first | refine bN ?_ _ | refine bD ?_ | refine bA ?_ _)); refine blk_put (cs := #[.int .i64 0, .slice none 0 0, .bool false, .int .i64 0, .int .i64 0, .int .i64 0, .int .i64 0]) ?_ 6 _ rfl; (with_reducible repeat (first | refine bN ?_ _ | refine bD ?_ | refine bA ?_ _)); refine blk_put (cs := #[.int .i64 0, .slice none 0 0, .bool false, .int .i64 0, .int .i64 0, .int .i64 0, .int .i64 0]) ?_ 5 _ rfl; (with_reducible repeat (first | refine bN ?_ _ | refine bD ?_ | refine bA ?_ _)); refine blk_put (cs := #[.int .i64 0, .slice none 0 0, .bool false, .int .i64 0, .int .i64 0, .int .i64 0, .int .i64 0]) ?_ 4 _ rfl; (with_reducible repeat (first | refine bN ?_ _ | refine bD ?_ | refine bA ?_ _)); refine blk_put (cs := #[.int .i64 0, .slice none 0 0, .bool false, .int .i64 0, .int .i64 0, .int .i64 0, .int .i64 0]) ?_ 3 _ rfl; (with_reducible repeat (first | refine bN ?_ _ | refine bD ?_ | refine bA ?_ _)); refine blk_put (cs := #[.int .i64 0, .slice none 0 0, .bool false, .int .i64 0, .int .i64 0, .int .i64 0, .int .i64 0]) ?_ 2 _ rfl; (with_reducible repeat (first | refine bN ?_ _ | refine bD ?_ | refine bA ?_ _)); refine blk_put (cs := #[.int .i64 0, .slice none 0 0, .bool false, .int .i64 0, .int .i64 0, .int .i64 0, .int .i64 0]) ?_ 1 _ rfl; (with_reducible repeat (first | refine bN ?_ _ | refine bD ?_ | refine bA ?_ _)); refine blk_put (cs := #[.int .i64 0, .slice none 0 0, .bool false, .int .i64 0, .int .i64 0, .int .i64 0, .int .i64 0]) ?_ 0 _ rfl; (with_reducible repeat (first | refine bN ?_ _ | refine bD ?_ | refine bA ?_ _)); exact BK189.out) Try.underlying79 rfl (by kernel_rfl)) rfl ?_
       exact ⟨_, by first | rfl | (simp [errW_none, errW_some] <;> rfl) | (simp [*, errW_none, errW_some] <;> rfl), by first | exact Kd.R_nil _ _ _ _ _ | exact Kd.N_nil _ _ _ _ _ | exact Kd.V_nil _ _ _ _ _ | exact Kd.Q_nil _ _ _ _ _ | exact Kd.S_nil _ _ _ _ _, by repeat (first | (with_reducible first | exact HB.out | apply below_alloc | apply pw_below_drewN | apply below_drew1 | refine below_set ?_ GE187.out | refine below_set ?_ GE188.out | refine below_set ?_ GE189.out) | exact HB.out)⟩
      ·replace c55 := Bool.eq_false_iff.mpr c55
       subst c55
       have H1 : ((impl_Sent.f l0_1).bind fun t194 => ((some (([(⟨a1_0, a1_1, a1_2⟩ : S83)] : List (S83)) : List (S83))).bind fun y197 => (if t194.length + y197.length < 5864062014805 then (some (a0_0, (t194 ++ y197), a0_2, a0_3, a0_4, a0_5, a0_6, true)) else (none)))) = some (r1, r2, r3, r4, r5, r6, r7, r8) := by rw [if_neg (show ¬ (false = true) by decide)] at H; exact H
       clear H
       have H := H1
       clear H1
       replace H := Option.bind_eq_some_iff.mp H
       obtain ⟨t194, A590, H⟩ := H
       replace H : ((some (([(⟨a1_0, a1_1, a1_2⟩ : S83)] : List (S83)) : List (S83))).bind fun y197 => (if t194.length + y197.length < 5864062014805 then (some (a0_0, (t194 ++ y197), a0_2, a0_3, a0_4, a0_5, a0_6, true)) else (none))) = some (r1, r2, r3, r4, r5, r6, r7, r8) := H
       have A59 := Aside0.mk A590
       clear A590
       obtain ⟨y197, hy197⟩ : ∃ y_ : List (S83), y_ = (([(⟨a1_0, a1_1, a1_2⟩ : S83)] : List (S83))) := ⟨_, rfl⟩
       replace H : (if t194.length + y197.length < 5864062014805 then (some (a0_0, (t194 ++ y197), a0_2, a0_3, a0_4, a0_5, a0_6, true)) else (none)) = some (r1, r2, r3, r4, r5, r6, r7, r8) := by first | (rw [hy197]; with_reducible exact H) | (have H2_ := (Option.bind_some _ _).symm.trans H; rw [hy197]; with_reducible exact H2_) | (have H2_ := (Option.bind_some _ _).symm.trans H; with_reducible exact H2_) | with_reducible exact H | (rw [hy197]; exact H) | exact H
       have Ny197 := Aside0.mk hy197
       clear hy197
       by_cases c60 : t194.length + y197.length < 5864062014805
       ·rw [if_pos c60] at H
        have LMc60 := Aside0.mk c60
        clear c60
        obtain ⟨y200, hy200⟩ : ∃ y_ : List (S83), y_ = (t194 ++ y197) := ⟨_, rfl⟩
        replace H : (some (a0_0, y200, a0_2, a0_3, a0_4, a0_5, a0_6, true)) = some (r1, r2, r3, r4, r5, r6, r7, r8) := by first | (rw [hy200]; with_reducible exact H) | (have H2_ := (Option.bind_some _ _).symm.trans H; rw [hy200]; with_reducible exact H2_) | (have H2_ := (Option.bind_some _ _).symm.trans H; with_reducible exact H2_) | with_reducible exact H | (rw [hy200]; exact H) | exact H
        have Ny200 := Aside0.mk hy200
        clear hy200
        simp only [Option.some.injEq, Prod.mk.injEq] at H
        obtain ⟨rfl, rfl, rfl, rfl, rfl, rfl, rfl, rfl⟩ := H
        try go_wp2
        have n0_ := Aside0.mk (blk_drew BK187.out)
        have n1_ := Aside0.mk (blk_drew BK188.out)
        have n2_ := Aside0.mk (blk_drew BK189.out)
        have n3_ := Aside0.mk (below_drew1 HB.out)
        clear BK187
        clear BK188
        clear BK189
        clear HB
        have BK187 := n0_
        have BK188 := n1_
        have BK189 := n2_
        have HB := n3_
        clear n0_ n1_ n2_ n3_
        refine start_ (n := 8) (S := fun w' => w'.cell? ⟨gb187, 0, none⟩ = some (.int .i64 a0_0) ∧ w'.cell? ⟨gb187, 1, none⟩ = some (.slice A0_1 l0_1.length c0_1) ∧ w'.cell? ⟨gb187, 2, none⟩ = some (.bool a0_2) ∧ w'.cell? ⟨gb187, 3, none⟩ = some (.int .i64 a0_3) ∧ w'.cell? ⟨gb187, 4, none⟩ = some (.int .i64 a0_4) ∧ w'.cell? ⟨gb187, 5, none⟩ = some (.int .i64 a0_5) ∧ w'.cell? ⟨gb187, 6, none⟩ = some (.int .i64 a0_6) ∧ w'.cell? ⟨gb188, 0, none⟩ = some (.int .i64 a1_0) ∧ w'.cell? ⟨gb188, 1, none⟩ = some (.int .i64 a1_1) ∧ w'.cell? ⟨gb188, 2, none⟩ = some (.int .i64 a1_2)) (ds := [7]) (bm 8 0) (by kernel_rfl) rfl rfl (cx7 BK187 (cz3 BK188)) (fun hHeld => ?_); refine with_tabW impl_SendNumber.tab6 impl_SendNumber.bits6 (fun HT_ HW_ => ?_)
        generalize wc.drew = w61 at BK187 BK188 BK189 HB hHeld ⊢
        refine pure_ (i := 0) (N := some 59) (v := ?_) (a' := ?_) (bm 8 1) rfl rfl (any_of HT_.out (by kernel_rfl)) (fun _ _ _ h => h) (Or.inl ⟨by rfl, ?_⟩) ?_ ?_
        rotate_left
        ·intro w'
         go_simp
         with_reducible rfl
        rotate_left
        ·simp only [Act.put, sA, sZ, sS, i64_w, i32_w]
         rfl
        refine take_ (i := 1) (N := some 60) (v := ?_) (a' := ?_) (bm 8 3) rfl rfl (take_ofW HT_.out HW_.out (by kernel_rfl)) (fun _ _ _ h => h) (Or.inl ⟨by rfl, ?_⟩) hHeld ?_ ?_
        rotate_left
        ·rintro w' ⟨s0, s1, s2, s3, s4, s5, s6, s7, s8, s9⟩
         go_simp
         with_reducible rfl
        rotate_left
        ·simp only [Act.put, sA, sZ, sS, i64_w, i32_w]
         rfl
        refine take_ (i := 3) (N := some 62) (v := ?_) (a' := ?_) (bm 8 11) rfl rfl (take_ofW HT_.out HW_.out (by kernel_rfl)) (fun _ _ _ h => h) (Or.inl ⟨by rfl, ?_⟩) hHeld ?_ ?_
        rotate_left
        ·rintro w' ⟨s0, s1, s2, s3, s4, s5, s6, s7, s8, s9⟩
         go_simp
         with_reducible rfl
        rotate_left
        ·simp only [Act.put, sA, sZ, sS, i64_w, i32_w]
         rfl
        refine join_ (σ := Value × Value) 3 (bm 8 31) (fun s_ => [(61, s_.1), (63, s_.2)]) (fun s_ w' => (w'.cell? ⟨gb187, 0, none⟩ = some (.int .i64 a0_0) ∧ w'.cell? ⟨gb187, 1, none⟩ = some (.slice A0_1 l0_1.length c0_1) ∧ w'.cell? ⟨gb187, 2, none⟩ = some (.bool a0_2) ∧ w'.cell? ⟨gb187, 3, none⟩ = some (.int .i64 a0_3) ∧ w'.cell? ⟨gb187, 4, none⟩ = some (.int .i64 a0_4) ∧ w'.cell? ⟨gb187, 5, none⟩ = some (.int .i64 a0_5) ∧ w'.cell? ⟨gb187, 6, none⟩ = some (.int .i64 a0_6) ∧ w'.cell? ⟨gb188, 0, none⟩ = some (.int .i64 a1_0) ∧ w'.cell? ⟨gb188, 1, none⟩ = some (.int .i64 a1_1) ∧ w'.cell? ⟨gb188, 2, none⟩ = some (.int .i64 a1_2)) ∧ (Kd.R k83 83 w' w.heap.size (fun k_ => some k_ ≠ (s_.2 : Value).ownBlock ∧ k_ ≠ gb188) s_.1 t194) ∧ (Kd.R k83 83 w' w.heap.size (fun k_ => some k_ ≠ (s_.1 : Value).ownBlock ∧ k_ ≠ gb188) s_.2 y197) ∧ (w'.heap[gb187]? = some (.cells #[.int .i64 a0_0, .slice A0_1 l0_1.length c0_1, .bool a0_2, .int .i64 a0_3, .int .i64 a0_4, .int .i64 a0_5, .int .i64 a0_6] 79 (0, 0))) ∧ (w'.heap[gb188]? = some (.cells #[.int .i64 a1_0, .int .i64 a1_1, .int .i64 a1_2] 83 (0, 0))) ∧ (w'.heap[gb189]? = some (.cells #[.int .i64 0, .slice none 0 0, .bool false, .int .i64 0, .int .i64 0, .int .i64 0, .int .i64 0] 79 (0, 0))) ∧ (Below w.heap.size w w')) ?_ ?_
        rotate_left
        ·intro hCont
         refine two_ (i := 2) (j := 4) (Ni := some 61) (Nj := some 63) (bm 8 15) (bm 8 27) rfl rfl rfl rfl (two_of HT_.out (by kernel_rfl)) (by decide) (by decide) (fun K hK => ?_) (fun K hK => ?_)
         ·skip
          refine goes_ Try.func123 (by kernel_rfl) rfl #[.slice A0_1 l0_1.length c0_1] (by rfl) rfl rfl (by (try simp only [List.map_toArray, List.map_cons, List.map_nil]); first | done | rfl | (simp only [List.length_drop, List.length_take]; rfl)) ?_
          with_reducible refine (impl_Sent.calls _ _ l0_1 t194 _ ?side1 ?side2 A59.out).mono ?_
          (case side1 => repeat (first | exact (Kd.C_below HR0_1.out HB.out) | (with_reducible refine Kd.C_alloc ?_ _) | (with_reducible refine Kd.C_drewN ?_ _) | (with_reducible refine Kd.C_drew ?_)))
          (case side2 => exact HC0_1.out)
          rintro e w62 ⟨v195, rfl, ho0, hb⟩
          refine ⟨_, rfl, ?_⟩
          have n0_ := Aside0.mk (Kd.R_lower (Kd.R_newB ho0 (g := gb188) (o := .cells #[.int .i64 a1_0, .int .i64 a1_1, .int .i64 a1_2] 83 (0, 0)) (mB BK188)) (below_size (by repeat (first | (with_reducible first | exact HB.out | apply below_alloc | apply pw_below_drewN | apply below_drew1 | refine below_set ?_ GE187.out | refine below_set ?_ GE188.out | refine below_set ?_ GE189.out) | exact HB.out))))
          have n1_ := bX BK187 hb
          have n2_ := bX BK188 hb
          have n3_ := bX BK189 hb
          have n4_ := bS HB hb
          clear BK187
          clear BK188
          clear BK189
          clear HB
          have HO196 := n0_
          have BK187 := n1_
          have BK188 := n2_
          have BK189 := n3_
          have HB := n4_
          clear n0_ n1_ n2_ n3_ n4_
          (try clear hb)
          (try clear hb2)
          (try clear hk)
          (try clear hi)
          (try clear ho0)
          refine hK.out _ _ (cx7 BK187 (cz3 BK188)) (fun hHeld => ?_)
          clear hK K
          refine norm_ (a' := ?_) ?_ ?_
          rotate_left
          ·show Act.put _ (some 61) _ = _
           simp only [Act.put, sA, sZ, sS, i64_w, i32_w]
           rfl
          refine one_ (i := 4) (N := some 63) (bm 8 31) rfl rfl (one_of HT_.out (by kernel_rfl)) (by decide) (fun K hK => ?_)
          refine Kd.R_lit_step k83 _ 83 ?hg (N := 63) ?hd (xs := ([(⟨a1_0, a1_1, a1_2⟩ : S83)] : List (S83))) (inner := [.int .i64 a1_0, .int .i64 a1_1, .int .i64 a1_2]) (ok := fun _ => True) (okp := fun _ => True) ?hr ?hp (fun _ hk => hk) trivial (Below.refl _ _) (Nat.le_refl _) (by simp) ?_; (case hd => rfl); (case hg => rfl); (case hr => first | (go_simp; done) | (go_simp; rfl)); (case hp => exact (Reps.c3 (show Kd.M k83 _ _ _ (⟨a1_0, a1_1, a1_2⟩ : S83) [.int .i64 a1_0, .int .i64 a1_1, .int .i64 a1_2] from (k83_mkM _ _ _ (⟨a1_0, a1_1, a1_2⟩ : S83) )) (Reps.none _ _)))
          intro v198 w63 ho64 hb hg_ hnew_
          clear hg_ hnew_
          (first | rw [← Ny197.out] at ho64 | (simp only [Int.reduceToNat] at ho64; rw [← Ny197.out] at ho64))
          have n0_ := Aside0.mk (Kd.R_elder' (mR HO196.out) (Kd.R_base ho64) hb)
          have n1_ := Aside0.mk (Kd.R_lower (Kd.R_newB (Kd.R_new' ho64 (Kd.R_lt (mR HO196.out))) (g := gb188) (o := .cells #[.int .i64 a1_0, .int .i64 a1_1, .int .i64 a1_2] 83 (0, 0)) (mB BK188)) (below_size (by repeat (first | (with_reducible first | exact HB.out | apply below_alloc | apply pw_below_drewN | apply below_drew1 | refine below_set ?_ GE187.out | refine below_set ?_ GE188.out | refine below_set ?_ GE189.out) | exact HB.out))))
          have n2_ := bX BK187 hb
          have n3_ := bX BK188 hb
          have n4_ := bX BK189 hb
          have n5_ := bS HB hb
          clear HO196
          clear BK187
          clear BK188
          clear BK189
          clear HB
          have HO196 := n0_
          have HO199 := n1_
          have BK187 := n2_
          have BK188 := n3_
          have BK189 := n4_
          have HB := n5_
          clear n0_ n1_ n2_ n3_ n4_ n5_
          clear hb ho64
          refine hK.out _ _ (cx7 BK187 (cz3 BK188)) (fun hHeld => ?_)
          clear hK K
          refine norm_ (a' := ?_) ?_ ?_
          rotate_left
          ·show Act.put _ (some 63) _ = _
           simp only [Act.put, sA, sZ, sS, i64_w, i32_w]
           rfl
          exact norm_ (by simp only [putAll, Act.put, sA, sZ, sS]) (hCont (v195, v198) _ ⟨hHeld, (by (with_reducible repeat (first | apply Kd.R_alloc | apply Kd.R_drewN | apply Kd.R_drew)); exact Kd.R_mono HO196.out (fun _ hk => ⟨hk.2, hk.1.2⟩)), (by (with_reducible repeat (first | apply Kd.R_alloc | apply Kd.R_drewN | apply Kd.R_drew)); exact Kd.R_mono HO199.out (fun _ hk => ⟨hk.1.2, hk.2⟩)), (mB BK187), (mB BK188), (mB BK189), (by repeat (first | (with_reducible first | exact HB.out | apply below_alloc | apply pw_below_drewN | apply below_drew1 | refine below_set ?_ GE187.out | refine below_set ?_ GE188.out | refine below_set ?_ GE189.out) | exact HB.out))⟩)
         ·skip
          refine Kd.R_lit_step k83 _ 83 ?hg (N := 63) ?hd (xs := ([(⟨a1_0, a1_1, a1_2⟩ : S83)] : List (S83))) (inner := [.int .i64 a1_0, .int .i64 a1_1, .int .i64 a1_2]) (ok := fun _ => True) (okp := fun _ => True) ?hr ?hp (fun _ hk => hk) trivial (Below.refl _ _) (Nat.le_refl _) (by simp) ?_; (case hd => rfl); (case hg => rfl); (case hr => first | (go_simp; done) | (go_simp; rfl)); (case hp => exact (Reps.c3 (show Kd.M k83 _ _ _ (⟨a1_0, a1_1, a1_2⟩ : S83) [.int .i64 a1_0, .int .i64 a1_1, .int .i64 a1_2] from (k83_mkM _ _ _ (⟨a1_0, a1_1, a1_2⟩ : S83) )) (Reps.none _ _)))
          intro v198 w62 ho63 hb hg_ hnew_
          clear hg_ hnew_
          (first | rw [← Ny197.out] at ho63 | (simp only [Int.reduceToNat] at ho63; rw [← Ny197.out] at ho63))
          have n0_ := Aside0.mk (Kd.R_lower (Kd.R_newB ho63 (g := gb188) (o := .cells #[.int .i64 a1_0, .int .i64 a1_1, .int .i64 a1_2] 83 (0, 0)) (mB BK188)) (below_size (by repeat (first | (with_reducible first | exact HB.out | apply below_alloc | apply pw_below_drewN | apply below_drew1 | refine below_set ?_ GE187.out | refine below_set ?_ GE188.out | refine below_set ?_ GE189.out) | exact HB.out))))
          have n1_ := bX BK187 hb
          have n2_ := bX BK188 hb
          have n3_ := bX BK189 hb
          have n4_ := bS HB hb
          clear BK187
          clear BK188
          clear BK189
          clear HB
          have HO199 := n0_
          have BK187 := n1_
          have BK188 := n2_
          have BK189 := n3_
          have HB := n4_
          clear n0_ n1_ n2_ n3_ n4_
          clear hb ho63
          refine hK.out _ _ (cx7 BK187 (cz3 BK188)) (fun hHeld => ?_)
          clear hK K
          refine norm_ (a' := ?_) ?_ ?_
          rotate_left
          ·show Act.put _ (some 63) _ = _
           simp only [Act.put, sA, sZ, sS, i64_w, i32_w]
           rfl
          refine one_ (i := 2) (N := some 61) (bm 8 31) rfl rfl (one_of HT_.out (by kernel_rfl)) (by decide) (fun K hK => ?_)
          refine goes_ Try.func123 (by kernel_rfl) rfl #[.slice A0_1 l0_1.length c0_1] (by rfl) rfl rfl (by (try simp only [List.map_toArray, List.map_cons, List.map_nil]); first | done | rfl | (simp only [List.length_drop, List.length_take]; rfl)) ?_
          with_reducible refine (impl_Sent.calls _ _ l0_1 t194 _ ?side1 ?side2 A59.out).mono ?_
          (case side1 => repeat (first | exact (Kd.C_below HR0_1.out HB.out) | (with_reducible refine Kd.C_alloc ?_ _) | (with_reducible refine Kd.C_drewN ?_ _) | (with_reducible refine Kd.C_drew ?_)))
          (case side2 => exact HC0_1.out)
          rintro e w64 ⟨v195, rfl, ho0, hb⟩
          refine ⟨_, rfl, ?_⟩
          have n0_ := Aside0.mk (Kd.R_elder' (mR HO199.out) (Kd.R_base ho0) hb)
          have n1_ := Aside0.mk (Kd.R_lower (Kd.R_newB (Kd.R_new' ho0 (Kd.R_lt (mR HO199.out))) (g := gb188) (o := .cells #[.int .i64 a1_0, .int .i64 a1_1, .int .i64 a1_2] 83 (0, 0)) (mB BK188)) (below_size (by repeat (first | (with_reducible first | exact HB.out | apply below_alloc | apply pw_below_drewN | apply below_drew1 | refine below_set ?_ GE187.out | refine below_set ?_ GE188.out | refine below_set ?_ GE189.out) | exact HB.out))))
          have n2_ := bX BK187 hb
          have n3_ := bX BK188 hb
          have n4_ := bX BK189 hb
          have n5_ := bS HB hb
          clear HO199
          clear BK187
          clear BK188
          clear BK189
          clear HB
          have HO199 := n0_
          have HO196 := n1_
          have BK187 := n2_
          have BK188 := n3_
          have BK189 := n4_
          have HB := n5_
          clear n0_ n1_ n2_ n3_ n4_ n5_
          (try clear hb)
          (try clear hb2)
          (try clear hk)
          (try clear hi)
          (try clear ho0)
          refine hK.out _ _ (cx7 BK187 (cz3 BK188)) (fun hHeld => ?_)
          clear hK K
          refine norm_ (a' := ?_) ?_ ?_
          rotate_left
          ·show Act.put _ (some 61) _ = _
           simp only [Act.put, sA, sZ, sS, i64_w, i32_w]
           rfl
          exact norm_ (by simp only [putAll, Act.put, sA, sZ, sS]) (hCont (v195, v198) _ ⟨hHeld, (by (with_reducible repeat (first | apply Kd.R_alloc | apply Kd.R_drewN | apply Kd.R_drew)); exact Kd.R_mono HO196.out (fun _ hk => ⟨hk.1.2, hk.2⟩)), (by (with_reducible repeat (first | apply Kd.R_alloc | apply Kd.R_drewN | apply Kd.R_drew)); exact Kd.R_mono HO199.out (fun _ hk => ⟨hk.2, hk.1.2⟩)), (mB BK187), (mB BK188), (mB BK189), (by repeat (first | (with_reducible first | exact HB.out | apply below_alloc | apply pw_below_drewN | apply below_drew1 | refine below_set ?_ GE187.out | refine below_set ?_ GE188.out | refine below_set ?_ GE189.out) | exact HB.out))⟩)
        rintro ⟨v195, v198⟩ w65 ⟨hS_, h0_, h1_, h2_, h3_, h4_, h5_⟩
        have n0_ : Aside0 (Kd.R k83 83 w65 w.heap.size (fun k_ => some k_ ≠ (v198 : Value).ownBlock ∧ k_ ≠ gb188) v195 t194) := ⟨h0_⟩
        have n1_ : Aside0 (Kd.R k83 83 w65 w.heap.size (fun k_ => some k_ ≠ (v195 : Value).ownBlock ∧ k_ ≠ gb188) v198 y197) := ⟨h1_⟩
        have n2_ : Aside0 (w65.heap[gb187]? = some (.cells #[.int .i64 a0_0, .slice A0_1 l0_1.length c0_1, .bool a0_2, .int .i64 a0_3, .int .i64 a0_4, .int .i64 a0_5, .int .i64 a0_6] 79 (0, 0))) := ⟨h2_⟩
        have n3_ : Aside0 (w65.heap[gb188]? = some (.cells #[.int .i64 a1_0, .int .i64 a1_1, .int .i64 a1_2] 83 (0, 0))) := ⟨h3_⟩
        have n4_ : Aside0 (w65.heap[gb189]? = some (.cells #[.int .i64 0, .slice none 0 0, .bool false, .int .i64 0, .int .i64 0, .int .i64 0, .int .i64 0] 79 (0, 0))) := ⟨h4_⟩
        have n5_ : Aside0 (Below w.heap.size w w65) := ⟨h5_⟩
        clear BK187
        clear BK188
        clear BK189
        clear HB
        clear h0_ h1_ h2_ h3_ h4_ h5_
        have HO196 := n0_
        have HO199 := n1_
        have BK187 := n2_
        have BK188 := n3_
        have BK189 := n4_
        have HB := n5_
        clear n0_ n1_ n2_ n3_ n4_ n5_
        have hHeld : w65.cell? ⟨gb187, 0, none⟩ = some (.int .i64 a0_0) ∧ w65.cell? ⟨gb187, 1, none⟩ = some (.slice A0_1 l0_1.length c0_1) ∧ w65.cell? ⟨gb187, 2, none⟩ = some (.bool a0_2) ∧ w65.cell? ⟨gb187, 3, none⟩ = some (.int .i64 a0_3) ∧ w65.cell? ⟨gb187, 4, none⟩ = some (.int .i64 a0_4) ∧ w65.cell? ⟨gb187, 5, none⟩ = some (.int .i64 a0_5) ∧ w65.cell? ⟨gb187, 6, none⟩ = some (.int .i64 a0_6) ∧ w65.cell? ⟨gb188, 0, none⟩ = some (.int .i64 a1_0) ∧ w65.cell? ⟨gb188, 1, none⟩ = some (.int .i64 a1_1) ∧ w65.cell? ⟨gb188, 2, none⟩ = some (.int .i64 a1_2) := hS_
        obtain ⟨Ao67, co67, eo67⟩ := Kd.R_slice HO199.out
        (first | subst eo67 | (injection eo67 with f1_ f2_ f3_; have f4_ := f1_.symm; have f5_ := f3_.symm; clear f1_ f2_ f3_; subst f4_; subst f5_))
        refine norm_ (a' := ?_) ?_ ?_
        rotate_left
        ·simp only [putAll, Act.put, sA, sZ, sS]
         rfl
        refine one_ (i := 5) (N := some 64) (bm 8 63) rfl rfl (one_of HT_.out (by kernel_rfl)) (by decide) (fun K hK => ?_)
        refine Kd.R_append_rows_step k83 (w0 := w) w.heap.size (by rfl) (.tmp 61) (.tmp 63) 76 83 (.agg #[(.int .i64 0), (.int .i64 0), (.int .i64 0)]) 24 rfl Try.underlying76 info83 rfl (by decide) (by omega) v195 t194 y197 _ _ _ (fun k_ => some k_ ≠ (.slice Ao67 y197.length co67 : Value).ownBlock ∧ k_ ≠ gb188) (fun _ => False) rfl rfl ?aO ?aR (fun _ _ h => h) (fun _ h => h.elim) ?aF ?aB ?aS ?aL ?_
        (case aR => repeat (first | exact (Kd.R_reads' HO199.out).2.2 | (with_reducible refine Kd.C_alloc ?_ _) | (with_reducible refine Kd.C_drewN ?_ _) | (with_reducible refine Kd.C_drew ?_)))
        (case aB => exact (by repeat (first | (with_reducible first | exact HB.out | apply below_alloc | apply pw_below_drewN | apply below_drew1 | refine below_set ?_ GE187.out | refine below_set ?_ GE188.out | refine below_set ?_ GE189.out) | exact HB.out)))
        (case aF => exact (fun k_ hk => ⟨Kd.fresh' (Kd.R_lt (mR HO199.out)) k_ hk, Kd.freshB (g := gb188) (o := .cells #[.int .i64 a1_0, .int .i64 a1_1, .int .i64 a1_2] 83 (0, 0)) (mB BK188) k_ hk⟩))
        (case aO => exact (mR HO196.out))
        (case aS => exact (below_size (by repeat (first | (with_reducible first | exact HB.out | apply below_alloc | apply pw_below_drewN | apply below_drew1 | refine below_set ?_ GE187.out | refine below_set ?_ GE188.out | refine below_set ?_ GE189.out) | exact HB.out))))
        (case aL => have := LMc60.out; omega)
        intro v201 w66 ho hb hg hat
        rw [← Ny200.out] at ho
        have n0_ := Aside0.mk (blk_grown (g := gb187) (o := .cells #[.int .i64 a0_0, .slice A0_1 l0_1.length c0_1, .bool a0_2, .int .i64 a0_3, .int .i64 a0_4, .int .i64 a0_5, .int .i64 a0_6] 79 (0, 0)) (mB BK187) hg (Kd.R_ne HO196.out BK187.out (by decide)))
        have n1_ := Aside0.mk (blk_grown (g := gb188) (o := .cells #[.int .i64 a1_0, .int .i64 a1_1, .int .i64 a1_2] 83 (0, 0)) (mB BK188) hg (Kd.R_away HO196.out (fun _ hk => hk.2)))
        have n2_ := Aside0.mk (blk_grown (g := gb189) (o := .cells #[.int .i64 0, .slice none 0 0, .bool false, .int .i64 0, .int .i64 0, .int .i64 0, .int .i64 0] 79 (0, 0)) (mB BK189) hg (Kd.R_ne HO196.out BK189.out (by decide)))
        have n3_ := Aside0.mk (Kd.R_after (ok := (fun k_ => k_ ≠ gb188)) (by (with_reducible repeat (first | apply Kd.R_alloc | apply Kd.R_drewN | apply Kd.R_drew)); exact Kd.R_mono HO199.out (fun _ hk => ⟨hk.2, hk.1⟩)) hg hat)
        have n4_ := Aside0.mk (hb)
        have n5_ := Aside0.mk (ho)
        clear BK187
        clear BK188
        clear BK189
        clear HO199
        clear HB
        clear HO196
        have BK187 := n0_
        have BK188 := n1_
        have BK189 := n2_
        have HO199 := n3_
        have HB := n4_
        have HO202 := n5_
        clear n0_ n1_ n2_ n3_ n4_ n5_
        clear ho hb hg hat
        obtain ⟨Ao68, co68, eo68⟩ := Kd.R_slice HO202.out
        (first | subst eo68 | (injection eo68 with f1_ f2_ f3_; have f4_ := f1_.symm; have f5_ := f3_.symm; clear f1_ f2_ f3_; subst f4_; subst f5_))
        refine hK.out _ _ (cx7 BK187 (cz3 BK188)) (fun hHeld => ?_)
        clear hK K
        refine norm_ (a' := ?_) ?_ ?_
        rotate_left
        ·show Act.put _ (some 64) _ = _
         simp only [Act.put, sA, sZ, sS, i64_w, i32_w]
         rfl
        refine pure_ (i := 6) (N := some 65) (v := ?_) (a' := ?_) (bm 8 127) rfl rfl (any_of HT_.out (by kernel_rfl)) (fun _ _ _ h => h) (Or.inl ⟨by rfl, ?_⟩) ?_ ?_
        rotate_left
        ·intro w'
         go_simp
         with_reducible rfl
        rotate_left
        ·simp only [Act.put, sA, sZ, sS, i64_w, i32_w]
         rfl
        refine last_ (i := 7) (N := none) (bm 8 255) rfl rfl (one_of HT_.out (by kernel_rfl)) (by decide) (fun K hK => ?_)
        have hs69 : w66.cell? ⟨gb187, 1, none⟩ = some (.slice A0_1 l0_1.length c0_1) := (blk_cell BK187.out 1).trans rfl
        have hfs69 := blk_frozen BK187.out 1
        have hns69_1 := NB188_187.out
        have hns69_2 := NB189_187.out
        have hms69_1 := NB187_188.out
        have hms69_2 := NB187_189.out
        refine skip_ (w1 := ?_) (by rfl) rfl ?_ ?_
        rotate_left
        ·go_simp
         rfl
        refine hK.out _ _ ?_
        clear hK K
        refine done_ (done_of HT_.out (by kernel_rfl)) ?_
        have hnb70 := NB187_188.out
        have hnc70 := NB188_187.out
        have hnb71 := NB187_189.out
        have hnc71 := NB189_187.out
        obtain ⟨hcz72_0, hcz72_1, hcz72_2, hcz72_3, hcz72_4, hcz72_5, hcz72_6⟩ := cz7 BK187
        obtain ⟨hfz72_0, hfz72_1, hfz72_2, hfz72_3, hfz72_4, hfz72_5, hfz72_6⟩ := fz7 BK187
        have hnb73 := NB189_188.out
        have hnc73 := NB188_189.out
        obtain ⟨hcz74_0, hcz74_1, hcz74_2, hcz74_3, hcz74_4, hcz74_5, hcz74_6⟩ := cz7 BK189
        obtain ⟨hfz74_0, hfz74_1, hfz74_2, hfz74_3, hfz74_4, hfz74_5, hfz74_6⟩ := fz7 BK189
        try go_wp2
        refine bodyPost_ret (results_ct rfl _ _ gb189 79 #[.int .i64 a0_0, .slice Ao68 y200.length co68, .bool a0_2, .int .i64 a0_3, .int .i64 a0_4, .int .i64 a0_5, .int .i64 a0_6] (0, 0) _ rfl (by (with_reducible repeat (first | refine bN ?_ _ | refine bD ?_ | refine bA ?_ _)); refine blk_put (cs := #[.int .i64 a0_0, .slice Ao68 y200.length co68, .bool a0_2, .int .i64 a0_3, .int .i64 a0_4, .int .i64 a0_5, .int .i64 0]) ?_ 6 _ rfl; (with_reducible repeat (first | refine bN ?_ _ | refine bD ?_ | refine bA ?_ _)); refine blk_put (cs := #[.int .i64 a0_0, .slice Ao68 y200.length co68, .bool a0_2, .int .i64 a0_3, .int .i64 a0_4, .int .i64 0, .int .i64 0]) ?_ 5 _ rfl; (with_reducible repeat (first | refine bN ?_ _ | refine bD ?_ | refine bA ?_ _)); refine blk_put (cs := #[.int .i64 a0_0, .slice Ao68 y200.length co68, .bool a0_2, .int .i64 a0_3, .int .i64 0, .int .i64 0, .int .i64 0]) ?_ 4 _ rfl; (with_reducible repeat (first | refine bN ?_ _ | refine bD ?_ | refine bA ?_ _)); refine blk_put (cs := #[.int .i64 a0_0, .slice Ao68 y200.length co68, .bool a0_2, .int .i64 0, .int .i64 0, .int .i64 0, .int .i64 0]) ?_ 3 _ rfl; (with_reducible repeat (first | refine bN ?_ _ | refine bD ?_ | refine bA ?_ _)); refine blk_put (cs := #[.int .i64 a0_0, .slice Ao68 y200.length co68, .bool false, .int .i64 0, .int .i64 0, .int .i64 0, .int .i64 0]) ?_ 2 _ rfl; (with_reducible repeat (first | refine bN ?_ _ | refine bD ?_ | refine bA ?_ _)); refine blk_put (cs := #[.int .i64 a0_0, .slice none 0 0, .bool false, .int .i64 0, .int .i64 0, .int .i64 0, .int .i64 0]) ?_ 1 _ rfl; (with_reducible repeat (first | refine bN ?_ _ | refine bD ?_ | refine bA ?_ _)); refine blk_put (cs := #[.int .i64 0, .slice none 0 0, .bool false, .int .i64 0, .int .i64 0, .int .i64 0, .int .i64 0]) ?_ 0 _ rfl; (with_reducible repeat (first | refine bN ?_ _ | refine bD ?_ | refine bA ?_ _)); refine blk_far ?_ NB189_187.out _; (with_reducible repeat (first | refine bN ?_ _ | refine bD ?_ | refine bA ?_ _)); exact BK189.out) Try.underlying79 rfl (by kernel_rfl)) rfl ?_
        exact ⟨_, by first | rfl | (simp [errW_none, errW_some] <;> rfl) | (simp [*, errW_none, errW_some] <;> rfl), by (with_reducible repeat (first | apply Kd.R_alloc | apply Kd.R_drewN | apply Kd.R_drew)); exact Kd.R_mono (Kd.R_far (p := ⟨gb189, 6, none⟩) (Kd.R_far (p := ⟨gb189, 5, none⟩) (Kd.R_far (p := ⟨gb189, 4, none⟩) (Kd.R_far (p := ⟨gb189, 3, none⟩) (Kd.R_far (p := ⟨gb189, 2, none⟩) (Kd.R_far (p := ⟨gb189, 1, none⟩) (Kd.R_far (p := ⟨gb189, 0, none⟩) (Kd.R_far (p := ⟨gb187, 1, none⟩) (Kd.R_types (Kd.R_types HO202.out BK187.out (by decide)) BK189.out (by decide)) (fun _ hk => hk.1.2) (.slice Ao68 y200.length co68)) (fun _ hk => hk.2) (.int .i64 a0_0)) (fun _ hk => hk.2) (.slice Ao68 y200.length co68)) (fun _ hk => hk.2) (.bool a0_2)) (fun _ hk => hk.2) (.int .i64 a0_3)) (fun _ hk => hk.2) (.int .i64 a0_4)) (fun _ hk => hk.2) (.int .i64 a0_5)) (fun _ hk => hk.2) (.int .i64 a0_6)) (fun _ hk => trivial), by repeat (first | (with_reducible first | exact HB.out | apply below_alloc | apply pw_below_drewN | apply below_drew1 | refine below_set ?_ GE187.out | refine below_set ?_ GE188.out | refine below_set ?_ GE189.out) | exact HB.out)⟩
       ·rw [if_neg c60] at H
        exact absurd H (by simp)

end Go.Proofs.Ythkmjfapljmmpaa.PFnExactSendNumber
