-- Written by a program of this session (wip/xprint.py).
import Derived.Test.YthkmjfapljmmpaaPFnExactReadSomex0
import Derived.Test.YthkmjfapljmmpaaPFnExactReadSomex6
import Derived.Test.YthkmjfapljmmpaaPFnExactReadSomex7
import Derived.Test.YthkmjfapljmmpaaPFnExactReadSomex8
namespace Go.Proofs.Ythkmjfapljmmpaa.PFnExactReadSome
open Go.RowKit Go.Proofs.YthkmjfapljmmpaaW.PrintWords Go.Proofs.YthkmjfapljmmpaaW.PrintLast Go.Proofs.YthkmjfapljmmpaaW.PrintMore
open Go.Proofs.Ythkmjfapljmmpaa.ShortK (bN bD bA sA sZ sS mR mB bX bLt bS cz2 fz2 cx2 cz3 fz3 cx3 cz4 fz4 cx4 cz5 fz5 cx5 cz6 fz6 cx6 cz7 fz7 cx7 cz8 fz8 cx8 cz9 fz9 cx9 cz10 fz10 cx10 cz11 fz11 cx11 cz12 fz12 cx12)
open Go.Proofs.Ythkmjfapljmmpaa.StoreK (bm)
attribute [local go_sem] Go.Proofs.Ythkmjfapljmmpaa.StoreK.isSome_setCell max2_int min2_int max_two min_two max_three min_three max_four min_four   -- for this text's walks alone
set_option linter.unusedVariables false
set_option linter.unusedSimpArgs false

/-! ### impl_ReadSome: function 52 -/
mutual
def impl_ReadSome.j0 : Nat → Int → Bool → Int → Int → Int → List (S177) → Option (Int × Int × Int × (List (S177)) × ByteArray × Bool)
 | 0, _, _, _, _, _, _ => none
 | k + 1, x1, x17, x205000, x205001, x205002, x205003 => if x17 = true then (some (0, 0, 0, ([] : List (S177)), (⟨#[]⟩ : ByteArray), false)) else ((impl_cloneInflow.f x205000 x205001 x205002 x205003).bind fun bt208 => (if (bt208.2.2.2.length : Int) = 0 then (impl_ReadSome.j1 k x1 true bt208.1 bt208.2.1 bt208.2.2.1 bt208.2.2.2) else (if 0 < (bt208.2.2.2.length : Int) then (impl_ReadSome.j1 k x1 (((rd_T177 bt208.2.2.2 0).f0) != bt208.2.1) bt208.1 bt208.2.1 bt208.2.2.1 bt208.2.2.2) else (none))))
def impl_ReadSome.j1 : Nat → Int → Bool → Int → Int → Int → List (S177) → Option (Int × Int × Int × (List (S177)) × ByteArray × Bool)
 | 0, _, _, _, _, _, _ => none
 | k + 1, x1, x34, x215000, x215001, x215002, x215003 => if x34 = true then (some (x215000, x215001, x215002, x215003, (⟨#[]⟩ : ByteArray), true)) else (if 0 < (x215003.length : Int) then (if (mn x1 (((rd_T177 x215003 0).f1).size : Int)) < (((rd_T177 x215003 0).f1).size : Int) then (if 0 ≤ (mn x1 (((rd_T177 x215003 0).f1).size : Int)) then (if (mn x1 (((rd_T177 x215003 0).f1).size : Int)) ≤ (((rd_T177 x215003 0).f1).size : Int) then (some (x215000, wrap64 (x215001 + (mn x1 (((rd_T177 x215003 0).f1).size : Int))), x215002, (x215003.set (0 : Int).toNat (⟨wrap64 (((rd_T177 x215003 0).f0) + (mn x1 (((rd_T177 x215003 0).f1).size : Int))), ((rd_T177 x215003 0).f1).extract ((mn x1 (((rd_T177 x215003 0).f1).size : Int)) : Int).toNat ((rd_T177 x215003 0).f1).size⟩ : S177)), ((rd_T177 x215003 0).f1).extract 0 ((mn x1 (((rd_T177 x215003 0).f1).size : Int)) : Int).toNat, true)) else (none)) else (none)) else (if 1 ≤ (x215003.length : Int) then (if 0 ≤ (mn x1 (((rd_T177 x215003 0).f1).size : Int)) then (if (mn x1 (((rd_T177 x215003 0).f1).size : Int)) ≤ (((rd_T177 x215003 0).f1).size : Int) then (some (x215000, wrap64 (x215001 + (mn x1 (((rd_T177 x215003 0).f1).size : Int))), x215002, (x215003.drop (1 : Int).toNat), ((rd_T177 x215003 0).f1).extract 0 ((mn x1 (((rd_T177 x215003 0).f1).size : Int)) : Int).toNat, true)) else (none)) else (none)) else (none))) else (none))
end
def impl_ReadSome.f (k : Nat) (a0_0 : Int) (a0_1 : Int) (a0_2 : Int) (l0_3 : List (S177)) (a1 : Int) : Option (Int × Int × Int × (List (S177)) × ByteArray × Bool) := (impl_GoodInflow.f k a0_0 a0_1 a0_2 l0_3).bind fun t206 => (if t206 = true then ((impl_in.f a1 0 4000).bind fun t207 => (impl_ReadSome.j0 k a1 (!t207) a0_0 a0_1 a0_2 l0_3)) else (impl_ReadSome.j0 k a1 true a0_0 a0_1 a0_2 l0_3))
theorem impl_ReadSome.mono_l : ∀ k, (∀ y0 y1 y2 y3 y4 y5, LeO (impl_ReadSome.j0 k y0 y1 y2 y3 y4 y5) (impl_ReadSome.j0 (k + 1) y0 y1 y2 y3 y4 y5)) ∧ (∀ y0 y1 y2 y3 y4 y5, LeO (impl_ReadSome.j1 k y0 y1 y2 y3 y4 y5) (impl_ReadSome.j1 (k + 1) y0 y1 y2 y3 y4 y5))
 | 0 => ⟨fun _ _ _ _ _ _ r h => by simp [impl_ReadSome.j0] at h, fun _ _ _ _ _ _ r h => by simp [impl_ReadSome.j1] at h⟩
 | k + 1 => by
  obtain ⟨ih0, ih1⟩ := impl_ReadSome.mono_l k
  refine ⟨?_, ?_⟩
  ·intro y0 y1 y2 y3 y4 y5
   unfold impl_ReadSome.j0
   repeat' first
   | (with_reducible exact ih0 _ _ _ _ _ _)
   | (with_reducible exact ih1 _ _ _ _ _ _)
   | (with_reducible exact impl_GoodInflow.mono _ _ _ _ _)
   | (with_reducible exact LeO.refl _)
   | (with_reducible exact LeO.none _)
   | (with_reducible refine LeO.ite ?_ ?_)
   | (with_reducible refine LeO.bind ?_ (fun _ => ?_))
   | exact ih0 _ _ _ _ _ _
   | exact ih1 _ _ _ _ _ _
   | exact impl_GoodInflow.mono _ _ _ _ _
   | exact LeO.none _
   | refine LeO.ite ?_ ?_
   | refine LeO.bind ?_ (fun _ => ?_)
  ·intro y0 y1 y2 y3 y4 y5
   unfold impl_ReadSome.j1
   repeat' first
   | (with_reducible exact ih0 _ _ _ _ _ _)
   | (with_reducible exact ih1 _ _ _ _ _ _)
   | (with_reducible exact impl_GoodInflow.mono _ _ _ _ _)
   | (with_reducible exact LeO.refl _)
   | (with_reducible exact LeO.none _)
   | (with_reducible refine LeO.ite ?_ ?_)
   | (with_reducible refine LeO.bind ?_ (fun _ => ?_))
   | exact ih0 _ _ _ _ _ _
   | exact ih1 _ _ _ _ _ _
   | exact impl_GoodInflow.mono _ _ _ _ _
   | exact LeO.none _
   | refine LeO.ite ?_ ?_
   | refine LeO.bind ?_ (fun _ => ?_)
theorem impl_ReadSome.mono : ∀ a0 a1 a2 a3 a4 k, LeO (impl_ReadSome.f k a0 a1 a2 a3 a4) (impl_ReadSome.f (k + 1) a0 a1 a2 a3 a4) := by
 intro a0 a1 a2 a3 a4 k
 obtain ⟨ih0, ih1⟩ := impl_ReadSome.mono_l k
 unfold impl_ReadSome.f
 repeat' first
   | (with_reducible exact ih0 _ _ _ _ _ _)
   | (with_reducible exact ih1 _ _ _ _ _ _)
   | (with_reducible exact impl_GoodInflow.mono _ _ _ _ _)
   | (with_reducible exact LeO.refl _)
   | (with_reducible exact LeO.none _)
   | (with_reducible refine LeO.ite ?_ ?_)
   | (with_reducible refine LeO.bind ?_ (fun _ => ?_))
   | exact ih0 _ _ _ _ _ _
   | exact ih1 _ _ _ _ _ _
   | exact impl_GoodInflow.mono _ _ _ _ _
   | exact LeO.none _
   | refine LeO.ite ?_ ?_
   | refine LeO.bind ?_ (fun _ => ?_)
def impl_ReadSome.T4 : Bool × List (List Nat × List Nat) := (true, [([], []), ([0], [0]), ([1], [1]), ([2], [2]), ([3], [3]), ([4], [4]), ([5, 4], [4, 5]), ([6, 4], [4, 6]), ([7, 4], [4, 7]), ([8, 4], [4, 8]), ([4], [4]), ([10, 4], [4, 10]), ([9, 11, 4], [4, 9, 11]), ([4, 12], [4, 12])])
def impl_ReadSome.B4 : List Nat := [0, 1, 3, 7, 15, 31, 63, 127, 255, 511, 31, 1055, 4095, 8191]
theorem impl_ReadSome.tab4 : rtab .any (opsOf Try.f52 4) = impl_ReadSome.T4 := by kernel_rfl
theorem impl_ReadSome.bits4 : waitsOk impl_ReadSome.T4.2 impl_ReadSome.B4 = true := by kernel_rfl
def impl_ReadSome.T10 : Bool × List (List Nat × List Nat) := (true, [([], []), ([0], [0]), ([], []), ([2], [2]), ([], []), ([3, 4], [3, 4]), ([], []), ([6], [6]), ([], []), ([7, 8], [7, 8]), ([5, 9], [5, 9]), ([1, 0, 1, 2, 3, 4, 5, 6, 7, 8, 9, 10], [1]), ([11, 10, 0, 1, 2, 3, 4, 5, 6, 7, 8, 9, 10], [10, 11])])
def impl_ReadSome.B10 : List Nat := [0, 1, 0, 4, 0, 28, 0, 64, 0, 448, 1020, 2047, 4095]
theorem impl_ReadSome.tab10 : rtab .any (opsOf Try.f52 10) = impl_ReadSome.T10 := by kernel_rfl
theorem impl_ReadSome.bits10 : waitsOk impl_ReadSome.T10.2 impl_ReadSome.B10 = true := by kernel_rfl
def impl_ReadSome.T12 : Bool × List (List Nat × List Nat) := (true, [([], []), ([], []), ([1], [1]), ([], []), ([2, 3], [2, 3]), ([0, 0], [0]), ([4, 5, 0, 1, 2, 3, 4, 5], [4]), ([6, 0, 1, 2, 3, 4, 5, 6], [])])
def impl_ReadSome.B12 : List Nat := [0, 0, 2, 0, 14, 1, 63, 127]
theorem impl_ReadSome.tab12 : rtab .any (opsOf Try.f52 12) = impl_ReadSome.T12 := by kernel_rfl
theorem impl_ReadSome.bits12 : waitsOk impl_ReadSome.T12.2 impl_ReadSome.B12 = true := by kernel_rfl
set_option maxHeartbeats 64000000 in
set_option maxRecDepth 100000 in
theorem impl_ReadSome.calls (k : Nat) (a0_0 : Int) (a0_1 : Int) (a0_2 : Int) (A0_3 : Option Addr) (c0_3 : Nat) (l0_3 : List (S177)) (a1 : Int) (r1 : Int) (r2 : Int) (r3 : Int) (r4 : List (S177)) (r5 : ByteArray) (r6 : Bool) (w : World) (hr0_3 : Kd.C k177 w A0_3 l0_3.length l0_3) (hc0_3 : l0_3.length ≤ c0_3) (h : impl_ReadSome.f k a0_0 a0_1 a0_2 l0_3 a1 = some (r1, r2, r3, r4, r5, r6)) :
  Calls Try.prog 52 #[.agg #[.int .i64 a0_0, .int .i64 a0_1, .int .i64 a0_2, .slice A0_3 l0_3.length c0_3], .int .i64 a1] w fun e w' => ∃ v3_ : Value, e = .returned (.tuple #[.agg #[.int .i64 r1, .int .i64 r2, .int .i64 r3, v3_], .string r5, .bool r6]) ∧ Kd.Q k177 177 w' w.heap.size (fun _ => True) v3_ r4 ∧ Below w.heap.size w w' := by
 have hu61 := Try.underlying61
 have hu177 := Try.underlying177
 have HR0_3 := Aside0.mk hr0_3
 have HC0_3 := Aside0.mk hc0_3
 clear hr0_3 hc0_3
 have HB := Aside0.mk (Below.refl w.heap.size w)
 have H : ((impl_GoodInflow.f k a0_0 a0_1 a0_2 l0_3).bind fun t206 => (if t206 = true then ((impl_in.f a1 0 4000).bind fun t207 => (impl_ReadSome.j0 k a1 (!t207) a0_0 a0_1 a0_2 l0_3)) else (impl_ReadSome.j0 k a1 true a0_0 a0_1 a0_2 l0_3))) = some (r1, r2, r3, r4, r5, r6) := h
 clear h
 have HC3 := Aside0.mk H
 clear H
 go_enter Try.func52, Try.ntmps52
 go_upto_region 1 with (first | ((with_reducible refine gate_dst (N := 2) rfl ?_); refine box_event ?hg (N := 2) ?hd (cs := #[.int .i64 a0_0, .int .i64 a0_1, .int .i64 a0_2, .slice A0_3 l0_3.length c0_3]) (t := 61) ?hr ?_; (case hd => rfl); (case hg => rfl); (case hr => first | (go_simp; done) | (go_simp; rfl)); intro gb204 hg w4 hbox hb; have n0_ := bS HB hb; have n1_ := Aside0.mk (hbox); have n2_ := Aside0.mk ((by rw [hg]; exact (below_size (by repeat (first | (with_reducible first | exact HB.out | apply below_alloc | apply pw_below_drewN | apply below_drew1) | exact HB.out))) : w.heap.size ≤ gb204)); have n3_ := n2_; clear HB; have HB := n0_; have BK204 := n1_; have GW204 := n2_; have GE204 := n3_; clear n0_ n1_ n2_ n3_; clear hb hbox hg) | ((with_reducible refine gate_dst (N := 4) rfl ?_); refine box_event ?hg (N := 4) ?hd (cs := #[.int .i64 0, .int .i64 0, .int .i64 0, .slice none 0 0]) (t := 61) ?hr ?_; (case hd => rfl); (case hg => rfl); (case hr => first | (go_simp; done) | (go_simp; rfl)); intro gb205 hg w5 hbox hb; have n0_ := bX BK204 hb; have n1_ := bS HB hb; have n2_ := Aside0.mk (hbox); have n3_ := Aside0.mk ((by rw [hg]; exact (below_size (by repeat (first | (with_reducible first | exact HB.out | apply below_alloc | apply pw_below_drewN | apply below_drew1 | refine below_set ?_ GE204.out) | exact HB.out))) : w.heap.size ≤ gb205)); have n4_ := n3_; have n5_ := Aside0.mk ((by rw [hg]; exact Nat.ne_of_lt (bLt BK204) : gb204 ≠ gb205)); have n6_ := Aside0.mk ((by rw [hg]; exact Nat.ne_of_gt (bLt BK204) : gb205 ≠ gb204)); clear BK204; clear HB; have BK204 := n0_; have HB := n1_; have BK205 := n2_; have GW205 := n3_; have GE205 := n4_; have NB204_205 := n5_; have NB205_204 := n6_; clear n0_ n1_ n2_ n3_ n4_ n5_ n6_; clear hb hbox hg))
 (try simp only [Act.put, sA, sZ, sS])
 go_cut [17] (fun v17 wc => ∃ (kq : Nat) (x17_2 : Bool), v17 = .bool x17_2 ∧ Aside0 (impl_ReadSome.j0 kq a1 x17_2 a0_0 a0_1 a0_2 l0_3 = some (r1, r2, r3, r4, r5, r6)) ∧ Aside0 (kq ≤ k) ∧ Aside0 (wc.heap[gb204]? = some (.cells #[.int .i64 a0_0, .int .i64 a0_1, .int .i64 a0_2, (.slice A0_3 l0_3.length c0_3)] 61 (0, 0))) ∧ Aside0 (wc.heap[gb205]? = some (.cells #[.int .i64 0, .int .i64 0, .int .i64 0, (.slice none 0 0)] 61 (0, 0))) ∧ Aside0 (Below w.heap.size w wc))
 case first =>
  have H := HC3.out
  clear HC3
  replace H := Option.bind_eq_some_iff.mp H
  obtain ⟨t206, A60, H⟩ := H
  replace H : (if t206 = true then ((impl_in.f a1 0 4000).bind fun t207 => (impl_ReadSome.j0 k a1 (!t207) a0_0 a0_1 a0_2 l0_3)) else (impl_ReadSome.j0 k a1 true a0_0 a0_1 a0_2 l0_3)) = some (r1, r2, r3, r4, r5, r6) := H
  have A6 := Aside0.mk A60
  clear A60
  by_cases c7 : t206 = true
  ·subst c7
   have H1 : ((impl_in.f a1 0 4000).bind fun t207 => (impl_ReadSome.j0 k a1 (!t207) a0_0 a0_1 a0_2 l0_3)) = some (r1, r2, r3, r4, r5, r6) := by rw [if_pos rfl] at H; exact H
   clear H
   have H := H1
   clear H1
   replace H := Option.bind_eq_some_iff.mp H
   obtain ⟨t207, A80, H⟩ := H
   replace H : (impl_ReadSome.j0 k a1 (!t207) a0_0 a0_1 a0_2 l0_3) = some (r1, r2, r3, r4, r5, r6) := H
   have A8 := Aside0.mk A80
   clear A80
   have H' := Aside0.mk H
   clear H
   have hnb9 := NB204_205.out
   have hnc9 := NB205_204.out
   obtain ⟨hcz10_0, hcz10_1, hcz10_2, hcz10_3⟩ := cz4 BK204
   obtain ⟨hfz10_0, hfz10_1, hfz10_2, hfz10_3⟩ := fz4 BK204
   go_wp2_with (first | ((with_reducible refine gate_callee (f := 111) rfl ?_); refine goesL_ (some 11) rfl rfl Try.func111 (by kernel_rfl) rfl #[.agg #[.int .i64 a0_0, .int .i64 a0_1, .int .i64 a0_2, .slice A0_3 l0_3.length c0_3]] rfl (by (try simp only [List.map_toArray, List.map_cons, List.map_nil]); first | done | rfl | (simp only [List.length_drop, List.length_take]; rfl)) ?_; (with_reducible refine (impl_GoodInflow.calls k a0_0 a0_1 a0_2 _ _ l0_3 true _ ?side1 ?side2 A6.out).mono ?_); (case side1 => repeat (first | exact (Kd.C_below HR0_3.out HB.out) | (with_reducible refine Kd.C_alloc ?_ _) | (with_reducible refine Kd.C_drewN ?_ _) | (with_reducible refine Kd.C_drew ?_))); (case side2 => exact HC0_3.out); rintro e w11 ⟨rfl, hb⟩; refine ⟨_, rfl, ?_⟩; have n0_ := bX BK204 hb; have n1_ := bX BK205 hb; have n2_ := bS HB hb; clear BK204; clear BK205; clear HB; have BK204 := n0_; have BK205 := n1_; have HB := n2_; clear n0_ n1_ n2_; (try clear hb); (try clear hb2); (try clear hk); (try clear hi)) | (go_at_call 80; (with_reducible refine (impl_in.calls a1 0 4000 t207 _ A8.out).mono ?_); rintro e w' ⟨rfl, ⟨nd, rfl⟩⟩))
   go_meet
   case rel => exact ⟨_, (!t207), (by first | rfl | (simp; done) | (simp [*]; done)), H', ⟨by first | omega | exact Nat.le_refl _⟩, ⟨by (with_reducible repeat (first | refine bN ?_ _ | refine bD ?_ | refine bA ?_ _)); exact BK204.out⟩, ⟨by (with_reducible repeat (first | refine bN ?_ _ | refine bD ?_ | refine bA ?_ _)); exact BK205.out⟩, ⟨by repeat (first | (with_reducible first | exact HB.out | apply below_alloc | apply pw_below_drewN | apply below_drew1 | refine below_set ?_ GE204.out | refine below_set ?_ GE205.out) | exact HB.out)⟩⟩
  ·replace c7 := Bool.eq_false_iff.mpr c7
   subst c7
   have H1 : (impl_ReadSome.j0 k a1 true a0_0 a0_1 a0_2 l0_3) = some (r1, r2, r3, r4, r5, r6) := by rw [if_neg (show ¬ (false = true) by decide)] at H; exact H
   clear H
   have H := H1
   clear H1
   have H' := Aside0.mk H
   clear H
   have hnb12 := NB204_205.out
   have hnc12 := NB205_204.out
   obtain ⟨hcz13_0, hcz13_1, hcz13_2, hcz13_3⟩ := cz4 BK204
   obtain ⟨hfz13_0, hfz13_1, hfz13_2, hfz13_3⟩ := fz4 BK204
   go_wp2_with (first | ((with_reducible refine gate_callee (f := 111) rfl ?_); refine goesL_ (some 11) rfl rfl Try.func111 (by kernel_rfl) rfl #[.agg #[.int .i64 a0_0, .int .i64 a0_1, .int .i64 a0_2, .slice A0_3 l0_3.length c0_3]] rfl (by (try simp only [List.map_toArray, List.map_cons, List.map_nil]); first | done | rfl | (simp only [List.length_drop, List.length_take]; rfl)) ?_; (with_reducible refine (impl_GoodInflow.calls k a0_0 a0_1 a0_2 _ _ l0_3 false _ ?side1 ?side2 A6.out).mono ?_); (case side1 => repeat (first | exact (Kd.C_below HR0_3.out HB.out) | (with_reducible refine Kd.C_alloc ?_ _) | (with_reducible refine Kd.C_drewN ?_ _) | (with_reducible refine Kd.C_drew ?_))); (case side2 => exact HC0_3.out); rintro e w14 ⟨rfl, hb⟩; refine ⟨_, rfl, ?_⟩; have n0_ := bX BK204 hb; have n1_ := bX BK205 hb; have n2_ := bS HB hb; clear BK204; clear BK205; clear HB; have BK204 := n0_; have BK205 := n1_; have HB := n2_; clear n0_ n1_ n2_; (try clear hb); (try clear hb2); (try clear hk); (try clear hi)))
   go_meet
   case rel => exact ⟨_, (true), (by first | rfl | (simp; done) | (simp [*]; done)), H', ⟨by first | omega | exact Nat.le_refl _⟩, ⟨by (with_reducible repeat (first | refine bN ?_ _ | refine bD ?_ | refine bA ?_ _)); exact BK204.out⟩, ⟨by (with_reducible repeat (first | refine bN ?_ _ | refine bD ?_ | refine bA ?_ _)); exact BK205.out⟩, ⟨by repeat (first | (with_reducible first | exact HB.out | apply below_alloc | apply pw_below_drewN | apply below_drew1 | refine below_set ?_ GE204.out | refine below_set ?_ GE205.out) | exact HB.out)⟩⟩
 case rest =>
  clear HC3
  try clear c1
  try clear p2
  try clear c5
  try clear c7
  try clear c9
  try clear c11
  try clear c12
  try clear hcz10_0
  try clear hcz10_1
  try clear hcz10_2
  try clear hcz10_3
  try clear hcz13_0
  try clear hcz13_1
  try clear hcz13_2
  try clear hcz13_3
  try clear hfz10_0
  try clear hfz10_1
  try clear hfz10_2
  try clear hfz10_3
  try clear hfz13_0
  try clear hfz13_1
  try clear hfz13_2
  try clear hfz13_3
  obtain ⟨kq, x17_2, rfl, HA, HJ2, BK204, BK205, HB⟩ := hcut
  cases kq with
  | zero => exact absurd HA.out (by simp [impl_ReadSome.j0])
  | succ kj2 =>
   have H := HA.out
   clear HA
   simp only [impl_ReadSome.j0] at H
   by_cases c15 : x17_2 = true
   ·subst c15
    have H1 : (some (0, 0, 0, ([] : List (S177)), (⟨#[]⟩ : ByteArray), false)) = some (r1, r2, r3, r4, r5, r6) := by rw [if_pos rfl] at H; exact H
    clear H
    have H := H1
    clear H1
    simp only [Option.some.injEq, Prod.mk.injEq] at H
    obtain ⟨rfl, rfl, rfl, rfl, rfl, rfl⟩ := H
    have hnb16 := NB205_204.out
    have hnc16 := NB204_205.out
    obtain ⟨hcz17_0, hcz17_1, hcz17_2, hcz17_3⟩ := cz4 BK205
    obtain ⟨hfz17_0, hfz17_1, hfz17_2, hfz17_3⟩ := fz4 BK205
    go_wp2
    refine bodyPost_ret (results_ctt rfl _ _ gb205 61 #[.int .i64 0, .int .i64 0, .int .i64 0, .slice none 0 0] (0, 0) _ rfl (by (with_reducible repeat (first | refine bN ?_ _ | refine bD ?_ | refine bA ?_ _)); refine blk_put (cs := #[.int .i64 0, .int .i64 0, .int .i64 0, .slice none 0 0]) ?_ 3 _ rfl; (with_reducible repeat (first | refine bN ?_ _ | refine bD ?_ | refine bA ?_ _)); refine blk_put (cs := #[.int .i64 0, .int .i64 0, .int .i64 0, .slice none 0 0]) ?_ 2 _ rfl; (with_reducible repeat (first | refine bN ?_ _ | refine bD ?_ | refine bA ?_ _)); refine blk_put (cs := #[.int .i64 0, .int .i64 0, .int .i64 0, .slice none 0 0]) ?_ 1 _ rfl; (with_reducible repeat (first | refine bN ?_ _ | refine bD ?_ | refine bA ?_ _)); refine blk_put (cs := #[.int .i64 0, .int .i64 0, .int .i64 0, .slice none 0 0]) ?_ 0 _ rfl; (with_reducible repeat (first | refine bN ?_ _ | refine bD ?_ | refine bA ?_ _)); exact BK205.out) Try.underlying61 rfl (by kernel_rfl)) rfl ?_
    exact ⟨_, by first | rfl | (simp [errW_none, errW_some] <;> rfl) | (simp [*, errW_none, errW_some] <;> rfl), Kd.Q_of_R (by first | exact Kd.R_nil _ _ _ _ _ | exact Kd.N_nil _ _ _ _ _ | exact Kd.V_nil _ _ _ _ _ | exact Kd.Q_nil _ _ _ _ _ | exact Kd.S_nil _ _ _ _ _), by repeat (first | (with_reducible first | exact HB.out | apply below_alloc | apply pw_below_drewN | apply below_drew1 | refine below_set ?_ GE204.out | refine below_set ?_ GE205.out) | exact HB.out)⟩
   ·replace c15 := Bool.eq_false_iff.mpr c15
    subst c15
    have H1 : ((impl_cloneInflow.f a0_0 a0_1 a0_2 l0_3).bind fun bt208 => (if (bt208.2.2.2.length : Int) = 0 then (impl_ReadSome.j1 kj2 a1 true bt208.1 bt208.2.1 bt208.2.2.1 bt208.2.2.2) else (if 0 < (bt208.2.2.2.length : Int) then (impl_ReadSome.j1 kj2 a1 (((rd_T177 bt208.2.2.2 0).f0) != bt208.2.1) bt208.1 bt208.2.1 bt208.2.2.1 bt208.2.2.2) else (none)))) = some (r1, r2, r3, r4, r5, r6) := by rw [if_neg (show ¬ (false = true) by decide)] at H; exact H
    clear H
    have H := H1
    clear H1
    replace H := Option.bind_eq_some_iff.mp H
    obtain ⟨⟨t208, t209, t210, t211⟩, A180, H⟩ := H
    replace H : (if (t211.length : Int) = 0 then (impl_ReadSome.j1 kj2 a1 true t208 t209 t210 t211) else (if 0 < (t211.length : Int) then (impl_ReadSome.j1 kj2 a1 (((rd_T177 t211 0).f0) != t209) t208 t209 t210 t211) else (none))) = some (r1, r2, r3, r4, r5, r6) := H
    have A18 := Aside0.mk A180
    clear A180
    have HC19 := Aside0.mk H
    clear H
    have hnb20 := NB204_205.out
    have hnc20 := NB205_204.out
    obtain ⟨hcz21_0, hcz21_1, hcz21_2, hcz21_3⟩ := cz4 BK204
    obtain ⟨hfz21_0, hfz21_1, hfz21_2, hfz21_3⟩ := fz4 BK204
    go_upto_region 4 with (first | ((with_reducible refine gate_callee (f := 112) rfl ?_); refine goesL_ (some 20) rfl rfl Try.func112 (by kernel_rfl) rfl #[.agg #[.int .i64 a0_0, .int .i64 a0_1, .int .i64 a0_2, .slice A0_3 l0_3.length c0_3]] rfl (by (try simp only [List.map_toArray, List.map_cons, List.map_nil]); first | done | rfl | (simp only [List.length_drop, List.length_take]; rfl)) ?_; (with_reducible refine (impl_cloneInflow.calls a0_0 a0_1 a0_2 _ _ l0_3 t208 t209 t210 t211 _ ?side1 ?side2 A18.out).mono ?_); (case side1 => repeat (first | exact (Kd.C_below HR0_3.out HB.out) | (with_reducible refine Kd.C_alloc ?_ _) | (with_reducible refine Kd.C_drewN ?_ _) | (with_reducible refine Kd.C_drew ?_))); (case side2 => exact HC0_3.out); rintro e w22 ⟨v212, rfl, ho0, hb⟩; refine ⟨_, rfl, ?_⟩; have n0_ := Aside0.mk (Kd.R_lower ho0 (below_size (by repeat (first | (with_reducible first | exact HB.out | apply below_alloc | apply pw_below_drewN | apply below_drew1 | refine below_set ?_ GE204.out | refine below_set ?_ GE205.out) | exact HB.out)))); have n1_ := bX BK204 hb; have n2_ := bX BK205 hb; have n3_ := bS HB hb; clear BK204; clear BK205; clear HB; have HO213 := n0_; have BK204 := n1_; have BK205 := n2_; have HB := n3_; clear n0_ n1_ n2_ n3_; (try clear hb); (try clear hb2); (try clear hk); (try clear hi); (try clear ho0)) | ((with_reducible refine gate_dst (N := 7) rfl ?_); refine box_event ?hg (N := 7) ?hd (cs := #[.int .i64 0, .int .i64 0, .int .i64 0, .slice none 0 0]) (t := 61) ?hr ?_; (case hd => rfl); (case hg => rfl); (case hr => first | (go_simp; done) | (go_simp; rfl)); intro gb214 hg w23 hbox hb; have n0_ := Aside0.mk (Kd.R_below (mR HO213.out) hb); have n1_ := bX BK204 hb; have n2_ := bX BK205 hb; have n3_ := bS HB hb; have n4_ := Aside0.mk (hbox); have n5_ := Aside0.mk ((by rw [hg]; exact (below_size (by repeat (first | (with_reducible first | exact HB.out | apply below_alloc | apply pw_below_drewN | apply below_drew1 | refine below_set ?_ GE204.out | refine below_set ?_ GE205.out) | exact HB.out))) : w.heap.size ≤ gb214)); have n6_ := n5_; have n7_ := Aside0.mk ((by rw [hg]; exact Nat.ne_of_lt (bLt BK204) : gb204 ≠ gb214)); have n8_ := Aside0.mk ((by rw [hg]; exact Nat.ne_of_gt (bLt BK204) : gb214 ≠ gb204)); have n9_ := Aside0.mk ((by rw [hg]; exact Nat.ne_of_lt (bLt BK205) : gb205 ≠ gb214)); have n10_ := Aside0.mk ((by rw [hg]; exact Nat.ne_of_gt (bLt BK205) : gb214 ≠ gb205)); clear HO213; clear BK204; clear BK205; clear HB; have HO213 := n0_; have BK204 := n1_; have BK205 := n2_; have HB := n3_; have BK214 := n4_; have GW214 := n5_; have GE214 := n6_; have NB204_214 := n7_; have NB214_204 := n8_; have NB205_214 := n9_; have NB214_205 := n10_; clear n0_ n1_ n2_ n3_ n4_ n5_ n6_ n7_ n8_ n9_ n10_; clear hb hbox hg; have hnb24 := NB214_204.out; have hnc24 := NB204_214.out; have hnb25 := NB214_205.out; have hnc25 := NB205_214.out; obtain ⟨hcz26_0, hcz26_1, hcz26_2, hcz26_3⟩ := cz4 BK214; obtain ⟨hfz26_0, hfz26_1, hfz26_2, hfz26_3⟩ := fz4 BK214; obtain ⟨Ao27, co27, eo27⟩ := Kd.R_slice HO213.out; subst eo27))
    (try simp only [Act.put, sA, sZ, sS])
    go_cut [34] (fun v34 wc => ∃ (kq : Nat) (x34_18 : Bool), v34 = .bool x34_18 ∧ Aside0 (impl_ReadSome.j1 kq a1 x34_18 t208 t209 t210 t211 = some (r1, r2, r3, r4, r5, r6)) ∧ Aside0 (kq ≤ kj2) ∧ Aside0 (Kd.Q k177 177 wc w.heap.size (fun _ => True) (.slice Ao27 t211.length co27) t211) ∧ Aside0 (wc.heap[gb204]? = some (.cells #[.int .i64 a0_0, .int .i64 a0_1, .int .i64 a0_2, (.slice A0_3 l0_3.length c0_3)] 61 (0, 0))) ∧ Aside0 (wc.heap[gb205]? = some (.cells #[.int .i64 0, .int .i64 0, .int .i64 0, (.slice none 0 0)] 61 (0, 0))) ∧ Aside0 (wc.heap[gb214]? = some (.cells #[.int .i64 t208, .int .i64 t209, .int .i64 t210, (.slice Ao27 t211.length co27)] 61 (0, 0))) ∧ Aside0 (Below w.heap.size w wc))
    case first =>
     have H := HC19.out
     clear HC19
     by_cases c28 : (t211.length : Int) = 0
     ·rw [if_pos c28] at H
      have c28b0 : ((t211.length : Int) == 0) = true := beq_iff_eq.mpr c28
      have c28b1 : ((t211.length : Int) != 0) = false := bne_eq_false_iff_eq.mpr c28
      clear c28
      (first | rw [c28b0] | (simp only [i64_w, i32_w]; rw [c28b0]) | skip)
      have H' := Aside0.mk H
      clear H
      try go_wp2
      have n0_ : Aside0 (Kd.R k177 177 ((((w23.setCell ⟨gb214, 0, none⟩ (.int .i64 t208)).setCell ⟨gb214, 1, none⟩ (.int .i64 t209)).setCell ⟨gb214, 2, none⟩ (.int .i64 t210)).setCell ⟨gb214, 3, none⟩ (.slice Ao27 t211.length co27)) w.heap.size (fun _ => True) (.slice Ao27 t211.length co27) t211) := ⟨by (with_reducible repeat (first | apply Kd.R_alloc | apply Kd.R_drewN | apply Kd.R_drew)); exact Kd.R_mono (Kd.R_far (p := ⟨gb214, 3, none⟩) (Kd.R_far (p := ⟨gb214, 2, none⟩) (Kd.R_far (p := ⟨gb214, 1, none⟩) (Kd.R_far (p := ⟨gb214, 0, none⟩) (Kd.R_types HO213.out BK214.out (by decide)) (fun _ hk => hk.2) (.int .i64 t208)) (fun _ hk => hk.2) (.int .i64 t209)) (fun _ hk => hk.2) (.int .i64 t210)) (fun _ hk => hk.2) (.slice Ao27 t211.length co27)) (fun _ hk => trivial)⟩
      have n1_ : Aside0 (((((w23.setCell ⟨gb214, 0, none⟩ (.int .i64 t208)).setCell ⟨gb214, 1, none⟩ (.int .i64 t209)).setCell ⟨gb214, 2, none⟩ (.int .i64 t210)).setCell ⟨gb214, 3, none⟩ (.slice Ao27 t211.length co27)).heap[gb204]? = some (.cells #[.int .i64 a0_0, .int .i64 a0_1, .int .i64 a0_2, .slice A0_3 l0_3.length c0_3] 61 (0, 0))) := ⟨by (with_reducible repeat (first | refine bN ?_ _ | refine bD ?_ | refine bA ?_ _)); refine blk_far ?_ NB204_214.out _; (with_reducible repeat (first | refine bN ?_ _ | refine bD ?_ | refine bA ?_ _)); refine blk_far ?_ NB204_214.out _; (with_reducible repeat (first | refine bN ?_ _ | refine bD ?_ | refine bA ?_ _)); refine blk_far ?_ NB204_214.out _; (with_reducible repeat (first | refine bN ?_ _ | refine bD ?_ | refine bA ?_ _)); refine blk_far ?_ NB204_214.out _; (with_reducible repeat (first | refine bN ?_ _ | refine bD ?_ | refine bA ?_ _)); exact BK204.out⟩
      have n2_ : Aside0 (((((w23.setCell ⟨gb214, 0, none⟩ (.int .i64 t208)).setCell ⟨gb214, 1, none⟩ (.int .i64 t209)).setCell ⟨gb214, 2, none⟩ (.int .i64 t210)).setCell ⟨gb214, 3, none⟩ (.slice Ao27 t211.length co27)).heap[gb205]? = some (.cells #[.int .i64 0, .int .i64 0, .int .i64 0, .slice none 0 0] 61 (0, 0))) := ⟨by (with_reducible repeat (first | refine bN ?_ _ | refine bD ?_ | refine bA ?_ _)); refine blk_far ?_ NB205_214.out _; (with_reducible repeat (first | refine bN ?_ _ | refine bD ?_ | refine bA ?_ _)); refine blk_far ?_ NB205_214.out _; (with_reducible repeat (first | refine bN ?_ _ | refine bD ?_ | refine bA ?_ _)); refine blk_far ?_ NB205_214.out _; (with_reducible repeat (first | refine bN ?_ _ | refine bD ?_ | refine bA ?_ _)); refine blk_far ?_ NB205_214.out _; (with_reducible repeat (first | refine bN ?_ _ | refine bD ?_ | refine bA ?_ _)); exact BK205.out⟩
      have n3_ : Aside0 (((((w23.setCell ⟨gb214, 0, none⟩ (.int .i64 t208)).setCell ⟨gb214, 1, none⟩ (.int .i64 t209)).setCell ⟨gb214, 2, none⟩ (.int .i64 t210)).setCell ⟨gb214, 3, none⟩ (.slice Ao27 t211.length co27)).heap[gb214]? = some (.cells #[.int .i64 t208, .int .i64 t209, .int .i64 t210, .slice Ao27 t211.length co27] 61 (0, 0))) := ⟨by (with_reducible repeat (first | refine bN ?_ _ | refine bD ?_ | refine bA ?_ _)); refine blk_put (cs := #[.int .i64 t208, .int .i64 t209, .int .i64 t210, .slice none 0 0]) ?_ 3 _ rfl; (with_reducible repeat (first | refine bN ?_ _ | refine bD ?_ | refine bA ?_ _)); refine blk_put (cs := #[.int .i64 t208, .int .i64 t209, .int .i64 0, .slice none 0 0]) ?_ 2 _ rfl; (with_reducible repeat (first | refine bN ?_ _ | refine bD ?_ | refine bA ?_ _)); refine blk_put (cs := #[.int .i64 t208, .int .i64 0, .int .i64 0, .slice none 0 0]) ?_ 1 _ rfl; (with_reducible repeat (first | refine bN ?_ _ | refine bD ?_ | refine bA ?_ _)); refine blk_put (cs := #[.int .i64 0, .int .i64 0, .int .i64 0, .slice none 0 0]) ?_ 0 _ rfl; (with_reducible repeat (first | refine bN ?_ _ | refine bD ?_ | refine bA ?_ _)); exact BK214.out⟩
      have n4_ : Aside0 (Below w.heap.size w ((((w23.setCell ⟨gb214, 0, none⟩ (.int .i64 t208)).setCell ⟨gb214, 1, none⟩ (.int .i64 t209)).setCell ⟨gb214, 2, none⟩ (.int .i64 t210)).setCell ⟨gb214, 3, none⟩ (.slice Ao27 t211.length co27))) := ⟨by repeat (first | (with_reducible first | exact HB.out | apply below_alloc | apply pw_below_drewN | apply below_drew1 | refine below_set ?_ GE204.out | refine below_set ?_ GE205.out | refine below_set ?_ GE214.out) | exact HB.out)⟩
      (try clear HO213)
      (try clear BK204)
      (try clear BK205)
      (try clear BK214)
      (try clear HB)
      generalize ((((w23.setCell ⟨gb214, 0, none⟩ (.int .i64 t208)).setCell ⟨gb214, 1, none⟩ (.int .i64 t209)).setCell ⟨gb214, 2, none⟩ (.int .i64 t210)).setCell ⟨gb214, 3, none⟩ (.slice Ao27 t211.length co27)) = w29 at n0_ n1_ n2_ n3_ n4_ ⊢
      have HO213 := n0_
      have BK204 := n1_
      have BK205 := n2_
      have BK214 := n3_
      have HB := n4_
      clear n0_ n1_ n2_ n3_ n4_
      have n0_ := Aside0.mk (Kd.R_drew HO213.out)
      have n1_ := Aside0.mk (blk_drew BK204.out)
      have n2_ := Aside0.mk (blk_drew BK205.out)
      have n3_ := Aside0.mk (blk_drew BK214.out)
      have n4_ := Aside0.mk (below_drew1 HB.out)
      clear HO213
      clear BK204
      clear BK205
      clear BK214
      clear HB
      have HO213 := n0_
      have BK204 := n1_
      have BK205 := n2_
      have BK214 := n3_
      have HB := n4_
      clear n0_ n1_ n2_ n3_ n4_
      refine start_ (n := 14) (S := fun w' => w'.cell? ⟨gb214, 0, none⟩ = some (.int .i64 t208) ∧ w'.cell? ⟨gb214, 1, none⟩ = some (.int .i64 t209) ∧ w'.cell? ⟨gb214, 2, none⟩ = some (.int .i64 t210) ∧ w'.cell? ⟨gb214, 3, none⟩ = some (.slice Ao27 t211.length co27)) (ds := []) (bm 14 0) (by kernel_rfl) rfl rfl (cz4 BK214) (fun hHeld => ?_); refine with_tabW impl_ReadSome.tab4 impl_ReadSome.bits4 (fun HT_ HW_ => ?_)
      generalize w29.drew = w30 at HO213 BK204 BK205 BK214 HB hHeld ⊢
      refine pure_ (i := 0) (N := some 21) (v := ?_) (a' := ?_) (bm 14 1) rfl rfl (any_of HT_.out (by kernel_rfl)) (fun _ _ _ h => h) (Or.inl ⟨by rfl, ?_⟩) ?_ ?_
      rotate_left
      ·intro w'
       go_simp
       with_reducible rfl
      rotate_left
      ·simp only [Act.put, sA, sZ, sS, i64_w, i32_w]
       rfl
      refine take_ (i := 1) (N := some 22) (v := ?_) (a' := ?_) (bm 14 3) rfl rfl (take_ofW HT_.out HW_.out (by kernel_rfl)) (fun _ _ _ h => h) (Or.inl ⟨by rfl, ?_⟩) hHeld ?_ ?_
      rotate_left
      ·rintro w' ⟨s0, s1, s2, s3⟩
       go_simp
       with_reducible rfl
      rotate_left
      ·simp only [Act.put, sA, sZ, sS, i64_w, i32_w]
       rfl
      refine pure_ (i := 2) (N := some 23) (v := ?_) (a' := ?_) (bm 14 7) rfl rfl (any_of HT_.out (by kernel_rfl)) (fun _ _ _ h => h) (Or.inl ⟨by rfl, ?_⟩) ?_ ?_
      rotate_left
      ·intro w'
       go_simp
       with_reducible rfl
      rotate_left
      ·simp only [Act.put, sA, sZ, sS, i64_w, i32_w]
       rfl
      refine pure_ (i := 3) (N := some 24) (v := ?_) (a' := ?_) (bm 14 15) rfl rfl (any_of HT_.out (by kernel_rfl)) (fun _ _ _ h => h) (Or.inl ⟨by rfl, ?_⟩) ?_ ?_
      rotate_left
      ·intro w'
       go_simp
       with_reducible rfl
      rotate_left
      ·simp only [Act.put, sA, sZ, sS, i64_w, i32_w]
       rfl
      refine pure_ (i := 4) (N := some 25) (v := ?_) (a' := ?_) (bm 14 31) rfl rfl (any_of HT_.out (by kernel_rfl)) (fun _ _ _ h => h) (Or.inl ⟨by rfl, ?_⟩) ?_ ?_
      rotate_left
      ·intro w'
       go_simp
       with_reducible rfl
      rotate_left
      ·simp only [Act.put, sA, sZ, sS, i64_w, i32_w]
       rfl
      refine pure_ (i := 5) (N := some 26) (v := undef) (a' := ?_) (bm 14 63) rfl rfl (any_of HT_.out (by kernel_rfl)) (fun _ _ _ h => h) (Or.inr ⟨by rfl, rfl⟩) ?_ ?_
      rotate_left
      ·simp only [Act.put, sA, sZ, sS, i64_w, i32_w]
       rfl
      refine pure_ (i := 6) (N := some 27) (v := undef) (a' := ?_) (bm 14 127) rfl rfl (any_of HT_.out (by kernel_rfl)) (fun _ _ _ h => h) (Or.inr ⟨by rfl, rfl⟩) ?_ ?_
      rotate_left
      ·simp only [Act.put, sA, sZ, sS, i64_w, i32_w]
       rfl
      refine pure_ (i := 7) (N := some 28) (v := undef) (a' := ?_) (bm 14 255) rfl rfl (any_of HT_.out (by kernel_rfl)) (fun _ _ _ h => h) (Or.inr ⟨by rfl, rfl⟩) ?_ ?_
      rotate_left
      ·simp only [Act.put, sA, sZ, sS, i64_w, i32_w]
       rfl
      refine pure_ (i := 8) (N := some 29) (v := undef) (a' := ?_) (bm 14 511) rfl rfl (any_of HT_.out (by kernel_rfl)) (fun _ _ _ h => h) (Or.inr ⟨by rfl, rfl⟩) ?_ ?_
      rotate_left
      ·simp only [Act.put, sA, sZ, sS, i64_w, i32_w]
       rfl
      refine pure_ (i := 9) (N := some 30) (v := undef) (a' := ?_) (bm 14 1023) rfl rfl (any_of HT_.out (by kernel_rfl)) (fun _ _ _ h => h) (Or.inr ⟨by rfl, rfl⟩) ?_ ?_
      rotate_left
      ·simp only [Act.put, sA, sZ, sS, i64_w, i32_w]
       rfl
      refine pure_ (i := 10) (N := some 31) (v := undef) (a' := ?_) (bm 14 2047) rfl rfl (any_of HT_.out (by kernel_rfl)) (fun _ _ _ h => h) (Or.inr ⟨by rfl, rfl⟩) ?_ ?_
      rotate_left
      ·simp only [Act.put, sA, sZ, sS, i64_w, i32_w]
       rfl
      refine pure_ (i := 11) (N := some 32) (v := undef) (a' := ?_) (bm 14 4095) rfl rfl (any_of HT_.out (by kernel_rfl)) (fun _ _ _ h => h) (Or.inr ⟨by rfl, rfl⟩) ?_ ?_
      rotate_left
      ·simp only [Act.put, sA, sZ, sS, i64_w, i32_w]
       rfl
      refine pure_ (i := 12) (N := some 33) (v := undef) (a' := ?_) (bm 14 8191) rfl rfl (any_of HT_.out (by kernel_rfl)) (fun _ _ _ h => h) (Or.inr ⟨by rfl, rfl⟩) ?_ ?_
      rotate_left
      ·simp only [Act.put, sA, sZ, sS, i64_w, i32_w]
       rfl
      refine pure_ (i := 13) (N := some 34) (v := ?_) (a' := ?_) (bm 14 16383) rfl rfl (any_of HT_.out (by kernel_rfl)) (fun _ _ _ h => h) (Or.inl ⟨by rfl, ?_⟩) ?_ ?_
      rotate_left
      ·intro w'
       go_simp
       with_reducible rfl
      rotate_left
      ·simp only [Act.put, sA, sZ, sS, i64_w, i32_w]
       rfl
      refine done_ (done_of HT_.out (by kernel_rfl)) ?_
      try go_wp2
      go_meet
      case rel => exact ⟨_, (true), (by first | rfl | (simp; done) | (simp [*]; done)), H', ⟨by have := HJ2.out; first | omega | exact Nat.le_refl _⟩, ⟨Kd.Q_of_R (mR HO213.out)⟩, ⟨by (with_reducible repeat (first | refine bN ?_ _ | refine bD ?_ | refine bA ?_ _)); exact BK204.out⟩, ⟨by (with_reducible repeat (first | refine bN ?_ _ | refine bD ?_ | refine bA ?_ _)); exact BK205.out⟩, ⟨by (with_reducible repeat (first | refine bN ?_ _ | refine bD ?_ | refine bA ?_ _)); exact BK214.out⟩, ⟨by repeat (first | (with_reducible first | exact HB.out | apply below_alloc | apply pw_below_drewN | apply below_drew1 | refine below_set ?_ GE204.out | refine below_set ?_ GE205.out | refine below_set ?_ GE214.out) | exact HB.out)⟩⟩
     ·rw [if_neg c28] at H
      have c28b0 : ((t211.length : Int) == 0) = false := beq_eq_false_iff_ne.mpr c28
      have c28b1 : ((t211.length : Int) != 0) = true := bne_iff_ne.mpr c28
      have c28b2 : ¬ (t211 = []) := fun h_ => c28 (by rw [h_]; rfl)
      (first | rw [c28b0] | (simp only [i64_w, i32_w]; rw [c28b0]) | skip)
      by_cases c31 : 0 < (t211.length : Int)
      ·rw [if_pos c31] at H
       have c31b0 : decide (0 < (t211.length : Int)) = true := decide_eq_true c31
       have c31b1 : decide (0 < t211.length) = true := decide_eq_true (by omega)
       clear c31
       have H' := Aside0.mk H
       clear H
       try go_wp2
       have n0_ : Aside0 (Kd.R k177 177 ((((w23.setCell ⟨gb214, 0, none⟩ (.int .i64 t208)).setCell ⟨gb214, 1, none⟩ (.int .i64 t209)).setCell ⟨gb214, 2, none⟩ (.int .i64 t210)).setCell ⟨gb214, 3, none⟩ (.slice Ao27 t211.length co27)) w.heap.size (fun _ => True) (.slice Ao27 t211.length co27) t211) := ⟨by (with_reducible repeat (first | apply Kd.R_alloc | apply Kd.R_drewN | apply Kd.R_drew)); exact Kd.R_mono (Kd.R_far (p := ⟨gb214, 3, none⟩) (Kd.R_far (p := ⟨gb214, 2, none⟩) (Kd.R_far (p := ⟨gb214, 1, none⟩) (Kd.R_far (p := ⟨gb214, 0, none⟩) (Kd.R_types HO213.out BK214.out (by decide)) (fun _ hk => hk.2) (.int .i64 t208)) (fun _ hk => hk.2) (.int .i64 t209)) (fun _ hk => hk.2) (.int .i64 t210)) (fun _ hk => hk.2) (.slice Ao27 t211.length co27)) (fun _ hk => trivial)⟩
       have n1_ : Aside0 (((((w23.setCell ⟨gb214, 0, none⟩ (.int .i64 t208)).setCell ⟨gb214, 1, none⟩ (.int .i64 t209)).setCell ⟨gb214, 2, none⟩ (.int .i64 t210)).setCell ⟨gb214, 3, none⟩ (.slice Ao27 t211.length co27)).heap[gb204]? = some (.cells #[.int .i64 a0_0, .int .i64 a0_1, .int .i64 a0_2, .slice A0_3 l0_3.length c0_3] 61 (0, 0))) := ⟨by (with_reducible repeat (first | refine bN ?_ _ | refine bD ?_ | refine bA ?_ _)); refine blk_far ?_ NB204_214.out _; (with_reducible repeat (first | refine bN ?_ _ | refine bD ?_ | refine bA ?_ _)); refine blk_far ?_ NB204_214.out _; (with_reducible repeat (first | refine bN ?_ _ | refine bD ?_ | refine bA ?_ _)); refine blk_far ?_ NB204_214.out _; (with_reducible repeat (first | refine bN ?_ _ | refine bD ?_ | refine bA ?_ _)); refine blk_far ?_ NB204_214.out _; (with_reducible repeat (first | refine bN ?_ _ | refine bD ?_ | refine bA ?_ _)); exact BK204.out⟩
       have n2_ : Aside0 (((((w23.setCell ⟨gb214, 0, none⟩ (.int .i64 t208)).setCell ⟨gb214, 1, none⟩ (.int .i64 t209)).setCell ⟨gb214, 2, none⟩ (.int .i64 t210)).setCell ⟨gb214, 3, none⟩ (.slice Ao27 t211.length co27)).heap[gb205]? = some (.cells #[.int .i64 0, .int .i64 0, .int .i64 0, .slice none 0 0] 61 (0, 0))) := ⟨by (with_reducible repeat (first | refine bN ?_ _ | refine bD ?_ | refine bA ?_ _)); refine blk_far ?_ NB205_214.out _; (with_reducible repeat (first | refine bN ?_ _ | refine bD ?_ | refine bA ?_ _)); refine blk_far ?_ NB205_214.out _; (with_reducible repeat (first | refine bN ?_ _ | refine bD ?_ | refine bA ?_ _)); refine blk_far ?_ NB205_214.out _; (with_reducible repeat (first | refine bN ?_ _ | refine bD ?_ | refine bA ?_ _)); refine blk_far ?_ NB205_214.out _; (with_reducible repeat (first | refine bN ?_ _ | refine bD ?_ | refine bA ?_ _)); exact BK205.out⟩
       have n3_ : Aside0 (((((w23.setCell ⟨gb214, 0, none⟩ (.int .i64 t208)).setCell ⟨gb214, 1, none⟩ (.int .i64 t209)).setCell ⟨gb214, 2, none⟩ (.int .i64 t210)).setCell ⟨gb214, 3, none⟩ (.slice Ao27 t211.length co27)).heap[gb214]? = some (.cells #[.int .i64 t208, .int .i64 t209, .int .i64 t210, .slice Ao27 t211.length co27] 61 (0, 0))) := ⟨by (with_reducible repeat (first | refine bN ?_ _ | refine bD ?_ | refine bA ?_ _)); refine blk_put (cs := #[.int .i64 t208, .int .i64 t209, .int .i64 t210, .slice none 0 0]) ?_ 3 _ rfl; (with_reducible repeat (first | refine bN ?_ _ | refine bD ?_ | refine bA ?_ _)); refine blk_put (cs := #[.int .i64 t208, .int .i64 t209, .int .i64 0, .slice none 0 0]) ?_ 2 _ rfl; (with_reducible repeat (first | refine bN ?_ _ | refine bD ?_ | refine bA ?_ _)); refine blk_put (cs := #[.int .i64 t208, .int .i64 0, .int .i64 0, .slice none 0 0]) ?_ 1 _ rfl; (with_reducible repeat (first | refine bN ?_ _ | refine bD ?_ | refine bA ?_ _)); refine blk_put (cs := #[.int .i64 0, .int .i64 0, .int .i64 0, .slice none 0 0]) ?_ 0 _ rfl; (with_reducible repeat (first | refine bN ?_ _ | refine bD ?_ | refine bA ?_ _)); exact BK214.out⟩
       have n4_ : Aside0 (Below w.heap.size w ((((w23.setCell ⟨gb214, 0, none⟩ (.int .i64 t208)).setCell ⟨gb214, 1, none⟩ (.int .i64 t209)).setCell ⟨gb214, 2, none⟩ (.int .i64 t210)).setCell ⟨gb214, 3, none⟩ (.slice Ao27 t211.length co27))) := ⟨by repeat (first | (with_reducible first | exact HB.out | apply below_alloc | apply pw_below_drewN | apply below_drew1 | refine below_set ?_ GE204.out | refine below_set ?_ GE205.out | refine below_set ?_ GE214.out) | exact HB.out)⟩
       (try clear HO213)
       (try clear BK204)
       (try clear BK205)
       (try clear BK214)
       (try clear HB)
       generalize ((((w23.setCell ⟨gb214, 0, none⟩ (.int .i64 t208)).setCell ⟨gb214, 1, none⟩ (.int .i64 t209)).setCell ⟨gb214, 2, none⟩ (.int .i64 t210)).setCell ⟨gb214, 3, none⟩ (.slice Ao27 t211.length co27)) = w32 at n0_ n1_ n2_ n3_ n4_ ⊢
       have HO213 := n0_
       have BK204 := n1_
       have BK205 := n2_
       have BK214 := n3_
       have HB := n4_
       clear n0_ n1_ n2_ n3_ n4_
       have n0_ := Aside0.mk (Kd.R_drew HO213.out)
       have n1_ := Aside0.mk (blk_drew BK204.out)
       have n2_ := Aside0.mk (blk_drew BK205.out)
       have n3_ := Aside0.mk (blk_drew BK214.out)
       have n4_ := Aside0.mk (below_drew1 HB.out)
       clear HO213
       clear BK204
       clear BK205
       clear BK214
       clear HB
       have HO213 := n0_
       have BK204 := n1_
       have BK205 := n2_
       have BK214 := n3_
       have HB := n4_
       clear n0_ n1_ n2_ n3_ n4_
       have p215 : 0 ≤ (0 : Int) := (by omega)
       have q215 : 0 < (t211.length : Int) := of_decide_eq_true (by first | (with_reducible assumption) | assumption)
       obtain ⟨ad215, e215, hx215_0, hx215_1⟩ := at_T177 (Kd.R_reads' HO213.out).2.2 0 p215 q215
       cases e215
       have qi215 : (0 < t211.length) = True := eq_true (by omega)
       (try rw [show ((0 : Int)).toNat = 0 from rfl] at hx215_0)
       (try rw [show 0 * 2 = 0 from rfl] at hx215_0)
       (try rw [Addr.add_zero'] at hx215_0)
       (try rw [show ((0 : Int)).toNat = 0 from rfl] at hx215_1)
       (try rw [show 0 * 2 = 0 from rfl] at hx215_1)
       (try rw [Addr.add_zero'] at hx215_1)
       replace p215 := eq_true p215
       replace q215 := eq_true q215
       refine start_ (n := 14) (S := fun w' => w'.cell? ⟨gb214, 0, none⟩ = some (.int .i64 t208) ∧ w'.cell? ⟨gb214, 1, none⟩ = some (.int .i64 t209) ∧ w'.cell? ⟨gb214, 2, none⟩ = some (.int .i64 t210) ∧ w'.cell? ⟨gb214, 3, none⟩ = some (.slice (some ad215) t211.length co27) ∧ w'.cell? ad215 = some (.int .i64 ((rd_T177 t211 0).f0)) ∧ w'.cell? ⟨ad215.block, ad215.off + 1, none⟩ = some (.string ((rd_T177 t211 0).f1))) (ds := []) (bm 14 0) (by kernel_rfl) rfl rfl ⟨(blk_cell BK214.out 0).trans rfl, (blk_cell BK214.out 1).trans rfl, (blk_cell BK214.out 2).trans rfl, (blk_cell BK214.out 3).trans rfl, hx215_0, hx215_1⟩ (fun hHeld => ?_); refine with_tabW impl_ReadSome.tab4 impl_ReadSome.bits4 (fun HT_ HW_ => ?_)
       generalize w32.drew = w33 at HO213 BK204 BK205 BK214 HB hx215_0 hx215_1 hHeld ⊢
       refine pure_ (i := 0) (N := some 21) (v := ?_) (a' := ?_) (bm 14 1) rfl rfl (any_of HT_.out (by kernel_rfl)) (fun _ _ _ h => h) (Or.inl ⟨by rfl, ?_⟩) ?_ ?_
       rotate_left
       ·intro w'
        go_simp
        with_reducible rfl
       rotate_left
       ·simp only [Act.put, sA, sZ, sS, i64_w, i32_w]
        rfl
       refine take_ (i := 1) (N := some 22) (v := ?_) (a' := ?_) (bm 14 3) rfl rfl (take_ofW HT_.out HW_.out (by kernel_rfl)) (fun _ _ _ h => h) (Or.inl ⟨by rfl, ?_⟩) hHeld ?_ ?_
       rotate_left
       ·rintro w' ⟨s0, s1, s2, s3, s4, s5⟩
        go_simp
        with_reducible rfl
       rotate_left
       ·simp only [Act.put, sA, sZ, sS, i64_w, i32_w]
        rfl
       refine pure_ (i := 2) (N := some 23) (v := ?_) (a' := ?_) (bm 14 7) rfl rfl (any_of HT_.out (by kernel_rfl)) (fun _ _ _ h => h) (Or.inl ⟨by rfl, ?_⟩) ?_ ?_
       rotate_left
       ·intro w'
        go_simp
        with_reducible rfl
       rotate_left
       ·simp only [Act.put, sA, sZ, sS, i64_w, i32_w]
        rfl
       refine pure_ (i := 3) (N := some 24) (v := ?_) (a' := ?_) (bm 14 15) rfl rfl (any_of HT_.out (by kernel_rfl)) (fun _ _ _ h => h) (Or.inl ⟨by rfl, ?_⟩) ?_ ?_
       rotate_left
       ·intro w'
        go_simp
        with_reducible rfl
       rotate_left
       ·simp only [Act.put, sA, sZ, sS, i64_w, i32_w]
        rfl
       refine pure_ (i := 4) (N := some 25) (v := ?_) (a' := ?_) (bm 14 31) rfl rfl (any_of HT_.out (by kernel_rfl)) (fun _ _ _ h => h) (Or.inl ⟨by rfl, ?_⟩) ?_ ?_
       rotate_left
       ·intro w'
        go_simp
        with_reducible rfl
       rotate_left
       ·simp only [Act.put, sA, sZ, sS, i64_w, i32_w]
        rfl
       refine pure_ (i := 5) (N := some 26) (v := ?_) (a' := ?_) (bm 14 63) rfl rfl (any_of HT_.out (by kernel_rfl)) (fun _ _ _ h => h) (Or.inl ⟨by rfl, ?_⟩) ?_ ?_
       rotate_left
       ·intro w'
        go_simp
        with_reducible rfl
       rotate_left
       ·simp only [Act.put, sA, sZ, sS, i64_w, i32_w]
        rfl
       refine pure_ (i := 10) (N := some 31) (v := ?_) (a' := ?_) (bm 14 1087) rfl rfl (any_of HT_.out (by kernel_rfl)) (fun _ _ _ h => h) (Or.inl ⟨by rfl, ?_⟩) ?_ ?_
       rotate_left
       ·intro w'
        go_simp
        with_reducible rfl
       rotate_left
       ·simp only [Act.put, sA, sZ, sS, i64_w, i32_w]
        rfl
       refine take_ (i := 6) (N := some 27) (v := ?_) (a' := ?_) (bm 14 1151) rfl rfl (take_ofW HT_.out HW_.out (by kernel_rfl)) (fun _ _ _ h => h) (Or.inl ⟨by rfl, ?_⟩) hHeld ?_ ?_
       rotate_left
       ·rintro w' ⟨s0, s1, s2, s3, s4, s5⟩
        go_simp
        with_reducible rfl
       rotate_left
       ·simp only [Act.put, sA, sZ, sS, i64_w, i32_w]
        rfl
       refine pure_ (i := 7) (N := some 28) (v := ?_) (a' := ?_) (bm 14 1279) rfl rfl (any_of HT_.out (by kernel_rfl)) (fun _ _ _ h => h) (Or.inl ⟨by rfl, ?_⟩) ?_ ?_
       rotate_left
       ·intro w'
        go_simp
        with_reducible rfl
       rotate_left
       ·simp only [Act.put, sA, sZ, sS, i64_w, i32_w]
        rfl
       refine pure_ (i := 8) (N := some 29) (v := ?_) (a' := ?_) (bm 14 1535) rfl rfl (any_of HT_.out (by kernel_rfl)) (fun _ _ _ h => h) (Or.inl ⟨by rfl, ?_⟩) ?_ ?_
       rotate_left
       ·intro w'
        go_simp
        with_reducible rfl
       rotate_left
       ·simp only [Act.put, sA, sZ, sS, i64_w, i32_w]
        rfl
       refine take_ (i := 9) (N := some 30) (v := ?_) (a' := ?_) (bm 14 2047) rfl rfl (take_ofW HT_.out HW_.out (by kernel_rfl)) (fun _ _ _ h => h) (Or.inl ⟨by rfl, ?_⟩) hHeld ?_ ?_
       rotate_left
       ·rintro w' ⟨s0, s1, s2, s3, s4, s5⟩
        go_simp
        with_reducible rfl
       rotate_left
       ·simp only [Act.put, sA, sZ, sS, i64_w, i32_w]
        rfl
       refine take_ (i := 11) (N := some 32) (v := ?_) (a' := ?_) (bm 14 4095) rfl rfl (take_ofW HT_.out HW_.out (by kernel_rfl)) (fun _ _ _ h => h) (Or.inl ⟨by rfl, ?_⟩) hHeld ?_ ?_
       rotate_left
       ·rintro w' ⟨s0, s1, s2, s3, s4, s5⟩
        go_simp
        with_reducible rfl
       rotate_left
       ·simp only [Act.put, sA, sZ, sS, i64_w, i32_w]
        rfl
       refine pure_ (i := 12) (N := some 33) (v := ?_) (a' := ?_) (bm 14 8191) rfl rfl (any_of HT_.out (by kernel_rfl)) (fun _ _ _ h => h) (Or.inl ⟨by rfl, ?_⟩) ?_ ?_
       rotate_left
       ·intro w'
        go_simp
        with_reducible rfl
       rotate_left
       ·simp only [Act.put, sA, sZ, sS, i64_w, i32_w]
        rfl
       refine pure_ (i := 13) (N := some 34) (v := ?_) (a' := ?_) (bm 14 16383) rfl rfl (any_of HT_.out (by kernel_rfl)) (fun _ _ _ h => h) (Or.inl ⟨by rfl, ?_⟩) ?_ ?_
       rotate_left
       ·intro w'
        go_simp
        with_reducible rfl
       rotate_left
       ·simp only [Act.put, sA, sZ, sS, i64_w, i32_w]
        rfl
       refine done_ (done_of HT_.out (by kernel_rfl)) ?_
       try go_wp2
       go_meet
       case rel => exact ⟨_, ((((rd_T177 t211 0).f0) != t209)), (by first | rfl | (simp; done) | (simp [*]; done)), H', ⟨by have := HJ2.out; first | omega | exact Nat.le_refl _⟩, ⟨Kd.Q_of_R (mR HO213.out)⟩, ⟨by (with_reducible repeat (first | refine bN ?_ _ | refine bD ?_ | refine bA ?_ _)); exact BK204.out⟩, ⟨by (with_reducible repeat (first | refine bN ?_ _ | refine bD ?_ | refine bA ?_ _)); exact BK205.out⟩, ⟨by (with_reducible repeat (first | refine bN ?_ _ | refine bD ?_ | refine bA ?_ _)); exact BK214.out⟩, ⟨by repeat (first | (with_reducible first | exact HB.out | apply below_alloc | apply pw_below_drewN | apply below_drew1 | refine below_set ?_ GE204.out | refine below_set ?_ GE205.out | refine below_set ?_ GE214.out) | exact HB.out)⟩⟩
      ·rw [if_neg c31] at H
       exact absurd H (by simp)
    case rest =>
     clear HC19
     try clear c1
     try clear c2
     try clear p2
     try clear q2
     try clear hx2
     try clear qi2
     try clear c3
     try clear c5
     try clear c7
     try clear c9
     try clear c11
     try clear c12
     try clear c15
     try clear c16
     try clear c20
     try clear p21
     try clear q21
     try clear hx21
     try clear qi21
     try clear c24
     try clear c25
     try clear c28
     try clear c28b0
     try clear c28b1
     try clear c28b2
     try clear c31
     try clear c31b0
     try clear c31b1
     try clear hcz10_0
     try clear hcz10_1
     try clear hcz10_2
     try clear hcz10_3
     try clear hcz13_0
     try clear hcz13_1
     try clear hcz13_2
     try clear hcz13_3
     try clear hcz17_0
     try clear hcz17_1
     try clear hcz17_2
     try clear hcz17_3
     try clear hcz21_0
     try clear hcz21_1
     try clear hcz21_2
     try clear hcz21_3
     try clear hcz26_0
     try clear hcz26_1
     try clear hcz26_2
     try clear hcz26_3
     try clear hfz10_0
     try clear hfz10_1
     try clear hfz10_2
     try clear hfz10_3
     try clear hfz13_0
     try clear hfz13_1
     try clear hfz13_2
     try clear hfz13_3
     try clear hfz17_0
     try clear hfz17_1
     try clear hfz17_2
     try clear hfz17_3
     try clear hfz21_0
     try clear hfz21_1
     try clear hfz21_2
     try clear hfz21_3
     try clear hfz26_0
     try clear hfz26_1
     try clear hfz26_2
     try clear hfz26_3
     try clear hx215_0
     try clear hx215_1
     try clear p2
     try clear p215
     try clear q215
     obtain ⟨kq, x34_18, rfl, HA, HJ18, HO_215003, BK204, BK205, BK214, HB⟩ := hcut
     cases kq with
     | zero => exact absurd HA.out (by simp [impl_ReadSome.j1])
     | succ kj18 =>
      have H := HA.out
      clear HA
      simp only [impl_ReadSome.j1] at H
      by_cases c34 : x34_18 = true
      ·subst c34
       have H1 : (some (t208, t209, t210, t211, (⟨#[]⟩ : ByteArray), true)) = some (r1, r2, r3, r4, r5, r6) := by rw [if_pos rfl] at H; exact H
       clear H
       have H := H1
       clear H1
       simp only [Option.some.injEq, Prod.mk.injEq] at H
       obtain ⟨rfl, rfl, rfl, rfl, rfl, rfl⟩ := H
       have hnb35 := NB214_204.out
       have hnc35 := NB204_214.out
       have hnb36 := NB214_205.out
       have hnc36 := NB205_214.out
       obtain ⟨hcz37_0, hcz37_1, hcz37_2, hcz37_3⟩ := cz4 BK214
       obtain ⟨hfz37_0, hfz37_1, hfz37_2, hfz37_3⟩ := fz4 BK214
       have hnb38 := NB205_204.out
       have hnc38 := NB204_205.out
       obtain ⟨hcz39_0, hcz39_1, hcz39_2, hcz39_3⟩ := cz4 BK205
       obtain ⟨hfz39_0, hfz39_1, hfz39_2, hfz39_3⟩ := fz4 BK205
       go_wp2
       refine bodyPost_ret (results_ctt rfl _ _ gb205 61 #[.int .i64 t208, .int .i64 t209, .int .i64 t210, .slice Ao27 t211.length co27] (0, 0) _ rfl (by (with_reducible repeat (first | refine bN ?_ _ | refine bD ?_ | refine bA ?_ _)); refine blk_put (cs := #[.int .i64 t208, .int .i64 t209, .int .i64 t210, .slice none 0 0]) ?_ 3 _ rfl; (with_reducible repeat (first | refine bN ?_ _ | refine bD ?_ | refine bA ?_ _)); refine blk_put (cs := #[.int .i64 t208, .int .i64 t209, .int .i64 0, .slice none 0 0]) ?_ 2 _ rfl; (with_reducible repeat (first | refine bN ?_ _ | refine bD ?_ | refine bA ?_ _)); refine blk_put (cs := #[.int .i64 t208, .int .i64 0, .int .i64 0, .slice none 0 0]) ?_ 1 _ rfl; (with_reducible repeat (first | refine bN ?_ _ | refine bD ?_ | refine bA ?_ _)); refine blk_put (cs := #[.int .i64 0, .int .i64 0, .int .i64 0, .slice none 0 0]) ?_ 0 _ rfl; (with_reducible repeat (first | refine bN ?_ _ | refine bD ?_ | refine bA ?_ _)); exact BK205.out) Try.underlying61 rfl (by kernel_rfl)) rfl ?_
       exact ⟨_, by first | rfl | (simp [errW_none, errW_some] <;> rfl) | (simp [*, errW_none, errW_some] <;> rfl), by (with_reducible repeat (first | apply Kd.Q_alloc | apply Kd.Q_drewN | apply Kd.Q_drew)); exact Kd.Q_mono (Kd.Q_far (p := ⟨gb205, 3, none⟩) (Kd.Q_far (p := ⟨gb205, 2, none⟩) (Kd.Q_far (p := ⟨gb205, 1, none⟩) (Kd.Q_far (p := ⟨gb205, 0, none⟩) (Kd.Q_types HO_215003.out BK205.out (by decide)) (fun _ hk => hk.2) (.int .i64 t208)) (fun _ hk => hk.2) (.int .i64 t209)) (fun _ hk => hk.2) (.int .i64 t210)) (fun _ hk => hk.2) (.slice Ao27 t211.length co27)) (fun _ hk => trivial), by repeat (first | (with_reducible first | exact HB.out | apply below_alloc | apply pw_below_drewN | apply below_drew1 | refine below_set ?_ GE204.out | refine below_set ?_ GE205.out | refine below_set ?_ GE214.out) | exact HB.out)⟩
      ·replace c34 := Bool.eq_false_iff.mpr c34
       subst c34
       have H1 : (if 0 < (t211.length : Int) then (if (mn a1 (((rd_T177 t211 0).f1).size : Int)) < (((rd_T177 t211 0).f1).size : Int) then (if 0 ≤ (mn a1 (((rd_T177 t211 0).f1).size : Int)) then (if (mn a1 (((rd_T177 t211 0).f1).size : Int)) ≤ (((rd_T177 t211 0).f1).size : Int) then (some (t208, wrap64 (t209 + (mn a1 (((rd_T177 t211 0).f1).size : Int))), t210, (t211.set (0 : Int).toNat (⟨wrap64 (((rd_T177 t211 0).f0) + (mn a1 (((rd_T177 t211 0).f1).size : Int))), ((rd_T177 t211 0).f1).extract ((mn a1 (((rd_T177 t211 0).f1).size : Int)) : Int).toNat ((rd_T177 t211 0).f1).size⟩ : S177)), ((rd_T177 t211 0).f1).extract 0 ((mn a1 (((rd_T177 t211 0).f1).size : Int)) : Int).toNat, true)) else (none)) else (none)) else (if 1 ≤ (t211.length : Int) then (if 0 ≤ (mn a1 (((rd_T177 t211 0).f1).size : Int)) then (if (mn a1 (((rd_T177 t211 0).f1).size : Int)) ≤ (((rd_T177 t211 0).f1).size : Int) then (some (t208, wrap64 (t209 + (mn a1 (((rd_T177 t211 0).f1).size : Int))), t210, (t211.drop (1 : Int).toNat), ((rd_T177 t211 0).f1).extract 0 ((mn a1 (((rd_T177 t211 0).f1).size : Int)) : Int).toNat, true)) else (none)) else (none)) else (none))) else (none)) = some (r1, r2, r3, r4, r5, r6) := by rw [if_neg (show ¬ (false = true) by decide)] at H; exact H
       clear H
       have H := H1
       clear H1
       by_cases c40 : 0 < (t211.length : Int)
       ·rw [if_pos c40] at H
        have c40b0 : decide (0 < (t211.length : Int)) = true := decide_eq_true c40
        have c40b1 : decide (0 < t211.length) = true := decide_eq_true (by omega)
        clear c40
        obtain ⟨ji41, hji41⟩ : ∃ j_ : Int, (mn a1 (((rd_T177 t211 0).f1).size : Int)) = j_ := ⟨_, rfl⟩
        replace H : (if (ji41) < (((rd_T177 t211 0).f1).size : Int) then (if 0 ≤ (ji41) then (if (ji41) ≤ (((rd_T177 t211 0).f1).size : Int) then (some (t208, wrap64 (t209 + (ji41)), t210, (t211.set (0 : Int).toNat (⟨wrap64 (((rd_T177 t211 0).f0) + (ji41)), ((rd_T177 t211 0).f1).extract ((ji41) : Int).toNat ((rd_T177 t211 0).f1).size⟩ : S177)), ((rd_T177 t211 0).f1).extract 0 ((ji41) : Int).toNat, true)) else (none)) else (none)) else (if 1 ≤ (t211.length : Int) then (if 0 ≤ (ji41) then (if (ji41) ≤ (((rd_T177 t211 0).f1).size : Int) then (some (t208, wrap64 (t209 + (ji41)), t210, (t211.drop (1 : Int).toNat), ((rd_T177 t211 0).f1).extract 0 ((ji41) : Int).toNat, true)) else (none)) else (none)) else (none))) = some (r1, r2, r3, r4, r5, r6) := by first | (rw [hji41] at H; exact H) | (simp only [hji41] at H ⊢; exact H)
        have hji41_ : (if (((rd_T177 t211 0).f1).size : Int) < a1 then (((rd_T177 t211 0).f1).size : Int) else a1) = ji41 := hji41
        by_cases c42 : (ji41) < (((rd_T177 t211 0).f1).size : Int)
        ·rw [if_pos c42] at H
         have c42b0 : decide ((ji41) < (((rd_T177 t211 0).f1).size : Int)) = true := decide_eq_true c42
         clear c42
         by_cases c43 : 0 ≤ (ji41)
         ·rw [if_pos c43] at H
          have c43b0 := eq_true c43
          have c43b1 : decide (0 ≤ (ji41)) = true := decide_eq_true c43
          clear c43
          by_cases c44 : (ji41) ≤ (((rd_T177 t211 0).f1).size : Int)
          ·rw [if_pos c44] at H
           have c44b0 := eq_true c44
           have c44b1 : decide ((ji41) ≤ (((rd_T177 t211 0).f1).size : Int)) = true := decide_eq_true c44
           clear c44
           obtain ⟨y218, hy218⟩ : ∃ y_ : List (S177), y_ = (t211.set (0 : Int).toNat (⟨wrap64 (((rd_T177 t211 0).f0) + (ji41)), ((rd_T177 t211 0).f1).extract ((ji41) : Int).toNat ((rd_T177 t211 0).f1).size⟩ : S177)) := ⟨_, rfl⟩
           replace H : (some (t208, wrap64 (t209 + (ji41)), t210, y218, ((rd_T177 t211 0).f1).extract 0 ((ji41) : Int).toNat, true)) = some (r1, r2, r3, r4, r5, r6) := by first | (rw [hy218]; with_reducible exact H) | (have H2_ := (Option.bind_some _ _).symm.trans H; rw [hy218]; with_reducible exact H2_) | (have H2_ := (Option.bind_some _ _).symm.trans H; with_reducible exact H2_) | with_reducible exact H | (rw [hy218]; exact H) | exact H
           have Ny218 := Aside0.mk hy218
           clear hy218
           have c46b0 := eq_true (of_decide_eq_true (by first | (with_reducible assumption) | assumption) : 0 ≤ (ji41))
           have c47b0 := eq_true (of_decide_eq_true (by first | (with_reducible assumption) | assumption) : (ji41) ≤ (((rd_T177 t211 0).f1).size : Int))
           simp only [Option.some.injEq, Prod.mk.injEq] at H
           obtain ⟨rfl, rfl, rfl, rfl, rfl, rfl⟩ := H
           have hnb48 := NB214_204.out
           have hnc48 := NB204_214.out
           have hnb49 := NB214_205.out
           have hnc49 := NB205_214.out
           obtain ⟨hcz50_0, hcz50_1, hcz50_2, hcz50_3⟩ := cz4 BK214
           obtain ⟨hfz50_0, hfz50_1, hfz50_2, hfz50_3⟩ := fz4 BK214
           have p216 : 0 ≤ (0 : Int) := (by omega)
           have q216 : 0 < (t211.length : Int) := of_decide_eq_true (by first | (with_reducible assumption) | assumption)
           obtain ⟨ad216, e216, hx216_0, hx216_1⟩ := at_T177 (Kd.Q_reads' HO_215003.out).2.2 0 p216 q216
           cases e216
           have qi216 : (0 < t211.length) = True := eq_true (by omega)
           (try rw [show ((0 : Int)).toNat = 0 from rfl] at hx216_0)
           (try rw [show 0 * 2 = 0 from rfl] at hx216_0)
           (try rw [Addr.add_zero'] at hx216_0)
           (try rw [show ((0 : Int)).toNat = 0 from rfl] at hx216_1)
           (try rw [show 0 * 2 = 0 from rfl] at hx216_1)
           (try rw [Addr.add_zero'] at hx216_1)
           replace p216 := eq_true p216
           replace q216 := eq_true q216
           try go_wp2_with (first | ((with_reducible refine gate_dst (N := 8) rfl ?_); refine box_event ?hg (N := 8) ?hd (cs := #[.int .i64 0, .string (⟨#[]⟩ : ByteArray)]) (t := 177) ?hr ?_; (case hd => rfl); (case hg => rfl); (case hr => first | (go_simp; done) | (go_simp; rfl)); intro gb217 hg w51 hbox hb; have n0_ := Aside0.mk (Kd.Q_below (Kd.Q_elderB (by (with_reducible repeat (first | apply Kd.Q_alloc | apply Kd.Q_drewN | apply Kd.Q_drew)); exact HO_215003.out) gb217 (Nat.le_of_eq hg.symm)) hb); have n1_ := bX BK204 hb; have n2_ := bX BK205 hb; have n3_ := bX BK214 hb; have n4_ := bS HB hb; have n5_ := Aside0.mk (hbox); have n6_ := Aside0.mk ((by rw [hg]; exact (below_size (by repeat (first | (with_reducible first | exact HB.out | apply below_alloc | apply pw_below_drewN | apply below_drew1 | refine below_set ?_ GE204.out | refine below_set ?_ GE205.out | refine below_set ?_ GE214.out) | exact HB.out))) : w.heap.size ≤ gb217)); have n7_ := n6_; have n8_ := Aside0.mk ((by rw [hg]; exact Nat.ne_of_lt (bLt BK204) : gb204 ≠ gb217)); have n9_ := Aside0.mk ((by rw [hg]; exact Nat.ne_of_gt (bLt BK204) : gb217 ≠ gb204)); have n10_ := Aside0.mk ((by rw [hg]; exact Nat.ne_of_lt (bLt BK205) : gb205 ≠ gb217)); have n11_ := Aside0.mk ((by rw [hg]; exact Nat.ne_of_gt (bLt BK205) : gb217 ≠ gb205)); have n12_ := Aside0.mk ((by rw [hg]; exact Nat.ne_of_lt (bLt BK214) : gb214 ≠ gb217)); have n13_ := Aside0.mk ((by rw [hg]; exact Nat.ne_of_gt (bLt BK214) : gb217 ≠ gb214)); clear HO_215003; clear BK204; clear BK205; clear BK214; clear HB; have HO_215003 := n0_; have BK204 := n1_; have BK205 := n2_; have BK214 := n3_; have HB := n4_; have BK217 := n5_; have GW217 := n6_; have GE217 := n7_; have NB204_217 := n8_; have NB217_204 := n9_; have NB205_217 := n10_; have NB217_205 := n11_; have NB214_217 := n12_; have NB217_214 := n13_; clear n0_ n1_ n2_ n3_ n4_ n5_ n6_ n7_ n8_ n9_ n10_ n11_ n12_ n13_; clear hb hbox hg; have hnb52 := NB217_204.out; have hnc52 := NB204_217.out; have hnb53 := NB217_205.out; have hnc53 := NB205_217.out; have hnb54 := NB217_214.out; have hnc54 := NB214_217.out; obtain ⟨hcz55_0, hcz55_1⟩ := cz2 BK217; obtain ⟨hfz55_0, hfz55_1⟩ := fz2 BK217; obtain ⟨hcz56_0, hcz56_1, hcz56_2, hcz56_3⟩ := cz4 BK214; obtain ⟨hfz56_0, hfz56_1, hfz56_2, hfz56_3⟩ := fz4 BK214))
           have n0_ : Aside0 (Kd.Q k177 177 (((w51.setCell ⟨gb217, 0, none⟩ (.int .i64 ((rd_T177 t211 0).f0))).setCell ⟨gb217, 1, none⟩ (.string ((rd_T177 t211 0).f1))).setCell ⟨gb214, 1, none⟩ (.int .i64 (wrap64 (t209 + (ji41))))) w.heap.size (fun k_ => k_ ≠ gb217) (.slice (some ad216) t211.length co27) t211) := ⟨by (with_reducible repeat (first | apply Kd.Q_alloc | apply Kd.Q_drewN | apply Kd.Q_drew)); exact Kd.Q_mono (Kd.Q_far (p := ⟨gb214, 1, none⟩) (Kd.Q_far (p := ⟨gb217, 1, none⟩) (Kd.Q_far (p := ⟨gb217, 0, none⟩) (Kd.Q_types (Kd.Q_mono HO_215003.out (fun k_ hk => (⟨hk, hk.2⟩ : _ ∧ k_ ≠ gb217))) BK214.out (by decide)) (fun _ hk => hk.1.2) (.int .i64 ((rd_T177 t211 0).f0))) (fun _ hk => hk.1.2) (.string ((rd_T177 t211 0).f1))) (fun _ hk => hk.2) (.int .i64 (wrap64 (t209 + (ji41))))) (fun _ hk => hk.1.1.2)⟩
           have n1_ : Aside0 ((((w51.setCell ⟨gb217, 0, none⟩ (.int .i64 ((rd_T177 t211 0).f0))).setCell ⟨gb217, 1, none⟩ (.string ((rd_T177 t211 0).f1))).setCell ⟨gb214, 1, none⟩ (.int .i64 (wrap64 (t209 + (ji41))))).heap[gb204]? = some (.cells #[.int .i64 a0_0, .int .i64 a0_1, .int .i64 a0_2, .slice A0_3 l0_3.length c0_3] 61 (0, 0))) := ⟨by (with_reducible repeat (first | refine bN ?_ _ | refine bD ?_ | refine bA ?_ _)); refine blk_far ?_ NB204_214.out _; (with_reducible repeat (first | refine bN ?_ _ | refine bD ?_ | refine bA ?_ _)); refine blk_far ?_ NB204_217.out _; (with_reducible repeat (first | refine bN ?_ _ | refine bD ?_ | refine bA ?_ _)); refine blk_far ?_ NB204_217.out _; (with_reducible repeat (first | refine bN ?_ _ | refine bD ?_ | refine bA ?_ _)); exact BK204.out⟩
           have n2_ : Aside0 ((((w51.setCell ⟨gb217, 0, none⟩ (.int .i64 ((rd_T177 t211 0).f0))).setCell ⟨gb217, 1, none⟩ (.string ((rd_T177 t211 0).f1))).setCell ⟨gb214, 1, none⟩ (.int .i64 (wrap64 (t209 + (ji41))))).heap[gb205]? = some (.cells #[.int .i64 0, .int .i64 0, .int .i64 0, .slice none 0 0] 61 (0, 0))) := ⟨by (with_reducible repeat (first | refine bN ?_ _ | refine bD ?_ | refine bA ?_ _)); refine blk_far ?_ NB205_214.out _; (with_reducible repeat (first | refine bN ?_ _ | refine bD ?_ | refine bA ?_ _)); refine blk_far ?_ NB205_217.out _; (with_reducible repeat (first | refine bN ?_ _ | refine bD ?_ | refine bA ?_ _)); refine blk_far ?_ NB205_217.out _; (with_reducible repeat (first | refine bN ?_ _ | refine bD ?_ | refine bA ?_ _)); exact BK205.out⟩
           have n3_ : Aside0 ((((w51.setCell ⟨gb217, 0, none⟩ (.int .i64 ((rd_T177 t211 0).f0))).setCell ⟨gb217, 1, none⟩ (.string ((rd_T177 t211 0).f1))).setCell ⟨gb214, 1, none⟩ (.int .i64 (wrap64 (t209 + (ji41))))).heap[gb214]? = some (.cells #[.int .i64 t208, .int .i64 (wrap64 (t209 + (ji41))), .int .i64 t210, .slice (some ad216) t211.length co27] 61 (0, 0))) := ⟨by (with_reducible repeat (first | refine bN ?_ _ | refine bD ?_ | refine bA ?_ _)); refine blk_put (cs := #[.int .i64 t208, .int .i64 t209, .int .i64 t210, .slice (some ad216) t211.length co27]) ?_ 1 _ rfl; (with_reducible repeat (first | refine bN ?_ _ | refine bD ?_ | refine bA ?_ _)); refine blk_far ?_ NB214_217.out _; (with_reducible repeat (first | refine bN ?_ _ | refine bD ?_ | refine bA ?_ _)); refine blk_far ?_ NB214_217.out _; (with_reducible repeat (first | refine bN ?_ _ | refine bD ?_ | refine bA ?_ _)); exact BK214.out⟩
           have n4_ : Aside0 ((((w51.setCell ⟨gb217, 0, none⟩ (.int .i64 ((rd_T177 t211 0).f0))).setCell ⟨gb217, 1, none⟩ (.string ((rd_T177 t211 0).f1))).setCell ⟨gb214, 1, none⟩ (.int .i64 (wrap64 (t209 + (ji41))))).heap[gb217]? = some (.cells #[.int .i64 ((rd_T177 t211 0).f0), .string ((rd_T177 t211 0).f1)] 177 (0, 0))) := ⟨by (with_reducible repeat (first | refine bN ?_ _ | refine bD ?_ | refine bA ?_ _)); refine blk_far ?_ NB217_214.out _; (with_reducible repeat (first | refine bN ?_ _ | refine bD ?_ | refine bA ?_ _)); refine blk_put (cs := #[.int .i64 ((rd_T177 t211 0).f0), .string (⟨#[]⟩ : ByteArray)]) ?_ 1 _ rfl; (with_reducible repeat (first | refine bN ?_ _ | refine bD ?_ | refine bA ?_ _)); refine blk_put (cs := #[.int .i64 0, .string (⟨#[]⟩ : ByteArray)]) ?_ 0 _ rfl; (with_reducible repeat (first | refine bN ?_ _ | refine bD ?_ | refine bA ?_ _)); exact BK217.out⟩
           have n5_ : Aside0 (Below w.heap.size w (((w51.setCell ⟨gb217, 0, none⟩ (.int .i64 ((rd_T177 t211 0).f0))).setCell ⟨gb217, 1, none⟩ (.string ((rd_T177 t211 0).f1))).setCell ⟨gb214, 1, none⟩ (.int .i64 (wrap64 (t209 + (ji41)))))) := ⟨by repeat (first | (with_reducible first | exact HB.out | apply below_alloc | apply pw_below_drewN | apply below_drew1 | refine below_set ?_ GE204.out | refine below_set ?_ GE205.out | refine below_set ?_ GE214.out | refine below_set ?_ GE217.out) | exact HB.out)⟩
           (try clear HO_215003)
           (try clear BK204)
           (try clear BK205)
           (try clear BK214)
           (try clear BK217)
           (try clear HB)
           generalize (((w51.setCell ⟨gb217, 0, none⟩ (.int .i64 ((rd_T177 t211 0).f0))).setCell ⟨gb217, 1, none⟩ (.string ((rd_T177 t211 0).f1))).setCell ⟨gb214, 1, none⟩ (.int .i64 (wrap64 (t209 + (ji41))))) = w57 at n0_ n1_ n2_ n3_ n4_ n5_ ⊢
           have HO_215003 := n0_
           have BK204 := n1_
           have BK205 := n2_
           have BK214 := n3_
           have BK217 := n4_
           have HB := n5_
           clear n0_ n1_ n2_ n3_ n4_ n5_
           have n0_ := Aside0.mk (Kd.Q_drew HO_215003.out)
           have n1_ := Aside0.mk (blk_drew BK204.out)
           have n2_ := Aside0.mk (blk_drew BK205.out)
           have n3_ := Aside0.mk (blk_drew BK214.out)
           have n4_ := Aside0.mk (blk_drew BK217.out)
           have n5_ := Aside0.mk (below_drew1 HB.out)
           clear HO_215003
           clear BK204
           clear BK205
           clear BK214
           clear BK217
           clear HB
           have HO_215003 := n0_
           have BK204 := n1_
           have BK205 := n2_
           have BK214 := n3_
           have BK217 := n4_
           have HB := n5_
           clear n0_ n1_ n2_ n3_ n4_ n5_
           have p45 : 0 ≤ (0 : Int) := (by omega)
           have q45 : (0 : Int) < ((t211.length : Int) : Int) := of_decide_eq_true (by first | (with_reducible assumption) | assumption)
           have qi45 : (0 < t211.length) = True := eq_true (by omega)
           obtain ⟨go45, oo45, co45, eo45, gb45, gl45, cl45, HG45⟩ := Kd.Q_form HO_215003.out (by omega)
           (first | cases eo45 | (injection eo45 with ea_ en_ ec_; (first | subst ea_ | (injection ea_ with ea_; subst ea_)); subst ec_; clear en_))
           have GB45 := Aside0.mk gb45
           have GG45 := Aside0.mk HG45
           clear gb45 gl45 HG45
           (first | simp only [add_at] at hx216_0 | skip)
           (first | simp only [add_at] at hx216_1 | skip)
           obtain ⟨ce45, hcl45, hM45, hcc45, hfr45⟩ := Kd.Q_elem HO_215003.out z177 (0 : Int) p45 q45
           obtain rfl := k177_openM hM45
           have hx45_0 : World.cell? _ ⟨go45, oo45 + (0 : Int).toNat * 2, none⟩ = some (.int .i64 ((rd_T177 t211 0).f0)) := hcc45 0 _ rfl
           have hx45_1 : World.cell? _ ⟨go45, oo45 + (0 : Int).toNat * 2 + 1, none⟩ = some (.string ((rd_T177 t211 0).f1)) := hcc45 1 _ rfl
           have hf45_0 : World.frozen? _ ⟨go45, oo45 + (0 : Int).toNat * 2, none⟩ = false := hfr45 0
           have hf45_1 : World.frozen? _ ⟨go45, oo45 + (0 : Int).toNat * 2 + 1, none⟩ = false := hfr45 1
           clear hcl45 hcc45 hfr45 hM45
           (try rw [show ((0 : Int)).toNat = 0 from rfl] at hx45_0)
           (try simp only [Nat.reduceMul, Nat.zero_mul, Nat.zero_add, Nat.reduceAdd, Nat.add_zero] at hx45_0)
           (try rw [show ((0 : Int)).toNat = 0 from rfl] at hf45_0)
           (try simp only [Nat.reduceMul, Nat.zero_mul, Nat.zero_add, Nat.reduceAdd, Nat.add_zero] at hf45_0)
           (try rw [show ((0 : Int)).toNat = 0 from rfl] at hx45_1)
           (try simp only [Nat.reduceMul, Nat.zero_mul, Nat.zero_add, Nat.reduceAdd, Nat.add_zero] at hx45_1)
           (try rw [show ((0 : Int)).toNat = 0 from rfl] at hf45_1)
           (try simp only [Nat.reduceMul, Nat.zero_mul, Nat.zero_add, Nat.reduceAdd, Nat.add_zero] at hf45_1)
           replace p45 := eq_true p45
           replace q45 := eq_true q45
           obtain ⟨ce59, hcl59, hM59, hcc59, hfr59⟩ := Kd.Q_elem HO_215003.out z177 (0 : Int) (by omega) (by have h_ : (0 : Int) < ((t211.length : Int) : Int) := of_decide_eq_true (by first | (with_reducible assumption) | assumption); first | exact h_ | (have e_ := (Kd.Q_reads' HO_215003.out).1; omega) | simpa using h_)
           obtain rfl := k177_openM hM59
           have HP59 := (Kd.Q_seg HO_215003.out (0 : Int) (by omega) (by have h_ : (0 : Int) < ((t211.length : Int) : Int) := of_decide_eq_true (by first | (with_reducible assumption) | assumption); first | exact h_ | (have e_ := (Kd.Q_reads' HO_215003.out).1; omega) | simpa using h_) (seg := [.int .i64 (wrap64 (((rd_T177 t211 0).f0) + (ji41))), .string (((rd_T177 t211 0).f1).extract ((ji41) : Int).toNat ((rd_T177 t211 0).f1).size)]) (j := 0) hcl59 hcc59 (show 2 ≤ 2 from by decide) (x' := (⟨wrap64 (((rd_T177 t211 0).f0) + (ji41)), ((rd_T177 t211 0).f1).extract ((ji41) : Int).toNat ((rd_T177 t211 0).f1).size⟩ : S177)) (k177_mkM _ _ _ (⟨wrap64 (((rd_T177 t211 0).f0) + (ji41)), ((rd_T177 t211 0).f1).extract ((ji41) : Int).toNat ((rd_T177 t211 0).f1).size⟩ : S177) ) (fun _ hk => hk)).1
           rw [← Ny218.out] at HP59
           have HQ59 := Aside0.mk HP59
           clear hcl59 hcc59 hfr59 hM59 HP59
           refine start_ (n := 13) (S := fun w' => w'.cell? ⟨gb214, 0, none⟩ = some (.int .i64 t208) ∧ w'.cell? ⟨gb214, 1, none⟩ = some (.int .i64 (wrap64 (t209 + (ji41)))) ∧ w'.cell? ⟨gb214, 2, none⟩ = some (.int .i64 t210) ∧ w'.cell? ⟨gb214, 3, none⟩ = some (.slice (some ⟨go45, oo45, none⟩) t211.length co27) ∧ w'.cell? ⟨gb217, 0, none⟩ = some (.int .i64 ((rd_T177 t211 0).f0)) ∧ w'.cell? ⟨gb217, 1, none⟩ = some (.string ((rd_T177 t211 0).f1))) (ds := [12]) (bm 13 0) (by kernel_rfl) rfl rfl (cx4 BK214 (cz2 BK217)) (fun hHeld => ?_); refine with_tabW impl_ReadSome.tab10 impl_ReadSome.bits10 (fun HT_ HW_ => ?_)
           generalize w57.drew = w58 at HO_215003 BK204 BK205 BK214 BK217 HB GG45 HQ59 hf45_0 hf45_1 hx216_0 hx216_1 hx45_0 hx45_1 hHeld ⊢
           refine pure_ (i := 0) (N := some 55) (v := ?_) (a' := ?_) (bm 13 1) rfl rfl (any_of HT_.out (by kernel_rfl)) (fun _ _ _ h => h) (Or.inl ⟨by rfl, ?_⟩) ?_ ?_
           rotate_left
           ·intro w'
            go_simp
            with_reducible rfl
           rotate_left
           ·simp only [Act.put, sA, sZ, sS, i64_w, i32_w]
            rfl
           refine pure_ (i := 2) (N := some 57) (v := ?_) (a' := ?_) (bm 13 5) rfl rfl (any_of HT_.out (by kernel_rfl)) (fun _ _ _ h => h) (Or.inl ⟨by rfl, ?_⟩) ?_ ?_
           rotate_left
           ·intro w'
            go_simp
            with_reducible rfl
           rotate_left
           ·simp only [Act.put, sA, sZ, sS, i64_w, i32_w]
            rfl
           refine pure_ (i := 4) (N := some 59) (v := ?_) (a' := ?_) (bm 13 21) rfl rfl (any_of HT_.out (by kernel_rfl)) (fun _ _ _ h => h) (Or.inl ⟨by rfl, ?_⟩) ?_ ?_
           rotate_left
           ·intro w'
            go_simp
            with_reducible rfl
           rotate_left
           ·simp only [Act.put, sA, sZ, sS, i64_w, i32_w]
            rfl
           refine pure_ (i := 6) (N := some 61) (v := ?_) (a' := ?_) (bm 13 85) rfl rfl (any_of HT_.out (by kernel_rfl)) (fun _ _ _ h => h) (Or.inl ⟨by rfl, ?_⟩) ?_ ?_
           rotate_left
           ·intro w'
            go_simp
            with_reducible rfl
           rotate_left
           ·simp only [Act.put, sA, sZ, sS, i64_w, i32_w]
            rfl
           refine pure_ (i := 8) (N := some 63) (v := ?_) (a' := ?_) (bm 13 341) rfl rfl (any_of HT_.out (by kernel_rfl)) (fun _ _ _ h => h) (Or.inl ⟨by rfl, ?_⟩) ?_ ?_
           rotate_left
           ·intro w'
            go_simp
            with_reducible rfl
           rotate_left
           ·simp only [Act.put, sA, sZ, sS, i64_w, i32_w]
            rfl
           refine take_ (i := 1) (N := some 56) (v := ?_) (a' := ?_) (bm 13 343) rfl rfl (take_ofW HT_.out HW_.out (by kernel_rfl)) (fun _ _ _ h => h) (Or.inl ⟨by rfl, ?_⟩) hHeld ?_ ?_
           rotate_left
           ·rintro w' ⟨s0, s1, s2, s3, s4, s5⟩
            go_simp
            with_reducible rfl
           rotate_left
           ·simp only [Act.put, sA, sZ, sS, i64_w, i32_w]
            rfl
           refine take_ (i := 3) (N := some 58) (v := ?_) (a' := ?_) (bm 13 351) rfl rfl (take_ofW HT_.out HW_.out (by kernel_rfl)) (fun _ _ _ h => h) (Or.inl ⟨by rfl, ?_⟩) hHeld ?_ ?_
           rotate_left
           ·rintro w' ⟨s0, s1, s2, s3, s4, s5⟩
            go_simp
            with_reducible rfl
           rotate_left
           ·simp only [Act.put, sA, sZ, sS, i64_w, i32_w]
            rfl
           refine pure_ (i := 5) (N := some 60) (v := ?_) (a' := ?_) (bm 13 383) rfl rfl (any_of HT_.out (by kernel_rfl)) (fun _ _ _ h => h) (Or.inl ⟨by rfl, ?_⟩) ?_ ?_
           rotate_left
           ·intro w'
            go_simp
            with_reducible rfl
           rotate_left
           ·simp only [Act.put, sA, sZ, sS, i64_w, i32_w]
            rfl
           refine take_ (i := 7) (N := some 62) (v := ?_) (a' := ?_) (bm 13 511) rfl rfl (take_ofW HT_.out HW_.out (by kernel_rfl)) (fun _ _ _ h => h) (Or.inl ⟨by rfl, ?_⟩) hHeld ?_ ?_
           rotate_left
           ·rintro w' ⟨s0, s1, s2, s3, s4, s5⟩
            go_simp
            with_reducible rfl
           rotate_left
           ·simp only [Act.put, sA, sZ, sS, i64_w, i32_w]
            rfl
           refine pure_ (i := 9) (N := some 64) (v := ?_) (a' := ?_) (bm 13 1023) rfl rfl (any_of HT_.out (by kernel_rfl)) (fun _ _ _ h => h) (Or.inl ⟨by rfl, ?_⟩) ?_ ?_
           rotate_left
           ·intro w'
            go_simp
            with_reducible rfl
           rotate_left
           ·simp only [Act.put, sA, sZ, sS, i64_w, i32_w]
            rfl
           refine pure_ (i := 10) (N := some 65) (v := ?_) (a' := ?_) (bm 13 2047) rfl rfl (any_of HT_.out (by kernel_rfl)) (fun _ _ _ h => h) (Or.inl ⟨by rfl, ?_⟩) ?_ ?_
           rotate_left
           ·intro w'
            go_simp
            with_reducible rfl
           rotate_left
           ·simp only [Act.put, sA, sZ, sS, i64_w, i32_w]
            rfl
           refine pure_ (i := 11) (N := some 66) (v := ?_) (a' := ?_) (bm 13 4095) rfl rfl (any_of HT_.out (by kernel_rfl)) (fun _ _ _ h => h) (Or.inl ⟨by rfl, ?_⟩) ?_ ?_
           rotate_left
           ·intro w'
            go_simp
            with_reducible rfl
           rotate_left
           ·simp only [Act.put, sA, sZ, sS, i64_w, i32_w]
            rfl
           refine last_ (i := 12) (N := none) (bm 13 8191) rfl rfl (one_of HT_.out (by kernel_rfl)) (by decide) (fun K hK => ?_)
           refine skip_ (w1 := ?_) (by rfl) rfl ?_ ?_
           rotate_left
           ·go_simp
            rfl
           refine hK.out _ _ ?_
           clear hK K
           refine done_ (done_of HT_.out (by kernel_rfl)) ?_
           have n0_ : Aside0 (Kd.Q k177 177 ((w58.setCell ⟨go45, oo45 + 0, none⟩ (.int .i64 (wrap64 (((rd_T177 t211 0).f0) + (ji41))))).setCell ⟨go45, oo45 + 1, none⟩ (.string (((rd_T177 t211 0).f1).extract ((ji41) : Int).toNat ((rd_T177 t211 0).f1).size))) w.heap.size (fun k_ => k_ ≠ gb217) (.slice (some ⟨go45, oo45, none⟩) t211.length co27) y218) := ⟨by (with_reducible repeat (first | apply Kd.Q_alloc | apply Kd.Q_drewN | apply Kd.Q_drew)); exact HQ59.out⟩
           have n1_ : Aside0 (((w58.setCell ⟨go45, oo45 + 0, none⟩ (.int .i64 (wrap64 (((rd_T177 t211 0).f0) + (ji41))))).setCell ⟨go45, oo45 + 1, none⟩ (.string (((rd_T177 t211 0).f1).extract ((ji41) : Int).toNat ((rd_T177 t211 0).f1).size))).heap[gb204]? = some (.cells #[.int .i64 a0_0, .int .i64 a0_1, .int .i64 a0_2, .slice A0_3 l0_3.length c0_3] 61 (0, 0))) := ⟨by (with_reducible repeat (first | refine bN ?_ _ | refine bD ?_ | refine bA ?_ _)); refine blk_far ?_ (by have h_ := Kd.Q_ne HO_215003.out BK204.out (by decide); intro e_; exact h_ (by rw [e_]; rfl)) _; (with_reducible repeat (first | refine bN ?_ _ | refine bD ?_ | refine bA ?_ _)); refine blk_far ?_ (by have h_ := Kd.Q_ne HO_215003.out BK204.out (by decide); intro e_; exact h_ (by rw [e_]; rfl)) _; (with_reducible repeat (first | refine bN ?_ _ | refine bD ?_ | refine bA ?_ _)); exact BK204.out⟩
           have n2_ : Aside0 (((w58.setCell ⟨go45, oo45 + 0, none⟩ (.int .i64 (wrap64 (((rd_T177 t211 0).f0) + (ji41))))).setCell ⟨go45, oo45 + 1, none⟩ (.string (((rd_T177 t211 0).f1).extract ((ji41) : Int).toNat ((rd_T177 t211 0).f1).size))).heap[gb205]? = some (.cells #[.int .i64 0, .int .i64 0, .int .i64 0, .slice none 0 0] 61 (0, 0))) := ⟨by (with_reducible repeat (first | refine bN ?_ _ | refine bD ?_ | refine bA ?_ _)); refine blk_far ?_ (by have h_ := Kd.Q_ne HO_215003.out BK205.out (by decide); intro e_; exact h_ (by rw [e_]; rfl)) _; (with_reducible repeat (first | refine bN ?_ _ | refine bD ?_ | refine bA ?_ _)); refine blk_far ?_ (by have h_ := Kd.Q_ne HO_215003.out BK205.out (by decide); intro e_; exact h_ (by rw [e_]; rfl)) _; (with_reducible repeat (first | refine bN ?_ _ | refine bD ?_ | refine bA ?_ _)); exact BK205.out⟩
           have n3_ : Aside0 (((w58.setCell ⟨go45, oo45 + 0, none⟩ (.int .i64 (wrap64 (((rd_T177 t211 0).f0) + (ji41))))).setCell ⟨go45, oo45 + 1, none⟩ (.string (((rd_T177 t211 0).f1).extract ((ji41) : Int).toNat ((rd_T177 t211 0).f1).size))).heap[gb214]? = some (.cells #[.int .i64 t208, .int .i64 (wrap64 (t209 + (ji41))), .int .i64 t210, .slice (some ⟨go45, oo45, none⟩) t211.length co27] 61 (0, 0))) := ⟨by (with_reducible repeat (first | refine bN ?_ _ | refine bD ?_ | refine bA ?_ _)); refine blk_far ?_ (by have h_ := Kd.Q_ne HO_215003.out BK214.out (by decide); intro e_; exact h_ (by rw [e_]; rfl)) _; (with_reducible repeat (first | refine bN ?_ _ | refine bD ?_ | refine bA ?_ _)); refine blk_far ?_ (by have h_ := Kd.Q_ne HO_215003.out BK214.out (by decide); intro e_; exact h_ (by rw [e_]; rfl)) _; (with_reducible repeat (first | refine bN ?_ _ | refine bD ?_ | refine bA ?_ _)); exact BK214.out⟩
           have n4_ : Aside0 (((w58.setCell ⟨go45, oo45 + 0, none⟩ (.int .i64 (wrap64 (((rd_T177 t211 0).f0) + (ji41))))).setCell ⟨go45, oo45 + 1, none⟩ (.string (((rd_T177 t211 0).f1).extract ((ji41) : Int).toNat ((rd_T177 t211 0).f1).size))).heap[gb217]? = some (.cells #[.int .i64 ((rd_T177 t211 0).f0), .string ((rd_T177 t211 0).f1)] 177 (0, 0))) := ⟨by (with_reducible repeat (first | refine bN ?_ _ | refine bD ?_ | refine bA ?_ _)); refine blk_far ?_ (by have h_ := Kd.Q_away HO_215003.out (fun _ hk => hk); intro e_; exact h_ (by rw [e_]; rfl)) _; (with_reducible repeat (first | refine bN ?_ _ | refine bD ?_ | refine bA ?_ _)); refine blk_far ?_ (by have h_ := Kd.Q_away HO_215003.out (fun _ hk => hk); intro e_; exact h_ (by rw [e_]; rfl)) _; (with_reducible repeat (first | refine bN ?_ _ | refine bD ?_ | refine bA ?_ _)); exact BK217.out⟩
           have n5_ : Aside0 (Below w.heap.size w ((w58.setCell ⟨go45, oo45 + 0, none⟩ (.int .i64 (wrap64 (((rd_T177 t211 0).f0) + (ji41))))).setCell ⟨go45, oo45 + 1, none⟩ (.string (((rd_T177 t211 0).f1).extract ((ji41) : Int).toNat ((rd_T177 t211 0).f1).size)))) := ⟨by repeat (first | (with_reducible first | exact HB.out | apply below_alloc | apply pw_below_drewN | apply below_drew1 | refine below_set ?_ GB45.out | refine below_set ?_ GB45.out | refine below_set ?_ GE204.out | refine below_set ?_ GE205.out | refine below_set ?_ GE214.out | refine below_set ?_ GE217.out) | exact HB.out)⟩
           (try clear HO_215003)
           (try clear BK204)
           (try clear BK205)
           (try clear BK214)
           (try clear BK217)
           (try clear HB)
           generalize ((w58.setCell ⟨go45, oo45 + 0, none⟩ (.int .i64 (wrap64 (((rd_T177 t211 0).f0) + (ji41))))).setCell ⟨go45, oo45 + 1, none⟩ (.string (((rd_T177 t211 0).f1).extract ((ji41) : Int).toNat ((rd_T177 t211 0).f1).size))) = w60 at n0_ n1_ n2_ n3_ n4_ n5_ ⊢
           have HO_215003 := n0_
           have BK204 := n1_
           have BK205 := n2_
           have BK214 := n3_
           have BK217 := n4_
           have HB := n5_
           clear n0_ n1_ n2_ n3_ n4_ n5_
           try go_wp2
           have n0_ := Aside0.mk (Kd.Q_drew HO_215003.out)
           have n1_ := Aside0.mk (blk_drew BK204.out)
           have n2_ := Aside0.mk (blk_drew BK205.out)
           have n3_ := Aside0.mk (blk_drew BK214.out)
           have n4_ := Aside0.mk (blk_drew BK217.out)
           have n5_ := Aside0.mk (below_drew1 HB.out)
           clear HO_215003
           clear BK204
           clear BK205
           clear BK214
           clear BK217
           clear HB
           have HO_215003 := n0_
           have BK204 := n1_
           have BK205 := n2_
           have BK214 := n3_
           have BK217 := n4_
           have HB := n5_
           clear n0_ n1_ n2_ n3_ n4_ n5_
           refine start_ (n := 8) (S := fun w' => w'.cell? ⟨gb214, 0, none⟩ = some (.int .i64 t208) ∧ w'.cell? ⟨gb214, 1, none⟩ = some (.int .i64 (wrap64 (t209 + (ji41)))) ∧ w'.cell? ⟨gb214, 2, none⟩ = some (.int .i64 t210) ∧ w'.cell? ⟨gb214, 3, none⟩ = some (.slice (some ⟨go45, oo45, none⟩) t211.length co27) ∧ w'.cell? ⟨gb217, 0, none⟩ = some (.int .i64 ((rd_T177 t211 0).f0)) ∧ w'.cell? ⟨gb217, 1, none⟩ = some (.string ((rd_T177 t211 0).f1))) (ds := []) (bm 8 0) (by kernel_rfl) rfl rfl (cx4 BK214 (cz2 BK217)) (fun hHeld => ?_); refine with_tabW impl_ReadSome.tab12 impl_ReadSome.bits12 (fun HT_ HW_ => ?_)
           generalize w60.drew = w61 at HO_215003 BK204 BK205 BK214 BK217 HB hHeld ⊢
           refine pure_ (i := 1) (N := some 72) (v := ?_) (a' := ?_) (bm 8 2) rfl rfl (any_of HT_.out (by kernel_rfl)) (fun _ _ _ h => h) (Or.inl ⟨by rfl, ?_⟩) ?_ ?_
           rotate_left
           ·intro w'
            go_simp
            with_reducible rfl
           rotate_left
           ·simp only [Act.put, sA, sZ, sS, i64_w, i32_w]
            rfl
           refine pure_ (i := 3) (N := some 74) (v := ?_) (a' := ?_) (bm 8 10) rfl rfl (any_of HT_.out (by kernel_rfl)) (fun _ _ _ h => h) (Or.inl ⟨by rfl, ?_⟩) ?_ ?_
           rotate_left
           ·intro w'
            go_simp
            with_reducible rfl
           rotate_left
           ·simp only [Act.put, sA, sZ, sS, i64_w, i32_w]
            rfl
           refine take_ (i := 0) (N := some 71) (v := ?_) (a' := ?_) (bm 8 11) rfl rfl (take_ofW HT_.out HW_.out (by kernel_rfl)) (fun _ _ _ h => h) (Or.inl ⟨by rfl, ?_⟩) hHeld ?_ ?_
           rotate_left
           ·rintro w' ⟨s0, s1, s2, s3, s4, s5⟩
            go_simp
            with_reducible rfl
           rotate_left
           ·simp only [Act.put, sA, sZ, sS, i64_w, i32_w]
            rfl
           refine take_ (i := 2) (N := some 73) (v := ?_) (a' := ?_) (bm 8 15) rfl rfl (take_ofW HT_.out HW_.out (by kernel_rfl)) (fun _ _ _ h => h) (Or.inl ⟨by rfl, ?_⟩) hHeld ?_ ?_
           rotate_left
           ·rintro w' ⟨s0, s1, s2, s3, s4, s5⟩
            go_simp
            with_reducible rfl
           rotate_left
           ·simp only [Act.put, sA, sZ, sS, i64_w, i32_w]
            rfl
           refine pure_ (i := 4) (N := some 75) (v := ?_) (a' := ?_) (bm 8 31) rfl rfl (any_of HT_.out (by kernel_rfl)) (fun _ _ _ h => h) (Or.inl ⟨by rfl, ?_⟩) ?_ ?_
           rotate_left
           ·intro w'
            go_simp
            with_reducible rfl
           rotate_left
           ·simp only [Act.put, sA, sZ, sS, i64_w, i32_w]
            rfl
           refine one_ (i := 5) (N := none) (bm 8 63) rfl rfl (one_of HT_.out (by kernel_rfl)) (by decide) (fun K hK => ?_)
           have hs62 : w61.cell? ⟨gb205, 0, none⟩ = some (.int .i64 0) := (blk_cell BK205.out 0).trans rfl
           have hfs62 := blk_frozen BK205.out 0
           have hns62_0 := NB204_205.out
           have hns62_2 := NB214_205.out
           have hns62_3 := NB217_205.out
           have hms62_0 := NB205_204.out
           have hms62_2 := NB205_214.out
           have hms62_3 := NB205_217.out
           have hs63 : w61.cell? ⟨gb205, 1, none⟩ = some (.int .i64 0) := (blk_cell BK205.out 1).trans rfl
           have hfs63 := blk_frozen BK205.out 1
           have hns63_0 := NB204_205.out
           have hns63_2 := NB214_205.out
           have hns63_3 := NB217_205.out
           have hms63_0 := NB205_204.out
           have hms63_2 := NB205_214.out
           have hms63_3 := NB205_217.out
           have hs64 : w61.cell? ⟨gb205, 2, none⟩ = some (.int .i64 0) := (blk_cell BK205.out 2).trans rfl
           have hfs64 := blk_frozen BK205.out 2
           have hns64_0 := NB204_205.out
           have hns64_2 := NB214_205.out
           have hns64_3 := NB217_205.out
           have hms64_0 := NB205_204.out
           have hms64_2 := NB205_214.out
           have hms64_3 := NB205_217.out
           have hs65 : w61.cell? ⟨gb205, 3, none⟩ = some (.slice none 0 0) := (blk_cell BK205.out 3).trans rfl
           have hfs65 := blk_frozen BK205.out 3
           have hns65_0 := NB204_205.out
           have hns65_2 := NB214_205.out
           have hns65_3 := NB217_205.out
           have hms65_0 := NB205_204.out
           have hms65_2 := NB205_214.out
           have hms65_3 := NB205_217.out
           refine skip_ (w1 := ?_) (by rfl) rfl ?_ ?_
           rotate_left
           ·go_simp
            rfl
           refine hK.out _ _ ⟨((cell_far (p := ⟨gb205, _, none⟩) NB214_205.out _).trans (((cell_far (p := ⟨gb205, _, none⟩) NB214_205.out _).trans (((cell_far (p := ⟨gb205, _, none⟩) NB214_205.out _).trans (((cell_far (p := ⟨gb205, _, none⟩) NB214_205.out _).trans (hHeld.1)))))))), ((cell_far (p := ⟨gb205, _, none⟩) NB214_205.out _).trans (((cell_far (p := ⟨gb205, _, none⟩) NB214_205.out _).trans (((cell_far (p := ⟨gb205, _, none⟩) NB214_205.out _).trans (((cell_far (p := ⟨gb205, _, none⟩) NB214_205.out _).trans (hHeld.2.1)))))))), ((cell_far (p := ⟨gb205, _, none⟩) NB214_205.out _).trans (((cell_far (p := ⟨gb205, _, none⟩) NB214_205.out _).trans (((cell_far (p := ⟨gb205, _, none⟩) NB214_205.out _).trans (((cell_far (p := ⟨gb205, _, none⟩) NB214_205.out _).trans (hHeld.2.2.1)))))))), ((cell_far (p := ⟨gb205, _, none⟩) NB214_205.out _).trans (((cell_far (p := ⟨gb205, _, none⟩) NB214_205.out _).trans (((cell_far (p := ⟨gb205, _, none⟩) NB214_205.out _).trans (((cell_far (p := ⟨gb205, _, none⟩) NB214_205.out _).trans (hHeld.2.2.2.1)))))))), ((cell_far (p := ⟨gb205, _, none⟩) NB217_205.out _).trans (((cell_far (p := ⟨gb205, _, none⟩) NB217_205.out _).trans (((cell_far (p := ⟨gb205, _, none⟩) NB217_205.out _).trans (((cell_far (p := ⟨gb205, _, none⟩) NB217_205.out _).trans (hHeld.2.2.2.2.1)))))))), ((cell_far (p := ⟨gb205, _, none⟩) NB217_205.out _).trans (((cell_far (p := ⟨gb205, _, none⟩) NB217_205.out _).trans (((cell_far (p := ⟨gb205, _, none⟩) NB217_205.out _).trans (((cell_far (p := ⟨gb205, _, none⟩) NB217_205.out _).trans (hHeld.2.2.2.2.2))))))))⟩ (fun hHeld => ?_)
           clear hK K
           refine pure_ (i := 6) (N := some 5) (v := ?_) (a' := ?_) (bm 8 127) rfl rfl (any_of HT_.out (by kernel_rfl)) (fun _ _ _ h => h) (Or.inl ⟨by rfl, ?_⟩) ?_ ?_
           rotate_left
           ·intro w'
            go_simp
            with_reducible rfl
           rotate_left
           ·simp only [Act.put, sA, sZ, sS, i64_w, i32_w]
            rfl
           refine pure_ (i := 7) (N := some 6) (v := ?_) (a' := ?_) (bm 8 255) rfl rfl (any_of HT_.out (by kernel_rfl)) (fun _ _ _ h => h) (Or.inl ⟨by rfl, ?_⟩) ?_ ?_
           rotate_left
           ·intro w'
            go_simp
            with_reducible rfl
           rotate_left
           ·simp only [Act.put, sA, sZ, sS, i64_w, i32_w]
            rfl
           refine done_ (done_of HT_.out (by kernel_rfl)) ?_
           try go_wp2
           refine bodyPost_ret (results_ctt rfl _ _ gb205 61 #[.int .i64 t208, .int .i64 (wrap64 (t209 + (ji41))), .int .i64 t210, .slice (some ⟨go45, oo45, none⟩) t211.length co27] (0, 0) _ rfl (by (with_reducible repeat (first | refine bN ?_ _ | refine bD ?_ | refine bA ?_ _)); refine blk_put (cs := #[.int .i64 t208, .int .i64 (wrap64 (t209 + (ji41))), .int .i64 t210, .slice none 0 0]) ?_ 3 _ rfl; (with_reducible repeat (first | refine bN ?_ _ | refine bD ?_ | refine bA ?_ _)); refine blk_put (cs := #[.int .i64 t208, .int .i64 (wrap64 (t209 + (ji41))), .int .i64 0, .slice none 0 0]) ?_ 2 _ rfl; (with_reducible repeat (first | refine bN ?_ _ | refine bD ?_ | refine bA ?_ _)); refine blk_put (cs := #[.int .i64 t208, .int .i64 0, .int .i64 0, .slice none 0 0]) ?_ 1 _ rfl; (with_reducible repeat (first | refine bN ?_ _ | refine bD ?_ | refine bA ?_ _)); refine blk_put (cs := #[.int .i64 0, .int .i64 0, .int .i64 0, .slice none 0 0]) ?_ 0 _ rfl; (with_reducible repeat (first | refine bN ?_ _ | refine bD ?_ | refine bA ?_ _)); exact BK205.out) Try.underlying61 rfl (by kernel_rfl)) rfl ?_
           exact ⟨_, by first | rfl | (simp [errW_none, errW_some] <;> rfl) | (simp only [← hji41]; first | rfl | (simp [errW_none, errW_some] <;> rfl)) | (simp [*, errW_none, errW_some] <;> rfl), by (with_reducible repeat (first | apply Kd.Q_alloc | apply Kd.Q_drewN | apply Kd.Q_drew)); exact Kd.Q_mono (Kd.Q_far (p := ⟨gb205, 3, none⟩) (Kd.Q_far (p := ⟨gb205, 2, none⟩) (Kd.Q_far (p := ⟨gb205, 1, none⟩) (Kd.Q_far (p := ⟨gb205, 0, none⟩) (Kd.Q_types HO_215003.out BK205.out (by decide)) (fun _ hk => hk.2) (.int .i64 t208)) (fun _ hk => hk.2) (.int .i64 (wrap64 (t209 + (ji41))))) (fun _ hk => hk.2) (.int .i64 t210)) (fun _ hk => hk.2) (.slice (some ⟨go45, oo45, none⟩) t211.length co27)) (fun _ hk => trivial), by repeat (first | (with_reducible first | exact HB.out | apply below_alloc | apply pw_below_drewN | apply below_drew1 | refine below_set ?_ GE204.out | refine below_set ?_ GE205.out | refine below_set ?_ GE214.out | refine below_set ?_ GE217.out) | exact HB.out)⟩
          ·rw [if_neg c44] at H
           exact absurd H (by simp)
         ·rw [if_neg c43] at H
          exact absurd H (by simp)
        ·rw [if_neg c42] at H
         have c42b0 : decide ((ji41) < (((rd_T177 t211 0).f1).size : Int)) = false := decide_eq_false c42
         clear c42
         by_cases c66 : 1 ≤ (t211.length : Int)
         ·rw [if_pos c66] at H
          have c66b0 := eq_true c66
          have c66b1 : decide (1 ≤ (t211.length : Int)) = true := decide_eq_true c66
          clear c66
          obtain ⟨y219, hy219⟩ : ∃ y_ : List (S177), y_ = (t211.drop (1 : Int).toNat) := ⟨_, rfl⟩
          replace H : (if 0 ≤ (ji41) then (if (ji41) ≤ (((rd_T177 t211 0).f1).size : Int) then (some (t208, wrap64 (t209 + (ji41)), t210, y219, ((rd_T177 t211 0).f1).extract 0 ((ji41) : Int).toNat, true)) else (none)) else (none)) = some (r1, r2, r3, r4, r5, r6) := by first | (rw [hy219]; with_reducible exact H) | (have H2_ := (Option.bind_some _ _).symm.trans H; rw [hy219]; with_reducible exact H2_) | (have H2_ := (Option.bind_some _ _).symm.trans H; with_reducible exact H2_) | with_reducible exact H | (rw [hy219]; exact H) | exact H
          have Ny219 := Aside0.mk hy219
          clear hy219
          by_cases c67 : 0 ≤ (ji41)
          ·rw [if_pos c67] at H
           have c67b0 := eq_true c67
           have c67b1 : decide (0 ≤ (ji41)) = true := decide_eq_true c67
           clear c67
           by_cases c68 : (ji41) ≤ (((rd_T177 t211 0).f1).size : Int)
           ·rw [if_pos c68] at H
            have c68b0 := eq_true c68
            have c68b1 : decide ((ji41) ≤ (((rd_T177 t211 0).f1).size : Int)) = true := decide_eq_true c68
            clear c68
            simp only [Option.some.injEq, Prod.mk.injEq] at H
            obtain ⟨rfl, rfl, rfl, rfl, rfl, rfl⟩ := H
            have hnb69 := NB214_204.out
            have hnc69 := NB204_214.out
            have hnb70 := NB214_205.out
            have hnc70 := NB205_214.out
            obtain ⟨hcz71_0, hcz71_1, hcz71_2, hcz71_3⟩ := cz4 BK214
            obtain ⟨hfz71_0, hfz71_1, hfz71_2, hfz71_3⟩ := fz4 BK214
            have p216 : 0 ≤ (0 : Int) := (by omega)
            have q216 : 0 < (t211.length : Int) := of_decide_eq_true (by first | (with_reducible assumption) | assumption)
            obtain ⟨ad216, e216, hx216_0, hx216_1⟩ := at_T177 (Kd.Q_reads' HO_215003.out).2.2 0 p216 q216
            cases e216
            have qi216 : (0 < t211.length) = True := eq_true (by omega)
            (try rw [show ((0 : Int)).toNat = 0 from rfl] at hx216_0)
            (try rw [show 0 * 2 = 0 from rfl] at hx216_0)
            (try rw [Addr.add_zero'] at hx216_0)
            (try rw [show ((0 : Int)).toNat = 0 from rfl] at hx216_1)
            (try rw [show 0 * 2 = 0 from rfl] at hx216_1)
            (try rw [Addr.add_zero'] at hx216_1)
            replace p216 := eq_true p216
            replace q216 := eq_true q216
            try go_wp2_with (first | ((with_reducible refine gate_dst (N := 8) rfl ?_); refine box_event ?hg (N := 8) ?hd (cs := #[.int .i64 0, .string (⟨#[]⟩ : ByteArray)]) (t := 177) ?hr ?_; (case hd => rfl); (case hg => rfl); (case hr => first | (go_simp; done) | (go_simp; rfl)); intro gb217 hg w72 hbox hb; have n0_ := Aside0.mk (Kd.Q_below (Kd.Q_elderB (by (with_reducible repeat (first | apply Kd.Q_alloc | apply Kd.Q_drewN | apply Kd.Q_drew)); exact HO_215003.out) gb217 (Nat.le_of_eq hg.symm)) hb); have n1_ := bX BK204 hb; have n2_ := bX BK205 hb; have n3_ := bX BK214 hb; have n4_ := bS HB hb; have n5_ := Aside0.mk (hbox); have n6_ := Aside0.mk ((by rw [hg]; exact (below_size (by repeat (first | (with_reducible first | exact HB.out | apply below_alloc | apply pw_below_drewN | apply below_drew1 | refine below_set ?_ GE204.out | refine below_set ?_ GE205.out | refine below_set ?_ GE214.out) | exact HB.out))) : w.heap.size ≤ gb217)); have n7_ := n6_; have n8_ := Aside0.mk ((by rw [hg]; exact Nat.ne_of_lt (bLt BK204) : gb204 ≠ gb217)); have n9_ := Aside0.mk ((by rw [hg]; exact Nat.ne_of_gt (bLt BK204) : gb217 ≠ gb204)); have n10_ := Aside0.mk ((by rw [hg]; exact Nat.ne_of_lt (bLt BK205) : gb205 ≠ gb217)); have n11_ := Aside0.mk ((by rw [hg]; exact Nat.ne_of_gt (bLt BK205) : gb217 ≠ gb205)); have n12_ := Aside0.mk ((by rw [hg]; exact Nat.ne_of_lt (bLt BK214) : gb214 ≠ gb217)); have n13_ := Aside0.mk ((by rw [hg]; exact Nat.ne_of_gt (bLt BK214) : gb217 ≠ gb214)); clear HO_215003; clear BK204; clear BK205; clear BK214; clear HB; have HO_215003 := n0_; have BK204 := n1_; have BK205 := n2_; have BK214 := n3_; have HB := n4_; have BK217 := n5_; have GW217 := n6_; have GE217 := n7_; have NB204_217 := n8_; have NB217_204 := n9_; have NB205_217 := n10_; have NB217_205 := n11_; have NB214_217 := n12_; have NB217_214 := n13_; clear n0_ n1_ n2_ n3_ n4_ n5_ n6_ n7_ n8_ n9_ n10_ n11_ n12_ n13_; clear hb hbox hg; have hnb73 := NB217_204.out; have hnc73 := NB204_217.out; have hnb74 := NB217_205.out; have hnc74 := NB205_217.out; have hnb75 := NB217_214.out; have hnc75 := NB214_217.out; obtain ⟨hcz76_0, hcz76_1⟩ := cz2 BK217; obtain ⟨hfz76_0, hfz76_1⟩ := fz2 BK217) | ((with_reducible refine gate_store (t := 177) (p := 8) rfl ?_); refine store_event (t := 177) (p := 8) (v := ?vo_w77) (w1 := ((w72.setCell ⟨gb217, 0, none⟩ (.int .i64 ((rd_T177 t211 0).f0))).setCell ⟨gb217, 1, none⟩ (.string ((rd_T177 t211 0).f1)))) ?hg ?ho ?hn ?hr ?_; (case ho => rfl); (case hg => rfl); (case hn => rfl); (case hr => first | (go_simp; done) | (go_simp; rfl)); intro w77 hw; have n0_ : Aside0 (Kd.Q k177 177 w77 w.heap.size (fun k_ => k_ ≠ gb217) (.slice (some ad216) t211.length co27) t211) := ⟨(by rw [hw]; exact (by (with_reducible repeat (first | apply Kd.Q_alloc | apply Kd.Q_drewN | apply Kd.Q_drew)); exact Kd.Q_mono (Kd.Q_far (p := ⟨gb217, 1, none⟩) (Kd.Q_far (p := ⟨gb217, 0, none⟩) (Kd.Q_mono HO_215003.out (fun k_ hk => (⟨hk, hk.2⟩ : _ ∧ k_ ≠ gb217))) (fun _ hk => hk.2) (.int .i64 ((rd_T177 t211 0).f0))) (fun _ hk => hk.2) (.string ((rd_T177 t211 0).f1))) (fun _ hk => hk.1.2)))⟩; have n1_ : Aside0 (w77.heap[gb204]? = some (.cells #[.int .i64 a0_0, .int .i64 a0_1, .int .i64 a0_2, .slice A0_3 l0_3.length c0_3] 61 (0, 0))) := ⟨(by rw [hw]; exact (by (with_reducible repeat (first | refine bN ?_ _ | refine bD ?_ | refine bA ?_ _)); refine blk_far ?_ NB204_217.out _; (with_reducible repeat (first | refine bN ?_ _ | refine bD ?_ | refine bA ?_ _)); refine blk_far ?_ NB204_217.out _; (with_reducible repeat (first | refine bN ?_ _ | refine bD ?_ | refine bA ?_ _)); exact BK204.out))⟩; have n2_ : Aside0 (w77.heap[gb205]? = some (.cells #[.int .i64 0, .int .i64 0, .int .i64 0, .slice none 0 0] 61 (0, 0))) := ⟨(by rw [hw]; exact (by (with_reducible repeat (first | refine bN ?_ _ | refine bD ?_ | refine bA ?_ _)); refine blk_far ?_ NB205_217.out _; (with_reducible repeat (first | refine bN ?_ _ | refine bD ?_ | refine bA ?_ _)); refine blk_far ?_ NB205_217.out _; (with_reducible repeat (first | refine bN ?_ _ | refine bD ?_ | refine bA ?_ _)); exact BK205.out))⟩; have n3_ : Aside0 (w77.heap[gb214]? = some (.cells #[.int .i64 t208, .int .i64 t209, .int .i64 t210, .slice (some ad216) t211.length co27] 61 (0, 0))) := ⟨(by rw [hw]; exact (by (with_reducible repeat (first | refine bN ?_ _ | refine bD ?_ | refine bA ?_ _)); refine blk_far ?_ NB214_217.out _; (with_reducible repeat (first | refine bN ?_ _ | refine bD ?_ | refine bA ?_ _)); refine blk_far ?_ NB214_217.out _; (with_reducible repeat (first | refine bN ?_ _ | refine bD ?_ | refine bA ?_ _)); exact BK214.out))⟩; have n4_ : Aside0 (w77.heap[gb217]? = some (.cells #[.int .i64 ((rd_T177 t211 0).f0), .string ((rd_T177 t211 0).f1)] 177 (0, 0))) := ⟨(by rw [hw]; exact (by (with_reducible repeat (first | refine bN ?_ _ | refine bD ?_ | refine bA ?_ _)); refine blk_put (cs := #[.int .i64 ((rd_T177 t211 0).f0), .string (⟨#[]⟩ : ByteArray)]) ?_ 1 _ rfl; (with_reducible repeat (first | refine bN ?_ _ | refine bD ?_ | refine bA ?_ _)); refine blk_put (cs := #[.int .i64 0, .string (⟨#[]⟩ : ByteArray)]) ?_ 0 _ rfl; (with_reducible repeat (first | refine bN ?_ _ | refine bD ?_ | refine bA ?_ _)); exact BK217.out))⟩; have n5_ : Aside0 (Below w.heap.size w w77) := ⟨(by rw [hw]; exact (by repeat (first | (with_reducible first | exact HB.out | apply below_alloc | apply pw_below_drewN | apply below_drew1 | refine below_set ?_ GE204.out | refine below_set ?_ GE205.out | refine below_set ?_ GE214.out | refine below_set ?_ GE217.out) | exact HB.out)))⟩; clear hw; clear HO_215003; clear BK204; clear BK205; clear BK214; clear BK217; clear HB; have HO_215003 := n0_; have BK204 := n1_; have BK205 := n2_; have BK214 := n3_; have BK217 := n4_; have HB := n5_; clear n0_ n1_ n2_ n3_ n4_ n5_; obtain ⟨hcz78_0, hcz78_1⟩ := cz2 BK217; obtain ⟨hfz78_0, hfz78_1⟩ := fz2 BK217; obtain ⟨hcz79_0, hcz79_1, hcz79_2, hcz79_3⟩ := cz4 BK214; obtain ⟨hfz79_0, hfz79_1, hfz79_2, hfz79_3⟩ := fz4 BK214) | ((with_reducible refine gate_store (t := 3) (p := 49) rfl ?_); refine store_event (t := 3) (p := 49) (v := ?vo_w80) (w1 := (w77.setCell ⟨gb214, 1, none⟩ (.int .i64 (wrap64 (t209 + (ji41)))))) ?hg ?ho ?hn ?hr ?_; (case ho => rfl); (case hg => rfl); (case hn => rfl); (case hr => first | (go_simp; done) | (go_simp; rfl)); intro w80 hw; have n0_ : Aside0 (Kd.Q k177 177 w80 w.heap.size (fun k_ => k_ ≠ gb217) (.slice (some ad216) t211.length co27) t211) := ⟨(by rw [hw]; exact (by (with_reducible repeat (first | apply Kd.Q_alloc | apply Kd.Q_drewN | apply Kd.Q_drew)); exact Kd.Q_mono (Kd.Q_far (p := ⟨gb214, 1, none⟩) (Kd.Q_types HO_215003.out BK214.out (by decide)) (fun _ hk => hk.2) (.int .i64 (wrap64 (t209 + (ji41))))) (fun _ hk => hk.1)))⟩; have n1_ : Aside0 (w80.heap[gb204]? = some (.cells #[.int .i64 a0_0, .int .i64 a0_1, .int .i64 a0_2, .slice A0_3 l0_3.length c0_3] 61 (0, 0))) := ⟨(by rw [hw]; exact (by (with_reducible repeat (first | refine bN ?_ _ | refine bD ?_ | refine bA ?_ _)); refine blk_far ?_ NB204_214.out _; (with_reducible repeat (first | refine bN ?_ _ | refine bD ?_ | refine bA ?_ _)); exact BK204.out))⟩; have n2_ : Aside0 (w80.heap[gb205]? = some (.cells #[.int .i64 0, .int .i64 0, .int .i64 0, .slice none 0 0] 61 (0, 0))) := ⟨(by rw [hw]; exact (by (with_reducible repeat (first | refine bN ?_ _ | refine bD ?_ | refine bA ?_ _)); refine blk_far ?_ NB205_214.out _; (with_reducible repeat (first | refine bN ?_ _ | refine bD ?_ | refine bA ?_ _)); exact BK205.out))⟩; have n3_ : Aside0 (w80.heap[gb214]? = some (.cells #[.int .i64 t208, .int .i64 (wrap64 (t209 + (ji41))), .int .i64 t210, .slice (some ad216) t211.length co27] 61 (0, 0))) := ⟨(by rw [hw]; exact (by (with_reducible repeat (first | refine bN ?_ _ | refine bD ?_ | refine bA ?_ _)); refine blk_put (cs := #[.int .i64 t208, .int .i64 t209, .int .i64 t210, .slice (some ad216) t211.length co27]) ?_ 1 _ rfl; (with_reducible repeat (first | refine bN ?_ _ | refine bD ?_ | refine bA ?_ _)); exact BK214.out))⟩; have n4_ : Aside0 (w80.heap[gb217]? = some (.cells #[.int .i64 ((rd_T177 t211 0).f0), .string ((rd_T177 t211 0).f1)] 177 (0, 0))) := ⟨(by rw [hw]; exact (by (with_reducible repeat (first | refine bN ?_ _ | refine bD ?_ | refine bA ?_ _)); refine blk_far ?_ NB217_214.out _; (with_reducible repeat (first | refine bN ?_ _ | refine bD ?_ | refine bA ?_ _)); exact BK217.out))⟩; have n5_ : Aside0 (Below w.heap.size w w80) := ⟨(by rw [hw]; exact (by repeat (first | (with_reducible first | exact HB.out | apply below_alloc | apply pw_below_drewN | apply below_drew1 | refine below_set ?_ GE204.out | refine below_set ?_ GE205.out | refine below_set ?_ GE214.out | refine below_set ?_ GE217.out) | exact HB.out)))⟩; clear hw; clear HO_215003; clear BK204; clear BK205; clear BK214; clear BK217; clear HB; have HO_215003 := n0_; have BK204 := n1_; have BK205 := n2_; have BK214 := n3_; have BK217 := n4_; have HB := n5_; clear n0_ n1_ n2_ n3_ n4_ n5_; obtain ⟨hcz81_0, hcz81_1⟩ := cz2 BK217; obtain ⟨hfz81_0, hfz81_1⟩ := fz2 BK217; obtain ⟨hcz82_0, hcz82_1, hcz82_2, hcz82_3⟩ := cz4 BK214; obtain ⟨hfz82_0, hfz82_1, hfz82_2, hfz82_3⟩ := fz4 BK214; have q83 : (1 : Int) ≤ ((t211.length : Int) : Int) := of_decide_eq_true (by first | (with_reducible assumption) | assumption); obtain ⟨i083, hi083, _, hsz83, _⟩ := info_parts info177; have hcut83 := cut_from (P := Try.prog) 59 177 .i64 Try.underlying59 hi083 2 hsz83 (some ad216) t211.length co27 1 (by omega) q83; have hr83 := Kd.Q_drop (k := (1 : Int).toNat) HO_215003.out (by omega); obtain ⟨A83, hA83⟩ : ∃ A1, A1 = (if co27 = (1 : Int).toNat then (some ad216) else ((some ad216) : Option Addr).map (·.add ((1 : Int).toNat * 2))) := ⟨_, rfl⟩; obtain ⟨c83, hc83⟩ : ∃ c1, c1 = co27 - (1 : Int).toNat := ⟨_, rfl⟩; have hy83 : y219.length = t211.length - (1 : Int).toNat := (by rw [Ny219.out, List.length_drop]); rw [← Ny219.out] at hr83; rw [← hy83, ← hA83, ← hc83] at hcut83; replace hr83 : Kd.Q k177 177 w80 w.heap.size (fun k_ => k_ ≠ gb217) (.slice A83 y219.length c83) y219 := (by rw [hA83, hc83, hy83]; exact hr83); have HE83 : Aside0 ((Value.slice A83 y219.length c83).ownBlock = (.slice (some ad216) t211.length co27 : Value).ownBlock) := ⟨by rw [hA83]; split <;> (cases ((some ad216) : Option Addr) <;> rfl)⟩; clear hy83 hi083 hsz83 HO_215003 hA83 hc83; have HO221 := Aside0.mk hr83; clear hr83; replace q83 := eq_true q83))
            have n0_ : Aside0 (Kd.Q k177 177 (w80.setCell ⟨gb214, 3, none⟩ (.slice A83 y219.length c83)) w.heap.size (fun k_ => k_ ≠ gb217) (.slice A83 y219.length c83) y219) := ⟨by (with_reducible repeat (first | apply Kd.Q_alloc | apply Kd.Q_drewN | apply Kd.Q_drew)); exact Kd.Q_mono (Kd.Q_far (p := ⟨gb214, 3, none⟩) (Kd.Q_types HO221.out BK214.out (by decide)) (fun _ hk => hk.2) (.slice A83 y219.length c83)) (fun _ hk => hk.1)⟩
            have n1_ : Aside0 ((w80.setCell ⟨gb214, 3, none⟩ (.slice A83 y219.length c83)).heap[gb204]? = some (.cells #[.int .i64 a0_0, .int .i64 a0_1, .int .i64 a0_2, .slice A0_3 l0_3.length c0_3] 61 (0, 0))) := ⟨by (with_reducible repeat (first | refine bN ?_ _ | refine bD ?_ | refine bA ?_ _)); refine blk_far ?_ NB204_214.out _; (with_reducible repeat (first | refine bN ?_ _ | refine bD ?_ | refine bA ?_ _)); exact BK204.out⟩
            have n2_ : Aside0 ((w80.setCell ⟨gb214, 3, none⟩ (.slice A83 y219.length c83)).heap[gb205]? = some (.cells #[.int .i64 0, .int .i64 0, .int .i64 0, .slice none 0 0] 61 (0, 0))) := ⟨by (with_reducible repeat (first | refine bN ?_ _ | refine bD ?_ | refine bA ?_ _)); refine blk_far ?_ NB205_214.out _; (with_reducible repeat (first | refine bN ?_ _ | refine bD ?_ | refine bA ?_ _)); exact BK205.out⟩
            have n3_ : Aside0 ((w80.setCell ⟨gb214, 3, none⟩ (.slice A83 y219.length c83)).heap[gb214]? = some (.cells #[.int .i64 t208, .int .i64 (wrap64 (t209 + (ji41))), .int .i64 t210, .slice A83 y219.length c83] 61 (0, 0))) := ⟨by (with_reducible repeat (first | refine bN ?_ _ | refine bD ?_ | refine bA ?_ _)); refine blk_put (cs := #[.int .i64 t208, .int .i64 (wrap64 (t209 + (ji41))), .int .i64 t210, .slice (some ad216) t211.length co27]) ?_ 3 _ rfl; (with_reducible repeat (first | refine bN ?_ _ | refine bD ?_ | refine bA ?_ _)); exact BK214.out⟩
            have n4_ : Aside0 ((w80.setCell ⟨gb214, 3, none⟩ (.slice A83 y219.length c83)).heap[gb217]? = some (.cells #[.int .i64 ((rd_T177 t211 0).f0), .string ((rd_T177 t211 0).f1)] 177 (0, 0))) := ⟨by (with_reducible repeat (first | refine bN ?_ _ | refine bD ?_ | refine bA ?_ _)); refine blk_far ?_ NB217_214.out _; (with_reducible repeat (first | refine bN ?_ _ | refine bD ?_ | refine bA ?_ _)); exact BK217.out⟩
            have n5_ : Aside0 (Below w.heap.size w (w80.setCell ⟨gb214, 3, none⟩ (.slice A83 y219.length c83))) := ⟨by repeat (first | (with_reducible first | exact HB.out | apply below_alloc | apply pw_below_drewN | apply below_drew1 | refine below_set ?_ GE204.out | refine below_set ?_ GE205.out | refine below_set ?_ GE214.out | refine below_set ?_ GE217.out) | exact HB.out)⟩
            (try clear HO221)
            (try clear BK204)
            (try clear BK205)
            (try clear BK214)
            (try clear BK217)
            (try clear HB)
            generalize (w80.setCell ⟨gb214, 3, none⟩ (.slice A83 y219.length c83)) = w84 at n0_ n1_ n2_ n3_ n4_ n5_ ⊢
            have HO221 := n0_
            have BK204 := n1_
            have BK205 := n2_
            have BK214 := n3_
            have BK217 := n4_
            have HB := n5_
            clear n0_ n1_ n2_ n3_ n4_ n5_
            have n0_ := Aside0.mk (Kd.Q_drew HO221.out)
            have n1_ := Aside0.mk (blk_drew BK204.out)
            have n2_ := Aside0.mk (blk_drew BK205.out)
            have n3_ := Aside0.mk (blk_drew BK214.out)
            have n4_ := Aside0.mk (blk_drew BK217.out)
            have n5_ := Aside0.mk (below_drew1 HB.out)
            clear HO221
            clear BK204
            clear BK205
            clear BK214
            clear BK217
            clear HB
            have HO221 := n0_
            have BK204 := n1_
            have BK205 := n2_
            have BK214 := n3_
            have BK217 := n4_
            have HB := n5_
            clear n0_ n1_ n2_ n3_ n4_ n5_
            refine start_ (n := 8) (S := fun w' => w'.cell? ⟨gb214, 0, none⟩ = some (.int .i64 t208) ∧ w'.cell? ⟨gb214, 1, none⟩ = some (.int .i64 (wrap64 (t209 + (ji41)))) ∧ w'.cell? ⟨gb214, 2, none⟩ = some (.int .i64 t210) ∧ w'.cell? ⟨gb214, 3, none⟩ = some (.slice A83 y219.length c83) ∧ w'.cell? ⟨gb217, 0, none⟩ = some (.int .i64 ((rd_T177 t211 0).f0)) ∧ w'.cell? ⟨gb217, 1, none⟩ = some (.string ((rd_T177 t211 0).f1))) (ds := []) (bm 8 0) (by kernel_rfl) rfl rfl (cx4 BK214 (cz2 BK217)) (fun hHeld => ?_); refine with_tabW impl_ReadSome.tab12 impl_ReadSome.bits12 (fun HT_ HW_ => ?_)
            generalize w84.drew = w85 at HO221 BK204 BK205 BK214 BK217 HB hHeld ⊢
            refine pure_ (i := 1) (N := some 72) (v := ?_) (a' := ?_) (bm 8 2) rfl rfl (any_of HT_.out (by kernel_rfl)) (fun _ _ _ h => h) (Or.inl ⟨by rfl, ?_⟩) ?_ ?_
            rotate_left
            ·intro w'
             go_simp
             with_reducible rfl
            rotate_left
            ·simp only [Act.put, sA, sZ, sS, i64_w, i32_w]
             rfl
            refine pure_ (i := 3) (N := some 74) (v := ?_) (a' := ?_) (bm 8 10) rfl rfl (any_of HT_.out (by kernel_rfl)) (fun _ _ _ h => h) (Or.inl ⟨by rfl, ?_⟩) ?_ ?_
            rotate_left
            ·intro w'
             go_simp
             with_reducible rfl
            rotate_left
            ·simp only [Act.put, sA, sZ, sS, i64_w, i32_w]
             rfl
            refine take_ (i := 0) (N := some 71) (v := ?_) (a' := ?_) (bm 8 11) rfl rfl (take_ofW HT_.out HW_.out (by kernel_rfl)) (fun _ _ _ h => h) (Or.inl ⟨by rfl, ?_⟩) hHeld ?_ ?_
            rotate_left
            ·rintro w' ⟨s0, s1, s2, s3, s4, s5⟩
             go_simp
             with_reducible rfl
            rotate_left
            ·simp only [Act.put, sA, sZ, sS, i64_w, i32_w]
             rfl
            refine take_ (i := 2) (N := some 73) (v := ?_) (a' := ?_) (bm 8 15) rfl rfl (take_ofW HT_.out HW_.out (by kernel_rfl)) (fun _ _ _ h => h) (Or.inl ⟨by rfl, ?_⟩) hHeld ?_ ?_
            rotate_left
            ·rintro w' ⟨s0, s1, s2, s3, s4, s5⟩
             go_simp
             with_reducible rfl
            rotate_left
            ·simp only [Act.put, sA, sZ, sS, i64_w, i32_w]
             rfl
            refine pure_ (i := 4) (N := some 75) (v := ?_) (a' := ?_) (bm 8 31) rfl rfl (any_of HT_.out (by kernel_rfl)) (fun _ _ _ h => h) (Or.inl ⟨by rfl, ?_⟩) ?_ ?_
            rotate_left
            ·intro w'
             go_simp
             with_reducible rfl
            rotate_left
            ·simp only [Act.put, sA, sZ, sS, i64_w, i32_w]
             rfl
            refine one_ (i := 5) (N := none) (bm 8 63) rfl rfl (one_of HT_.out (by kernel_rfl)) (by decide) (fun K hK => ?_)
            have hs86 : w85.cell? ⟨gb205, 0, none⟩ = some (.int .i64 0) := (blk_cell BK205.out 0).trans rfl
            have hfs86 := blk_frozen BK205.out 0
            have hns86_0 := NB204_205.out
            have hns86_2 := NB214_205.out
            have hns86_3 := NB217_205.out
            have hms86_0 := NB205_204.out
            have hms86_2 := NB205_214.out
            have hms86_3 := NB205_217.out
            have hs87 : w85.cell? ⟨gb205, 1, none⟩ = some (.int .i64 0) := (blk_cell BK205.out 1).trans rfl
            have hfs87 := blk_frozen BK205.out 1
            have hns87_0 := NB204_205.out
            have hns87_2 := NB214_205.out
            have hns87_3 := NB217_205.out
            have hms87_0 := NB205_204.out
            have hms87_2 := NB205_214.out
            have hms87_3 := NB205_217.out
            have hs88 : w85.cell? ⟨gb205, 2, none⟩ = some (.int .i64 0) := (blk_cell BK205.out 2).trans rfl
            have hfs88 := blk_frozen BK205.out 2
            have hns88_0 := NB204_205.out
            have hns88_2 := NB214_205.out
            have hns88_3 := NB217_205.out
            have hms88_0 := NB205_204.out
            have hms88_2 := NB205_214.out
            have hms88_3 := NB205_217.out
            have hs89 : w85.cell? ⟨gb205, 3, none⟩ = some (.slice none 0 0) := (blk_cell BK205.out 3).trans rfl
            have hfs89 := blk_frozen BK205.out 3
            have hns89_0 := NB204_205.out
            have hns89_2 := NB214_205.out
            have hns89_3 := NB217_205.out
            have hms89_0 := NB205_204.out
            have hms89_2 := NB205_214.out
            have hms89_3 := NB205_217.out
            refine skip_ (w1 := ?_) (by rfl) rfl ?_ ?_
            rotate_left
            ·go_simp
             rfl
            refine hK.out _ _ ⟨((cell_far (p := ⟨gb205, _, none⟩) NB214_205.out _).trans (((cell_far (p := ⟨gb205, _, none⟩) NB214_205.out _).trans (((cell_far (p := ⟨gb205, _, none⟩) NB214_205.out _).trans (((cell_far (p := ⟨gb205, _, none⟩) NB214_205.out _).trans (hHeld.1)))))))), ((cell_far (p := ⟨gb205, _, none⟩) NB214_205.out _).trans (((cell_far (p := ⟨gb205, _, none⟩) NB214_205.out _).trans (((cell_far (p := ⟨gb205, _, none⟩) NB214_205.out _).trans (((cell_far (p := ⟨gb205, _, none⟩) NB214_205.out _).trans (hHeld.2.1)))))))), ((cell_far (p := ⟨gb205, _, none⟩) NB214_205.out _).trans (((cell_far (p := ⟨gb205, _, none⟩) NB214_205.out _).trans (((cell_far (p := ⟨gb205, _, none⟩) NB214_205.out _).trans (((cell_far (p := ⟨gb205, _, none⟩) NB214_205.out _).trans (hHeld.2.2.1)))))))), ((cell_far (p := ⟨gb205, _, none⟩) NB214_205.out _).trans (((cell_far (p := ⟨gb205, _, none⟩) NB214_205.out _).trans (((cell_far (p := ⟨gb205, _, none⟩) NB214_205.out _).trans (((cell_far (p := ⟨gb205, _, none⟩) NB214_205.out _).trans (hHeld.2.2.2.1)))))))), ((cell_far (p := ⟨gb205, _, none⟩) NB217_205.out _).trans (((cell_far (p := ⟨gb205, _, none⟩) NB217_205.out _).trans (((cell_far (p := ⟨gb205, _, none⟩) NB217_205.out _).trans (((cell_far (p := ⟨gb205, _, none⟩) NB217_205.out _).trans (hHeld.2.2.2.2.1)))))))), ((cell_far (p := ⟨gb205, _, none⟩) NB217_205.out _).trans (((cell_far (p := ⟨gb205, _, none⟩) NB217_205.out _).trans (((cell_far (p := ⟨gb205, _, none⟩) NB217_205.out _).trans (((cell_far (p := ⟨gb205, _, none⟩) NB217_205.out _).trans (hHeld.2.2.2.2.2))))))))⟩ (fun hHeld => ?_)
            clear hK K
            refine pure_ (i := 6) (N := some 5) (v := ?_) (a' := ?_) (bm 8 127) rfl rfl (any_of HT_.out (by kernel_rfl)) (fun _ _ _ h => h) (Or.inl ⟨by rfl, ?_⟩) ?_ ?_
            rotate_left
            ·intro w'
             go_simp
             with_reducible rfl
            rotate_left
            ·simp only [Act.put, sA, sZ, sS, i64_w, i32_w]
             rfl
            refine pure_ (i := 7) (N := some 6) (v := ?_) (a' := ?_) (bm 8 255) rfl rfl (any_of HT_.out (by kernel_rfl)) (fun _ _ _ h => h) (Or.inl ⟨by rfl, ?_⟩) ?_ ?_
            rotate_left
            ·intro w'
             go_simp
             with_reducible rfl
            rotate_left
            ·simp only [Act.put, sA, sZ, sS, i64_w, i32_w]
             rfl
            refine done_ (done_of HT_.out (by kernel_rfl)) ?_
            try go_wp2
            refine bodyPost_ret (results_ctt rfl _ _ gb205 61 #[.int .i64 t208, .int .i64 (wrap64 (t209 + (ji41))), .int .i64 t210, .slice A83 y219.length c83] (0, 0) _ rfl (by (with_reducible repeat (first | refine bN ?_ _ | refine bD ?_ | refine bA ?_ _)); refine blk_put (cs := #[.int .i64 t208, .int .i64 (wrap64 (t209 + (ji41))), .int .i64 t210, .slice none 0 0]) ?_ 3 _ rfl; (with_reducible repeat (first | refine bN ?_ _ | refine bD ?_ | refine bA ?_ _)); refine blk_put (cs := #[.int .i64 t208, .int .i64 (wrap64 (t209 + (ji41))), .int .i64 0, .slice none 0 0]) ?_ 2 _ rfl; (with_reducible repeat (first | refine bN ?_ _ | refine bD ?_ | refine bA ?_ _)); refine blk_put (cs := #[.int .i64 t208, .int .i64 0, .int .i64 0, .slice none 0 0]) ?_ 1 _ rfl; (with_reducible repeat (first | refine bN ?_ _ | refine bD ?_ | refine bA ?_ _)); refine blk_put (cs := #[.int .i64 0, .int .i64 0, .int .i64 0, .slice none 0 0]) ?_ 0 _ rfl; (with_reducible repeat (first | refine bN ?_ _ | refine bD ?_ | refine bA ?_ _)); exact BK205.out) Try.underlying61 rfl (by kernel_rfl)) rfl ?_
            exact ⟨_, by first | rfl | (simp [errW_none, errW_some] <;> rfl) | (simp only [← hji41]; first | rfl | (simp [errW_none, errW_some] <;> rfl)) | (simp [*, errW_none, errW_some] <;> rfl), by (with_reducible repeat (first | apply Kd.Q_alloc | apply Kd.Q_drewN | apply Kd.Q_drew)); exact Kd.Q_mono (Kd.Q_far (p := ⟨gb205, 3, none⟩) (Kd.Q_far (p := ⟨gb205, 2, none⟩) (Kd.Q_far (p := ⟨gb205, 1, none⟩) (Kd.Q_far (p := ⟨gb205, 0, none⟩) (Kd.Q_types HO221.out BK205.out (by decide)) (fun _ hk => hk.2) (.int .i64 t208)) (fun _ hk => hk.2) (.int .i64 (wrap64 (t209 + (ji41))))) (fun _ hk => hk.2) (.int .i64 t210)) (fun _ hk => hk.2) (.slice A83 y219.length c83)) (fun _ hk => trivial), by repeat (first | (with_reducible first | exact HB.out | apply below_alloc | apply pw_below_drewN | apply below_drew1 | refine below_set ?_ GE204.out | refine below_set ?_ GE205.out | refine below_set ?_ GE214.out | refine below_set ?_ GE217.out) | exact HB.out)⟩
           ·rw [if_neg c68] at H
            exact absurd H (by simp)
          ·rw [if_neg c67] at H
           exact absurd H (by simp)
         ·rw [if_neg c66] at H
          exact absurd H (by simp)
       ·rw [if_neg c40] at H
        exact absurd H (by simp)

end Go.Proofs.Ythkmjfapljmmpaa.PFnExactReadSome
