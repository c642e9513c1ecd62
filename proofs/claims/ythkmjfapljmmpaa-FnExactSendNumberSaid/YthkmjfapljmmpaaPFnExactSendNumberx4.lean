-- Written by a program of this session (wip/xprint.py).
import Derived.Test.YthkmjfapljmmpaaPFnExactSendNumberx0
import Derived.Test.YthkmjfapljmmpaaPFnExactSendNumberx2
import Derived.Test.YthkmjfapljmmpaaPFnExactSendNumberx3
namespace Go.Proofs.Ythkmjfapljmmpaa.PFnExactSendNumber
open Go.RowKit Go.Proofs.YthkmjfapljmmpaaW.PrintWords Go.Proofs.YthkmjfapljmmpaaW.PrintLast Go.Proofs.YthkmjfapljmmpaaW.PrintMore
open Go.Proofs.Ythkmjfapljmmpaa.ShortK (bN bD bA sA sZ sS mR mB bX bLt bS cz2 fz2 cx2 cz3 fz3 cx3 cz4 fz4 cx4 cz5 fz5 cx5 cz6 fz6 cx6 cz7 fz7 cx7 cz8 fz8 cx8 cz9 fz9 cx9 cz10 fz10 cx10 cz11 fz11 cx11 cz12 fz12 cx12)
open Go.Proofs.Ythkmjfapljmmpaa.StoreK (bm)
attribute [local go_sem] Go.Proofs.Ythkmjfapljmmpaa.StoreK.isSome_setCell max2_int min2_int max_two min_two max_three min_three max_four min_four   -- for this text's walks alone
set_option linter.unusedVariables false
set_option linter.unusedSimpArgs false

/-! ### spec_SendNumber: function 44 -/
def spec_SendNumber.j0 : Nat → Bool → Int → List (S83) → Bool → Int → Int → Int → Int → Int → Int → Int → Option (Int × (List (S83)) × Bool × Int × Int × Int × Int × Bool)
 | 0, _, _, _, _, _, _, _, _, _, _, _ => none
 | k + 1, x38, x124000, x124001, x124002, x124003, x124004, x124005, x124006, x125000, x125001, x125002 => if x38 = true then (some (0, ([] : List (S83)), false, 0, 0, 0, 0, false)) else ((some (([] : List (S83)) : List (S83))).bind fun y131 => (if y131.length + x124001.length < 5864062014805 then ((some (y131 ++ x124001 : List (S83))).bind fun y134 => ((some (([(⟨x125000, x125001, x125002⟩ : S83)] : List (S83)) : List (S83))).bind fun y137 => (if y134.length + y137.length < 5864062014805 then ((some (y134 ++ y137 : List (S83))).bind fun y140 => ((spec_GoodSpace.f k x124000 y140 x124002 x124003 x124004 x124005 x124006).bind fun t143 => (if t143 = true then (some (x124000, y140, x124002, x124003, x124004, x124005, x124006, true)) else (some (0, ([] : List (S83)), false, 0, 0, 0, 0, false))))) else (none)))) else (none)))
def spec_SendNumber.f (k : Nat) (a0_0 : Int) (l0_1 : List (S83)) (a0_2 : Bool) (a0_3 : Int) (a0_4 : Int) (a0_5 : Int) (a0_6 : Int) (a1_0 : Int) (a1_1 : Int) (a1_2 : Int) : Option (Int × (List (S83)) × Bool × Int × Int × Int × Int × Bool) := (spec_l12Last.f a0_0 l0_1 a0_2 a0_3 a0_4 a0_5 a0_6).bind fun bt126 => ((spec_GoodSpace.f k a0_0 l0_1 a0_2 a0_3 a0_4 a0_5 a0_6).bind fun t130 => (if t130 = true then (if (l0_1.length : Int) = 60 then (spec_SendNumber.j0 k true a0_0 l0_1 a0_2 a0_3 a0_4 a0_5 a0_6 a1_0 a1_1 a1_2) else (if a1_0 ≤ bt126.1 then (spec_SendNumber.j0 k true a0_0 l0_1 a0_2 a0_3 a0_4 a0_5 a0_6 a1_0 a1_1 a1_2) else (if a1_0 ≤ a0_0 then (spec_SendNumber.j0 k true a0_0 l0_1 a0_2 a0_3 a0_4 a0_5 a0_6 a1_0 a1_1 a1_2) else (spec_SendNumber.j0 k (decide (a1_1 < bt126.2.1)) a0_0 l0_1 a0_2 a0_3 a0_4 a0_5 a0_6 a1_0 a1_1 a1_2)))) else (spec_SendNumber.j0 k true a0_0 l0_1 a0_2 a0_3 a0_4 a0_5 a0_6 a1_0 a1_1 a1_2)))
theorem spec_SendNumber.mono_l : ∀ k, (∀ y0 y1 y2 y3 y4 y5 y6 y7 y8 y9 y10, LeO (spec_SendNumber.j0 k y0 y1 y2 y3 y4 y5 y6 y7 y8 y9 y10) (spec_SendNumber.j0 (k + 1) y0 y1 y2 y3 y4 y5 y6 y7 y8 y9 y10))
 | 0 => fun _ _ _ _ _ _ _ _ _ _ _ r h => by simp [spec_SendNumber.j0] at h
 | k + 1 => by
  have ih0 := spec_SendNumber.mono_l k
  ·intro y0 y1 y2 y3 y4 y5 y6 y7 y8 y9 y10
   unfold spec_SendNumber.j0
   repeat' first
   | (with_reducible exact ih0 _ _ _ _ _ _ _ _ _ _ _)
   | (with_reducible exact spec_GoodSpace.mono _ _ _ _ _ _ _ _)
   | (with_reducible exact LeO.refl _)
   | (with_reducible exact LeO.none _)
   | (with_reducible refine LeO.ite ?_ ?_)
   | (with_reducible refine LeO.bind ?_ (fun _ => ?_))
   | exact ih0 _ _ _ _ _ _ _ _ _ _ _
   | exact spec_GoodSpace.mono _ _ _ _ _ _ _ _
   | exact LeO.none _
   | refine LeO.ite ?_ ?_
   | refine LeO.bind ?_ (fun _ => ?_)
theorem spec_SendNumber.mono : ∀ a0 a1 a2 a3 a4 a5 a6 a7 a8 a9 k, LeO (spec_SendNumber.f k a0 a1 a2 a3 a4 a5 a6 a7 a8 a9) (spec_SendNumber.f (k + 1) a0 a1 a2 a3 a4 a5 a6 a7 a8 a9) := by
 intro a0 a1 a2 a3 a4 a5 a6 a7 a8 a9 k
 have ih0 := spec_SendNumber.mono_l k
 unfold spec_SendNumber.f
 repeat' first
   | (with_reducible exact ih0 _ _ _ _ _ _ _ _ _ _ _)
   | (with_reducible exact spec_GoodSpace.mono _ _ _ _ _ _ _ _)
   | (with_reducible exact LeO.refl _)
   | (with_reducible exact LeO.none _)
   | (with_reducible refine LeO.ite ?_ ?_)
   | (with_reducible refine LeO.bind ?_ (fun _ => ?_))
   | exact ih0 _ _ _ _ _ _ _ _ _ _ _
   | exact spec_GoodSpace.mono _ _ _ _ _ _ _ _
   | exact LeO.none _
   | refine LeO.ite ?_ ?_
   | refine LeO.bind ?_ (fun _ => ?_)
def spec_SendNumber.T4 : Bool × List (List Nat × List Nat) := (true, [([], []), ([], []), ([1], [1]), ([0, 2], [0, 2]), ([], []), ([4], [4]), ([3, 5, 3], [3, 5]), ([0, 1, 2, 3, 4, 5, 6], []), ([7, 6, 6, 0, 1, 2, 3, 4, 5, 6], [6, 7])])
def spec_SendNumber.B4 : List Nat := [0, 0, 2, 7, 0, 16, 63, 127, 255]
theorem spec_SendNumber.tab4 : rtab .any (opsOf Try.f44 4) = spec_SendNumber.T4 := by kernel_rfl
theorem spec_SendNumber.bits4 : waitsOk spec_SendNumber.T4.2 spec_SendNumber.B4 = true := by kernel_rfl
set_option maxHeartbeats 64000000 in
set_option maxRecDepth 100000 in
theorem spec_SendNumber.calls (k : Nat) (a0_0 : Int) (A0_1 : Option Addr) (c0_1 : Nat) (l0_1 : List (S83)) (a0_2 : Bool) (a0_3 : Int) (a0_4 : Int) (a0_5 : Int) (a0_6 : Int) (a1_0 : Int) (a1_1 : Int) (a1_2 : Int) (r1 : Int) (r2 : List (S83)) (r3 : Bool) (r4 : Int) (r5 : Int) (r6 : Int) (r7 : Int) (r8 : Bool) (w : World) (hr0_1 : Kd.C k83 w A0_1 l0_1.length l0_1) (hc0_1 : l0_1.length ≤ c0_1) (h : spec_SendNumber.f k a0_0 l0_1 a0_2 a0_3 a0_4 a0_5 a0_6 a1_0 a1_1 a1_2 = some (r1, r2, r3, r4, r5, r6, r7, r8)) :
  Calls Try.prog 44 #[.agg #[.int .i64 a0_0, .slice A0_1 l0_1.length c0_1, .bool a0_2, .int .i64 a0_3, .int .i64 a0_4, .int .i64 a0_5, .int .i64 a0_6], .agg #[.int .i64 a1_0, .int .i64 a1_1, .int .i64 a1_2]] w fun e w' => ∃ v1_ : Value, e = .returned (.tuple #[.agg #[.int .i64 r1, v1_, .bool r3, .int .i64 r4, .int .i64 r5, .int .i64 r6, .int .i64 r7], .bool r8]) ∧ Kd.R k83 83 w' w.heap.size (fun _ => True) v1_ r2 ∧ Below w.heap.size w w' := by
 have hu79 := Try.underlying79
 have hu83 := Try.underlying83
 have HR0_1 := Aside0.mk hr0_1
 have HC0_1 := Aside0.mk hc0_1
 clear hr0_1 hc0_1
 have HB := Aside0.mk (Below.refl w.heap.size w)
 have H : ((spec_l12Last.f a0_0 l0_1 a0_2 a0_3 a0_4 a0_5 a0_6).bind fun bt126 => ((spec_GoodSpace.f k a0_0 l0_1 a0_2 a0_3 a0_4 a0_5 a0_6).bind fun t130 => (if t130 = true then (if (l0_1.length : Int) = 60 then (spec_SendNumber.j0 k true a0_0 l0_1 a0_2 a0_3 a0_4 a0_5 a0_6 a1_0 a1_1 a1_2) else (if a1_0 ≤ bt126.1 then (spec_SendNumber.j0 k true a0_0 l0_1 a0_2 a0_3 a0_4 a0_5 a0_6 a1_0 a1_1 a1_2) else (if a1_0 ≤ a0_0 then (spec_SendNumber.j0 k true a0_0 l0_1 a0_2 a0_3 a0_4 a0_5 a0_6 a1_0 a1_1 a1_2) else (spec_SendNumber.j0 k (decide (a1_1 < bt126.2.1)) a0_0 l0_1 a0_2 a0_3 a0_4 a0_5 a0_6 a1_0 a1_1 a1_2)))) else (spec_SendNumber.j0 k true a0_0 l0_1 a0_2 a0_3 a0_4 a0_5 a0_6 a1_0 a1_1 a1_2)))) = some (r1, r2, r3, r4, r5, r6, r7, r8) := h
 clear h
 replace H := Option.bind_eq_some_iff.mp H
 obtain ⟨⟨t126, t127, t128⟩, A30, H⟩ := H
 replace H : ((spec_GoodSpace.f k a0_0 l0_1 a0_2 a0_3 a0_4 a0_5 a0_6).bind fun t130 => (if t130 = true then (if (l0_1.length : Int) = 60 then (spec_SendNumber.j0 k true a0_0 l0_1 a0_2 a0_3 a0_4 a0_5 a0_6 a1_0 a1_1 a1_2) else (if a1_0 ≤ t126 then (spec_SendNumber.j0 k true a0_0 l0_1 a0_2 a0_3 a0_4 a0_5 a0_6 a1_0 a1_1 a1_2) else (if a1_0 ≤ a0_0 then (spec_SendNumber.j0 k true a0_0 l0_1 a0_2 a0_3 a0_4 a0_5 a0_6 a1_0 a1_1 a1_2) else (spec_SendNumber.j0 k (decide (a1_1 < t127)) a0_0 l0_1 a0_2 a0_3 a0_4 a0_5 a0_6 a1_0 a1_1 a1_2)))) else (spec_SendNumber.j0 k true a0_0 l0_1 a0_2 a0_3 a0_4 a0_5 a0_6 a1_0 a1_1 a1_2))) = some (r1, r2, r3, r4, r5, r6, r7, r8) := H
 have A3 := Aside0.mk A30
 clear A30
 have HC4 := Aside0.mk H
 clear H
 go_enter Try.func44, Try.ntmps44
 go_upto_region 2 with (first | ((with_reducible refine gate_dst (N := 2) rfl ?_); (try (refine gate_guard (by rfl) ?_; dsimp only)); refine box_event ?hg (N := 2) ?hd (cs := #[.int .i64 a0_0, .slice A0_1 l0_1.length c0_1, .bool a0_2, .int .i64 a0_3, .int .i64 a0_4, .int .i64 a0_5, .int .i64 a0_6]) (t := 79) ?hr ?_; (case hd => rfl); (case hg => rfl); (case hr => first | (go_simp; done) | (go_simp; rfl)); intro gb123 hg w5 hbox hb; have n0_ := bS HB hb; have n1_ := Aside0.mk (hbox); have n2_ := Aside0.mk ((by rw [hg]; exact (below_size (by repeat (first | (with_reducible first | exact HB.out | apply below_alloc | apply pw_below_drewN | apply below_drew1) | exact HB.out))) : w.heap.size ≤ gb123)); have n3_ := n2_; clear HB; have HB := n0_; have BK123 := n1_; have GW123 := n2_; have GE123 := n3_; clear n0_ n1_ n2_ n3_; clear hb hbox hg) | ((with_reducible refine gate_dst (N := 3) rfl ?_); (try (refine gate_guard (by rfl) ?_; dsimp only)); refine box_event ?hg (N := 3) ?hd (cs := #[.int .i64 a1_0, .int .i64 a1_1, .int .i64 a1_2]) (t := 83) ?hr ?_; (case hd => rfl); (case hg => rfl); (case hr => first | (go_simp; done) | (go_simp; rfl)); intro gb124 hg w6 hbox hb; have n0_ := bX BK123 hb; have n1_ := bS HB hb; have n2_ := Aside0.mk (hbox); have n3_ := Aside0.mk ((by rw [hg]; exact (below_size (by repeat (first | (with_reducible first | exact HB.out | apply below_alloc | apply pw_below_drewN | apply below_drew1 | refine below_set ?_ GE123.out) | exact HB.out))) : w.heap.size ≤ gb124)); have n4_ := n3_; have n5_ := Aside0.mk ((by rw [hg]; exact Nat.ne_of_lt (bLt BK123) : gb123 ≠ gb124)); have n6_ := Aside0.mk ((by rw [hg]; exact Nat.ne_of_gt (bLt BK123) : gb124 ≠ gb123)); clear BK123; clear HB; have BK123 := n0_; have HB := n1_; have BK124 := n2_; have GW124 := n3_; have GE124 := n4_; have NB123_124 := n5_; have NB124_123 := n6_; clear n0_ n1_ n2_ n3_ n4_ n5_ n6_; clear hb hbox hg) | ((with_reducible refine gate_dst (N := 4) rfl ?_); (try (refine gate_guard (by rfl) ?_; dsimp only)); refine box_event ?hg (N := 4) ?hd (cs := #[.int .i64 0, .slice none 0 0, .bool false, .int .i64 0, .int .i64 0, .int .i64 0, .int .i64 0]) (t := 79) ?hr ?_; (case hd => rfl); (case hg => rfl); (case hr => first | (go_simp; done) | (go_simp; rfl)); intro gb125 hg w7 hbox hb; have n0_ := bX BK123 hb; have n1_ := bX BK124 hb; have n2_ := bS HB hb; have n3_ := Aside0.mk (hbox); have n4_ := Aside0.mk ((by rw [hg]; exact (below_size (by repeat (first | (with_reducible first | exact HB.out | apply below_alloc | apply pw_below_drewN | apply below_drew1 | refine below_set ?_ GE123.out | refine below_set ?_ GE124.out) | exact HB.out))) : w.heap.size ≤ gb125)); have n5_ := n4_; have n6_ := Aside0.mk ((by rw [hg]; exact Nat.ne_of_lt (bLt BK123) : gb123 ≠ gb125)); have n7_ := Aside0.mk ((by rw [hg]; exact Nat.ne_of_gt (bLt BK123) : gb125 ≠ gb123)); have n8_ := Aside0.mk ((by rw [hg]; exact Nat.ne_of_lt (bLt BK124) : gb124 ≠ gb125)); have n9_ := Aside0.mk ((by rw [hg]; exact Nat.ne_of_gt (bLt BK124) : gb125 ≠ gb124)); clear BK123; clear BK124; clear HB; have BK123 := n0_; have BK124 := n1_; have HB := n2_; have BK125 := n3_; have GW125 := n4_; have GE125 := n5_; have NB123_125 := n6_; have NB125_123 := n7_; have NB124_125 := n8_; have NB125_124 := n9_; clear n0_ n1_ n2_ n3_ n4_ n5_ n6_ n7_ n8_ n9_; clear hb hbox hg; have hnb8 := NB123_124.out; have hnc8 := NB124_123.out; have hnb9 := NB123_125.out; have hnc9 := NB125_123.out; obtain ⟨hcz10_0, hcz10_1, hcz10_2, hcz10_3, hcz10_4, hcz10_5, hcz10_6⟩ := cz7 BK123; obtain ⟨hfz10_0, hfz10_1, hfz10_2, hfz10_3, hfz10_4, hfz10_5, hfz10_6⟩ := fz7 BK123) | ((with_reducible refine gate_callee (f := 117) rfl ?_); refine goesL_ (some 8) rfl rfl Try.func117 (by kernel_rfl) rfl #[.agg #[.int .i64 a0_0, .slice A0_1 l0_1.length c0_1, .bool a0_2, .int .i64 a0_3, .int .i64 a0_4, .int .i64 a0_5, .int .i64 a0_6]] rfl (by (try simp only [List.map_toArray, List.map_cons, List.map_nil]); first | done | rfl | (simp only [List.length_drop, List.length_take]; rfl)) ?_; (with_reducible refine (spec_l12Last.calls a0_0 _ _ l0_1 a0_2 a0_3 a0_4 a0_5 a0_6 t126 t127 t128 _ ?side1 ?side2 A3.out).mono ?_); (case side1 => repeat (first | exact (Kd.C_below HR0_1.out HB.out) | (with_reducible refine Kd.C_alloc ?_ _) | (with_reducible refine Kd.C_drewN ?_ _) | (with_reducible refine Kd.C_drew ?_))); (case side2 => exact HC0_1.out); rintro e w11 ⟨rfl, hb⟩; refine ⟨_, rfl, ?_⟩; have n0_ := bX BK123 hb; have n1_ := bX BK124 hb; have n2_ := bX BK125 hb; have n3_ := bS HB hb; clear BK123; clear BK124; clear BK125; clear HB; have BK123 := n0_; have BK124 := n1_; have BK125 := n2_; have HB := n3_; clear n0_ n1_ n2_ n3_; (try clear hb); (try clear hb2); (try clear hk); (try clear hi)) | ((with_reducible refine gate_dst (N := 6) rfl ?_); (try (refine gate_guard (by rfl) ?_; dsimp only)); refine box_event ?hg (N := 6) ?hd (cs := #[.int .i64 0, .int .i64 0, .int .i64 0]) (t := 83) ?hr ?_; (case hd => rfl); (case hg => rfl); (case hr => first | (go_simp; done) | (go_simp; rfl)); intro gb129 hg w12 hbox hb; have n0_ := bX BK123 hb; have n1_ := bX BK124 hb; have n2_ := bX BK125 hb; have n3_ := bS HB hb; have n4_ := Aside0.mk (hbox); have n5_ := Aside0.mk ((by rw [hg]; exact (below_size (by repeat (first | (with_reducible first | exact HB.out | apply below_alloc | apply pw_below_drewN | apply below_drew1 | refine below_set ?_ GE123.out | refine below_set ?_ GE124.out | refine below_set ?_ GE125.out) | exact HB.out))) : w.heap.size ≤ gb129)); have n6_ := n5_; have n7_ := Aside0.mk ((by rw [hg]; exact Nat.ne_of_lt (bLt BK123) : gb123 ≠ gb129)); have n8_ := Aside0.mk ((by rw [hg]; exact Nat.ne_of_gt (bLt BK123) : gb129 ≠ gb123)); have n9_ := Aside0.mk ((by rw [hg]; exact Nat.ne_of_lt (bLt BK124) : gb124 ≠ gb129)); have n10_ := Aside0.mk ((by rw [hg]; exact Nat.ne_of_gt (bLt BK124) : gb129 ≠ gb124)); have n11_ := Aside0.mk ((by rw [hg]; exact Nat.ne_of_lt (bLt BK125) : gb125 ≠ gb129)); have n12_ := Aside0.mk ((by rw [hg]; exact Nat.ne_of_gt (bLt BK125) : gb129 ≠ gb125)); clear BK123; clear BK124; clear BK125; clear HB; have BK123 := n0_; have BK124 := n1_; have BK125 := n2_; have HB := n3_; have BK129 := n4_; have GW129 := n5_; have GE129 := n6_; have NB123_129 := n7_; have NB129_123 := n8_; have NB124_129 := n9_; have NB129_124 := n10_; have NB125_129 := n11_; have NB129_125 := n12_; clear n0_ n1_ n2_ n3_ n4_ n5_ n6_ n7_ n8_ n9_ n10_ n11_ n12_; clear hb hbox hg; have hnb13 := NB129_123.out; have hnc13 := NB123_129.out; have hnb14 := NB129_124.out; have hnc14 := NB124_129.out; have hnb15 := NB129_125.out; have hnc15 := NB125_129.out; obtain ⟨hcz16_0, hcz16_1, hcz16_2⟩ := cz3 BK129; obtain ⟨hfz16_0, hfz16_1, hfz16_2⟩ := fz3 BK129))
 (try simp only [Act.put, sA, sZ, sS])
 go_cut [38] (fun v38 wc => ∃ (kq : Nat) (x38_3 : Bool), v38 = .bool x38_3 ∧ Aside0 (spec_SendNumber.j0 kq x38_3 a0_0 l0_1 a0_2 a0_3 a0_4 a0_5 a0_6 a1_0 a1_1 a1_2 = some (r1, r2, r3, r4, r5, r6, r7, r8)) ∧ Aside0 (kq ≤ k) ∧ Aside0 (wc.heap[gb123]? = some (.cells #[.int .i64 a0_0, (.slice A0_1 l0_1.length c0_1), .bool a0_2, .int .i64 a0_3, .int .i64 a0_4, .int .i64 a0_5, .int .i64 a0_6] 79 (0, 0))) ∧ Aside0 (wc.heap[gb124]? = some (.cells #[.int .i64 a1_0, .int .i64 a1_1, .int .i64 a1_2] 83 (0, 0))) ∧ Aside0 (wc.heap[gb125]? = some (.cells #[.int .i64 0, (.slice none 0 0), .bool false, .int .i64 0, .int .i64 0, .int .i64 0, .int .i64 0] 79 (0, 0))) ∧ Aside0 (wc.heap[gb129]? = some (.cells #[.int .i64 t126, .int .i64 t127, .int .i64 t128] 83 (0, 0))) ∧ Aside0 (Below w.heap.size w wc))
 case first =>
  have H := HC4.out
  clear HC4
  replace H := Option.bind_eq_some_iff.mp H
  obtain ⟨t130, A170, H⟩ := H
  replace H : (if t130 = true then (if (l0_1.length : Int) = 60 then (spec_SendNumber.j0 k true a0_0 l0_1 a0_2 a0_3 a0_4 a0_5 a0_6 a1_0 a1_1 a1_2) else (if a1_0 ≤ t126 then (spec_SendNumber.j0 k true a0_0 l0_1 a0_2 a0_3 a0_4 a0_5 a0_6 a1_0 a1_1 a1_2) else (if a1_0 ≤ a0_0 then (spec_SendNumber.j0 k true a0_0 l0_1 a0_2 a0_3 a0_4 a0_5 a0_6 a1_0 a1_1 a1_2) else (spec_SendNumber.j0 k (decide (a1_1 < t127)) a0_0 l0_1 a0_2 a0_3 a0_4 a0_5 a0_6 a1_0 a1_1 a1_2)))) else (spec_SendNumber.j0 k true a0_0 l0_1 a0_2 a0_3 a0_4 a0_5 a0_6 a1_0 a1_1 a1_2)) = some (r1, r2, r3, r4, r5, r6, r7, r8) := H
  have A17 := Aside0.mk A170
  clear A170
  by_cases c18 : t130 = true
  ·subst c18
   have H1 : (if (l0_1.length : Int) = 60 then (spec_SendNumber.j0 k true a0_0 l0_1 a0_2 a0_3 a0_4 a0_5 a0_6 a1_0 a1_1 a1_2) else (if a1_0 ≤ t126 then (spec_SendNumber.j0 k true a0_0 l0_1 a0_2 a0_3 a0_4 a0_5 a0_6 a1_0 a1_1 a1_2) else (if a1_0 ≤ a0_0 then (spec_SendNumber.j0 k true a0_0 l0_1 a0_2 a0_3 a0_4 a0_5 a0_6 a1_0 a1_1 a1_2) else (spec_SendNumber.j0 k (decide (a1_1 < t127)) a0_0 l0_1 a0_2 a0_3 a0_4 a0_5 a0_6 a1_0 a1_1 a1_2)))) = some (r1, r2, r3, r4, r5, r6, r7, r8) := by rw [if_pos rfl] at H; exact H
   clear H
   have H := H1
   clear H1
   by_cases c19 : (l0_1.length : Int) = 60
   ·rw [if_pos c19] at H
    have c19b0 : ((l0_1.length : Int) == 60) = true := beq_iff_eq.mpr c19
    have c19b1 : ((l0_1.length : Int) != 60) = false := bne_eq_false_iff_eq.mpr c19
    clear c19
    (first | rw [c19b0] | (simp only [i64_w, i32_w]; rw [c19b0]) | skip)
    have H' := Aside0.mk H
    clear H
    have hnb20 := NB123_124.out
    have hnc20 := NB124_123.out
    have hnb21 := NB123_125.out
    have hnc21 := NB125_123.out
    have hnb22 := NB123_129.out
    have hnc22 := NB129_123.out
    obtain ⟨hcz23_0, hcz23_1, hcz23_2, hcz23_3, hcz23_4, hcz23_5, hcz23_6⟩ := cz7 BK123
    obtain ⟨hfz23_0, hfz23_1, hfz23_2, hfz23_3, hfz23_4, hfz23_5, hfz23_6⟩ := fz7 BK123
    go_wp2_with (first | ((with_reducible refine gate_callee (f := 118) rfl ?_); refine goesL_ (some 10) rfl rfl Try.func118 (by kernel_rfl) rfl #[.agg #[.int .i64 a0_0, .slice A0_1 l0_1.length c0_1, .bool a0_2, .int .i64 a0_3, .int .i64 a0_4, .int .i64 a0_5, .int .i64 a0_6]] rfl (by (try simp only [List.map_toArray, List.map_cons, List.map_nil]); first | done | rfl | (simp only [List.length_drop, List.length_take]; rfl)) ?_; (with_reducible refine (spec_GoodSpace.calls k a0_0 _ _ l0_1 a0_2 a0_3 a0_4 a0_5 a0_6 true _ ?side1 ?side2 A17.out).mono ?_); (case side1 => exact Kd.C_below HR0_1.out (by repeat (first | (with_reducible first | exact HB.out | apply below_alloc | apply pw_below_drewN | apply below_drew1 | refine below_set ?_ GE123.out | refine below_set ?_ GE124.out | refine below_set ?_ GE125.out | refine below_set ?_ GE129.out) | exact HB.out))); (case side2 => exact HC0_1.out); rintro e w24 ⟨rfl, hb⟩; refine ⟨_, rfl, ?_⟩; have n0_ := Aside0.mk (blk_below (g := gb123) (o := .cells #[.int .i64 a0_0, .slice A0_1 l0_1.length c0_1, .bool a0_2, .int .i64 a0_3, .int .i64 a0_4, .int .i64 a0_5, .int .i64 a0_6] 79 (0, 0)) (by (with_reducible repeat (first | refine bN ?_ _ | refine bD ?_ | refine bA ?_ _)); refine blk_far ?_ NB123_129.out _; (with_reducible repeat (first | refine bN ?_ _ | refine bD ?_ | refine bA ?_ _)); refine blk_far ?_ NB123_129.out _; (with_reducible repeat (first | refine bN ?_ _ | refine bD ?_ | refine bA ?_ _)); refine blk_far ?_ NB123_129.out _; (with_reducible repeat (first | refine bN ?_ _ | refine bD ?_ | refine bA ?_ _)); exact BK123.out) hb); have n1_ := Aside0.mk (blk_below (g := gb124) (o := .cells #[.int .i64 a1_0, .int .i64 a1_1, .int .i64 a1_2] 83 (0, 0)) (by (with_reducible repeat (first | refine bN ?_ _ | refine bD ?_ | refine bA ?_ _)); refine blk_far ?_ NB124_129.out _; (with_reducible repeat (first | refine bN ?_ _ | refine bD ?_ | refine bA ?_ _)); refine blk_far ?_ NB124_129.out _; (with_reducible repeat (first | refine bN ?_ _ | refine bD ?_ | refine bA ?_ _)); refine blk_far ?_ NB124_129.out _; (with_reducible repeat (first | refine bN ?_ _ | refine bD ?_ | refine bA ?_ _)); exact BK124.out) hb); have n2_ := Aside0.mk (blk_below (g := gb125) (o := .cells #[.int .i64 0, .slice none 0 0, .bool false, .int .i64 0, .int .i64 0, .int .i64 0, .int .i64 0] 79 (0, 0)) (by (with_reducible repeat (first | refine bN ?_ _ | refine bD ?_ | refine bA ?_ _)); refine blk_far ?_ NB125_129.out _; (with_reducible repeat (first | refine bN ?_ _ | refine bD ?_ | refine bA ?_ _)); refine blk_far ?_ NB125_129.out _; (with_reducible repeat (first | refine bN ?_ _ | refine bD ?_ | refine bA ?_ _)); refine blk_far ?_ NB125_129.out _; (with_reducible repeat (first | refine bN ?_ _ | refine bD ?_ | refine bA ?_ _)); exact BK125.out) hb); have n3_ := Aside0.mk (blk_below (g := gb129) (o := .cells #[.int .i64 t126, .int .i64 t127, .int .i64 t128] 83 (0, 0)) (by (with_reducible repeat (first | refine bN ?_ _ | refine bD ?_ | refine bA ?_ _)); refine blk_put (cs := #[.int .i64 t126, .int .i64 t127, .int .i64 0]) ?_ 2 _ rfl; (with_reducible repeat (first | refine bN ?_ _ | refine bD ?_ | refine bA ?_ _)); refine blk_put (cs := #[.int .i64 t126, .int .i64 0, .int .i64 0]) ?_ 1 _ rfl; (with_reducible repeat (first | refine bN ?_ _ | refine bD ?_ | refine bA ?_ _)); refine blk_put (cs := #[.int .i64 0, .int .i64 0, .int .i64 0]) ?_ 0 _ rfl; (with_reducible repeat (first | refine bN ?_ _ | refine bD ?_ | refine bA ?_ _)); exact BK129.out) hb); have n4_ := bS HB hb; clear BK123; clear BK124; clear BK125; clear BK129; clear HB; have BK123 := n0_; have BK124 := n1_; have BK125 := n2_; have BK129 := n3_; have HB := n4_; clear n0_ n1_ n2_ n3_ n4_; (try clear hb); (try clear hb2); (try clear hk); (try clear hi); obtain ⟨hcz25_0, hcz25_1, hcz25_2, hcz25_3, hcz25_4, hcz25_5, hcz25_6⟩ := cz7 BK123; obtain ⟨hfz25_0, hfz25_1, hfz25_2, hfz25_3, hfz25_4, hfz25_5, hfz25_6⟩ := fz7 BK123))
    go_meet
    case rel => exact ⟨_, (true), (by first | rfl | (simp; done) | (simp [*]; done)), H', ⟨by first | omega | exact Nat.le_refl _⟩, ⟨by (with_reducible repeat (first | refine bN ?_ _ | refine bD ?_ | refine bA ?_ _)); exact BK123.out⟩, ⟨by (with_reducible repeat (first | refine bN ?_ _ | refine bD ?_ | refine bA ?_ _)); exact BK124.out⟩, ⟨by (with_reducible repeat (first | refine bN ?_ _ | refine bD ?_ | refine bA ?_ _)); exact BK125.out⟩, ⟨by (with_reducible repeat (first | refine bN ?_ _ | refine bD ?_ | refine bA ?_ _)); exact BK129.out⟩, ⟨by repeat (first | (with_reducible first | exact HB.out | apply below_alloc | apply pw_below_drewN | apply below_drew1 | refine below_set ?_ GE123.out | refine below_set ?_ GE124.out | refine below_set ?_ GE125.out | refine below_set ?_ GE129.out) | exact HB.out)⟩⟩
   ·rw [if_neg c19] at H
    have c19b0 : ((l0_1.length : Int) == 60) = false := beq_eq_false_iff_ne.mpr c19
    have c19b1 : ((l0_1.length : Int) != 60) = true := bne_iff_ne.mpr c19
    (first | rw [c19b0] | (simp only [i64_w, i32_w]; rw [c19b0]) | skip)
    by_cases c26 : a1_0 ≤ t126
    ·rw [if_pos c26] at H
     have c26b0 : decide (a1_0 ≤ t126) = true := decide_eq_true c26
     clear c26
     have H' := Aside0.mk H
     clear H
     have hnb27 := NB123_124.out
     have hnc27 := NB124_123.out
     have hnb28 := NB123_125.out
     have hnc28 := NB125_123.out
     have hnb29 := NB123_129.out
     have hnc29 := NB129_123.out
     obtain ⟨hcz30_0, hcz30_1, hcz30_2, hcz30_3, hcz30_4, hcz30_5, hcz30_6⟩ := cz7 BK123
     obtain ⟨hfz30_0, hfz30_1, hfz30_2, hfz30_3, hfz30_4, hfz30_5, hfz30_6⟩ := fz7 BK123
     go_wp2_with (first | ((with_reducible refine gate_callee (f := 118) rfl ?_); refine goesL_ (some 10) rfl rfl Try.func118 (by kernel_rfl) rfl #[.agg #[.int .i64 a0_0, .slice A0_1 l0_1.length c0_1, .bool a0_2, .int .i64 a0_3, .int .i64 a0_4, .int .i64 a0_5, .int .i64 a0_6]] rfl (by (try simp only [List.map_toArray, List.map_cons, List.map_nil]); first | done | rfl | (simp only [List.length_drop, List.length_take]; rfl)) ?_; (with_reducible refine (spec_GoodSpace.calls k a0_0 _ _ l0_1 a0_2 a0_3 a0_4 a0_5 a0_6 true _ ?side1 ?side2 A17.out).mono ?_); (case side1 => exact Kd.C_below HR0_1.out (by repeat (first | (with_reducible first | exact HB.out | apply below_alloc | apply pw_below_drewN | apply below_drew1 | refine below_set ?_ GE123.out | refine below_set ?_ GE124.out | refine below_set ?_ GE125.out | refine below_set ?_ GE129.out) | exact HB.out))); (case side2 => exact HC0_1.out); rintro e w31 ⟨rfl, hb⟩; refine ⟨_, rfl, ?_⟩; have n0_ := Aside0.mk (blk_below (g := gb123) (o := .cells #[.int .i64 a0_0, .slice A0_1 l0_1.length c0_1, .bool a0_2, .int .i64 a0_3, .int .i64 a0_4, .int .i64 a0_5, .int .i64 a0_6] 79 (0, 0)) (by (with_reducible repeat (first | refine bN ?_ _ | refine bD ?_ | refine bA ?_ _)); refine blk_far ?_ NB123_129.out _; (with_reducible repeat (first | refine bN ?_ _ | refine bD ?_ | refine bA ?_ _)); refine blk_far ?_ NB123_129.out _; (with_reducible repeat (first | refine bN ?_ _ | refine bD ?_ | refine bA ?_ _)); refine blk_far ?_ NB123_129.out _; (with_reducible repeat (first | refine bN ?_ _ | refine bD ?_ | refine bA ?_ _)); exact BK123.out) hb); have n1_ := Aside0.mk (blk_below (g := gb124) (o := .cells #[.int .i64 a1_0, .int .i64 a1_1, .int .i64 a1_2] 83 (0, 0)) (by (with_reducible repeat (first | refine bN ?_ _ | refine bD ?_ | refine bA ?_ _)); refine blk_far ?_ NB124_129.out _; (with_reducible repeat (first | refine bN ?_ _ | refine bD ?_ | refine bA ?_ _)); refine blk_far ?_ NB124_129.out _; (with_reducible repeat (first | refine bN ?_ _ | refine bD ?_ | refine bA ?_ _)); refine blk_far ?_ NB124_129.out _; (with_reducible repeat (first | refine bN ?_ _ | refine bD ?_ | refine bA ?_ _)); exact BK124.out) hb); have n2_ := Aside0.mk (blk_below (g := gb125) (o := .cells #[.int .i64 0, .slice none 0 0, .bool false, .int .i64 0, .int .i64 0, .int .i64 0, .int .i64 0] 79 (0, 0)) (by (with_reducible repeat (first | refine bN ?_ _ | refine bD ?_ | refine bA ?_ _)); refine blk_far ?_ NB125_129.out _; (with_reducible repeat (first | refine bN ?_ _ | refine bD ?_ | refine bA ?_ _)); refine blk_far ?_ NB125_129.out _; (with_reducible repeat (first | refine bN ?_ _ | refine bD ?_ | refine bA ?_ _)); refine blk_far ?_ NB125_129.out _; (with_reducible repeat (first | refine bN ?_ _ | refine bD ?_ | refine bA ?_ _)); exact BK125.out) hb); have n3_ := Aside0.mk (blk_below (g := gb129) (o := .cells #[.int .i64 t126, .int .i64 t127, .int .i64 t128] 83 (0, 0)) (by (with_reducible repeat (first | refine bN ?_ _ | refine bD ?_ | refine bA ?_ _)); refine blk_put (cs := #[.int .i64 t126, .int .i64 t127, .int .i64 0]) ?_ 2 _ rfl; (with_reducible repeat (first | refine bN ?_ _ | refine bD ?_ | refine bA ?_ _)); refine blk_put (cs := #[.int .i64 t126, .int .i64 0, .int .i64 0]) ?_ 1 _ rfl; (with_reducible repeat (first | refine bN ?_ _ | refine bD ?_ | refine bA ?_ _)); refine blk_put (cs := #[.int .i64 0, .int .i64 0, .int .i64 0]) ?_ 0 _ rfl; (with_reducible repeat (first | refine bN ?_ _ | refine bD ?_ | refine bA ?_ _)); exact BK129.out) hb); have n4_ := bS HB hb; clear BK123; clear BK124; clear BK125; clear BK129; clear HB; have BK123 := n0_; have BK124 := n1_; have BK125 := n2_; have BK129 := n3_; have HB := n4_; clear n0_ n1_ n2_ n3_ n4_; (try clear hb); (try clear hb2); (try clear hk); (try clear hi); obtain ⟨hcz32_0, hcz32_1, hcz32_2, hcz32_3, hcz32_4, hcz32_5, hcz32_6⟩ := cz7 BK123; obtain ⟨hfz32_0, hfz32_1, hfz32_2, hfz32_3, hfz32_4, hfz32_5, hfz32_6⟩ := fz7 BK123; have hnb33 := NB124_125.out; have hnc33 := NB125_124.out; have hnb34 := NB124_129.out; have hnc34 := NB129_124.out; obtain ⟨hcz35_0, hcz35_1, hcz35_2⟩ := cz3 BK124; obtain ⟨hfz35_0, hfz35_1, hfz35_2⟩ := fz3 BK124; have hnb36 := NB129_125.out; have hnc36 := NB125_129.out; obtain ⟨hcz37_0, hcz37_1, hcz37_2⟩ := cz3 BK129; obtain ⟨hfz37_0, hfz37_1, hfz37_2⟩ := fz3 BK129))
     go_meet
     case rel => exact ⟨_, (true), (by first | rfl | (simp; done) | (simp [*]; done)), H', ⟨by first | omega | exact Nat.le_refl _⟩, ⟨by (with_reducible repeat (first | refine bN ?_ _ | refine bD ?_ | refine bA ?_ _)); exact BK123.out⟩, ⟨by (with_reducible repeat (first | refine bN ?_ _ | refine bD ?_ | refine bA ?_ _)); exact BK124.out⟩, ⟨by (with_reducible repeat (first | refine bN ?_ _ | refine bD ?_ | refine bA ?_ _)); exact BK125.out⟩, ⟨by (with_reducible repeat (first | refine bN ?_ _ | refine bD ?_ | refine bA ?_ _)); exact BK129.out⟩, ⟨by repeat (first | (with_reducible first | exact HB.out | apply below_alloc | apply pw_below_drewN | apply below_drew1 | refine below_set ?_ GE123.out | refine below_set ?_ GE124.out | refine below_set ?_ GE125.out | refine below_set ?_ GE129.out) | exact HB.out)⟩⟩
    ·rw [if_neg c26] at H
     have c26b0 : decide (a1_0 ≤ t126) = false := decide_eq_false c26
     clear c26
     by_cases c38 : a1_0 ≤ a0_0
     ·rw [if_pos c38] at H
      have c38b0 : decide (a1_0 ≤ a0_0) = true := decide_eq_true c38
      clear c38
      have H' := Aside0.mk H
      clear H
      have hnb39 := NB123_124.out
      have hnc39 := NB124_123.out
      have hnb40 := NB123_125.out
      have hnc40 := NB125_123.out
      have hnb41 := NB123_129.out
      have hnc41 := NB129_123.out
      obtain ⟨hcz42_0, hcz42_1, hcz42_2, hcz42_3, hcz42_4, hcz42_5, hcz42_6⟩ := cz7 BK123
      obtain ⟨hfz42_0, hfz42_1, hfz42_2, hfz42_3, hfz42_4, hfz42_5, hfz42_6⟩ := fz7 BK123
      go_wp2_with (first | ((with_reducible refine gate_callee (f := 118) rfl ?_); refine goesL_ (some 10) rfl rfl Try.func118 (by kernel_rfl) rfl #[.agg #[.int .i64 a0_0, .slice A0_1 l0_1.length c0_1, .bool a0_2, .int .i64 a0_3, .int .i64 a0_4, .int .i64 a0_5, .int .i64 a0_6]] rfl (by (try simp only [List.map_toArray, List.map_cons, List.map_nil]); first | done | rfl | (simp only [List.length_drop, List.length_take]; rfl)) ?_; (with_reducible refine (spec_GoodSpace.calls k a0_0 _ _ l0_1 a0_2 a0_3 a0_4 a0_5 a0_6 true _ ?side1 ?side2 A17.out).mono ?_); (case side1 => exact Kd.C_below HR0_1.out (by repeat (first | (with_reducible first | exact HB.out | apply below_alloc | apply pw_below_drewN | apply below_drew1 | refine below_set ?_ GE123.out | refine below_set ?_ GE124.out | refine below_set ?_ GE125.out | refine below_set ?_ GE129.out) | exact HB.out))); (case side2 => exact HC0_1.out); rintro e w43 ⟨rfl, hb⟩; refine ⟨_, rfl, ?_⟩; have n0_ := Aside0.mk (blk_below (g := gb123) (o := .cells #[.int .i64 a0_0, .slice A0_1 l0_1.length c0_1, .bool a0_2, .int .i64 a0_3, .int .i64 a0_4, .int .i64 a0_5, .int .i64 a0_6] 79 (0, 0)) (by (with_reducible repeat (first | refine bN ?_ _ | refine bD ?_ | refine bA ?_ _)); refine blk_far ?_ NB123_129.out _; (with_reducible repeat (first | refine bN ?_ _ | refine bD ?_ | refine bA ?_ _)); refine blk_far ?_ NB123_129.out _; (with_reducible repeat (first | refine bN ?_ _ | refine bD ?_ | refine bA ?_ _)); refine blk_far ?_ NB123_129.out _; (with_reducible repeat (first | refine bN ?_ _ | refine bD ?_ | refine bA ?_ _)); exact BK123.out) hb); have n1_ := Aside0.mk (blk_below (g := gb124) (o := .cells #[.int .i64 a1_0, .int .i64 a1_1, .int .i64 a1_2] 83 (0, 0)) (by (with_reducible repeat (first | refine bN ?_ _ | refine bD ?_ | refine bA ?_ _)); refine blk_far ?_ NB124_129.out _; (with_reducible repeat (first | refine bN ?_ _ | refine bD ?_ | refine bA ?_ _)); refine blk_far ?_ NB124_129.out _; (with_reducible repeat (first | refine bN ?_ _ | refine bD ?_ | refine bA ?_ _)); refine blk_far ?_ NB124_129.out _; (with_reducible repeat (first | refine bN ?_ _ | refine bD ?_ | refine bA ?_ _)); exact BK124.out) hb); have n2_ := Aside0.mk (blk_below (g := gb125) (o := .cells #[.int .i64 0, .slice none 0 0, .bool false, .int .i64 0, .int .i64 0, .int .i64 0, .int .i64 0] 79 (0, 0)) (by (with_reducible repeat (first | refine bN ?_ _ | refine bD ?_ | refine bA ?_ _)); refine blk_far ?_ NB125_129.out _; (with_reducible repeat (first | refine bN ?_ _ | refine bD ?_ | refine bA ?_ _)); refine blk_far ?_ NB125_129.out _; (with_reducible repeat (first | refine bN ?_ _ | refine bD ?_ | refine bA ?_ _)); refine blk_far ?_ NB125_129.out _; (with_reducible repeat (first | refine bN ?_ _ | refine bD ?_ | refine bA ?_ _)); exact BK125.out) hb); have n3_ := Aside0.mk (blk_below (g := gb129) (o := .cells #[.int .i64 t126, .int .i64 t127, .int .i64 t128] 83 (0, 0)) (by (with_reducible repeat (first | refine bN ?_ _ | refine bD ?_ | refine bA ?_ _)); refine blk_put (cs := #[.int .i64 t126, .int .i64 t127, .int .i64 0]) ?_ 2 _ rfl; (with_reducible repeat (first | refine bN ?_ _ | refine bD ?_ | refine bA ?_ _)); refine blk_put (cs := #[.int .i64 t126, .int .i64 0, .int .i64 0]) ?_ 1 _ rfl; (with_reducible repeat (first | refine bN ?_ _ | refine bD ?_ | refine bA ?_ _)); refine blk_put (cs := #[.int .i64 0, .int .i64 0, .int .i64 0]) ?_ 0 _ rfl; (with_reducible repeat (first | refine bN ?_ _ | refine bD ?_ | refine bA ?_ _)); exact BK129.out) hb); have n4_ := bS HB hb; clear BK123; clear BK124; clear BK125; clear BK129; clear HB; have BK123 := n0_; have BK124 := n1_; have BK125 := n2_; have BK129 := n3_; have HB := n4_; clear n0_ n1_ n2_ n3_ n4_; (try clear hb); (try clear hb2); (try clear hk); (try clear hi); obtain ⟨hcz44_0, hcz44_1, hcz44_2, hcz44_3, hcz44_4, hcz44_5, hcz44_6⟩ := cz7 BK123; obtain ⟨hfz44_0, hfz44_1, hfz44_2, hfz44_3, hfz44_4, hfz44_5, hfz44_6⟩ := fz7 BK123; have hnb45 := NB124_125.out; have hnc45 := NB125_124.out; have hnb46 := NB124_129.out; have hnc46 := NB129_124.out; obtain ⟨hcz47_0, hcz47_1, hcz47_2⟩ := cz3 BK124; obtain ⟨hfz47_0, hfz47_1, hfz47_2⟩ := fz3 BK124; have hnb48 := NB129_125.out; have hnc48 := NB125_129.out; obtain ⟨hcz49_0, hcz49_1, hcz49_2⟩ := cz3 BK129; obtain ⟨hfz49_0, hfz49_1, hfz49_2⟩ := fz3 BK129))
      go_meet
      case rel => exact ⟨_, (true), (by first | rfl | (simp; done) | (simp [*]; done)), H', ⟨by first | omega | exact Nat.le_refl _⟩, ⟨by (with_reducible repeat (first | refine bN ?_ _ | refine bD ?_ | refine bA ?_ _)); exact BK123.out⟩, ⟨by (with_reducible repeat (first | refine bN ?_ _ | refine bD ?_ | refine bA ?_ _)); exact BK124.out⟩, ⟨by (with_reducible repeat (first | refine bN ?_ _ | refine bD ?_ | refine bA ?_ _)); exact BK125.out⟩, ⟨by (with_reducible repeat (first | refine bN ?_ _ | refine bD ?_ | refine bA ?_ _)); exact BK129.out⟩, ⟨by repeat (first | (with_reducible first | exact HB.out | apply below_alloc | apply pw_below_drewN | apply below_drew1 | refine below_set ?_ GE123.out | refine below_set ?_ GE124.out | refine below_set ?_ GE125.out | refine below_set ?_ GE129.out) | exact HB.out)⟩⟩
     ·rw [if_neg c38] at H
      have c38b0 : decide (a1_0 ≤ a0_0) = false := decide_eq_false c38
      clear c38
      have H' := Aside0.mk H
      clear H
      have hnb50 := NB123_124.out
      have hnc50 := NB124_123.out
      have hnb51 := NB123_125.out
      have hnc51 := NB125_123.out
      have hnb52 := NB123_129.out
      have hnc52 := NB129_123.out
      obtain ⟨hcz53_0, hcz53_1, hcz53_2, hcz53_3, hcz53_4, hcz53_5, hcz53_6⟩ := cz7 BK123
      obtain ⟨hfz53_0, hfz53_1, hfz53_2, hfz53_3, hfz53_4, hfz53_5, hfz53_6⟩ := fz7 BK123
      go_wp2_with (first | ((with_reducible refine gate_callee (f := 118) rfl ?_); refine goesL_ (some 10) rfl rfl Try.func118 (by kernel_rfl) rfl #[.agg #[.int .i64 a0_0, .slice A0_1 l0_1.length c0_1, .bool a0_2, .int .i64 a0_3, .int .i64 a0_4, .int .i64 a0_5, .int .i64 a0_6]] rfl (by (try simp only [List.map_toArray, List.map_cons, List.map_nil]); first | done | rfl | (simp only [List.length_drop, List.length_take]; rfl)) ?_; (with_reducible refine (spec_GoodSpace.calls k a0_0 _ _ l0_1 a0_2 a0_3 a0_4 a0_5 a0_6 true _ ?side1 ?side2 A17.out).mono ?_); (case side1 => exact Kd.C_below HR0_1.out (by repeat (first | (with_reducible first | exact HB.out | apply below_alloc | apply pw_below_drewN | apply below_drew1 | refine below_set ?_ GE123.out | refine below_set ?_ GE124.out | refine below_set ?_ GE125.out | refine below_set ?_ GE129.out) | exact HB.out))); (case side2 => exact HC0_1.out); rintro e w54 ⟨rfl, hb⟩; refine ⟨_, rfl, ?_⟩; have n0_ := Aside0.mk (blk_below (g := gb123) (o := .cells #[.int .i64 a0_0, .slice A0_1 l0_1.length c0_1, .bool a0_2, .int .i64 a0_3, .int .i64 a0_4, .int .i64 a0_5, .int .i64 a0_6] 79 (0, 0)) (by (with_reducible repeat (first | refine bN ?_ _ | refine bD ?_ | refine bA ?_ _)); refine blk_far ?_ NB123_129.out _; (with_reducible repeat (first | refine bN ?_ _ | refine bD ?_ | refine bA ?_ _)); refine blk_far ?_ NB123_129.out _; (with_reducible repeat (first | refine bN ?_ _ | refine bD ?_ | refine bA ?_ _)); refine blk_far ?_ NB123_129.out _; (with_reducible repeat (first | refine bN ?_ _ | refine bD ?_ | refine bA ?_ _)); exact BK123.out) hb); have n1_ := Aside0.mk (blk_below (g := gb124) (o := .cells #[.int .i64 a1_0, .int .i64 a1_1, .int .i64 a1_2] 83 (0, 0)) (by (with_reducible repeat (first | refine bN ?_ _ | refine bD ?_ | refine bA ?_ _)); refine blk_far ?_ NB124_129.out _; (with_reducible repeat (first | refine bN ?_ _ | refine bD ?_ | refine bA ?_ _)); refine blk_far ?_ NB124_129.out _; (with_reducible repeat (first | refine bN ?_ _ | refine bD ?_ | refine bA ?_ _)); refine blk_far ?_ NB124_129.out _; (with_reducible repeat (first | refine bN ?_ _ | refine bD ?_ | refine bA ?_ _)); exact BK124.out) hb); have n2_ := Aside0.mk (blk_below (g := gb125) (o := .cells #[.int .i64 0, .slice none 0 0, .bool false, .int .i64 0, .int .i64 0, .int .i64 0, .int .i64 0] 79 (0, 0)) (by (with_reducible repeat (first | refine bN ?_ _ | refine bD ?_ | refine bA ?_ _)); refine blk_far ?_ NB125_129.out _; (with_reducible repeat (first | refine bN ?_ _ | refine bD ?_ | refine bA ?_ _)); refine blk_far ?_ NB125_129.out _; (with_reducible repeat (first | refine bN ?_ _ | refine bD ?_ | refine bA ?_ _)); refine blk_far ?_ NB125_129.out _; (with_reducible repeat (first | refine bN ?_ _ | refine bD ?_ | refine bA ?_ _)); exact BK125.out) hb); have n3_ := Aside0.mk (blk_below (g := gb129) (o := .cells #[.int .i64 t126, .int .i64 t127, .int .i64 t128] 83 (0, 0)) (by (with_reducible repeat (first | refine bN ?_ _ | refine bD ?_ | refine bA ?_ _)); refine blk_put (cs := #[.int .i64 t126, .int .i64 t127, .int .i64 0]) ?_ 2 _ rfl; (with_reducible repeat (first | refine bN ?_ _ | refine bD ?_ | refine bA ?_ _)); refine blk_put (cs := #[.int .i64 t126, .int .i64 0, .int .i64 0]) ?_ 1 _ rfl; (with_reducible repeat (first | refine bN ?_ _ | refine bD ?_ | refine bA ?_ _)); refine blk_put (cs := #[.int .i64 0, .int .i64 0, .int .i64 0]) ?_ 0 _ rfl; (with_reducible repeat (first | refine bN ?_ _ | refine bD ?_ | refine bA ?_ _)); exact BK129.out) hb); have n4_ := bS HB hb; clear BK123; clear BK124; clear BK125; clear BK129; clear HB; have BK123 := n0_; have BK124 := n1_; have BK125 := n2_; have BK129 := n3_; have HB := n4_; clear n0_ n1_ n2_ n3_ n4_; (try clear hb); (try clear hb2); (try clear hk); (try clear hi); obtain ⟨hcz55_0, hcz55_1, hcz55_2, hcz55_3, hcz55_4, hcz55_5, hcz55_6⟩ := cz7 BK123; obtain ⟨hfz55_0, hfz55_1, hfz55_2, hfz55_3, hfz55_4, hfz55_5, hfz55_6⟩ := fz7 BK123; have hnb56 := NB124_125.out; have hnc56 := NB125_124.out; have hnb57 := NB124_129.out; have hnc57 := NB129_124.out; obtain ⟨hcz58_0, hcz58_1, hcz58_2⟩ := cz3 BK124; obtain ⟨hfz58_0, hfz58_1, hfz58_2⟩ := fz3 BK124; have hnb59 := NB129_125.out; have hnc59 := NB125_129.out; obtain ⟨hcz60_0, hcz60_1, hcz60_2⟩ := cz3 BK129; obtain ⟨hfz60_0, hfz60_1, hfz60_2⟩ := fz3 BK129))
      go_meet
      case rel => exact ⟨_, (decide (a1_1 < t127)), (by first | rfl | (simp; done) | (simp [*]; done)), H', ⟨by first | omega | exact Nat.le_refl _⟩, ⟨by (with_reducible repeat (first | refine bN ?_ _ | refine bD ?_ | refine bA ?_ _)); exact BK123.out⟩, ⟨by (with_reducible repeat (first | refine bN ?_ _ | refine bD ?_ | refine bA ?_ _)); exact BK124.out⟩, ⟨by (with_reducible repeat (first | refine bN ?_ _ | refine bD ?_ | refine bA ?_ _)); exact BK125.out⟩, ⟨by (with_reducible repeat (first | refine bN ?_ _ | refine bD ?_ | refine bA ?_ _)); exact BK129.out⟩, ⟨by repeat (first | (with_reducible first | exact HB.out | apply below_alloc | apply pw_below_drewN | apply below_drew1 | refine below_set ?_ GE123.out | refine below_set ?_ GE124.out | refine below_set ?_ GE125.out | refine below_set ?_ GE129.out) | exact HB.out)⟩⟩
  ·replace c18 := Bool.eq_false_iff.mpr c18
   subst c18
   have H1 : (spec_SendNumber.j0 k true a0_0 l0_1 a0_2 a0_3 a0_4 a0_5 a0_6 a1_0 a1_1 a1_2) = some (r1, r2, r3, r4, r5, r6, r7, r8) := by rw [if_neg (show ¬ (false = true) by decide)] at H; exact H
   clear H
   have H := H1
   clear H1
   have H' := Aside0.mk H
   clear H
   have hnb61 := NB123_124.out
   have hnc61 := NB124_123.out
   have hnb62 := NB123_125.out
   have hnc62 := NB125_123.out
   have hnb63 := NB123_129.out
   have hnc63 := NB129_123.out
   obtain ⟨hcz64_0, hcz64_1, hcz64_2, hcz64_3, hcz64_4, hcz64_5, hcz64_6⟩ := cz7 BK123
   obtain ⟨hfz64_0, hfz64_1, hfz64_2, hfz64_3, hfz64_4, hfz64_5, hfz64_6⟩ := fz7 BK123
   go_wp2_with (first | ((with_reducible refine gate_callee (f := 118) rfl ?_); refine goesL_ (some 10) rfl rfl Try.func118 (by kernel_rfl) rfl #[.agg #[.int .i64 a0_0, .slice A0_1 l0_1.length c0_1, .bool a0_2, .int .i64 a0_3, .int .i64 a0_4, .int .i64 a0_5, .int .i64 a0_6]] rfl (by (try simp only [List.map_toArray, List.map_cons, List.map_nil]); first | done | rfl | (simp only [List.length_drop, List.length_take]; rfl)) ?_; (with_reducible refine (spec_GoodSpace.calls k a0_0 _ _ l0_1 a0_2 a0_3 a0_4 a0_5 a0_6 false _ ?side1 ?side2 A17.out).mono ?_); (case side1 => exact Kd.C_below HR0_1.out (by repeat (first | (with_reducible first | exact HB.out | apply below_alloc | apply pw_below_drewN | apply below_drew1 | refine below_set ?_ GE123.out | refine below_set ?_ GE124.out | refine below_set ?_ GE125.out | refine below_set ?_ GE129.out) | exact HB.out))); (case side2 => exact HC0_1.out); rintro e w65 ⟨rfl, hb⟩; refine ⟨_, rfl, ?_⟩; have n0_ := Aside0.mk (blk_below (g := gb123) (o := .cells #[.int .i64 a0_0, .slice A0_1 l0_1.length c0_1, .bool a0_2, .int .i64 a0_3, .int .i64 a0_4, .int .i64 a0_5, .int .i64 a0_6] 79 (0, 0)) (by (with_reducible repeat (first | refine bN ?_ _ | refine bD ?_ | refine bA ?_ _)); refine blk_far ?_ NB123_129.out _; (with_reducible repeat (first | refine bN ?_ _ | refine bD ?_ | refine bA ?_ _)); refine blk_far ?_ NB123_129.out _; (with_reducible repeat (first | refine bN ?_ _ | refine bD ?_ | refine bA ?_ _)); refine blk_far ?_ NB123_129.out _; (with_reducible repeat (first | refine bN ?_ _ | refine bD ?_ | refine bA ?_ _)); exact BK123.out) hb); have n1_ := Aside0.mk (blk_below (g := gb124) (o := .cells #[.int .i64 a1_0, .int .i64 a1_1, .int .i64 a1_2] 83 (0, 0)) (by (with_reducible repeat (first | refine bN ?_ _ | refine bD ?_ | refine bA ?_ _)); refine blk_far ?_ NB124_129.out _; (with_reducible repeat (first | refine bN ?_ _ | refine bD ?_ | refine bA ?_ _)); refine blk_far ?_ NB124_129.out _; (with_reducible repeat (first | refine bN ?_ _ | refine bD ?_ | refine bA ?_ _)); refine blk_far ?_ NB124_129.out _; (with_reducible repeat (first | refine bN ?_ _ | refine bD ?_ | refine bA ?_ _)); exact BK124.out) hb); have n2_ := Aside0.mk (blk_below (g := gb125) (o := .cells #[.int .i64 0, .slice none 0 0, .bool false, .int .i64 0, .int .i64 0, .int .i64 0, .int .i64 0] 79 (0, 0)) (by (with_reducible repeat (first | refine bN ?_ _ | refine bD ?_ | refine bA ?_ _)); refine blk_far ?_ NB125_129.out _; (with_reducible repeat (first | refine bN ?_ _ | refine bD ?_ | refine bA ?_ _)); refine blk_far ?_ NB125_129.out _; (with_reducible repeat (first | refine bN ?_ _ | refine bD ?_ | refine bA ?_ _)); refine blk_far ?_ NB125_129.out _; (with_reducible repeat (first | refine bN ?_ _ | refine bD ?_ | refine bA ?_ _)); exact BK125.out) hb); have n3_ := Aside0.mk (blk_below (g := gb129) (o := .cells #[.int .i64 t126, .int .i64 t127, .int .i64 t128] 83 (0, 0)) (by (with_reducible repeat (first | refine bN ?_ _ | refine bD ?_ | refine bA ?_ _)); refine blk_put (cs := #[.int .i64 t126, .int .i64 t127, .int .i64 0]) ?_ 2 _ rfl; (with_reducible repeat (first | refine bN ?_ _ | refine bD ?_ | refine bA ?_ _)); refine blk_put (cs := #[.int .i64 t126, .int .i64 0, .int .i64 0]) ?_ 1 _ rfl; (with_reducible repeat (first | refine bN ?_ _ | refine bD ?_ | refine bA ?_ _)); refine blk_put (cs := #[.int .i64 0, .int .i64 0, .int .i64 0]) ?_ 0 _ rfl; (with_reducible repeat (first | refine bN ?_ _ | refine bD ?_ | refine bA ?_ _)); exact BK129.out) hb); have n4_ := bS HB hb; clear BK123; clear BK124; clear BK125; clear BK129; clear HB; have BK123 := n0_; have BK124 := n1_; have BK125 := n2_; have BK129 := n3_; have HB := n4_; clear n0_ n1_ n2_ n3_ n4_; (try clear hb); (try clear hb2); (try clear hk); (try clear hi)))
   go_meet
   case rel => exact ⟨_, (true), (by first | rfl | (simp; done) | (simp [*]; done)), H', ⟨by first | omega | exact Nat.le_refl _⟩, ⟨by (with_reducible repeat (first | refine bN ?_ _ | refine bD ?_ | refine bA ?_ _)); exact BK123.out⟩, ⟨by (with_reducible repeat (first | refine bN ?_ _ | refine bD ?_ | refine bA ?_ _)); exact BK124.out⟩, ⟨by (with_reducible repeat (first | refine bN ?_ _ | refine bD ?_ | refine bA ?_ _)); exact BK125.out⟩, ⟨by (with_reducible repeat (first | refine bN ?_ _ | refine bD ?_ | refine bA ?_ _)); exact BK129.out⟩, ⟨by repeat (first | (with_reducible first | exact HB.out | apply below_alloc | apply pw_below_drewN | apply below_drew1 | refine below_set ?_ GE123.out | refine below_set ?_ GE124.out | refine below_set ?_ GE125.out | refine below_set ?_ GE129.out) | exact HB.out)⟩⟩
 case rest =>
  clear HC4
  try clear c1
  try clear c2
  try clear p2
  try clear c3
  try clear c4
  try clear c5
  try clear c6
  try clear c8
  try clear c9
  try clear c11
  try clear c13
  try clear c14
  try clear c15
  try clear c18
  try clear c19
  try clear c19b0
  try clear c19b1
  try clear c20
  try clear c21
  try clear c22
  try clear c26
  try clear c26b0
  try clear c27
  try clear c28
  try clear c29
  try clear c33
  try clear c34
  try clear c36
  try clear c38
  try clear c38b0
  try clear c39
  try clear c40
  try clear c41
  try clear c44
  try clear c45
  try clear c46
  try clear c48
  try clear c50
  try clear c51
  try clear c52
  try clear c56
  try clear c57
  try clear c59
  try clear c61
  try clear c62
  try clear c63
  try clear hcz10_0
  try clear hcz10_1
  try clear hcz10_2
  try clear hcz10_3
  try clear hcz10_4
  try clear hcz10_5
  try clear hcz10_6
  try clear hcz16_0
  try clear hcz16_1
  try clear hcz16_2
  try clear hcz23_0
  try clear hcz23_1
  try clear hcz23_2
  try clear hcz23_3
  try clear hcz23_4
  try clear hcz23_5
  try clear hcz23_6
  try clear hcz25_0
  try clear hcz25_1
  try clear hcz25_2
  try clear hcz25_3
  try clear hcz25_4
  try clear hcz25_5
  try clear hcz25_6
  try clear hcz30_0
  try clear hcz30_1
  try clear hcz30_2
  try clear hcz30_3
  try clear hcz30_4
  try clear hcz30_5
  try clear hcz30_6
  try clear hcz32_0
  try clear hcz32_1
  try clear hcz32_2
  try clear hcz32_3
  try clear hcz32_4
  try clear hcz32_5
  try clear hcz32_6
  try clear hcz35_0
  try clear hcz35_1
  try clear hcz35_2
  try clear hcz37_0
  try clear hcz37_1
  try clear hcz37_2
  try clear hcz42_0
  try clear hcz42_1
  try clear hcz42_2
  try clear hcz42_3
  try clear hcz42_4
  try clear hcz42_5
  try clear hcz42_6
  try clear hcz44_0
  try clear hcz44_1
  try clear hcz44_2
  try clear hcz44_3
  try clear hcz44_4
  try clear hcz44_5
  try clear hcz44_6
  try clear hcz47_0
  try clear hcz47_1
  try clear hcz47_2
  try clear hcz49_0
  try clear hcz49_1
  try clear hcz49_2
  try clear hcz53_0
  try clear hcz53_1
  try clear hcz53_2
  try clear hcz53_3
  try clear hcz53_4
  try clear hcz53_5
  try clear hcz53_6
  try clear hcz55_0
  try clear hcz55_1
  try clear hcz55_2
  try clear hcz55_3
  try clear hcz55_4
  try clear hcz55_5
  try clear hcz55_6
  try clear hcz58_0
  try clear hcz58_1
  try clear hcz58_2
  try clear hcz60_0
  try clear hcz60_1
  try clear hcz60_2
  try clear hcz64_0
  try clear hcz64_1
  try clear hcz64_2
  try clear hcz64_3
  try clear hcz64_4
  try clear hcz64_5
  try clear hcz64_6
  try clear hfz10_0
  try clear hfz10_1
  try clear hfz10_2
  try clear hfz10_3
  try clear hfz10_4
  try clear hfz10_5
  try clear hfz10_6
  try clear hfz16_0
  try clear hfz16_1
  try clear hfz16_2
  try clear hfz23_0
  try clear hfz23_1
  try clear hfz23_2
  try clear hfz23_3
  try clear hfz23_4
  try clear hfz23_5
  try clear hfz23_6
  try clear hfz25_0
  try clear hfz25_1
  try clear hfz25_2
  try clear hfz25_3
  try clear hfz25_4
  try clear hfz25_5
  try clear hfz25_6
  try clear hfz30_0
  try clear hfz30_1
  try clear hfz30_2
  try clear hfz30_3
  try clear hfz30_4
  try clear hfz30_5
  try clear hfz30_6
  try clear hfz32_0
  try clear hfz32_1
  try clear hfz32_2
  try clear hfz32_3
  try clear hfz32_4
  try clear hfz32_5
  try clear hfz32_6
  try clear hfz35_0
  try clear hfz35_1
  try clear hfz35_2
  try clear hfz37_0
  try clear hfz37_1
  try clear hfz37_2
  try clear hfz42_0
  try clear hfz42_1
  try clear hfz42_2
  try clear hfz42_3
  try clear hfz42_4
  try clear hfz42_5
  try clear hfz42_6
  try clear hfz44_0
  try clear hfz44_1
  try clear hfz44_2
  try clear hfz44_3
  try clear hfz44_4
  try clear hfz44_5
  try clear hfz44_6
  try clear hfz47_0
  try clear hfz47_1
  try clear hfz47_2
  try clear hfz49_0
  try clear hfz49_1
  try clear hfz49_2
  try clear hfz53_0
  try clear hfz53_1
  try clear hfz53_2
  try clear hfz53_3
  try clear hfz53_4
  try clear hfz53_5
  try clear hfz53_6
  try clear hfz55_0
  try clear hfz55_1
  try clear hfz55_2
  try clear hfz55_3
  try clear hfz55_4
  try clear hfz55_5
  try clear hfz55_6
  try clear hfz58_0
  try clear hfz58_1
  try clear hfz58_2
  try clear hfz60_0
  try clear hfz60_1
  try clear hfz60_2
  try clear hfz64_0
  try clear hfz64_1
  try clear hfz64_2
  try clear hfz64_3
  try clear hfz64_4
  try clear hfz64_5
  try clear hfz64_6
  obtain ⟨kq, x38_3, rfl, HA, HJ3, BK123, BK124, BK125, BK129, HB⟩ := hcut
  cases kq with
  | zero => exact absurd HA.out (by simp [spec_SendNumber.j0])
  | succ kj3 =>
   have H := HA.out
   clear HA
   simp only [spec_SendNumber.j0] at H
   by_cases c66 : x38_3 = true
   ·subst c66
    have H1 : (some (0, ([] : List (S83)), false, 0, 0, 0, 0, false)) = some (r1, r2, r3, r4, r5, r6, r7, r8) := by rw [if_pos rfl] at H; exact H
    clear H
    have H := H1
    clear H1
    simp only [Option.some.injEq, Prod.mk.injEq] at H
    obtain ⟨rfl, rfl, rfl, rfl, rfl, rfl, rfl, rfl⟩ := H
    have hnb67 := NB125_123.out
    have hnc67 := NB123_125.out
    have hnb68 := NB125_124.out
    have hnc68 := NB124_125.out
    have hnb69 := NB125_129.out
    have hnc69 := NB129_125.out
    obtain ⟨hcz70_0, hcz70_1, hcz70_2, hcz70_3, hcz70_4, hcz70_5, hcz70_6⟩ := cz7 BK125
    obtain ⟨hfz70_0, hfz70_1, hfz70_2, hfz70_3, hfz70_4, hfz70_5, hfz70_6⟩ := fz7 BK125
    go_wp2
    refine bodyPost_ret (results_ct rfl _ _ gb125 79 #[.int .i64 0, .slice none 0 0, .bool false, .int .i64 0, .int .i64 0, .int .i64 0, .int .i64 0] (0, 0) _ rfl (by (with_reducible repeat (first | refine bN ?_ _ | refine bD ?_ | refine bA ?_ _)); refine blk_put (cs := #[.int .i64 0, .slice none 0 0, .bool false, .int .i64 0, .int .i64 0, .int .i64 0, .int .i64 0]) ?_ 6 _ rfl; (with_reducible repeat (first | refine bN ?_ _ | refine bD ?_ | refine bA ?_ _)); refine blk_put (cs := #[.int .i64 0, .slice none 0 0, .bool false, .int .i64 0, .int .i64 0, .int .i64 0, .int .i64 0]) ?_ 5 _ rfl; (with_reducible repeat (first | refine bN ?_ _ | refine bD ?_ | refine bA ?_ _)); refine blk_put (cs := #[.int .i64 0, .slice none 0 0, .bool false, .int .i64 0, .int .i64 0, .int .i64 0, .int .i64 0]) ?_ 4 _ rfl; (with_reducible repeat (first | refine bN ?_ _ | refine bD ?_ | refine bA ?_ _)); refine blk_put (cs := #[.int .i64 0, .slice none 0 0, .bool false, .int .i64 0, .int .i64 0, .int .i64 0, .int .i64 0]) ?_ 3 _ rfl; (with_reducible repeat (first | refine bN ?_ _ | refine bD ?_ | refine bA ?_ _)); refine blk_put (cs := #[.int .i64 0, .slice none 0 0, .bool false, .int .i64 0, .int .i64 0, .int .i64 0, .int .i64 0]) ?_ 2 _ rfl; (with_reducible repeat (first | refine bN ?_ _ | refine bD ?_ | refine bA ?_ _)); refine blk_put (cs := #[.int .i64 0, .slice none 0 0, .bool false, .int .i64 0, .int .i64 0, .int .i64 0, .int .i64 0]) ?_ 1 _ rfl; (with_reducible repeat (first | refine bN ?_ _ | refine bD ?_ | refine bA ?_ _)); refine blk_put (cs := #[.int .i64 0, .slice none 0 0, .bool false, .int .i64 0, .int .i64 0, .int .i64 0, .int .i64 0]) ?_ 0 _ rfl; (with_reducible repeat (first | refine bN ?_ _ | refine bD ?_ | refine bA ?_ _)); exact BK125.out) Try.underlying79 rfl (by kernel_rfl)) rfl ?_
    exact ⟨_, by first | rfl | (simp [errW_none, errW_some] <;> rfl) | (simp [*, errW_none, errW_some] <;> rfl), by first | exact Kd.R_nil _ _ _ _ _ | exact Kd.N_nil _ _ _ _ _ | exact Kd.V_nil _ _ _ _ _ | exact Kd.Q_nil _ _ _ _ _ | exact Kd.S_nil _ _ _ _ _, by repeat (first | (with_reducible first | exact HB.out | apply below_alloc | apply pw_below_drewN | apply below_drew1 | refine below_set ?_ GE123.out | refine below_set ?_ GE124.out | refine below_set ?_ GE125.out | refine below_set ?_ GE129.out) | exact HB.out)⟩
   ·replace c66 := Bool.eq_false_iff.mpr c66
    subst c66
    have H1 : ((some (([] : List (S83)) : List (S83))).bind fun y131 => (if y131.length + l0_1.length < 5864062014805 then ((some (y131 ++ l0_1 : List (S83))).bind fun y134 => ((some (([(⟨a1_0, a1_1, a1_2⟩ : S83)] : List (S83)) : List (S83))).bind fun y137 => (if y134.length + y137.length < 5864062014805 then ((some (y134 ++ y137 : List (S83))).bind fun y140 => ((spec_GoodSpace.f kj3 a0_0 y140 a0_2 a0_3 a0_4 a0_5 a0_6).bind fun t143 => (if t143 = true then (some (a0_0, y140, a0_2, a0_3, a0_4, a0_5, a0_6, true)) else (some (0, ([] : List (S83)), false, 0, 0, 0, 0, false))))) else (none)))) else (none))) = some (r1, r2, r3, r4, r5, r6, r7, r8) := by rw [if_neg (show ¬ (false = true) by decide)] at H; exact H
    clear H
    have H := H1
    clear H1
    obtain ⟨y131, hy131⟩ : ∃ y_ : List (S83), y_ = (([] : List (S83))) := ⟨_, rfl⟩
    replace H : (if y131.length + l0_1.length < 5864062014805 then ((some (y131 ++ l0_1 : List (S83))).bind fun y134 => ((some (([(⟨a1_0, a1_1, a1_2⟩ : S83)] : List (S83)) : List (S83))).bind fun y137 => (if y134.length + y137.length < 5864062014805 then ((some (y134 ++ y137 : List (S83))).bind fun y140 => ((spec_GoodSpace.f kj3 a0_0 y140 a0_2 a0_3 a0_4 a0_5 a0_6).bind fun t143 => (if t143 = true then (some (a0_0, y140, a0_2, a0_3, a0_4, a0_5, a0_6, true)) else (some (0, ([] : List (S83)), false, 0, 0, 0, 0, false))))) else (none)))) else (none)) = some (r1, r2, r3, r4, r5, r6, r7, r8) := by first | (rw [hy131]; with_reducible exact H) | (have H2_ := (Option.bind_some _ _).symm.trans H; rw [hy131]; with_reducible exact H2_) | (have H2_ := (Option.bind_some _ _).symm.trans H; with_reducible exact H2_) | with_reducible exact H | (rw [hy131]; exact H) | exact H
    have Ny131 := Aside0.mk hy131
    clear hy131
    by_cases c71 : y131.length + l0_1.length < 5864062014805
    ·rw [if_pos c71] at H
     have LMc71 := Aside0.mk c71
     clear c71
     obtain ⟨y134, hy134⟩ : ∃ y_ : List (S83), y_ = (y131 ++ l0_1) := ⟨_, rfl⟩
     replace H : ((some (([(⟨a1_0, a1_1, a1_2⟩ : S83)] : List (S83)) : List (S83))).bind fun y137 => (if y134.length + y137.length < 5864062014805 then ((some (y134 ++ y137 : List (S83))).bind fun y140 => ((spec_GoodSpace.f kj3 a0_0 y140 a0_2 a0_3 a0_4 a0_5 a0_6).bind fun t143 => (if t143 = true then (some (a0_0, y140, a0_2, a0_3, a0_4, a0_5, a0_6, true)) else (some (0, ([] : List (S83)), false, 0, 0, 0, 0, false))))) else (none))) = some (r1, r2, r3, r4, r5, r6, r7, r8) := by first | (rw [hy134]; with_reducible exact H) | (have H2_ := (Option.bind_some _ _).symm.trans H; rw [hy134]; with_reducible exact H2_) | (have H2_ := (Option.bind_some _ _).symm.trans H; with_reducible exact H2_) | with_reducible exact H | (rw [hy134]; exact H) | exact H
     have Ny134 := Aside0.mk hy134
     clear hy134
     obtain ⟨y137, hy137⟩ : ∃ y_ : List (S83), y_ = (([(⟨a1_0, a1_1, a1_2⟩ : S83)] : List (S83))) := ⟨_, rfl⟩
     replace H : (if y134.length + y137.length < 5864062014805 then ((some (y134 ++ y137 : List (S83))).bind fun y140 => ((spec_GoodSpace.f kj3 a0_0 y140 a0_2 a0_3 a0_4 a0_5 a0_6).bind fun t143 => (if t143 = true then (some (a0_0, y140, a0_2, a0_3, a0_4, a0_5, a0_6, true)) else (some (0, ([] : List (S83)), false, 0, 0, 0, 0, false))))) else (none)) = some (r1, r2, r3, r4, r5, r6, r7, r8) := by first | (rw [hy137]; with_reducible exact H) | (have H2_ := (Option.bind_some _ _).symm.trans H; rw [hy137]; with_reducible exact H2_) | (have H2_ := (Option.bind_some _ _).symm.trans H; with_reducible exact H2_) | with_reducible exact H | (rw [hy137]; exact H) | exact H
     have Ny137 := Aside0.mk hy137
     clear hy137
     by_cases c72 : y134.length + y137.length < 5864062014805
     ·rw [if_pos c72] at H
      have LMc72 := Aside0.mk c72
      clear c72
      obtain ⟨y140, hy140⟩ : ∃ y_ : List (S83), y_ = (y134 ++ y137) := ⟨_, rfl⟩
      replace H : ((spec_GoodSpace.f kj3 a0_0 y140 a0_2 a0_3 a0_4 a0_5 a0_6).bind fun t143 => (if t143 = true then (some (a0_0, y140, a0_2, a0_3, a0_4, a0_5, a0_6, true)) else (some (0, ([] : List (S83)), false, 0, 0, 0, 0, false)))) = some (r1, r2, r3, r4, r5, r6, r7, r8) := by first | (rw [hy140]; with_reducible exact H) | (have H2_ := (Option.bind_some _ _).symm.trans H; rw [hy140]; with_reducible exact H2_) | (have H2_ := (Option.bind_some _ _).symm.trans H; with_reducible exact H2_) | with_reducible exact H | (rw [hy140]; exact H) | exact H
      have Ny140 := Aside0.mk hy140
      clear hy140
      replace H := Option.bind_eq_some_iff.mp H
      obtain ⟨t143, A730, H⟩ := H
      replace H : (if t143 = true then (some (a0_0, y140, a0_2, a0_3, a0_4, a0_5, a0_6, true)) else (some (0, ([] : List (S83)), false, 0, 0, 0, 0, false))) = some (r1, r2, r3, r4, r5, r6, r7, r8) := H
      have A73 := Aside0.mk A730
      clear A730
      by_cases c74 : t143 = true
      ·subst c74
       have H1 : (some (a0_0, y140, a0_2, a0_3, a0_4, a0_5, a0_6, true)) = some (r1, r2, r3, r4, r5, r6, r7, r8) := by rw [if_pos rfl] at H; exact H
       clear H
       have H := H1
       clear H1
       simp only [Option.some.injEq, Prod.mk.injEq] at H
       obtain ⟨rfl, rfl, rfl, rfl, rfl, rfl, rfl, rfl⟩ := H
       try go_wp2
       have n0_ := Aside0.mk (blk_drew BK123.out)
       have n1_ := Aside0.mk (blk_drew BK124.out)
       have n2_ := Aside0.mk (blk_drew BK125.out)
       have n3_ := Aside0.mk (blk_drew BK129.out)
       have n4_ := Aside0.mk (below_drew1 HB.out)
       clear BK123
       clear BK124
       clear BK125
       clear BK129
       clear HB
       have BK123 := n0_
       have BK124 := n1_
       have BK125 := n2_
       have BK129 := n3_
       have HB := n4_
       clear n0_ n1_ n2_ n3_ n4_
       refine start_ (n := 9) (S := fun w' => w'.cell? ⟨gb123, 0, none⟩ = some (.int .i64 a0_0) ∧ w'.cell? ⟨gb123, 1, none⟩ = some (.slice A0_1 l0_1.length c0_1) ∧ w'.cell? ⟨gb123, 2, none⟩ = some (.bool a0_2) ∧ w'.cell? ⟨gb123, 3, none⟩ = some (.int .i64 a0_3) ∧ w'.cell? ⟨gb123, 4, none⟩ = some (.int .i64 a0_4) ∧ w'.cell? ⟨gb123, 5, none⟩ = some (.int .i64 a0_5) ∧ w'.cell? ⟨gb123, 6, none⟩ = some (.int .i64 a0_6) ∧ w'.cell? ⟨gb124, 0, none⟩ = some (.int .i64 a1_0) ∧ w'.cell? ⟨gb124, 1, none⟩ = some (.int .i64 a1_1) ∧ w'.cell? ⟨gb124, 2, none⟩ = some (.int .i64 a1_2)) (ds := [8]) (bm 9 0) (by kernel_rfl) rfl rfl (cx7 BK123 (cz3 BK124)) (fun hHeld => ?_); refine with_tabW spec_SendNumber.tab4 spec_SendNumber.bits4 (fun HT_ HW_ => ?_)
       generalize wc.drew = w75 at BK123 BK124 BK125 BK129 HB hHeld ⊢
       refine pure_ (i := 1) (N := some 41) (v := ?_) (a' := ?_) (bm 9 2) rfl rfl (any_of HT_.out (by kernel_rfl)) (fun _ _ _ h => h) (Or.inl ⟨by rfl, ?_⟩) ?_ ?_
       rotate_left
       ·intro w'
        go_simp
        with_reducible rfl
       rotate_left
       ·simp only [Act.put, sA, sZ, sS, i64_w, i32_w]
        rfl
       refine take_ (i := 2) (N := some 42) (v := ?_) (a' := ?_) (bm 9 6) rfl rfl (take_ofW HT_.out HW_.out (by kernel_rfl)) (fun _ _ _ h => h) (Or.inl ⟨by rfl, ?_⟩) hHeld ?_ ?_
       rotate_left
       ·rintro w' ⟨s0, s1, s2, s3, s4, s5, s6, s7, s8, s9⟩
        go_simp
        with_reducible rfl
       rotate_left
       ·simp only [Act.put, sA, sZ, sS, i64_w, i32_w]
        rfl
       refine take_ (i := 4) (N := some 44) (v := ?_) (a' := ?_) (bm 9 22) rfl rfl (take_ofW HT_.out HW_.out (by kernel_rfl)) (fun _ _ _ h => h) (Or.inl ⟨by rfl, ?_⟩) hHeld ?_ ?_
       rotate_left
       ·rintro w' ⟨s0, s1, s2, s3, s4, s5, s6, s7, s8, s9⟩
        go_simp
        with_reducible rfl
       rotate_left
       ·simp only [Act.put, sA, sZ, sS, i64_w, i32_w]
        rfl
       refine join_ (σ := Value × Value × Value) 3 (bm 9 63) (fun s_ => [(40, s_.1), (43, s_.2.1), (45, s_.2.2)]) (fun s_ w' => (w'.cell? ⟨gb123, 0, none⟩ = some (.int .i64 a0_0) ∧ w'.cell? ⟨gb123, 1, none⟩ = some (.slice A0_1 l0_1.length c0_1) ∧ w'.cell? ⟨gb123, 2, none⟩ = some (.bool a0_2) ∧ w'.cell? ⟨gb123, 3, none⟩ = some (.int .i64 a0_3) ∧ w'.cell? ⟨gb123, 4, none⟩ = some (.int .i64 a0_4) ∧ w'.cell? ⟨gb123, 5, none⟩ = some (.int .i64 a0_5) ∧ w'.cell? ⟨gb123, 6, none⟩ = some (.int .i64 a0_6) ∧ w'.cell? ⟨gb124, 0, none⟩ = some (.int .i64 a1_0) ∧ w'.cell? ⟨gb124, 1, none⟩ = some (.int .i64 a1_1) ∧ w'.cell? ⟨gb124, 2, none⟩ = some (.int .i64 a1_2)) ∧ (Kd.R k83 83 w' w.heap.size (fun k_ => some k_ ≠ (s_.2.2 : Value).ownBlock ∧ k_ ≠ gb124 ∧ k_ ≠ gb129) s_.2.1 y134) ∧ (Kd.R k83 83 w' w.heap.size (fun k_ => some k_ ≠ (s_.2.1 : Value).ownBlock ∧ k_ ≠ gb124 ∧ k_ ≠ gb129) s_.2.2 y137) ∧ (w'.heap[gb123]? = some (.cells #[.int .i64 a0_0, .slice A0_1 l0_1.length c0_1, .bool a0_2, .int .i64 a0_3, .int .i64 a0_4, .int .i64 a0_5, .int .i64 a0_6] 79 (0, 0))) ∧ (w'.heap[gb124]? = some (.cells #[.int .i64 a1_0, .int .i64 a1_1, .int .i64 a1_2] 83 (0, 0))) ∧ (w'.heap[gb125]? = some (.cells #[.int .i64 0, .slice none 0 0, .bool false, .int .i64 0, .int .i64 0, .int .i64 0, .int .i64 0] 79 (0, 0))) ∧ (w'.heap[gb129]? = some (.cells #[.int .i64 t126, .int .i64 t127, .int .i64 t128] 83 (0, 0))) ∧ (Below w.heap.size w w')) ?_ ?_
       rotate_left
       ·intro hCont
        refine two_ (i := 0) (j := 5) (Ni := some 40) (Nj := some 45) (bm 9 23) (bm 9 54) rfl rfl rfl rfl (two_of HT_.out (by kernel_rfl)) (by decide) (by decide) (fun K hK => ?_) (fun K hK => ?_)
        ·skip
         refine Kd.R_lit_step k83 _ 83 ?hg (N := 40) ?hd (xs := ([] : List (S83))) (inner := []) (ok := fun _ => True) (okp := fun _ => True) ?hr ?hp (fun _ hk => hk) trivial (Below.refl _ _) (Nat.le_refl _) (by simp) ?_; (case hd => rfl); (case hg => rfl); (case hr => first | (go_simp; done) | (go_simp; rfl)); (case hp => exact (Reps.none _ _))
         intro v132 w76 ho77 hb hg_ hnew_
         clear hg_ hnew_
         (first | rw [← Ny131.out] at ho77 | (simp only [Int.reduceToNat] at ho77; rw [← Ny131.out] at ho77))
         have n0_ := Aside0.mk (Kd.R_lower (Kd.R_newB (Kd.R_newB ho77 (g := gb124) (o := .cells #[.int .i64 a1_0, .int .i64 a1_1, .int .i64 a1_2] 83 (0, 0)) (mB BK124)) (g := gb129) (o := .cells #[.int .i64 t126, .int .i64 t127, .int .i64 t128] 83 (0, 0)) (mB BK129)) (below_size (by repeat (first | (with_reducible first | exact HB.out | apply below_alloc | apply pw_below_drewN | apply below_drew1 | refine below_set ?_ GE123.out | refine below_set ?_ GE124.out | refine below_set ?_ GE125.out | refine below_set ?_ GE129.out) | exact HB.out))))
         have n1_ := bX BK123 hb
         have n2_ := bX BK124 hb
         have n3_ := bX BK125 hb
         have n4_ := bX BK129 hb
         have n5_ := bS HB hb
         clear BK123
         clear BK124
         clear BK125
         clear BK129
         clear HB
         have HO133 := n0_
         have BK123 := n1_
         have BK124 := n2_
         have BK125 := n3_
         have BK129 := n4_
         have HB := n5_
         clear n0_ n1_ n2_ n3_ n4_ n5_
         clear hb ho77
         refine hK.out _ _ (cx7 BK123 (cz3 BK124)) (fun hHeld => ?_)
         clear hK K
         refine norm_ (a' := ?_) ?_ ?_
         rotate_left
         ·show Act.put _ (some 40) _ = _
          simp only [Act.put, sA, sZ, sS, i64_w, i32_w]
          rfl
         refine two_ (i := 3) (j := 5) (Ni := some 43) (Nj := some 45) (bm 9 31) (bm 9 55) rfl rfl rfl rfl (two_of HT_.out (by kernel_rfl)) (by decide) (by decide) (fun K hK => ?_) (fun K hK => ?_)
         ·skip
          refine Kd.R_append_rows_step k83 (w0 := w) w.heap.size (by rfl) (.tmp 40) (.tmp 42) 76 83 (.agg #[(.int .i64 0), (.int .i64 0), (.int .i64 0)]) 24 rfl Try.underlying76 info83 rfl (by decide) (by omega) v132 y131 l0_1 _ _ _ (fun k_ => k_ ≠ gb124 ∧ k_ ≠ gb129) (fun _ => False) rfl rfl ?aO ?aR (fun _ _ h => h) (fun _ h => h.elim) ?aF ?aB ?aS ?aL ?_
          (case aR => repeat (first | exact (Kd.C_below HR0_1.out HB.out) | (with_reducible refine Kd.C_alloc ?_ _) | (with_reducible refine Kd.C_drewN ?_ _) | (with_reducible refine Kd.C_drew ?_)))
          (case aB => exact (by repeat (first | (with_reducible first | exact HB.out | apply below_alloc | apply pw_below_drewN | apply below_drew1 | refine below_set ?_ GE123.out | refine below_set ?_ GE124.out | refine below_set ?_ GE125.out | refine below_set ?_ GE129.out) | exact HB.out)))
          (case aF => exact (fun k_ hk => ⟨Kd.freshB (g := gb124) (o := .cells #[.int .i64 a1_0, .int .i64 a1_1, .int .i64 a1_2] 83 (0, 0)) (mB BK124) k_ hk, Kd.freshB (g := gb129) (o := .cells #[.int .i64 t126, .int .i64 t127, .int .i64 t128] 83 (0, 0)) (mB BK129) k_ hk⟩))
          (case aO => exact (by (with_reducible repeat (first | apply Kd.R_alloc | apply Kd.R_drewN | apply Kd.R_drew)); exact Kd.R_mono HO133.out (fun _ hk => ⟨hk.1.2, hk.2⟩)))
          (case aS => exact (below_size (by repeat (first | (with_reducible first | exact HB.out | apply below_alloc | apply pw_below_drewN | apply below_drew1 | refine below_set ?_ GE123.out | refine below_set ?_ GE124.out | refine below_set ?_ GE125.out | refine below_set ?_ GE129.out) | exact HB.out))))
          (case aL => have := LMc71.out; omega)
          intro v135 w78 ho hb hg hat
          rw [← Ny134.out] at ho
          have n0_ := Aside0.mk (blk_grown (g := gb123) (o := .cells #[.int .i64 a0_0, .slice A0_1 l0_1.length c0_1, .bool a0_2, .int .i64 a0_3, .int .i64 a0_4, .int .i64 a0_5, .int .i64 a0_6] 79 (0, 0)) (mB BK123) hg (Kd.R_ne HO133.out BK123.out (by decide)))
          have n1_ := Aside0.mk (blk_grown (g := gb124) (o := .cells #[.int .i64 a1_0, .int .i64 a1_1, .int .i64 a1_2] 83 (0, 0)) (mB BK124) hg (Kd.R_away HO133.out (fun _ hk => hk.1.2)))
          have n2_ := Aside0.mk (blk_grown (g := gb125) (o := .cells #[.int .i64 0, .slice none 0 0, .bool false, .int .i64 0, .int .i64 0, .int .i64 0, .int .i64 0] 79 (0, 0)) (mB BK125) hg (Kd.R_ne HO133.out BK125.out (by decide)))
          have n3_ := Aside0.mk (blk_grown (g := gb129) (o := .cells #[.int .i64 t126, .int .i64 t127, .int .i64 t128] 83 (0, 0)) (mB BK129) hg (Kd.R_away HO133.out (fun _ hk => hk.2)))
          have n4_ := Aside0.mk (hb)
          have n5_ := Aside0.mk (ho)
          clear BK123
          clear BK124
          clear BK125
          clear BK129
          clear HB
          clear HO133
          have BK123 := n0_
          have BK124 := n1_
          have BK125 := n2_
          have BK129 := n3_
          have HB := n4_
          have HO136 := n5_
          clear n0_ n1_ n2_ n3_ n4_ n5_
          clear ho hb hg hat
          refine hK.out _ _ (cx7 BK123 (cz3 BK124)) (fun hHeld => ?_)
          clear hK K
          refine norm_ (a' := ?_) ?_ ?_
          rotate_left
          ·show Act.put _ (some 43) _ = _
           simp only [Act.put, sA, sZ, sS, i64_w, i32_w]
           rfl
          refine one_ (i := 5) (N := some 45) (bm 9 63) rfl rfl (one_of HT_.out (by kernel_rfl)) (by decide) (fun K hK => ?_)
          refine Kd.R_lit_step k83 _ 83 ?hg (N := 45) ?hd (xs := ([(⟨a1_0, a1_1, a1_2⟩ : S83)] : List (S83))) (inner := [.int .i64 a1_0, .int .i64 a1_1, .int .i64 a1_2]) (ok := fun _ => True) (okp := fun _ => True) ?hr ?hp (fun _ hk => hk) trivial (Below.refl _ _) (Nat.le_refl _) (by simp) ?_; (case hd => rfl); (case hg => rfl); (case hr => first | (go_simp; done) | (go_simp; rfl)); (case hp => exact (Reps.c3 (show Kd.M k83 _ _ _ (⟨a1_0, a1_1, a1_2⟩ : S83) [.int .i64 a1_0, .int .i64 a1_1, .int .i64 a1_2] from (k83_mkM _ _ _ (⟨a1_0, a1_1, a1_2⟩ : S83) )) (Reps.none _ _)))
          intro v138 w79 ho80 hb hg_ hnew_
          clear hg_ hnew_
          (first | rw [← Ny137.out] at ho80 | (simp only [Int.reduceToNat] at ho80; rw [← Ny137.out] at ho80))
          have n0_ := Aside0.mk (Kd.R_elder' (mR HO136.out) (Kd.R_base ho80) hb)
          have n1_ := Aside0.mk (Kd.R_lower (Kd.R_newB (Kd.R_newB (Kd.R_new' ho80 (Kd.R_lt (mR HO136.out))) (g := gb124) (o := .cells #[.int .i64 a1_0, .int .i64 a1_1, .int .i64 a1_2] 83 (0, 0)) (mB BK124)) (g := gb129) (o := .cells #[.int .i64 t126, .int .i64 t127, .int .i64 t128] 83 (0, 0)) (mB BK129)) (below_size (by repeat (first | (with_reducible first | exact HB.out | apply below_alloc | apply pw_below_drewN | apply below_drew1 | refine below_set ?_ GE123.out | refine below_set ?_ GE124.out | refine below_set ?_ GE125.out | refine below_set ?_ GE129.out) | exact HB.out))))
          have n2_ := bX BK123 hb
          have n3_ := bX BK124 hb
          have n4_ := bX BK125 hb
          have n5_ := bX BK129 hb
          have n6_ := bS HB hb
          clear HO136
          clear BK123
          clear BK124
          clear BK125
          clear BK129
          clear HB
          have HO136 := n0_
          have HO139 := n1_
          have BK123 := n2_
          have BK124 := n3_
          have BK125 := n4_
          have BK129 := n5_
          have HB := n6_
          clear n0_ n1_ n2_ n3_ n4_ n5_ n6_
          clear hb ho80
          refine hK.out _ _ (cx7 BK123 (cz3 BK124)) (fun hHeld => ?_)
          clear hK K
          refine norm_ (a' := ?_) ?_ ?_
          rotate_left
          ·show Act.put _ (some 45) _ = _
           simp only [Act.put, sA, sZ, sS, i64_w, i32_w]
           rfl
          exact norm_ (by simp only [putAll, Act.put, sA, sZ, sS]) (hCont (v132, v135, v138) _ ⟨hHeld, (by (with_reducible repeat (first | apply Kd.R_alloc | apply Kd.R_drewN | apply Kd.R_drew)); exact Kd.R_mono HO136.out (fun _ hk => ⟨hk.2, ⟨hk.1.1, hk.1.2⟩⟩)), (by (with_reducible repeat (first | apply Kd.R_alloc | apply Kd.R_drewN | apply Kd.R_drew)); exact Kd.R_mono HO139.out (fun _ hk => ⟨hk.1.1.2, ⟨hk.1.2, hk.2⟩⟩)), (mB BK123), (mB BK124), (mB BK125), (mB BK129), (by repeat (first | (with_reducible first | exact HB.out | apply below_alloc | apply pw_below_drewN | apply below_drew1 | refine below_set ?_ GE123.out | refine below_set ?_ GE124.out | refine below_set ?_ GE125.out | refine below_set ?_ GE129.out) | exact HB.out))⟩)
         ·skip
          refine Kd.R_lit_step k83 _ 83 ?hg (N := 45) ?hd (xs := ([(⟨a1_0, a1_1, a1_2⟩ : S83)] : List (S83))) (inner := [.int .i64 a1_0, .int .i64 a1_1, .int .i64 a1_2]) (ok := fun _ => True) (okp := fun _ => True) ?hr ?hp (fun _ hk => hk) trivial (Below.refl _ _) (Nat.le_refl _) (by simp) ?_; (case hd => rfl); (case hg => rfl); (case hr => first | (go_simp; done) | (go_simp; rfl)); (case hp => exact (Reps.c3 (show Kd.M k83 _ _ _ (⟨a1_0, a1_1, a1_2⟩ : S83) [.int .i64 a1_0, .int .i64 a1_1, .int .i64 a1_2] from (k83_mkM _ _ _ (⟨a1_0, a1_1, a1_2⟩ : S83) )) (Reps.none _ _)))
          intro v138 w78 ho79 hb hg_ hnew_
          clear hg_ hnew_
          (first | rw [← Ny137.out] at ho79 | (simp only [Int.reduceToNat] at ho79; rw [← Ny137.out] at ho79))
          have n0_ := Aside0.mk (Kd.R_elder' (mR HO133.out) (Kd.R_base ho79) hb)
          have n1_ := Aside0.mk (Kd.R_lower (Kd.R_newB (Kd.R_newB (Kd.R_new' ho79 (Kd.R_lt (mR HO133.out))) (g := gb124) (o := .cells #[.int .i64 a1_0, .int .i64 a1_1, .int .i64 a1_2] 83 (0, 0)) (mB BK124)) (g := gb129) (o := .cells #[.int .i64 t126, .int .i64 t127, .int .i64 t128] 83 (0, 0)) (mB BK129)) (below_size (by repeat (first | (with_reducible first | exact HB.out | apply below_alloc | apply pw_below_drewN | apply below_drew1 | refine below_set ?_ GE123.out | refine below_set ?_ GE124.out | refine below_set ?_ GE125.out | refine below_set ?_ GE129.out) | exact HB.out))))
          have n2_ := bX BK123 hb
          have n3_ := bX BK124 hb
          have n4_ := bX BK125 hb
          have n5_ := bX BK129 hb
          have n6_ := bS HB hb
          clear HO133
          clear BK123
          clear BK124
          clear BK125
          clear BK129
          clear HB
          have HO133 := n0_
          have HO139 := n1_
          have BK123 := n2_
          have BK124 := n3_
          have BK125 := n4_
          have BK129 := n5_
          have HB := n6_
          clear n0_ n1_ n2_ n3_ n4_ n5_ n6_
          clear hb ho79
          refine hK.out _ _ (cx7 BK123 (cz3 BK124)) (fun hHeld => ?_)
          clear hK K
          refine norm_ (a' := ?_) ?_ ?_
          rotate_left
          ·show Act.put _ (some 45) _ = _
           simp only [Act.put, sA, sZ, sS, i64_w, i32_w]
           rfl
          refine one_ (i := 3) (N := some 43) (bm 9 63) rfl rfl (one_of HT_.out (by kernel_rfl)) (by decide) (fun K hK => ?_)
          refine Kd.R_append_rows_step k83 (w0 := w) w.heap.size (by rfl) (.tmp 40) (.tmp 42) 76 83 (.agg #[(.int .i64 0), (.int .i64 0), (.int .i64 0)]) 24 rfl Try.underlying76 info83 rfl (by decide) (by omega) v132 y131 l0_1 _ _ _ (fun k_ => some k_ ≠ (v138 : Value).ownBlock ∧ k_ ≠ gb124 ∧ k_ ≠ gb129) (fun _ => False) rfl rfl ?aO ?aR (fun _ _ h => h) (fun _ h => h.elim) ?aF ?aB ?aS ?aL ?_
          (case aR => repeat (first | exact (Kd.C_below HR0_1.out HB.out) | (with_reducible refine Kd.C_alloc ?_ _) | (with_reducible refine Kd.C_drewN ?_ _) | (with_reducible refine Kd.C_drew ?_)))
          (case aB => exact (by repeat (first | (with_reducible first | exact HB.out | apply below_alloc | apply pw_below_drewN | apply below_drew1 | refine below_set ?_ GE123.out | refine below_set ?_ GE124.out | refine below_set ?_ GE125.out | refine below_set ?_ GE129.out) | exact HB.out)))
          (case aF => exact (fun k_ hk => ⟨Kd.fresh' (Kd.R_lt (mR HO139.out)) k_ hk, Kd.freshB (g := gb124) (o := .cells #[.int .i64 a1_0, .int .i64 a1_1, .int .i64 a1_2] 83 (0, 0)) (mB BK124) k_ hk, Kd.freshB (g := gb129) (o := .cells #[.int .i64 t126, .int .i64 t127, .int .i64 t128] 83 (0, 0)) (mB BK129) k_ hk⟩))
          (case aO => exact (by (with_reducible repeat (first | apply Kd.R_alloc | apply Kd.R_drewN | apply Kd.R_drew)); exact Kd.R_mono HO133.out (fun _ hk => ⟨hk.2, ⟨hk.1.1.2, hk.1.2⟩⟩)))
          (case aS => exact (below_size (by repeat (first | (with_reducible first | exact HB.out | apply below_alloc | apply pw_below_drewN | apply below_drew1 | refine below_set ?_ GE123.out | refine below_set ?_ GE124.out | refine below_set ?_ GE125.out | refine below_set ?_ GE129.out) | exact HB.out))))
          (case aL => have := LMc71.out; omega)
          intro v135 w80 ho hb hg hat
          rw [← Ny134.out] at ho
          have n0_ := Aside0.mk (blk_grown (g := gb123) (o := .cells #[.int .i64 a0_0, .slice A0_1 l0_1.length c0_1, .bool a0_2, .int .i64 a0_3, .int .i64 a0_4, .int .i64 a0_5, .int .i64 a0_6] 79 (0, 0)) (mB BK123) hg (Kd.R_ne HO133.out BK123.out (by decide)))
          have n1_ := Aside0.mk (blk_grown (g := gb124) (o := .cells #[.int .i64 a1_0, .int .i64 a1_1, .int .i64 a1_2] 83 (0, 0)) (mB BK124) hg (Kd.R_away HO133.out (fun _ hk => hk.1.1.2)))
          have n2_ := Aside0.mk (blk_grown (g := gb125) (o := .cells #[.int .i64 0, .slice none 0 0, .bool false, .int .i64 0, .int .i64 0, .int .i64 0, .int .i64 0] 79 (0, 0)) (mB BK125) hg (Kd.R_ne HO133.out BK125.out (by decide)))
          have n3_ := Aside0.mk (blk_grown (g := gb129) (o := .cells #[.int .i64 t126, .int .i64 t127, .int .i64 t128] 83 (0, 0)) (mB BK129) hg (Kd.R_away HO133.out (fun _ hk => hk.1.2)))
          have n4_ := Aside0.mk (Kd.R_after (ok := (fun k_ => k_ ≠ gb124 ∧ k_ ≠ gb129)) (by (with_reducible repeat (first | apply Kd.R_alloc | apply Kd.R_drewN | apply Kd.R_drew)); exact Kd.R_mono HO139.out (fun _ hk => ⟨⟨hk.1.2, hk.2⟩, hk.1.1.2⟩)) hg hat)
          have n5_ := Aside0.mk (hb)
          have n6_ := Aside0.mk (ho)
          clear BK123
          clear BK124
          clear BK125
          clear BK129
          clear HO139
          clear HB
          clear HO133
          have BK123 := n0_
          have BK124 := n1_
          have BK125 := n2_
          have BK129 := n3_
          have HO139 := n4_
          have HB := n5_
          have HO136 := n6_
          clear n0_ n1_ n2_ n3_ n4_ n5_ n6_
          clear ho hb hg hat
          refine hK.out _ _ (cx7 BK123 (cz3 BK124)) (fun hHeld => ?_)
          clear hK K
          refine norm_ (a' := ?_) ?_ ?_
          rotate_left
          ·show Act.put _ (some 43) _ = _
           simp only [Act.put, sA, sZ, sS, i64_w, i32_w]
           rfl
          exact norm_ (by simp only [putAll, Act.put, sA, sZ, sS]) (hCont (v132, v135, v138) _ ⟨hHeld, (mR HO136.out), (by (with_reducible repeat (first | apply Kd.R_alloc | apply Kd.R_drewN | apply Kd.R_drew)); exact Kd.R_mono HO139.out (fun _ hk => ⟨hk.2, ⟨hk.1.1, hk.1.2⟩⟩)), (mB BK123), (mB BK124), (mB BK125), (mB BK129), (by repeat (first | (with_reducible first | exact HB.out | apply below_alloc | apply pw_below_drewN | apply below_drew1 | refine below_set ?_ GE123.out | refine below_set ?_ GE124.out | refine below_set ?_ GE125.out | refine below_set ?_ GE129.out) | exact HB.out))⟩)
        ·skip
         refine Kd.R_lit_step k83 _ 83 ?hg (N := 45) ?hd (xs := ([(⟨a1_0, a1_1, a1_2⟩ : S83)] : List (S83))) (inner := [.int .i64 a1_0, .int .i64 a1_1, .int .i64 a1_2]) (ok := fun _ => True) (okp := fun _ => True) ?hr ?hp (fun _ hk => hk) trivial (Below.refl _ _) (Nat.le_refl _) (by simp) ?_; (case hd => rfl); (case hg => rfl); (case hr => first | (go_simp; done) | (go_simp; rfl)); (case hp => exact (Reps.c3 (show Kd.M k83 _ _ _ (⟨a1_0, a1_1, a1_2⟩ : S83) [.int .i64 a1_0, .int .i64 a1_1, .int .i64 a1_2] from (k83_mkM _ _ _ (⟨a1_0, a1_1, a1_2⟩ : S83) )) (Reps.none _ _)))
         intro v138 w76 ho77 hb hg_ hnew_
         clear hg_ hnew_
         (first | rw [← Ny137.out] at ho77 | (simp only [Int.reduceToNat] at ho77; rw [← Ny137.out] at ho77))
         have n0_ := Aside0.mk (Kd.R_lower (Kd.R_newB (Kd.R_newB ho77 (g := gb124) (o := .cells #[.int .i64 a1_0, .int .i64 a1_1, .int .i64 a1_2] 83 (0, 0)) (mB BK124)) (g := gb129) (o := .cells #[.int .i64 t126, .int .i64 t127, .int .i64 t128] 83 (0, 0)) (mB BK129)) (below_size (by repeat (first | (with_reducible first | exact HB.out | apply below_alloc | apply pw_below_drewN | apply below_drew1 | refine below_set ?_ GE123.out | refine below_set ?_ GE124.out | refine below_set ?_ GE125.out | refine below_set ?_ GE129.out) | exact HB.out))))
         have n1_ := bX BK123 hb
         have n2_ := bX BK124 hb
         have n3_ := bX BK125 hb
         have n4_ := bX BK129 hb
         have n5_ := bS HB hb
         clear BK123
         clear BK124
         clear BK125
         clear BK129
         clear HB
         have HO139 := n0_
         have BK123 := n1_
         have BK124 := n2_
         have BK125 := n3_
         have BK129 := n4_
         have HB := n5_
         clear n0_ n1_ n2_ n3_ n4_ n5_
         clear hb ho77
         refine hK.out _ _ (cx7 BK123 (cz3 BK124)) (fun hHeld => ?_)
         clear hK K
         refine norm_ (a' := ?_) ?_ ?_
         rotate_left
         ·show Act.put _ (some 45) _ = _
          simp only [Act.put, sA, sZ, sS, i64_w, i32_w]
          rfl
         refine one_ (i := 0) (N := some 40) (bm 9 55) rfl rfl (one_of HT_.out (by kernel_rfl)) (by decide) (fun K hK => ?_)
         refine Kd.R_lit_step k83 _ 83 ?hg (N := 40) ?hd (xs := ([] : List (S83))) (inner := []) (ok := fun _ => True) (okp := fun _ => True) ?hr ?hp (fun _ hk => hk) trivial (Below.refl _ _) (Nat.le_refl _) (by simp) ?_; (case hd => rfl); (case hg => rfl); (case hr => first | (go_simp; done) | (go_simp; rfl)); (case hp => exact (Reps.none _ _))
         intro v132 w78 ho79 hb hg_ hnew_
         clear hg_ hnew_
         (first | rw [← Ny131.out] at ho79 | (simp only [Int.reduceToNat] at ho79; rw [← Ny131.out] at ho79))
         have n0_ := Aside0.mk (Kd.R_elder' (mR HO139.out) (Kd.R_base ho79) hb)
         have n1_ := Aside0.mk (Kd.R_lower (Kd.R_newB (Kd.R_newB (Kd.R_new' ho79 (Kd.R_lt (mR HO139.out))) (g := gb124) (o := .cells #[.int .i64 a1_0, .int .i64 a1_1, .int .i64 a1_2] 83 (0, 0)) (mB BK124)) (g := gb129) (o := .cells #[.int .i64 t126, .int .i64 t127, .int .i64 t128] 83 (0, 0)) (mB BK129)) (below_size (by repeat (first | (with_reducible first | exact HB.out | apply below_alloc | apply pw_below_drewN | apply below_drew1 | refine below_set ?_ GE123.out | refine below_set ?_ GE124.out | refine below_set ?_ GE125.out | refine below_set ?_ GE129.out) | exact HB.out))))
         have n2_ := bX BK123 hb
         have n3_ := bX BK124 hb
         have n4_ := bX BK125 hb
         have n5_ := bX BK129 hb
         have n6_ := bS HB hb
         clear HO139
         clear BK123
         clear BK124
         clear BK125
         clear BK129
         clear HB
         have HO139 := n0_
         have HO133 := n1_
         have BK123 := n2_
         have BK124 := n3_
         have BK125 := n4_
         have BK129 := n5_
         have HB := n6_
         clear n0_ n1_ n2_ n3_ n4_ n5_ n6_
         clear hb ho79
         refine hK.out _ _ (cx7 BK123 (cz3 BK124)) (fun hHeld => ?_)
         clear hK K
         refine norm_ (a' := ?_) ?_ ?_
         rotate_left
         ·show Act.put _ (some 40) _ = _
          simp only [Act.put, sA, sZ, sS, i64_w, i32_w]
          rfl
         refine one_ (i := 3) (N := some 43) (bm 9 63) rfl rfl (one_of HT_.out (by kernel_rfl)) (by decide) (fun K hK => ?_)
         refine Kd.R_append_rows_step k83 (w0 := w) w.heap.size (by rfl) (.tmp 40) (.tmp 42) 76 83 (.agg #[(.int .i64 0), (.int .i64 0), (.int .i64 0)]) 24 rfl Try.underlying76 info83 rfl (by decide) (by omega) v132 y131 l0_1 _ _ _ (fun k_ => some k_ ≠ (v138 : Value).ownBlock ∧ k_ ≠ gb124 ∧ k_ ≠ gb129) (fun _ => False) rfl rfl ?aO ?aR (fun _ _ h => h) (fun _ h => h.elim) ?aF ?aB ?aS ?aL ?_
         (case aR => repeat (first | exact (Kd.C_below HR0_1.out HB.out) | (with_reducible refine Kd.C_alloc ?_ _) | (with_reducible refine Kd.C_drewN ?_ _) | (with_reducible refine Kd.C_drew ?_)))
         (case aB => exact (by repeat (first | (with_reducible first | exact HB.out | apply below_alloc | apply pw_below_drewN | apply below_drew1 | refine below_set ?_ GE123.out | refine below_set ?_ GE124.out | refine below_set ?_ GE125.out | refine below_set ?_ GE129.out) | exact HB.out)))
         (case aF => exact (fun k_ hk => ⟨Kd.fresh' (Kd.R_lt (mR HO139.out)) k_ hk, Kd.freshB (g := gb124) (o := .cells #[.int .i64 a1_0, .int .i64 a1_1, .int .i64 a1_2] 83 (0, 0)) (mB BK124) k_ hk, Kd.freshB (g := gb129) (o := .cells #[.int .i64 t126, .int .i64 t127, .int .i64 t128] 83 (0, 0)) (mB BK129) k_ hk⟩))
         (case aO => exact (by (with_reducible repeat (first | apply Kd.R_alloc | apply Kd.R_drewN | apply Kd.R_drew)); exact Kd.R_mono HO133.out (fun _ hk => ⟨hk.1.1.2, ⟨hk.1.2, hk.2⟩⟩)))
         (case aS => exact (below_size (by repeat (first | (with_reducible first | exact HB.out | apply below_alloc | apply pw_below_drewN | apply below_drew1 | refine below_set ?_ GE123.out | refine below_set ?_ GE124.out | refine below_set ?_ GE125.out | refine below_set ?_ GE129.out) | exact HB.out))))
         (case aL => have := LMc71.out; omega)
         intro v135 w80 ho hb hg hat
         rw [← Ny134.out] at ho
         have n0_ := Aside0.mk (blk_grown (g := gb123) (o := .cells #[.int .i64 a0_0, .slice A0_1 l0_1.length c0_1, .bool a0_2, .int .i64 a0_3, .int .i64 a0_4, .int .i64 a0_5, .int .i64 a0_6] 79 (0, 0)) (mB BK123) hg (Kd.R_ne HO133.out BK123.out (by decide)))
         have n1_ := Aside0.mk (blk_grown (g := gb124) (o := .cells #[.int .i64 a1_0, .int .i64 a1_1, .int .i64 a1_2] 83 (0, 0)) (mB BK124) hg (Kd.R_away HO133.out (fun _ hk => hk.1.2)))
         have n2_ := Aside0.mk (blk_grown (g := gb125) (o := .cells #[.int .i64 0, .slice none 0 0, .bool false, .int .i64 0, .int .i64 0, .int .i64 0, .int .i64 0] 79 (0, 0)) (mB BK125) hg (Kd.R_ne HO133.out BK125.out (by decide)))
         have n3_ := Aside0.mk (blk_grown (g := gb129) (o := .cells #[.int .i64 t126, .int .i64 t127, .int .i64 t128] 83 (0, 0)) (mB BK129) hg (Kd.R_away HO133.out (fun _ hk => hk.2)))
         have n4_ := Aside0.mk (Kd.R_after (ok := (fun k_ => k_ ≠ gb124 ∧ k_ ≠ gb129)) (by (with_reducible repeat (first | apply Kd.R_alloc | apply Kd.R_drewN | apply Kd.R_drew)); exact Kd.R_mono HO139.out (fun _ hk => ⟨⟨hk.1.1.2, hk.1.2⟩, hk.2⟩)) hg hat)
         have n5_ := Aside0.mk (hb)
         have n6_ := Aside0.mk (ho)
         clear BK123
         clear BK124
         clear BK125
         clear BK129
         clear HO139
         clear HB
         clear HO133
         have BK123 := n0_
         have BK124 := n1_
         have BK125 := n2_
         have BK129 := n3_
         have HO139 := n4_
         have HB := n5_
         have HO136 := n6_
         clear n0_ n1_ n2_ n3_ n4_ n5_ n6_
         clear ho hb hg hat
         refine hK.out _ _ (cx7 BK123 (cz3 BK124)) (fun hHeld => ?_)
         clear hK K
         refine norm_ (a' := ?_) ?_ ?_
         rotate_left
         ·show Act.put _ (some 43) _ = _
          simp only [Act.put, sA, sZ, sS, i64_w, i32_w]
          rfl
         exact norm_ (by simp only [putAll, Act.put, sA, sZ, sS]) (hCont (v132, v135, v138) _ ⟨hHeld, (mR HO136.out), (by (with_reducible repeat (first | apply Kd.R_alloc | apply Kd.R_drewN | apply Kd.R_drew)); exact Kd.R_mono HO139.out (fun _ hk => ⟨hk.2, ⟨hk.1.1, hk.1.2⟩⟩)), (mB BK123), (mB BK124), (mB BK125), (mB BK129), (by repeat (first | (with_reducible first | exact HB.out | apply below_alloc | apply pw_below_drewN | apply below_drew1 | refine below_set ?_ GE123.out | refine below_set ?_ GE124.out | refine below_set ?_ GE125.out | refine below_set ?_ GE129.out) | exact HB.out))⟩)
       rintro ⟨v132, v135, v138⟩ w81 ⟨hS_, h0_, h1_, h2_, h3_, h4_, h5_, h6_⟩
       have n0_ : Aside0 (Kd.R k83 83 w81 w.heap.size (fun k_ => some k_ ≠ (v138 : Value).ownBlock ∧ k_ ≠ gb124 ∧ k_ ≠ gb129) v135 y134) := ⟨h0_⟩
       have n1_ : Aside0 (Kd.R k83 83 w81 w.heap.size (fun k_ => some k_ ≠ (v135 : Value).ownBlock ∧ k_ ≠ gb124 ∧ k_ ≠ gb129) v138 y137) := ⟨h1_⟩
       have n2_ : Aside0 (w81.heap[gb123]? = some (.cells #[.int .i64 a0_0, .slice A0_1 l0_1.length c0_1, .bool a0_2, .int .i64 a0_3, .int .i64 a0_4, .int .i64 a0_5, .int .i64 a0_6] 79 (0, 0))) := ⟨h2_⟩
       have n3_ : Aside0 (w81.heap[gb124]? = some (.cells #[.int .i64 a1_0, .int .i64 a1_1, .int .i64 a1_2] 83 (0, 0))) := ⟨h3_⟩
       have n4_ : Aside0 (w81.heap[gb125]? = some (.cells #[.int .i64 0, .slice none 0 0, .bool false, .int .i64 0, .int .i64 0, .int .i64 0, .int .i64 0] 79 (0, 0))) := ⟨h4_⟩
       have n5_ : Aside0 (w81.heap[gb129]? = some (.cells #[.int .i64 t126, .int .i64 t127, .int .i64 t128] 83 (0, 0))) := ⟨h5_⟩
       have n6_ : Aside0 (Below w.heap.size w w81) := ⟨h6_⟩
       clear BK123
       clear BK124
       clear BK125
       clear BK129
       clear HB
       clear h0_ h1_ h2_ h3_ h4_ h5_ h6_
       have HO136 := n0_
       have HO139 := n1_
       have BK123 := n2_
       have BK124 := n3_
       have BK125 := n4_
       have BK129 := n5_
       have HB := n6_
       clear n0_ n1_ n2_ n3_ n4_ n5_ n6_
       have hHeld : w81.cell? ⟨gb123, 0, none⟩ = some (.int .i64 a0_0) ∧ w81.cell? ⟨gb123, 1, none⟩ = some (.slice A0_1 l0_1.length c0_1) ∧ w81.cell? ⟨gb123, 2, none⟩ = some (.bool a0_2) ∧ w81.cell? ⟨gb123, 3, none⟩ = some (.int .i64 a0_3) ∧ w81.cell? ⟨gb123, 4, none⟩ = some (.int .i64 a0_4) ∧ w81.cell? ⟨gb123, 5, none⟩ = some (.int .i64 a0_5) ∧ w81.cell? ⟨gb123, 6, none⟩ = some (.int .i64 a0_6) ∧ w81.cell? ⟨gb124, 0, none⟩ = some (.int .i64 a1_0) ∧ w81.cell? ⟨gb124, 1, none⟩ = some (.int .i64 a1_1) ∧ w81.cell? ⟨gb124, 2, none⟩ = some (.int .i64 a1_2) := hS_
       obtain ⟨Ao83, co83, eo83⟩ := Kd.R_slice HO139.out
       (first | subst eo83 | (injection eo83 with f1_ f2_ f3_; have f4_ := f1_.symm; have f5_ := f3_.symm; clear f1_ f2_ f3_; subst f4_; subst f5_))
       refine norm_ (a' := ?_) ?_ ?_
       rotate_left
       ·simp only [putAll, Act.put, sA, sZ, sS]
        rfl
       refine one_ (i := 6) (N := some 46) (bm 9 127) rfl rfl (one_of HT_.out (by kernel_rfl)) (by decide) (fun K hK => ?_)
       refine Kd.R_append_rows_step k83 (w0 := w) w.heap.size (by rfl) (.tmp 43) (.tmp 45) 76 83 (.agg #[(.int .i64 0), (.int .i64 0), (.int .i64 0)]) 24 rfl Try.underlying76 info83 rfl (by decide) (by omega) v135 y134 y137 _ _ _ (fun k_ => some k_ ≠ (.slice Ao83 y137.length co83 : Value).ownBlock ∧ k_ ≠ gb124 ∧ k_ ≠ gb129) (fun _ => False) rfl rfl ?aO ?aR (fun _ _ h => h) (fun _ h => h.elim) ?aF ?aB ?aS ?aL ?_
       (case aR => repeat (first | exact (Kd.R_reads' HO139.out).2.2 | (with_reducible refine Kd.C_alloc ?_ _) | (with_reducible refine Kd.C_drewN ?_ _) | (with_reducible refine Kd.C_drew ?_)))
       (case aB => exact (by repeat (first | (with_reducible first | exact HB.out | apply below_alloc | apply pw_below_drewN | apply below_drew1 | refine below_set ?_ GE123.out | refine below_set ?_ GE124.out | refine below_set ?_ GE125.out | refine below_set ?_ GE129.out) | exact HB.out)))
       (case aF => exact (fun k_ hk => ⟨Kd.fresh' (Kd.R_lt (mR HO139.out)) k_ hk, Kd.freshB (g := gb124) (o := .cells #[.int .i64 a1_0, .int .i64 a1_1, .int .i64 a1_2] 83 (0, 0)) (mB BK124) k_ hk, Kd.freshB (g := gb129) (o := .cells #[.int .i64 t126, .int .i64 t127, .int .i64 t128] 83 (0, 0)) (mB BK129) k_ hk⟩))
       (case aO => exact (mR HO136.out))
       (case aS => exact (below_size (by repeat (first | (with_reducible first | exact HB.out | apply below_alloc | apply pw_below_drewN | apply below_drew1 | refine below_set ?_ GE123.out | refine below_set ?_ GE124.out | refine below_set ?_ GE125.out | refine below_set ?_ GE129.out) | exact HB.out))))
       (case aL => have := LMc72.out; omega)
       intro v141 w82 ho hb hg hat
       rw [← Ny140.out] at ho
       have n0_ := Aside0.mk (blk_grown (g := gb123) (o := .cells #[.int .i64 a0_0, .slice A0_1 l0_1.length c0_1, .bool a0_2, .int .i64 a0_3, .int .i64 a0_4, .int .i64 a0_5, .int .i64 a0_6] 79 (0, 0)) (mB BK123) hg (Kd.R_ne HO136.out BK123.out (by decide)))
       have n1_ := Aside0.mk (blk_grown (g := gb124) (o := .cells #[.int .i64 a1_0, .int .i64 a1_1, .int .i64 a1_2] 83 (0, 0)) (mB BK124) hg (Kd.R_away HO136.out (fun _ hk => hk.2.1)))
       have n2_ := Aside0.mk (blk_grown (g := gb125) (o := .cells #[.int .i64 0, .slice none 0 0, .bool false, .int .i64 0, .int .i64 0, .int .i64 0, .int .i64 0] 79 (0, 0)) (mB BK125) hg (Kd.R_ne HO136.out BK125.out (by decide)))
       have n3_ := Aside0.mk (blk_grown (g := gb129) (o := .cells #[.int .i64 t126, .int .i64 t127, .int .i64 t128] 83 (0, 0)) (mB BK129) hg (Kd.R_away HO136.out (fun _ hk => hk.2.2)))
       have n4_ := Aside0.mk (Kd.R_after (ok := (fun k_ => k_ ≠ gb124 ∧ k_ ≠ gb129)) (by (with_reducible repeat (first | apply Kd.R_alloc | apply Kd.R_drewN | apply Kd.R_drew)); exact Kd.R_mono HO139.out (fun _ hk => ⟨⟨hk.2.1, hk.2.2⟩, hk.1⟩)) hg hat)
       have n5_ := Aside0.mk (hb)
       have n6_ := Aside0.mk (ho)
       clear BK123
       clear BK124
       clear BK125
       clear BK129
       clear HO139
       clear HB
       clear HO136
       have BK123 := n0_
       have BK124 := n1_
       have BK125 := n2_
       have BK129 := n3_
       have HO139 := n4_
       have HB := n5_
       have HO142 := n6_
       clear n0_ n1_ n2_ n3_ n4_ n5_ n6_
       clear ho hb hg hat
       obtain ⟨Ao84, co84, eo84⟩ := Kd.R_slice HO142.out
       (first | subst eo84 | (injection eo84 with f1_ f2_ f3_; have f4_ := f1_.symm; have f5_ := f3_.symm; clear f1_ f2_ f3_; subst f4_; subst f5_))
       refine hK.out _ _ (cx7 BK123 (cz3 BK124)) (fun hHeld => ?_)
       clear hK K
       refine norm_ (a' := ?_) ?_ ?_
       rotate_left
       ·show Act.put _ (some 46) _ = _
        simp only [Act.put, sA, sZ, sS, i64_w, i32_w]
        rfl
       refine pure_ (i := 7) (N := some 47) (v := ?_) (a' := ?_) (bm 9 255) rfl rfl (any_of HT_.out (by kernel_rfl)) (fun _ _ _ h => h) (Or.inl ⟨by rfl, ?_⟩) ?_ ?_
       rotate_left
       ·intro w'
        go_simp
        with_reducible rfl
       rotate_left
       ·simp only [Act.put, sA, sZ, sS, i64_w, i32_w]
        rfl
       refine last_ (i := 8) (N := none) (bm 9 511) rfl rfl (one_of HT_.out (by kernel_rfl)) (by decide) (fun K hK => ?_)
       have hs85 : w82.cell? ⟨gb123, 1, none⟩ = some (.slice A0_1 l0_1.length c0_1) := (blk_cell BK123.out 1).trans rfl
       have hfs85 := blk_frozen BK123.out 1
       have hns85_1 := NB124_123.out
       have hns85_2 := NB125_123.out
       have hns85_3 := NB129_123.out
       have hms85_1 := NB123_124.out
       have hms85_2 := NB123_125.out
       have hms85_3 := NB123_129.out
       refine skip_ (w1 := ?_) (by rfl) rfl ?_ ?_
       rotate_left
       ·go_simp
        rfl
       refine hK.out _ _ ?_
       clear hK K
       refine done_ (done_of HT_.out (by kernel_rfl)) ?_
       have hnb86 := NB123_124.out
       have hnc86 := NB124_123.out
       have hnb87 := NB123_125.out
       have hnc87 := NB125_123.out
       have hnb88 := NB123_129.out
       have hnc88 := NB129_123.out
       obtain ⟨hcz89_0, hcz89_1, hcz89_2, hcz89_3, hcz89_4, hcz89_5, hcz89_6⟩ := cz7 BK123
       obtain ⟨hfz89_0, hfz89_1, hfz89_2, hfz89_3, hfz89_4, hfz89_5, hfz89_6⟩ := fz7 BK123
       try go_wp2_with (first | ((with_reducible refine gate_callee (f := 118) rfl ?_); refine goesL_ (some 49) rfl rfl Try.func118 (by kernel_rfl) rfl #[.agg #[.int .i64 a0_0, .slice Ao84 y140.length co84, .bool a0_2, .int .i64 a0_3, .int .i64 a0_4, .int .i64 a0_5, .int .i64 a0_6]] rfl (by (try simp only [List.map_toArray, List.map_cons, List.map_nil]); first | done | rfl | (simp only [List.length_drop, List.length_take]; rfl)) ?_; (with_reducible refine (spec_GoodSpace.calls kj3 a0_0 _ _ y140 a0_2 a0_3 a0_4 a0_5 a0_6 true _ ?side1 ?side2 A73.out).mono ?_); (case side1 => refine (Kd.R_reads' (e := 83) (base := w.heap.size) (ok := fun k_ => (some k_ ≠ (.slice Ao83 y137.length co83 : Value).ownBlock ∧ (k_ ≠ gb124 ∧ k_ ≠ gb129))) (n := y140.length) (c := co84) ?_).2.2; exact (by (with_reducible repeat (first | apply Kd.R_alloc | apply Kd.R_drewN | apply Kd.R_drew)); exact (Kd.R_mono (Kd.R_far (p := ⟨gb123, 1, none⟩) (Kd.R_types HO142.out BK123.out (by decide)) (fun _ hk => hk.2) (.slice Ao84 y140.length co84)) (fun _ h_ => h_.1)))); (case side2 => exact (Kd.R_reads' HO142.out).2.1); rintro e w90 ⟨rfl, hb⟩; refine ⟨_, rfl, ?_⟩; have n0_ := Aside0.mk (Kd.R_below (by (with_reducible repeat (first | apply Kd.R_alloc | apply Kd.R_drewN | apply Kd.R_drew)); exact (Kd.R_mono (Kd.R_far (p := ⟨gb123, 1, none⟩) (Kd.R_types HO139.out BK123.out (by decide)) (fun _ hk => hk.2) (.slice Ao84 y140.length co84)) (fun _ h_ => h_.1))) hb); have n1_ := Aside0.mk (Kd.R_below (by (with_reducible repeat (first | apply Kd.R_alloc | apply Kd.R_drewN | apply Kd.R_drew)); exact (Kd.R_mono (Kd.R_far (p := ⟨gb123, 1, none⟩) (Kd.R_types HO142.out BK123.out (by decide)) (fun _ hk => hk.2) (.slice Ao84 y140.length co84)) (fun _ h_ => h_.1))) hb); have n2_ := Aside0.mk (blk_below (g := gb123) (o := .cells #[.int .i64 a0_0, .slice Ao84 y140.length co84, .bool a0_2, .int .i64 a0_3, .int .i64 a0_4, .int .i64 a0_5, .int .i64 a0_6] 79 (0, 0)) (by (with_reducible repeat (first | refine bN ?_ _ | refine bD ?_ | refine bA ?_ _)); refine blk_put (cs := #[.int .i64 a0_0, .slice A0_1 l0_1.length c0_1, .bool a0_2, .int .i64 a0_3, .int .i64 a0_4, .int .i64 a0_5, .int .i64 a0_6]) ?_ 1 _ rfl; (with_reducible repeat (first | refine bN ?_ _ | refine bD ?_ | refine bA ?_ _)); exact BK123.out) hb); have n3_ := Aside0.mk (blk_below (g := gb124) (o := .cells #[.int .i64 a1_0, .int .i64 a1_1, .int .i64 a1_2] 83 (0, 0)) (by (with_reducible repeat (first | refine bN ?_ _ | refine bD ?_ | refine bA ?_ _)); refine blk_far ?_ NB124_123.out _; (with_reducible repeat (first | refine bN ?_ _ | refine bD ?_ | refine bA ?_ _)); exact BK124.out) hb); have n4_ := Aside0.mk (blk_below (g := gb125) (o := .cells #[.int .i64 0, .slice none 0 0, .bool false, .int .i64 0, .int .i64 0, .int .i64 0, .int .i64 0] 79 (0, 0)) (by (with_reducible repeat (first | refine bN ?_ _ | refine bD ?_ | refine bA ?_ _)); refine blk_far ?_ NB125_123.out _; (with_reducible repeat (first | refine bN ?_ _ | refine bD ?_ | refine bA ?_ _)); exact BK125.out) hb); have n5_ := Aside0.mk (blk_below (g := gb129) (o := .cells #[.int .i64 t126, .int .i64 t127, .int .i64 t128] 83 (0, 0)) (by (with_reducible repeat (first | refine bN ?_ _ | refine bD ?_ | refine bA ?_ _)); refine blk_far ?_ NB129_123.out _; (with_reducible repeat (first | refine bN ?_ _ | refine bD ?_ | refine bA ?_ _)); exact BK129.out) hb); have n6_ := bS HB hb; clear HO139; clear HO142; clear BK123; clear BK124; clear BK125; clear BK129; clear HB; have HO139 := n0_; have HO142 := n1_; have BK123 := n2_; have BK124 := n3_; have BK125 := n4_; have BK129 := n5_; have HB := n6_; clear n0_ n1_ n2_ n3_ n4_ n5_ n6_; (try clear hb); (try clear hb2); (try clear hk); (try clear hi); obtain ⟨hcz91_0, hcz91_1, hcz91_2, hcz91_3, hcz91_4, hcz91_5, hcz91_6⟩ := cz7 BK123; obtain ⟨hfz91_0, hfz91_1, hfz91_2, hfz91_3, hfz91_4, hfz91_5, hfz91_6⟩ := fz7 BK123; have hnb92 := NB125_124.out; have hnc92 := NB124_125.out; have hnb93 := NB125_129.out; have hnc93 := NB129_125.out; obtain ⟨hcz94_0, hcz94_1, hcz94_2, hcz94_3, hcz94_4, hcz94_5, hcz94_6⟩ := cz7 BK125; obtain ⟨hfz94_0, hfz94_1, hfz94_2, hfz94_3, hfz94_4, hfz94_5, hfz94_6⟩ := fz7 BK125))
       refine bodyPost_ret (results_ct rfl _ _ gb125 79 #[.int .i64 a0_0, .slice Ao84 y140.length co84, .bool a0_2, .int .i64 a0_3, .int .i64 a0_4, .int .i64 a0_5, .int .i64 a0_6] (0, 0) _ rfl (by (with_reducible repeat (first | refine bN ?_ _ | refine bD ?_ | refine bA ?_ _)); refine blk_put (cs := #[.int .i64 a0_0, .slice Ao84 y140.length co84, .bool a0_2, .int .i64 a0_3, .int .i64 a0_4, .int .i64 a0_5, .int .i64 0]) ?_ 6 _ rfl; (with_reducible repeat (first | refine bN ?_ _ | refine bD ?_ | refine bA ?_ _)); refine blk_put (cs := #[.int .i64 a0_0, .slice Ao84 y140.length co84, .bool a0_2, .int .i64 a0_3, .int .i64 a0_4, .int .i64 0, .int .i64 0]) ?_ 5 _ rfl; (with_reducible repeat (first | refine bN ?_ _ | refine bD ?_ | refine bA ?_ _)); refine blk_put (cs := #[.int .i64 a0_0, .slice Ao84 y140.length co84, .bool a0_2, .int .i64 a0_3, .int .i64 0, .int .i64 0, .int .i64 0]) ?_ 4 _ rfl; (with_reducible repeat (first | refine bN ?_ _ | refine bD ?_ | refine bA ?_ _)); refine blk_put (cs := #[.int .i64 a0_0, .slice Ao84 y140.length co84, .bool a0_2, .int .i64 0, .int .i64 0, .int .i64 0, .int .i64 0]) ?_ 3 _ rfl; (with_reducible repeat (first | refine bN ?_ _ | refine bD ?_ | refine bA ?_ _)); refine blk_put (cs := #[.int .i64 a0_0, .slice Ao84 y140.length co84, .bool false, .int .i64 0, .int .i64 0, .int .i64 0, .int .i64 0]) ?_ 2 _ rfl; (with_reducible repeat (first | refine bN ?_ _ | refine bD ?_ | refine bA ?_ _)); refine blk_put (cs := #[.int .i64 a0_0, .slice none 0 0, .bool false, .int .i64 0, .int .i64 0, .int .i64 0, .int .i64 0]) ?_ 1 _ rfl; (with_reducible repeat (first | refine bN ?_ _ | refine bD ?_ | refine bA ?_ _)); refine blk_put (cs := #[.int .i64 0, .slice none 0 0, .bool false, .int .i64 0, .int .i64 0, .int .i64 0, .int .i64 0]) ?_ 0 _ rfl; (with_reducible repeat (first | refine bN ?_ _ | refine bD ?_ | refine bA ?_ _)); exact BK125.out) Try.underlying79 rfl (by kernel_rfl)) rfl ?_
       exact ⟨_, by first | rfl | (simp [errW_none, errW_some] <;> rfl) | (simp [*, errW_none, errW_some] <;> rfl), by (with_reducible repeat (first | apply Kd.R_alloc | apply Kd.R_drewN | apply Kd.R_drew)); exact Kd.R_mono (Kd.R_far (p := ⟨gb125, 6, none⟩) (Kd.R_far (p := ⟨gb125, 5, none⟩) (Kd.R_far (p := ⟨gb125, 4, none⟩) (Kd.R_far (p := ⟨gb125, 3, none⟩) (Kd.R_far (p := ⟨gb125, 2, none⟩) (Kd.R_far (p := ⟨gb125, 1, none⟩) (Kd.R_far (p := ⟨gb125, 0, none⟩) (Kd.R_types HO142.out BK125.out (by decide)) (fun _ hk => hk.2) (.int .i64 a0_0)) (fun _ hk => hk.2) (.slice Ao84 y140.length co84)) (fun _ hk => hk.2) (.bool a0_2)) (fun _ hk => hk.2) (.int .i64 a0_3)) (fun _ hk => hk.2) (.int .i64 a0_4)) (fun _ hk => hk.2) (.int .i64 a0_5)) (fun _ hk => hk.2) (.int .i64 a0_6)) (fun _ hk => trivial), by repeat (first | (with_reducible first | exact HB.out | apply below_alloc | apply pw_below_drewN | apply below_drew1 | refine below_set ?_ GE123.out | refine below_set ?_ GE124.out | refine below_set ?_ GE125.out | refine below_set ?_ GE129.out) | exact HB.out)⟩
      ·replace c74 := Bool.eq_false_iff.mpr c74
       subst c74
       have H1 : (some (0, ([] : List (S83)), false, 0, 0, 0, 0, false)) = some (r1, r2, r3, r4, r5, r6, r7, r8) := by rw [if_neg (show ¬ (false = true) by decide)] at H; exact H
       clear H
       have H := H1
       clear H1
       simp only [Option.some.injEq, Prod.mk.injEq] at H
       obtain ⟨rfl, rfl, rfl, rfl, rfl, rfl, rfl, rfl⟩ := H
       try go_wp2
       have n0_ := Aside0.mk (blk_drew BK123.out)
       have n1_ := Aside0.mk (blk_drew BK124.out)
       have n2_ := Aside0.mk (blk_drew BK125.out)
       have n3_ := Aside0.mk (blk_drew BK129.out)
       have n4_ := Aside0.mk (below_drew1 HB.out)
       clear BK123
       clear BK124
       clear BK125
       clear BK129
       clear HB
       have BK123 := n0_
       have BK124 := n1_
       have BK125 := n2_
       have BK129 := n3_
       have HB := n4_
       clear n0_ n1_ n2_ n3_ n4_
       refine start_ (n := 9) (S := fun w' => w'.cell? ⟨gb123, 0, none⟩ = some (.int .i64 a0_0) ∧ w'.cell? ⟨gb123, 1, none⟩ = some (.slice A0_1 l0_1.length c0_1) ∧ w'.cell? ⟨gb123, 2, none⟩ = some (.bool a0_2) ∧ w'.cell? ⟨gb123, 3, none⟩ = some (.int .i64 a0_3) ∧ w'.cell? ⟨gb123, 4, none⟩ = some (.int .i64 a0_4) ∧ w'.cell? ⟨gb123, 5, none⟩ = some (.int .i64 a0_5) ∧ w'.cell? ⟨gb123, 6, none⟩ = some (.int .i64 a0_6) ∧ w'.cell? ⟨gb124, 0, none⟩ = some (.int .i64 a1_0) ∧ w'.cell? ⟨gb124, 1, none⟩ = some (.int .i64 a1_1) ∧ w'.cell? ⟨gb124, 2, none⟩ = some (.int .i64 a1_2)) (ds := [8]) (bm 9 0) (by kernel_rfl) rfl rfl (cx7 BK123 (cz3 BK124)) (fun hHeld => ?_); refine with_tabW spec_SendNumber.tab4 spec_SendNumber.bits4 (fun HT_ HW_ => ?_)
       generalize wc.drew = w95 at BK123 BK124 BK125 BK129 HB hHeld ⊢
       refine pure_ (i := 1) (N := some 41) (v := ?_) (a' := ?_) (bm 9 2) rfl rfl (any_of HT_.out (by kernel_rfl)) (fun _ _ _ h => h) (Or.inl ⟨by rfl, ?_⟩) ?_ ?_
       rotate_left
       ·intro w'
        go_simp
        with_reducible rfl
       rotate_left
       ·simp only [Act.put, sA, sZ, sS, i64_w, i32_w]
        rfl
       refine take_ (i := 2) (N := some 42) (v := ?_) (a' := ?_) (bm 9 6) rfl rfl (take_ofW HT_.out HW_.out (by kernel_rfl)) (fun _ _ _ h => h) (Or.inl ⟨by rfl, ?_⟩) hHeld ?_ ?_
       rotate_left
       ·rintro w' ⟨s0, s1, s2, s3, s4, s5, s6, s7, s8, s9⟩
        go_simp
        with_reducible rfl
       rotate_left
       ·simp only [Act.put, sA, sZ, sS, i64_w, i32_w]
        rfl
       refine take_ (i := 4) (N := some 44) (v := ?_) (a' := ?_) (bm 9 22) rfl rfl (take_ofW HT_.out HW_.out (by kernel_rfl)) (fun _ _ _ h => h) (Or.inl ⟨by rfl, ?_⟩) hHeld ?_ ?_
       rotate_left
       ·rintro w' ⟨s0, s1, s2, s3, s4, s5, s6, s7, s8, s9⟩
        go_simp
        with_reducible rfl
       rotate_left
       ·simp only [Act.put, sA, sZ, sS, i64_w, i32_w]
        rfl
       refine join_ (σ := Value × Value × Value) 3 (bm 9 63) (fun s_ => [(40, s_.1), (43, s_.2.1), (45, s_.2.2)]) (fun s_ w' => (w'.cell? ⟨gb123, 0, none⟩ = some (.int .i64 a0_0) ∧ w'.cell? ⟨gb123, 1, none⟩ = some (.slice A0_1 l0_1.length c0_1) ∧ w'.cell? ⟨gb123, 2, none⟩ = some (.bool a0_2) ∧ w'.cell? ⟨gb123, 3, none⟩ = some (.int .i64 a0_3) ∧ w'.cell? ⟨gb123, 4, none⟩ = some (.int .i64 a0_4) ∧ w'.cell? ⟨gb123, 5, none⟩ = some (.int .i64 a0_5) ∧ w'.cell? ⟨gb123, 6, none⟩ = some (.int .i64 a0_6) ∧ w'.cell? ⟨gb124, 0, none⟩ = some (.int .i64 a1_0) ∧ w'.cell? ⟨gb124, 1, none⟩ = some (.int .i64 a1_1) ∧ w'.cell? ⟨gb124, 2, none⟩ = some (.int .i64 a1_2)) ∧ (Kd.R k83 83 w' w.heap.size (fun k_ => some k_ ≠ (s_.2.2 : Value).ownBlock ∧ k_ ≠ gb124 ∧ k_ ≠ gb129) s_.2.1 y134) ∧ (Kd.R k83 83 w' w.heap.size (fun k_ => some k_ ≠ (s_.2.1 : Value).ownBlock ∧ k_ ≠ gb124 ∧ k_ ≠ gb129) s_.2.2 y137) ∧ (w'.heap[gb123]? = some (.cells #[.int .i64 a0_0, .slice A0_1 l0_1.length c0_1, .bool a0_2, .int .i64 a0_3, .int .i64 a0_4, .int .i64 a0_5, .int .i64 a0_6] 79 (0, 0))) ∧ (w'.heap[gb124]? = some (.cells #[.int .i64 a1_0, .int .i64 a1_1, .int .i64 a1_2] 83 (0, 0))) ∧ (w'.heap[gb125]? = some (.cells #[.int .i64 0, .slice none 0 0, .bool false, .int .i64 0, .int .i64 0, .int .i64 0, .int .i64 0] 79 (0, 0))) ∧ (w'.heap[gb129]? = some (.cells #[.int .i64 t126, .int .i64 t127, .int .i64 t128] 83 (0, 0))) ∧ (Below w.heap.size w w')) ?_ ?_
       rotate_left
       ·intro hCont
        refine two_ (i := 0) (j := 5) (Ni := some 40) (Nj := some 45) (bm 9 23) (bm 9 54) rfl rfl rfl rfl (two_of HT_.out (by kernel_rfl)) (by decide) (by decide) (fun K hK => ?_) (fun K hK => ?_)
        ·skip
         refine Kd.R_lit_step k83 _ 83 ?hg (N := 40) ?hd (xs := ([] : List (S83))) (inner := []) (ok := fun _ => True) (okp := fun _ => True) ?hr ?hp (fun _ hk => hk) trivial (Below.refl _ _) (Nat.le_refl _) (by simp) ?_; (case hd => rfl); (case hg => rfl); (case hr => first | (go_simp; done) | (go_simp; rfl)); (case hp => exact (Reps.none _ _))
         intro v132 w96 ho97 hb hg_ hnew_
         clear hg_ hnew_
         (first | rw [← Ny131.out] at ho97 | (simp only [Int.reduceToNat] at ho97; rw [← Ny131.out] at ho97))
         have n0_ := Aside0.mk (Kd.R_lower (Kd.R_newB (Kd.R_newB ho97 (g := gb124) (o := .cells #[.int .i64 a1_0, .int .i64 a1_1, .int .i64 a1_2] 83 (0, 0)) (mB BK124)) (g := gb129) (o := .cells #[.int .i64 t126, .int .i64 t127, .int .i64 t128] 83 (0, 0)) (mB BK129)) (below_size (by repeat (first | (with_reducible first | exact HB.out | apply below_alloc | apply pw_below_drewN | apply below_drew1 | refine below_set ?_ GE123.out | refine below_set ?_ GE124.out | refine below_set ?_ GE125.out | refine below_set ?_ GE129.out) | exact HB.out))))
         have n1_ := bX BK123 hb
         have n2_ := bX BK124 hb
         have n3_ := bX BK125 hb
         have n4_ := bX BK129 hb
         have n5_ := bS HB hb
         clear BK123
         clear BK124
         clear BK125
         clear BK129
         clear HB
         have HO133 := n0_
         have BK123 := n1_
         have BK124 := n2_
         have BK125 := n3_
         have BK129 := n4_
         have HB := n5_
         clear n0_ n1_ n2_ n3_ n4_ n5_
         clear hb ho97
         refine hK.out _ _ (cx7 BK123 (cz3 BK124)) (fun hHeld => ?_)
         clear hK K
         refine norm_ (a' := ?_) ?_ ?_
         rotate_left
         ·show Act.put _ (some 40) _ = _
          simp only [Act.put, sA, sZ, sS, i64_w, i32_w]
          rfl
         refine two_ (i := 3) (j := 5) (Ni := some 43) (Nj := some 45) (bm 9 31) (bm 9 55) rfl rfl rfl rfl (two_of HT_.out (by kernel_rfl)) (by decide) (by decide) (fun K hK => ?_) (fun K hK => ?_)
         ·skip
          refine Kd.R_append_rows_step k83 (w0 := w) w.heap.size (by rfl) (.tmp 40) (.tmp 42) 76 83 (.agg #[(.int .i64 0), (.int .i64 0), (.int .i64 0)]) 24 rfl Try.underlying76 info83 rfl (by decide) (by omega) v132 y131 l0_1 _ _ _ (fun k_ => k_ ≠ gb124 ∧ k_ ≠ gb129) (fun _ => False) rfl rfl ?aO ?aR (fun _ _ h => h) (fun _ h => h.elim) ?aF ?aB ?aS ?aL ?_
          (case aR => repeat (first | exact (Kd.C_below HR0_1.out HB.out) | (with_reducible refine Kd.C_alloc ?_ _) | (with_reducible refine Kd.C_drewN ?_ _) | (with_reducible refine Kd.C_drew ?_)))
          (case aB => exact (by repeat (first | (with_reducible first | exact HB.out | apply below_alloc | apply pw_below_drewN | apply below_drew1 | refine below_set ?_ GE123.out | refine below_set ?_ GE124.out | refine below_set ?_ GE125.out | refine below_set ?_ GE129.out) | exact HB.out)))
          (case aF => exact (fun k_ hk => ⟨Kd.freshB (g := gb124) (o := .cells #[.int .i64 a1_0, .int .i64 a1_1, .int .i64 a1_2] 83 (0, 0)) (mB BK124) k_ hk, Kd.freshB (g := gb129) (o := .cells #[.int .i64 t126, .int .i64 t127, .int .i64 t128] 83 (0, 0)) (mB BK129) k_ hk⟩))
          (case aO => exact (by (with_reducible repeat (first | apply Kd.R_alloc | apply Kd.R_drewN | apply Kd.R_drew)); exact Kd.R_mono HO133.out (fun _ hk => ⟨hk.1.2, hk.2⟩)))
          (case aS => exact (below_size (by repeat (first | (with_reducible first | exact HB.out | apply below_alloc | apply pw_below_drewN | apply below_drew1 | refine below_set ?_ GE123.out | refine below_set ?_ GE124.out | refine below_set ?_ GE125.out | refine below_set ?_ GE129.out) | exact HB.out))))
          (case aL => have := LMc71.out; omega)
          intro v135 w98 ho hb hg hat
          rw [← Ny134.out] at ho
          have n0_ := Aside0.mk (blk_grown (g := gb123) (o := .cells #[.int .i64 a0_0, .slice A0_1 l0_1.length c0_1, .bool a0_2, .int .i64 a0_3, .int .i64 a0_4, .int .i64 a0_5, .int .i64 a0_6] 79 (0, 0)) (mB BK123) hg (Kd.R_ne HO133.out BK123.out (by decide)))
          have n1_ := Aside0.mk (blk_grown (g := gb124) (o := .cells #[.int .i64 a1_0, .int .i64 a1_1, .int .i64 a1_2] 83 (0, 0)) (mB BK124) hg (Kd.R_away HO133.out (fun _ hk => hk.1.2)))
          have n2_ := Aside0.mk (blk_grown (g := gb125) (o := .cells #[.int .i64 0, .slice none 0 0, .bool false, .int .i64 0, .int .i64 0, .int .i64 0, .int .i64 0] 79 (0, 0)) (mB BK125) hg (Kd.R_ne HO133.out BK125.out (by decide)))
          have n3_ := Aside0.mk (blk_grown (g := gb129) (o := .cells #[.int .i64 t126, .int .i64 t127, .int .i64 t128] 83 (0, 0)) (mB BK129) hg (Kd.R_away HO133.out (fun _ hk => hk.2)))
          have n4_ := Aside0.mk (hb)
          have n5_ := Aside0.mk (ho)
          clear BK123
          clear BK124
          clear BK125
          clear BK129
          clear HB
          clear HO133
          have BK123 := n0_
          have BK124 := n1_
          have BK125 := n2_
          have BK129 := n3_
          have HB := n4_
          have HO136 := n5_
          clear n0_ n1_ n2_ n3_ n4_ n5_
          clear ho hb hg hat
          refine hK.out _ _ (cx7 BK123 (cz3 BK124)) (fun hHeld => ?_)
          clear hK K
          refine norm_ (a' := ?_) ?_ ?_
          rotate_left
          ·show Act.put _ (some 43) _ = _
           simp only [Act.put, sA, sZ, sS, i64_w, i32_w]
           rfl
          refine one_ (i := 5) (N := some 45) (bm 9 63) rfl rfl (one_of HT_.out (by kernel_rfl)) (by decide) (fun K hK => ?_)
          refine Kd.R_lit_step k83 _ 83 ?hg (N := 45) ?hd (xs := ([(⟨a1_0, a1_1, a1_2⟩ : S83)] : List (S83))) (inner := [.int .i64 a1_0, .int .i64 a1_1, .int .i64 a1_2]) (ok := fun _ => True) (okp := fun _ => True) ?hr ?hp (fun _ hk => hk) trivial (Below.refl _ _) (Nat.le_refl _) (by simp) ?_; (case hd => rfl); (case hg => rfl); (case hr => first | (go_simp; done) | (go_simp; rfl)); (case hp => exact (Reps.c3 (show Kd.M k83 _ _ _ (⟨a1_0, a1_1, a1_2⟩ : S83) [.int .i64 a1_0, .int .i64 a1_1, .int .i64 a1_2] from (k83_mkM _ _ _ (⟨a1_0, a1_1, a1_2⟩ : S83) )) (Reps.none _ _)))
          intro v138 w99 ho100 hb hg_ hnew_
          clear hg_ hnew_
          (first | rw [← Ny137.out] at ho100 | (simp only [Int.reduceToNat] at ho100; rw [← Ny137.out] at ho100))
          have n0_ := Aside0.mk (Kd.R_elder' (mR HO136.out) (Kd.R_base ho100) hb)
          have n1_ := Aside0.mk (Kd.R_lower (Kd.R_newB (Kd.R_newB (Kd.R_new' ho100 (Kd.R_lt (mR HO136.out))) (g := gb124) (o := .cells #[.int .i64 a1_0, .int .i64 a1_1, .int .i64 a1_2] 83 (0, 0)) (mB BK124)) (g := gb129) (o := .cells #[.int .i64 t126, .int .i64 t127, .int .i64 t128] 83 (0, 0)) (mB BK129)) (below_size (by repeat (first | (with_reducible first | exact HB.out | apply below_alloc | apply pw_below_drewN | apply below_drew1 | refine below_set ?_ GE123.out | refine below_set ?_ GE124.out | refine below_set ?_ GE125.out | refine below_set ?_ GE129.out) | exact HB.out))))
          have n2_ := bX BK123 hb
          have n3_ := bX BK124 hb
          have n4_ := bX BK125 hb
          have n5_ := bX BK129 hb
          have n6_ := bS HB hb
          clear HO136
          clear BK123
          clear BK124
          clear BK125
          clear BK129
          clear HB
          have HO136 := n0_
          have HO139 := n1_
          have BK123 := n2_
          have BK124 := n3_
          have BK125 := n4_
          have BK129 := n5_
          have HB := n6_
          clear n0_ n1_ n2_ n3_ n4_ n5_ n6_
          clear hb ho100
          refine hK.out _ _ (cx7 BK123 (cz3 BK124)) (fun hHeld => ?_)
          clear hK K
          refine norm_ (a' := ?_) ?_ ?_
          rotate_left
          ·show Act.put _ (some 45) _ = _
           simp only [Act.put, sA, sZ, sS, i64_w, i32_w]
           rfl
          exact norm_ (by simp only [putAll, Act.put, sA, sZ, sS]) (hCont (v132, v135, v138) _ ⟨hHeld, (by (with_reducible repeat (first | apply Kd.R_alloc | apply Kd.R_drewN | apply Kd.R_drew)); exact Kd.R_mono HO136.out (fun _ hk => ⟨hk.2, ⟨hk.1.1, hk.1.2⟩⟩)), (by (with_reducible repeat (first | apply Kd.R_alloc | apply Kd.R_drewN | apply Kd.R_drew)); exact Kd.R_mono HO139.out (fun _ hk => ⟨hk.1.1.2, ⟨hk.1.2, hk.2⟩⟩)), (mB BK123), (mB BK124), (mB BK125), (mB BK129), (by repeat (first | (with_reducible first | exact HB.out | apply below_alloc | apply pw_below_drewN | apply below_drew1 | refine below_set ?_ GE123.out | refine below_set ?_ GE124.out | refine below_set ?_ GE125.out | refine below_set ?_ GE129.out) | exact HB.out))⟩)
         ·skip
          refine Kd.R_lit_step k83 _ 83 ?hg (N := 45) ?hd (xs := ([(⟨a1_0, a1_1, a1_2⟩ : S83)] : List (S83))) (inner := [.int .i64 a1_0, .int .i64 a1_1, .int .i64 a1_2]) (ok := fun _ => True) (okp := fun _ => True) ?hr ?hp (fun _ hk => hk) trivial (Below.refl _ _) (Nat.le_refl _) (by simp) ?_; (case hd => rfl); (case hg => rfl); (case hr => first | (go_simp; done) | (go_simp; rfl)); (case hp => exact (Reps.c3 (show Kd.M k83 _ _ _ (⟨a1_0, a1_1, a1_2⟩ : S83) [.int .i64 a1_0, .int .i64 a1_1, .int .i64 a1_2] from (k83_mkM _ _ _ (⟨a1_0, a1_1, a1_2⟩ : S83) )) (Reps.none _ _)))
          intro v138 w98 ho99 hb hg_ hnew_
          clear hg_ hnew_
          (first | rw [← Ny137.out] at ho99 | (simp only [Int.reduceToNat] at ho99; rw [← Ny137.out] at ho99))
          have n0_ := Aside0.mk (Kd.R_elder' (mR HO133.out) (Kd.R_base ho99) hb)
          have n1_ := Aside0.mk (Kd.R_lower (Kd.R_newB (Kd.R_newB (Kd.R_new' ho99 (Kd.R_lt (mR HO133.out))) (g := gb124) (o := .cells #[.int .i64 a1_0, .int .i64 a1_1, .int .i64 a1_2] 83 (0, 0)) (mB BK124)) (g := gb129) (o := .cells #[.int .i64 t126, .int .i64 t127, .int .i64 t128] 83 (0, 0)) (mB BK129)) (below_size (by repeat (first | (with_reducible first | exact HB.out | apply below_alloc | apply pw_below_drewN | apply below_drew1 | refine below_set ?_ GE123.out | refine below_set ?_ GE124.out | refine below_set ?_ GE125.out | refine below_set ?_ GE129.out) | exact HB.out))))
          have n2_ := bX BK123 hb
          have n3_ := bX BK124 hb
          have n4_ := bX BK125 hb
          have n5_ := bX BK129 hb
          have n6_ := bS HB hb
          clear HO133
          clear BK123
          clear BK124
          clear BK125
          clear BK129
          clear HB
          have HO133 := n0_
          have HO139 := n1_
          have BK123 := n2_
          have BK124 := n3_
          have BK125 := n4_
          have BK129 := n5_
          have HB := n6_
          clear n0_ n1_ n2_ n3_ n4_ n5_ n6_
          clear hb ho99
          refine hK.out _ _ (cx7 BK123 (cz3 BK124)) (fun hHeld => ?_)
          clear hK K
          refine norm_ (a' := ?_) ?_ ?_
          rotate_left
          ·show Act.put _ (some 45) _ = _
           simp only [Act.put, sA, sZ, sS, i64_w, i32_w]
           rfl
          refine one_ (i := 3) (N := some 43) (bm 9 63) rfl rfl (one_of HT_.out (by kernel_rfl)) (by decide) (fun K hK => ?_)
          refine Kd.R_append_rows_step k83 (w0 := w) w.heap.size (by rfl) (.tmp 40) (.tmp 42) 76 83 (.agg #[(.int .i64 0), (.int .i64 0), (.int .i64 0)]) 24 rfl Try.underlying76 info83 rfl (by decide) (by omega) v132 y131 l0_1 _ _ _ (fun k_ => some k_ ≠ (v138 : Value).ownBlock ∧ k_ ≠ gb124 ∧ k_ ≠ gb129) (fun _ => False) rfl rfl ?aO ?aR (fun _ _ h => h) (fun _ h => h.elim) ?aF ?aB ?aS ?aL ?_
          (case aR => repeat (first | exact (Kd.C_below HR0_1.out HB.out) | (with_reducible refine Kd.C_alloc ?_ _) | (with_reducible refine Kd.C_drewN ?_ _) | (with_reducible refine Kd.C_drew ?_)))
          (case aB => exact (by repeat (first | (with_reducible first | exact HB.out | apply below_alloc | apply pw_below_drewN | apply below_drew1 | refine below_set ?_ GE123.out | refine below_set ?_ GE124.out | refine below_set ?_ GE125.out | refine below_set ?_ GE129.out) | exact HB.out)))
          (case aF => exact (fun k_ hk => ⟨Kd.fresh' (Kd.R_lt (mR HO139.out)) k_ hk, Kd.freshB (g := gb124) (o := .cells #[.int .i64 a1_0, .int .i64 a1_1, .int .i64 a1_2] 83 (0, 0)) (mB BK124) k_ hk, Kd.freshB (g := gb129) (o := .cells #[.int .i64 t126, .int .i64 t127, .int .i64 t128] 83 (0, 0)) (mB BK129) k_ hk⟩))
          (case aO => exact (by (with_reducible repeat (first | apply Kd.R_alloc | apply Kd.R_drewN | apply Kd.R_drew)); exact Kd.R_mono HO133.out (fun _ hk => ⟨hk.2, ⟨hk.1.1.2, hk.1.2⟩⟩)))
          (case aS => exact (below_size (by repeat (first | (with_reducible first | exact HB.out | apply below_alloc | apply pw_below_drewN | apply below_drew1 | refine below_set ?_ GE123.out | refine below_set ?_ GE124.out | refine below_set ?_ GE125.out | refine below_set ?_ GE129.out) | exact HB.out))))
          (case aL => have := LMc71.out; omega)
          intro v135 w100 ho hb hg hat
          rw [← Ny134.out] at ho
          have n0_ := Aside0.mk (blk_grown (g := gb123) (o := .cells #[.int .i64 a0_0, .slice A0_1 l0_1.length c0_1, .bool a0_2, .int .i64 a0_3, .int .i64 a0_4, .int .i64 a0_5, .int .i64 a0_6] 79 (0, 0)) (mB BK123) hg (Kd.R_ne HO133.out BK123.out (by decide)))
          have n1_ := Aside0.mk (blk_grown (g := gb124) (o := .cells #[.int .i64 a1_0, .int .i64 a1_1, .int .i64 a1_2] 83 (0, 0)) (mB BK124) hg (Kd.R_away HO133.out (fun _ hk => hk.1.1.2)))
          have n2_ := Aside0.mk (blk_grown (g := gb125) (o := .cells #[.int .i64 0, .slice none 0 0, .bool false, .int .i64 0, .int .i64 0, .int .i64 0, .int .i64 0] 79 (0, 0)) (mB BK125) hg (Kd.R_ne HO133.out BK125.out (by decide)))
          have n3_ := Aside0.mk (blk_grown (g := gb129) (o := .cells #[.int .i64 t126, .int .i64 t127, .int .i64 t128] 83 (0, 0)) (mB BK129) hg (Kd.R_away HO133.out (fun _ hk => hk.1.2)))
          have n4_ := Aside0.mk (Kd.R_after (ok := (fun k_ => k_ ≠ gb124 ∧ k_ ≠ gb129)) (by (with_reducible repeat (first | apply Kd.R_alloc | apply Kd.R_drewN | apply Kd.R_drew)); exact Kd.R_mono HO139.out (fun _ hk => ⟨⟨hk.1.2, hk.2⟩, hk.1.1.2⟩)) hg hat)
          have n5_ := Aside0.mk (hb)
          have n6_ := Aside0.mk (ho)
          clear BK123
          clear BK124
          clear BK125
          clear BK129
          clear HO139
          clear HB
          clear HO133
          have BK123 := n0_
          have BK124 := n1_
          have BK125 := n2_
          have BK129 := n3_
          have HO139 := n4_
          have HB := n5_
          have HO136 := n6_
          clear n0_ n1_ n2_ n3_ n4_ n5_ n6_
          clear ho hb hg hat
          refine hK.out _ _ (cx7 BK123 (cz3 BK124)) (fun hHeld => ?_)
          clear hK K
          refine norm_ (a' := ?_) ?_ ?_
          rotate_left
          ·show Act.put _ (some 43) _ = _
           simp only [Act.put, sA, sZ, sS, i64_w, i32_w]
           rfl
          exact norm_ (by simp only [putAll, Act.put, sA, sZ, sS]) (hCont (v132, v135, v138) _ ⟨hHeld, (mR HO136.out), (by (with_reducible repeat (first | apply Kd.R_alloc | apply Kd.R_drewN | apply Kd.R_drew)); exact Kd.R_mono HO139.out (fun _ hk => ⟨hk.2, ⟨hk.1.1, hk.1.2⟩⟩)), (mB BK123), (mB BK124), (mB BK125), (mB BK129), (by repeat (first | (with_reducible first | exact HB.out | apply below_alloc | apply pw_below_drewN | apply below_drew1 | refine below_set ?_ GE123.out | refine below_set ?_ GE124.out | refine below_set ?_ GE125.out | refine below_set ?_ GE129.out) | exact HB.out))⟩)
        ·skip
         refine Kd.R_lit_step k83 _ 83 ?hg (N := 45) ?hd (xs := ([(⟨a1_0, a1_1, a1_2⟩ : S83)] : List (S83))) (inner := [.int .i64 a1_0, .int .i64 a1_1, .int .i64 a1_2]) (ok := fun _ => True) (okp := fun _ => True) ?hr ?hp (fun _ hk => hk) trivial (Below.refl _ _) (Nat.le_refl _) (by simp) ?_; (case hd => rfl); (case hg => rfl); (case hr => first | (go_simp; done) | (go_simp; rfl)); (case hp => exact (Reps.c3 (show Kd.M k83 _ _ _ (⟨a1_0, a1_1, a1_2⟩ : S83) [.int .i64 a1_0, .int .i64 a1_1, .int .i64 a1_2] from (k83_mkM _ _ _ (⟨a1_0, a1_1, a1_2⟩ : S83) )) (Reps.none _ _)))
         intro v138 w96 ho97 hb hg_ hnew_
         clear hg_ hnew_
         (first | rw [← Ny137.out] at ho97 | (simp only [Int.reduceToNat] at ho97; rw [← Ny137.out] at ho97))
         have n0_ := Aside0.mk (Kd.R_lower (Kd.R_newB (Kd.R_newB ho97 (g := gb124) (o := .cells #[.int .i64 a1_0, .int .i64 a1_1, .int .i64 a1_2] 83 (0, 0)) (mB BK124)) (g := gb129) (o := .cells #[.int .i64 t126, .int .i64 t127, .int .i64 t128] 83 (0, 0)) (mB BK129)) (below_size (by repeat (first | (with_reducible first | exact HB.out | apply below_alloc | apply pw_below_drewN | apply below_drew1 | refine below_set ?_ GE123.out | refine below_set ?_ GE124.out | refine below_set ?_ GE125.out | refine below_set ?_ GE129.out) | exact HB.out))))
         have n1_ := bX BK123 hb
         have n2_ := bX BK124 hb
         have n3_ := bX BK125 hb
         have n4_ := bX BK129 hb
         have n5_ := bS HB hb
         clear BK123
         clear BK124
         clear BK125
         clear BK129
         clear HB
         have HO139 := n0_
         have BK123 := n1_
         have BK124 := n2_
         have BK125 := n3_
         have BK129 := n4_
         have HB := n5_
         clear n0_ n1_ n2_ n3_ n4_ n5_
         clear hb ho97
         refine hK.out _ _ (cx7 BK123 (cz3 BK124)) (fun hHeld => ?_)
         clear hK K
         refine norm_ (a' := ?_) ?_ ?_
         rotate_left
         ·show Act.put _ (some 45) _ = _
          simp only [Act.put, sA, sZ, sS, i64_w, i32_w]
          rfl
         refine one_ (i := 0) (N := some 40) (bm 9 55) rfl rfl (one_of HT_.out (by kernel_rfl)) (by decide) (fun K hK => ?_)
         refine Kd.R_lit_step k83 _ 83 ?hg (N := 40) ?hd (xs := ([] : List (S83))) (inner := []) (ok := fun _ => True) (okp := fun _ => True) ?hr ?hp (fun _ hk => hk) trivial (Below.refl _ _) (Nat.le_refl _) (by simp) ?_; (case hd => rfl); (case hg => rfl); (case hr => first | (go_simp; done) | (go_simp; rfl)); (case hp => exact (Reps.none _ _))
         intro v132 w98 ho99 hb hg_ hnew_
         clear hg_ hnew_
         (first | rw [← Ny131.out] at ho99 | (simp only [Int.reduceToNat] at ho99; rw [← Ny131.out] at ho99))
         have n0_ := Aside0.mk (Kd.R_elder' (mR HO139.out) (Kd.R_base ho99) hb)
         have n1_ := Aside0.mk (Kd.R_lower (Kd.R_newB (Kd.R_newB (Kd.R_new' ho99 (Kd.R_lt (mR HO139.out))) (g := gb124) (o := .cells #[.int .i64 a1_0, .int .i64 a1_1, .int .i64 a1_2] 83 (0, 0)) (mB BK124)) (g := gb129) (o := .cells #[.int .i64 t126, .int .i64 t127, .int .i64 t128] 83 (0, 0)) (mB BK129)) (below_size (by repeat (first | (with_reducible first | exact HB.out | apply below_alloc | apply pw_below_drewN | apply below_drew1 | refine below_set ?_ GE123.out | refine below_set ?_ GE124.out | refine below_set ?_ GE125.out | refine below_set ?_ GE129.out) | exact HB.out))))
         have n2_ := bX BK123 hb
         have n3_ := bX BK124 hb
         have n4_ := bX BK125 hb
         have n5_ := bX BK129 hb
         have n6_ := bS HB hb
         clear HO139
         clear BK123
         clear BK124
         clear BK125
         clear BK129
         clear HB
         have HO139 := n0_
         have HO133 := n1_
         have BK123 := n2_
         have BK124 := n3_
         have BK125 := n4_
         have BK129 := n5_
         have HB := n6_
         clear n0_ n1_ n2_ n3_ n4_ n5_ n6_
         clear hb ho99
         refine hK.out _ _ (cx7 BK123 (cz3 BK124)) (fun hHeld => ?_)
         clear hK K
         refine norm_ (a' := ?_) ?_ ?_
         rotate_left
         ·show Act.put _ (some 40) _ = _
          simp only [Act.put, sA, sZ, sS, i64_w, i32_w]
          rfl
         refine one_ (i := 3) (N := some 43) (bm 9 63) rfl rfl (one_of HT_.out (by kernel_rfl)) (by decide) (fun K hK => ?_)
         refine Kd.R_append_rows_step k83 (w0 := w) w.heap.size (by rfl) (.tmp 40) (.tmp 42) 76 83 (.agg #[(.int .i64 0), (.int .i64 0), (.int .i64 0)]) 24 rfl Try.underlying76 info83 rfl (by decide) (by omega) v132 y131 l0_1 _ _ _ (fun k_ => some k_ ≠ (v138 : Value).ownBlock ∧ k_ ≠ gb124 ∧ k_ ≠ gb129) (fun _ => False) rfl rfl ?aO ?aR (fun _ _ h => h) (fun _ h => h.elim) ?aF ?aB ?aS ?aL ?_
         (case aR => repeat (first | exact (Kd.C_below HR0_1.out HB.out) | (with_reducible refine Kd.C_alloc ?_ _) | (with_reducible refine Kd.C_drewN ?_ _) | (with_reducible refine Kd.C_drew ?_)))
         (case aB => exact (by repeat (first | (with_reducible first | exact HB.out | apply below_alloc | apply pw_below_drewN | apply below_drew1 | refine below_set ?_ GE123.out | refine below_set ?_ GE124.out | refine below_set ?_ GE125.out | refine below_set ?_ GE129.out) | exact HB.out)))
         (case aF => exact (fun k_ hk => ⟨Kd.fresh' (Kd.R_lt (mR HO139.out)) k_ hk, Kd.freshB (g := gb124) (o := .cells #[.int .i64 a1_0, .int .i64 a1_1, .int .i64 a1_2] 83 (0, 0)) (mB BK124) k_ hk, Kd.freshB (g := gb129) (o := .cells #[.int .i64 t126, .int .i64 t127, .int .i64 t128] 83 (0, 0)) (mB BK129) k_ hk⟩))
         (case aO => exact (by (with_reducible repeat (first | apply Kd.R_alloc | apply Kd.R_drewN | apply Kd.R_drew)); exact Kd.R_mono HO133.out (fun _ hk => ⟨hk.1.1.2, ⟨hk.1.2, hk.2⟩⟩)))
         (case aS => exact (below_size (by repeat (first | (with_reducible first | exact HB.out | apply below_alloc | apply pw_below_drewN | apply below_drew1 | refine below_set ?_ GE123.out | refine below_set ?_ GE124.out | refine below_set ?_ GE125.out | refine below_set ?_ GE129.out) | exact HB.out))))
         (case aL => have := LMc71.out; omega)
         intro v135 w100 ho hb hg hat
         rw [← Ny134.out] at ho
         have n0_ := Aside0.mk (blk_grown (g := gb123) (o := .cells #[.int .i64 a0_0, .slice A0_1 l0_1.length c0_1, .bool a0_2, .int .i64 a0_3, .int .i64 a0_4, .int .i64 a0_5, .int .i64 a0_6] 79 (0, 0)) (mB BK123) hg (Kd.R_ne HO133.out BK123.out (by decide)))
         have n1_ := Aside0.mk (blk_grown (g := gb124) (o := .cells #[.int .i64 a1_0, .int .i64 a1_1, .int .i64 a1_2] 83 (0, 0)) (mB BK124) hg (Kd.R_away HO133.out (fun _ hk => hk.1.2)))
         have n2_ := Aside0.mk (blk_grown (g := gb125) (o := .cells #[.int .i64 0, .slice none 0 0, .bool false, .int .i64 0, .int .i64 0, .int .i64 0, .int .i64 0] 79 (0, 0)) (mB BK125) hg (Kd.R_ne HO133.out BK125.out (by decide)))
         have n3_ := Aside0.mk (blk_grown (g := gb129) (o := .cells #[.int .i64 t126, .int .i64 t127, .int .i64 t128] 83 (0, 0)) (mB BK129) hg (Kd.R_away HO133.out (fun _ hk => hk.2)))
         have n4_ := Aside0.mk (Kd.R_after (ok := (fun k_ => k_ ≠ gb124 ∧ k_ ≠ gb129)) (by (with_reducible repeat (first | apply Kd.R_alloc | apply Kd.R_drewN | apply Kd.R_drew)); exact Kd.R_mono HO139.out (fun _ hk => ⟨⟨hk.1.1.2, hk.1.2⟩, hk.2⟩)) hg hat)
         have n5_ := Aside0.mk (hb)
         have n6_ := Aside0.mk (ho)
         clear BK123
         clear BK124
         clear BK125
         clear BK129
         clear HO139
         clear HB
         clear HO133
         have BK123 := n0_
         have BK124 := n1_
         have BK125 := n2_
         have BK129 := n3_
         have HO139 := n4_
         have HB := n5_
         have HO136 := n6_
         clear n0_ n1_ n2_ n3_ n4_ n5_ n6_
         clear ho hb hg hat
         refine hK.out _ _ (cx7 BK123 (cz3 BK124)) (fun hHeld => ?_)
         clear hK K
         refine norm_ (a' := ?_) ?_ ?_
         rotate_left
         ·show Act.put _ (some 43) _ = _
          simp only [Act.put, sA, sZ, sS, i64_w, i32_w]
          rfl
         exact norm_ (by simp only [putAll, Act.put, sA, sZ, sS]) (hCont (v132, v135, v138) _ ⟨hHeld, (mR HO136.out), (by (with_reducible repeat (first | apply Kd.R_alloc | apply Kd.R_drewN | apply Kd.R_drew)); exact Kd.R_mono HO139.out (fun _ hk => ⟨hk.2, ⟨hk.1.1, hk.1.2⟩⟩)), (mB BK123), (mB BK124), (mB BK125), (mB BK129), (by repeat (first | (with_reducible first | exact HB.out | apply below_alloc | apply pw_below_drewN | apply below_drew1 | refine below_set ?_ GE123.out | refine below_set ?_ GE124.out | refine below_set ?_ GE125.out | refine below_set ?_ GE129.out) | exact HB.out))⟩)
       rintro ⟨v132, v135, v138⟩ w101 ⟨hS_, h0_, h1_, h2_, h3_, h4_, h5_, h6_⟩
       have n0_ : Aside0 (Kd.R k83 83 w101 w.heap.size (fun k_ => some k_ ≠ (v138 : Value).ownBlock ∧ k_ ≠ gb124 ∧ k_ ≠ gb129) v135 y134) := ⟨h0_⟩
       have n1_ : Aside0 (Kd.R k83 83 w101 w.heap.size (fun k_ => some k_ ≠ (v135 : Value).ownBlock ∧ k_ ≠ gb124 ∧ k_ ≠ gb129) v138 y137) := ⟨h1_⟩
       have n2_ : Aside0 (w101.heap[gb123]? = some (.cells #[.int .i64 a0_0, .slice A0_1 l0_1.length c0_1, .bool a0_2, .int .i64 a0_3, .int .i64 a0_4, .int .i64 a0_5, .int .i64 a0_6] 79 (0, 0))) := ⟨h2_⟩
       have n3_ : Aside0 (w101.heap[gb124]? = some (.cells #[.int .i64 a1_0, .int .i64 a1_1, .int .i64 a1_2] 83 (0, 0))) := ⟨h3_⟩
       have n4_ : Aside0 (w101.heap[gb125]? = some (.cells #[.int .i64 0, .slice none 0 0, .bool false, .int .i64 0, .int .i64 0, .int .i64 0, .int .i64 0] 79 (0, 0))) := ⟨h4_⟩
       have n5_ : Aside0 (w101.heap[gb129]? = some (.cells #[.int .i64 t126, .int .i64 t127, .int .i64 t128] 83 (0, 0))) := ⟨h5_⟩
       have n6_ : Aside0 (Below w.heap.size w w101) := ⟨h6_⟩
       clear BK123
       clear BK124
       clear BK125
       clear BK129
       clear HB
       clear h0_ h1_ h2_ h3_ h4_ h5_ h6_
       have HO136 := n0_
       have HO139 := n1_
       have BK123 := n2_
       have BK124 := n3_
       have BK125 := n4_
       have BK129 := n5_
       have HB := n6_
       clear n0_ n1_ n2_ n3_ n4_ n5_ n6_
       have hHeld : w101.cell? ⟨gb123, 0, none⟩ = some (.int .i64 a0_0) ∧ w101.cell? ⟨gb123, 1, none⟩ = some (.slice A0_1 l0_1.length c0_1) ∧ w101.cell? ⟨gb123, 2, none⟩ = some (.bool a0_2) ∧ w101.cell? ⟨gb123, 3, none⟩ = some (.int .i64 a0_3) ∧ w101.cell? ⟨gb123, 4, none⟩ = some (.int .i64 a0_4) ∧ w101.cell? ⟨gb123, 5, none⟩ = some (.int .i64 a0_5) ∧ w101.cell? ⟨gb123, 6, none⟩ = some (.int .i64 a0_6) ∧ w101.cell? ⟨gb124, 0, none⟩ = some (.int .i64 a1_0) ∧ w101.cell? ⟨gb124, 1, none⟩ = some (.int .i64 a1_1) ∧ w101.cell? ⟨gb124, 2, none⟩ = some (.int .i64 a1_2) := hS_
       obtain ⟨Ao103, co103, eo103⟩ := Kd.R_slice HO139.out
       (first | subst eo103 | (injection eo103 with f1_ f2_ f3_; have f4_ := f1_.symm; have f5_ := f3_.symm; clear f1_ f2_ f3_; subst f4_; subst f5_))
       refine norm_ (a' := ?_) ?_ ?_
       rotate_left
       ·simp only [putAll, Act.put, sA, sZ, sS]
        rfl
       refine one_ (i := 6) (N := some 46) (bm 9 127) rfl rfl (one_of HT_.out (by kernel_rfl)) (by decide) (fun K hK => ?_)
       refine Kd.R_append_rows_step k83 (w0 := w) w.heap.size (by rfl) (.tmp 43) (.tmp 45) 76 83 (.agg #[(.int .i64 0), (.int .i64 0), (.int .i64 0)]) 24 rfl Try.underlying76 info83 rfl (by decide) (by omega) v135 y134 y137 _ _ _ (fun k_ => some k_ ≠ (.slice Ao103 y137.length co103 : Value).ownBlock ∧ k_ ≠ gb124 ∧ k_ ≠ gb129) (fun _ => False) rfl rfl ?aO ?aR (fun _ _ h => h) (fun _ h => h.elim) ?aF ?aB ?aS ?aL ?_
       (case aR => repeat (first | exact (Kd.R_reads' HO139.out).2.2 | (with_reducible refine Kd.C_alloc ?_ _) | (with_reducible refine Kd.C_drewN ?_ _) | (with_reducible refine Kd.C_drew ?_)))
       (case aB => exact (by repeat (first | (with_reducible first | exact HB.out | apply below_alloc | apply pw_below_drewN | apply below_drew1 | refine below_set ?_ GE123.out | refine below_set ?_ GE124.out | refine below_set ?_ GE125.out | refine below_set ?_ GE129.out) | exact HB.out)))
       (case aF => exact (fun k_ hk => ⟨Kd.fresh' (Kd.R_lt (mR HO139.out)) k_ hk, Kd.freshB (g := gb124) (o := .cells #[.int .i64 a1_0, .int .i64 a1_1, .int .i64 a1_2] 83 (0, 0)) (mB BK124) k_ hk, Kd.freshB (g := gb129) (o := .cells #[.int .i64 t126, .int .i64 t127, .int .i64 t128] 83 (0, 0)) (mB BK129) k_ hk⟩))
       (case aO => exact (mR HO136.out))
       (case aS => exact (below_size (by repeat (first | (with_reducible first | exact HB.out | apply below_alloc | apply pw_below_drewN | apply below_drew1 | refine below_set ?_ GE123.out | refine below_set ?_ GE124.out | refine below_set ?_ GE125.out | refine below_set ?_ GE129.out) | exact HB.out))))
       (case aL => have := LMc72.out; omega)
       intro v141 w102 ho hb hg hat
       rw [← Ny140.out] at ho
       have n0_ := Aside0.mk (blk_grown (g := gb123) (o := .cells #[.int .i64 a0_0, .slice A0_1 l0_1.length c0_1, .bool a0_2, .int .i64 a0_3, .int .i64 a0_4, .int .i64 a0_5, .int .i64 a0_6] 79 (0, 0)) (mB BK123) hg (Kd.R_ne HO136.out BK123.out (by decide)))
       have n1_ := Aside0.mk (blk_grown (g := gb124) (o := .cells #[.int .i64 a1_0, .int .i64 a1_1, .int .i64 a1_2] 83 (0, 0)) (mB BK124) hg (Kd.R_away HO136.out (fun _ hk => hk.2.1)))
       have n2_ := Aside0.mk (blk_grown (g := gb125) (o := .cells #[.int .i64 0, .slice none 0 0, .bool false, .int .i64 0, .int .i64 0, .int .i64 0, .int .i64 0] 79 (0, 0)) (mB BK125) hg (Kd.R_ne HO136.out BK125.out (by decide)))
       have n3_ := Aside0.mk (blk_grown (g := gb129) (o := .cells #[.int .i64 t126, .int .i64 t127, .int .i64 t128] 83 (0, 0)) (mB BK129) hg (Kd.R_away HO136.out (fun _ hk => hk.2.2)))
       have n4_ := Aside0.mk (Kd.R_after (ok := (fun k_ => k_ ≠ gb124 ∧ k_ ≠ gb129)) (by (with_reducible repeat (first | apply Kd.R_alloc | apply Kd.R_drewN | apply Kd.R_drew)); exact Kd.R_mono HO139.out (fun _ hk => ⟨⟨hk.2.1, hk.2.2⟩, hk.1⟩)) hg hat)
       have n5_ := Aside0.mk (hb)
       have n6_ := Aside0.mk (ho)
       clear BK123
       clear BK124
       clear BK125
       clear BK129
       clear HO139
       clear HB
       clear HO136
       have BK123 := n0_
       have BK124 := n1_
       have BK125 := n2_
       have BK129 := n3_
       have HO139 := n4_
       have HB := n5_
       have HO142 := n6_
       clear n0_ n1_ n2_ n3_ n4_ n5_ n6_
       clear ho hb hg hat
       obtain ⟨Ao104, co104, eo104⟩ := Kd.R_slice HO142.out
       (first | subst eo104 | (injection eo104 with f1_ f2_ f3_; have f4_ := f1_.symm; have f5_ := f3_.symm; clear f1_ f2_ f3_; subst f4_; subst f5_))
       refine hK.out _ _ (cx7 BK123 (cz3 BK124)) (fun hHeld => ?_)
       clear hK K
       refine norm_ (a' := ?_) ?_ ?_
       rotate_left
       ·show Act.put _ (some 46) _ = _
        simp only [Act.put, sA, sZ, sS, i64_w, i32_w]
        rfl
       refine pure_ (i := 7) (N := some 47) (v := ?_) (a' := ?_) (bm 9 255) rfl rfl (any_of HT_.out (by kernel_rfl)) (fun _ _ _ h => h) (Or.inl ⟨by rfl, ?_⟩) ?_ ?_
       rotate_left
       ·intro w'
        go_simp
        with_reducible rfl
       rotate_left
       ·simp only [Act.put, sA, sZ, sS, i64_w, i32_w]
        rfl
       refine last_ (i := 8) (N := none) (bm 9 511) rfl rfl (one_of HT_.out (by kernel_rfl)) (by decide) (fun K hK => ?_)
       have hs105 : w102.cell? ⟨gb123, 1, none⟩ = some (.slice A0_1 l0_1.length c0_1) := (blk_cell BK123.out 1).trans rfl
       have hfs105 := blk_frozen BK123.out 1
       have hns105_1 := NB124_123.out
       have hns105_2 := NB125_123.out
       have hns105_3 := NB129_123.out
       have hms105_1 := NB123_124.out
       have hms105_2 := NB123_125.out
       have hms105_3 := NB123_129.out
       refine skip_ (w1 := ?_) (by rfl) rfl ?_ ?_
       rotate_left
       ·go_simp
        rfl
       refine hK.out _ _ ?_
       clear hK K
       refine done_ (done_of HT_.out (by kernel_rfl)) ?_
       have hnb106 := NB123_124.out
       have hnc106 := NB124_123.out
       have hnb107 := NB123_125.out
       have hnc107 := NB125_123.out
       have hnb108 := NB123_129.out
       have hnc108 := NB129_123.out
       obtain ⟨hcz109_0, hcz109_1, hcz109_2, hcz109_3, hcz109_4, hcz109_5, hcz109_6⟩ := cz7 BK123
       obtain ⟨hfz109_0, hfz109_1, hfz109_2, hfz109_3, hfz109_4, hfz109_5, hfz109_6⟩ := fz7 BK123
       try go_wp2_with (first | ((with_reducible refine gate_callee (f := 118) rfl ?_); refine goesL_ (some 49) rfl rfl Try.func118 (by kernel_rfl) rfl #[.agg #[.int .i64 a0_0, .slice Ao104 y140.length co104, .bool a0_2, .int .i64 a0_3, .int .i64 a0_4, .int .i64 a0_5, .int .i64 a0_6]] rfl (by (try simp only [List.map_toArray, List.map_cons, List.map_nil]); first | done | rfl | (simp only [List.length_drop, List.length_take]; rfl)) ?_; (with_reducible refine (spec_GoodSpace.calls kj3 a0_0 _ _ y140 a0_2 a0_3 a0_4 a0_5 a0_6 false _ ?side1 ?side2 A73.out).mono ?_); (case side1 => refine (Kd.R_reads' (e := 83) (base := w.heap.size) (ok := fun k_ => (some k_ ≠ (.slice Ao103 y137.length co103 : Value).ownBlock ∧ (k_ ≠ gb124 ∧ k_ ≠ gb129))) (n := y140.length) (c := co104) ?_).2.2; exact (by (with_reducible repeat (first | apply Kd.R_alloc | apply Kd.R_drewN | apply Kd.R_drew)); exact (Kd.R_mono (Kd.R_far (p := ⟨gb123, 1, none⟩) (Kd.R_types HO142.out BK123.out (by decide)) (fun _ hk => hk.2) (.slice Ao104 y140.length co104)) (fun _ h_ => h_.1)))); (case side2 => exact (Kd.R_reads' HO142.out).2.1); rintro e w110 ⟨rfl, hb⟩; refine ⟨_, rfl, ?_⟩; have n0_ := Aside0.mk (Kd.R_below (by (with_reducible repeat (first | apply Kd.R_alloc | apply Kd.R_drewN | apply Kd.R_drew)); exact (Kd.R_mono (Kd.R_far (p := ⟨gb123, 1, none⟩) (Kd.R_types HO139.out BK123.out (by decide)) (fun _ hk => hk.2) (.slice Ao104 y140.length co104)) (fun _ h_ => h_.1))) hb); have n1_ := Aside0.mk (Kd.R_below (by (with_reducible repeat (first | apply Kd.R_alloc | apply Kd.R_drewN | apply Kd.R_drew)); exact (Kd.R_mono (Kd.R_far (p := ⟨gb123, 1, none⟩) (Kd.R_types HO142.out BK123.out (by decide)) (fun _ hk => hk.2) (.slice Ao104 y140.length co104)) (fun _ h_ => h_.1))) hb); have n2_ := Aside0.mk (blk_below (g := gb123) (o := .cells #[.int .i64 a0_0, .slice Ao104 y140.length co104, .bool a0_2, .int .i64 a0_3, .int .i64 a0_4, .int .i64 a0_5, .int .i64 a0_6] 79 (0, 0)) (by (with_reducible repeat (first | refine bN ?_ _ | refine bD ?_ | refine bA ?_ _)); refine blk_put (cs := #[.int .i64 a0_0, .slice A0_1 l0_1.length c0_1, .bool a0_2, .int .i64 a0_3, .int .i64 a0_4, .int .i64 a0_5, .int .i64 a0_6]) ?_ 1 _ rfl; (with_reducible repeat (first | refine bN ?_ _ | refine bD ?_ | refine bA ?_ _)); exact BK123.out) hb); have n3_ := Aside0.mk (blk_below (g := gb124) (o := .cells #[.int .i64 a1_0, .int .i64 a1_1, .int .i64 a1_2] 83 (0, 0)) (by (with_reducible repeat (first | refine bN ?_ _ | refine bD ?_ | refine bA ?_ _)); refine blk_far ?_ NB124_123.out _; (with_reducible repeat (first | refine bN ?_ _ | refine bD ?_ | refine bA ?_ _)); exact BK124.out) hb); have n4_ := Aside0.mk (blk_below (g := gb125) (o := .cells #[.int .i64 0, .slice none 0 0, .bool false, .int .i64 0, .int .i64 0, .int .i64 0, .int .i64 0] 79 (0, 0)) (by (with_reducible repeat (first | refine bN ?_ _ | refine bD ?_ | refine bA ?_ _)); refine blk_far ?_ NB125_123.out _; (with_reducible repeat (first | refine bN ?_ _ | refine bD ?_ | refine bA ?_ _)); exact BK125.out) hb); have n5_ := Aside0.mk (blk_below (g := gb129) (o := .cells #[.int .i64 t126, .int .i64 t127, .int .i64 t128] 83 (0, 0)) (by (with_reducible repeat (first | refine bN ?_ _ | refine bD ?_ | refine bA ?_ _)); refine blk_far ?_ NB129_123.out _; (with_reducible repeat (first | refine bN ?_ _ | refine bD ?_ | refine bA ?_ _)); exact BK129.out) hb); have n6_ := bS HB hb; clear HO139; clear HO142; clear BK123; clear BK124; clear BK125; clear BK129; clear HB; have HO139 := n0_; have HO142 := n1_; have BK123 := n2_; have BK124 := n3_; have BK125 := n4_; have BK129 := n5_; have HB := n6_; clear n0_ n1_ n2_ n3_ n4_ n5_ n6_; (try clear hb); (try clear hb2); (try clear hk); (try clear hi); have hnb111 := NB125_124.out; have hnc111 := NB124_125.out; have hnb112 := NB125_129.out; have hnc112 := NB129_125.out; obtain ⟨hcz113_0, hcz113_1, hcz113_2, hcz113_3, hcz113_4, hcz113_5, hcz113_6⟩ := cz7 BK125; obtain ⟨hfz113_0, hfz113_1, hfz113_2, hfz113_3, hfz113_4, hfz113_5, hfz113_6⟩ := fz7 BK125))
       refine bodyPost_ret (results_ct rfl _ _ gb125 79 #[.int .i64 0, .slice none 0 0, .bool false, .int .i64 0, .int .i64 0, .int .i64 0, .int .i64 0] (0, 0) _ rfl (by (with_reducible repeat (first | refine bN ?_ _ | refine bD ?_ | refine bA ?_ _)); refine blk_put (cs := #[.int .i64 0, .slice none 0 0, .bool false, .int .i64 0, .int .i64 0, .int .i64 0, .int .i64 0]) ?_ 6 _ rfl; (with_reducible repeat (first | refine bN ?_ _ | refine bD ?_ | refine bA ?_ _)); refine blk_put (cs := #[.int .i64 0, .slice none 0 0, .bool false, .int .i64 0, .int .i64 0, .int .i64 0, .int .i64 0]) ?_ 5 _ rfl; (with_reducible repeat (first | refine bN ?_ _ | refine bD ?_ | refine bA ?_ _)); refine blk_put (cs := #[.int .i64 0, .slice none 0 0, .bool false, .int .i64 0, .int .i64 0, .int .i64 0, .int .i64 0]) ?_ 4 _ rfl; (with_reducible repeat (first | refine bN ?_ _ | refine bD ?_ | refine bA ?_ _)); refine blk_put (cs := #[.int .i64 0, .slice none 0 0, .bool false, .int .i64 0, .int .i64 0, .int .i64 0, .int .i64 0]) ?_ 3 _ rfl; (with_reducible repeat (first | refine bN ?_ _ | refine bD ?_ | refine bA ?_ _)); refine blk_put (cs := #[.int .i64 0, .slice none 0 0, .bool false, .int .i64 0, .int .i64 0, .int .i64 0, .int .i64 0]) ?_ 2 _ rfl; (with_reducible repeat (first | refine bN ?_ _ | refine bD ?_ | refine bA ?_ _)); refine blk_put (cs := #[.int .i64 0, .slice none 0 0, .bool false, .int .i64 0, .int .i64 0, .int .i64 0, .int .i64 0]) ?_ 1 _ rfl; (with_reducible repeat (first | refine bN ?_ _ | refine bD ?_ | refine bA ?_ _)); refine blk_put (cs := #[.int .i64 0, .slice none 0 0, .bool false, .int .i64 0, .int .i64 0, .int .i64 0, .int .i64 0]) ?_ 0 _ rfl; (with_reducible repeat (first | refine bN ?_ _ | refine bD ?_ | refine bA ?_ _)); exact BK125.out) Try.underlying79 rfl (by kernel_rfl)) rfl ?_
       exact ⟨_, by first | rfl | (simp [errW_none, errW_some] <;> rfl) | (simp [*, errW_none, errW_some] <;> rfl), by first | exact Kd.R_nil _ _ _ _ _ | exact Kd.N_nil _ _ _ _ _ | exact Kd.V_nil _ _ _ _ _ | exact Kd.Q_nil _ _ _ _ _ | exact Kd.S_nil _ _ _ _ _, by repeat (first | (with_reducible first | exact HB.out | apply below_alloc | apply pw_below_drewN | apply below_drew1 | refine below_set ?_ GE123.out | refine below_set ?_ GE124.out | refine below_set ?_ GE125.out | refine below_set ?_ GE129.out) | exact HB.out)⟩
     ·rw [if_neg c72] at H
      exact absurd H (by simp)
    ·rw [if_neg c71] at H
     exact absurd H (by simp)

end Go.Proofs.Ythkmjfapljmmpaa.PFnExactSendNumber
