-- Written by a program of this session (wip/xprint.py).
import Derived.Test.YthkmjfapljmmpaaPFnExactReadSomex0
import Derived.Test.YthkmjfapljmmpaaPFnExactReadSomex4
namespace Go.Proofs.Ythkmjfapljmmpaa.PFnExactReadSome
open Go.RowKit Go.Proofs.YthkmjfapljmmpaaW.PrintWords Go.Proofs.YthkmjfapljmmpaaW.PrintLast Go.Proofs.YthkmjfapljmmpaaW.PrintMore
open Go.Proofs.Ythkmjfapljmmpaa.ShortK (bN bD bA sA sZ sS mR mB bX bLt bS cz2 fz2 cx2 cz3 fz3 cx3 cz4 fz4 cx4 cz5 fz5 cx5 cz6 fz6 cx6 cz7 fz7 cx7 cz8 fz8 cx8 cz9 fz9 cx9 cz10 fz10 cx10 cz11 fz11 cx11 cz12 fz12 cx12)
open Go.Proofs.Ythkmjfapljmmpaa.StoreK (bm)
attribute [local go_sem] Go.Proofs.Ythkmjfapljmmpaa.StoreK.isSome_setCell max2_int min2_int max_two min_two max_three min_three max_four min_four   -- for this text's walks alone
set_option linter.unusedVariables false
set_option linter.unusedSimpArgs false

/-! ### spec_l14Read: function 128 -/
mutual
def spec_l14Read.j0 : Nat → Int → Bool → Int → Int → Int → List (S177) → Option (Int × Int × Int × (List (S177)) × ByteArray)
 | 0, _, _, _, _, _, _ => none
 | k + 1, x1, x28, x159000, x159001, x159002, x159003 => if x28 = true then (some (x159000, x159001, x159002, x159003, (⟨#[]⟩ : ByteArray))) else (if 0 < (x159003.length : Int) then (if (((rd_T177 x159003 0).f1).size : Int) > x1 then (spec_l14Read.j1 k x1 x159000 x159001 x159002 x159003 ((rd_T177 x159003 0).f0) ((rd_T177 x159003 0).f1)) else (spec_l14Read.j1 k (((rd_T177 x159003 0).f1).size : Int) x159000 x159001 x159002 x159003 ((rd_T177 x159003 0).f0) ((rd_T177 x159003 0).f1))) else (none))
def spec_l14Read.j1 : Nat → Int → Int → Int → Int → List (S177) → Int → ByteArray → Option (Int × Int × Int × (List (S177)) × ByteArray)
 | 0, _, _, _, _, _, _, _ => none
 | k + 1, x7, x159000, x159001, x159002, x159003, x169000, x169001 => if 0 ≤ x7 then (if x7 ≤ (x169001.size : Int) then (if x7 = (x169001.size : Int) then (if 1 ≤ (x159003.length : Int) then (some (x159000, wrap64 (x159001 + x7), x159002, (x159003.drop (1 : Int).toNat), x169001.extract 0 (x7 : Int).toNat)) else (none)) else (if 0 < (x159003.length : Int) then (some (x159000, wrap64 (x159001 + x7), x159002, (x159003.set (0 : Int).toNat (⟨wrap64 (x159001 + x7), x169001.extract (x7 : Int).toNat x169001.size⟩ : S177)), x169001.extract 0 (x7 : Int).toNat)) else (none))) else (none)) else (none)
end
def spec_l14Read.f (k : Nat) (a0_0 : Int) (a0_1 : Int) (a0_2 : Int) (l0_3 : List (S177)) (a1 : Int) : Option (Int × Int × Int × (List (S177)) × ByteArray) := (spec_l14Own.f a0_0 a0_1 a0_2 l0_3).bind fun bt160 => (if (bt160.2.2.2.length : Int) = 0 then (spec_l14Read.j0 k a1 true bt160.1 bt160.2.1 bt160.2.2.1 bt160.2.2.2) else (if 0 < (bt160.2.2.2.length : Int) then (if ((rd_T177 bt160.2.2.2 0).f0) = bt160.2.1 then (spec_l14Read.j0 k a1 (a1 == 0) bt160.1 bt160.2.1 bt160.2.2.1 bt160.2.2.2) else (spec_l14Read.j0 k a1 true bt160.1 bt160.2.1 bt160.2.2.1 bt160.2.2.2)) else (none)))
theorem spec_l14Read.mono_l : ∀ k, (∀ y0 y1 y2 y3 y4 y5, LeO (spec_l14Read.j0 k y0 y1 y2 y3 y4 y5) (spec_l14Read.j0 (k + 1) y0 y1 y2 y3 y4 y5)) ∧ (∀ y0 y1 y2 y3 y4 y5 y6, LeO (spec_l14Read.j1 k y0 y1 y2 y3 y4 y5 y6) (spec_l14Read.j1 (k + 1) y0 y1 y2 y3 y4 y5 y6))
 | 0 => ⟨fun _ _ _ _ _ _ r h => by simp [spec_l14Read.j0] at h, fun _ _ _ _ _ _ _ r h => by simp [spec_l14Read.j1] at h⟩
 | k + 1 => by
  obtain ⟨ih0, ih1⟩ := spec_l14Read.mono_l k
  refine ⟨?_, ?_⟩
  ·intro y0 y1 y2 y3 y4 y5
   unfold spec_l14Read.j0
   repeat' first
   | (with_reducible exact ih0 _ _ _ _ _ _)
   | (with_reducible exact ih1 _ _ _ _ _ _ _)
   | (with_reducible exact LeO.refl _)
   | (with_reducible exact LeO.none _)
   | (with_reducible refine LeO.ite ?_ ?_)
   | (with_reducible refine LeO.bind ?_ (fun _ => ?_))
   | exact ih0 _ _ _ _ _ _
   | exact ih1 _ _ _ _ _ _ _
   | exact LeO.none _
   | refine LeO.ite ?_ ?_
   | refine LeO.bind ?_ (fun _ => ?_)
  ·intro y0 y1 y2 y3 y4 y5 y6
   unfold spec_l14Read.j1
   repeat' first
   | (with_reducible exact ih0 _ _ _ _ _ _)
   | (with_reducible exact ih1 _ _ _ _ _ _ _)
   | (with_reducible exact LeO.refl _)
   | (with_reducible exact LeO.none _)
   | (with_reducible refine LeO.ite ?_ ?_)
   | (with_reducible refine LeO.bind ?_ (fun _ => ?_))
   | exact ih0 _ _ _ _ _ _
   | exact ih1 _ _ _ _ _ _ _
   | exact LeO.none _
   | refine LeO.ite ?_ ?_
   | refine LeO.bind ?_ (fun _ => ?_)
theorem spec_l14Read.mono : ∀ a0 a1 a2 a3 a4 k, LeO (spec_l14Read.f k a0 a1 a2 a3 a4) (spec_l14Read.f (k + 1) a0 a1 a2 a3 a4) := by
 intro a0 a1 a2 a3 a4 k
 obtain ⟨ih0, ih1⟩ := spec_l14Read.mono_l k
 unfold spec_l14Read.f
 repeat' first
   | (with_reducible exact ih0 _ _ _ _ _ _)
   | (with_reducible exact ih1 _ _ _ _ _ _ _)
   | (with_reducible exact LeO.refl _)
   | (with_reducible exact LeO.none _)
   | (with_reducible refine LeO.ite ?_ ?_)
   | (with_reducible refine LeO.bind ?_ (fun _ => ?_))
   | exact ih0 _ _ _ _ _ _
   | exact ih1 _ _ _ _ _ _ _
   | exact LeO.none _
   | refine LeO.ite ?_ ?_
   | refine LeO.bind ?_ (fun _ => ?_)
def spec_l14Read.T2 : Bool × List (List Nat × List Nat) := (true, [([], []), ([0], [0]), ([1], [1]), ([2], [2]), ([3], [3]), ([4], [4]), ([5, 4], [4, 5]), ([6, 4], [4, 6]), ([7, 4], [4, 7]), ([8, 4], [4, 8]), ([4], [4]), ([10, 4], [4, 10]), ([9, 11, 4], [4, 9, 11]), ([4, 12], [4, 12]), ([13, 4], [13]), ([14], [14]), ([15, 14], [14, 15]), ([14, 16], [14, 16])])
def spec_l14Read.B2 : List Nat := [0, 1, 3, 7, 15, 31, 63, 127, 255, 511, 31, 1055, 4095, 8191, 16383, 32767, 65535, 131071]
theorem spec_l14Read.tab2 : rtab .any (opsOf Try.f128 2) = spec_l14Read.T2 := by kernel_rfl
theorem spec_l14Read.bits2 : waitsOk spec_l14Read.T2.2 spec_l14Read.B2 = true := by kernel_rfl
def spec_l14Read.T12 : Bool × List (List Nat × List Nat) := (true, [([], []), ([0], [0]), ([], []), ([2], [2]), ([], []), ([4], [4]), ([], []), ([5, 6], [5, 6]), ([3, 7], [3, 7]), ([1, 0, 1, 2, 3, 4, 5, 6, 7, 8], [1]), ([9, 8, 0, 1, 2, 3, 4, 5, 6, 7, 8], [8, 9])])
def spec_l14Read.B12 : List Nat := [0, 1, 0, 4, 0, 16, 0, 112, 252, 511, 1023]
theorem spec_l14Read.tab12 : rtab .any (opsOf Try.f128 12) = spec_l14Read.T12 := by kernel_rfl
theorem spec_l14Read.bits12 : waitsOk spec_l14Read.T12.2 spec_l14Read.B12 = true := by kernel_rfl
set_option maxHeartbeats 64000000 in
set_option maxRecDepth 100000 in
theorem spec_l14Read.calls (k : Nat) (a0_0 : Int) (a0_1 : Int) (a0_2 : Int) (A0_3 : Option Addr) (c0_3 : Nat) (l0_3 : List (S177)) (a1 : Int) (r1 : Int) (r2 : Int) (r3 : Int) (r4 : List (S177)) (r5 : ByteArray) (w : World) (hr0_3 : Kd.C k177 w A0_3 l0_3.length l0_3) (hc0_3 : l0_3.length ≤ c0_3) (h : spec_l14Read.f k a0_0 a0_1 a0_2 l0_3 a1 = some (r1, r2, r3, r4, r5)) :
  Calls Try.prog 128 #[.agg #[.int .i64 a0_0, .int .i64 a0_1, .int .i64 a0_2, .slice A0_3 l0_3.length c0_3], .int .i64 a1] w fun e w' => ∃ v3_ : Value, e = .returned (.tuple #[.agg #[.int .i64 r1, .int .i64 r2, .int .i64 r3, v3_], .string r5]) ∧ Kd.Q k177 177 w' w.heap.size (fun _ => True) v3_ r4 ∧ Below w.heap.size w w' := by
 have hu61 := Try.underlying61
 have hu177 := Try.underlying177
 have HR0_3 := Aside0.mk hr0_3
 have HC0_3 := Aside0.mk hc0_3
 clear hr0_3 hc0_3
 have HB := Aside0.mk (Below.refl w.heap.size w)
 have H : ((spec_l14Own.f a0_0 a0_1 a0_2 l0_3).bind fun bt160 => (if (bt160.2.2.2.length : Int) = 0 then (spec_l14Read.j0 k a1 true bt160.1 bt160.2.1 bt160.2.2.1 bt160.2.2.2) else (if 0 < (bt160.2.2.2.length : Int) then (if ((rd_T177 bt160.2.2.2 0).f0) = bt160.2.1 then (spec_l14Read.j0 k a1 (a1 == 0) bt160.1 bt160.2.1 bt160.2.2.1 bt160.2.2.2) else (spec_l14Read.j0 k a1 true bt160.1 bt160.2.1 bt160.2.2.1 bt160.2.2.2)) else (none)))) = some (r1, r2, r3, r4, r5) := h
 clear h
 replace H := Option.bind_eq_some_iff.mp H
 obtain ⟨⟨t160, t161, t162, t163⟩, A30, H⟩ := H
 replace H : (if (t163.length : Int) = 0 then (spec_l14Read.j0 k a1 true t160 t161 t162 t163) else (if 0 < (t163.length : Int) then (if ((rd_T177 t163 0).f0) = t161 then (spec_l14Read.j0 k a1 (a1 == 0) t160 t161 t162 t163) else (spec_l14Read.j0 k a1 true t160 t161 t162 t163)) else (none))) = some (r1, r2, r3, r4, r5) := H
 have A3 := Aside0.mk A30
 clear A30
 have HC4 := Aside0.mk H
 clear H
 go_enter Try.func128, Try.ntmps128
 go_upto_region 2 with (first | ((with_reducible refine gate_dst (N := 2) rfl ?_); refine box_event ?hg (N := 2) ?hd (cs := #[.int .i64 a0_0, .int .i64 a0_1, .int .i64 a0_2, .slice A0_3 l0_3.length c0_3]) (t := 61) ?hr ?_; (case hd => rfl); (case hg => rfl); (case hr => first | (go_simp; done) | (go_simp; rfl)); intro gb158 hg w5 hbox hb; have n0_ := bS HB hb; have n1_ := Aside0.mk (hbox); have n2_ := Aside0.mk ((by rw [hg]; exact (below_size (by repeat (first | (with_reducible first | exact HB.out | apply below_alloc | apply pw_below_drewN | apply below_drew1) | exact HB.out))) : w.heap.size ≤ gb158)); have n3_ := n2_; clear HB; have HB := n0_; have BK158 := n1_; have GW158 := n2_; have GE158 := n3_; clear n0_ n1_ n2_ n3_; clear hb hbox hg) | ((with_reducible refine gate_dst (N := 4) rfl ?_); refine box_event ?hg (N := 4) ?hd (cs := #[.int .i64 0, .int .i64 0, .int .i64 0, .slice none 0 0]) (t := 61) ?hr ?_; (case hd => rfl); (case hg => rfl); (case hr => first | (go_simp; done) | (go_simp; rfl)); intro gb159 hg w6 hbox hb; have n0_ := bX BK158 hb; have n1_ := bS HB hb; have n2_ := Aside0.mk (hbox); have n3_ := Aside0.mk ((by rw [hg]; exact (below_size (by repeat (first | (with_reducible first | exact HB.out | apply below_alloc | apply pw_below_drewN | apply below_drew1 | refine below_set ?_ GE158.out) | exact HB.out))) : w.heap.size ≤ gb159)); have n4_ := n3_; have n5_ := Aside0.mk ((by rw [hg]; exact Nat.ne_of_lt (bLt BK158) : gb158 ≠ gb159)); have n6_ := Aside0.mk ((by rw [hg]; exact Nat.ne_of_gt (bLt BK158) : gb159 ≠ gb158)); clear BK158; clear HB; have BK158 := n0_; have HB := n1_; have BK159 := n2_; have GW159 := n3_; have GE159 := n4_; have NB158_159 := n5_; have NB159_158 := n6_; clear n0_ n1_ n2_ n3_ n4_ n5_ n6_; clear hb hbox hg; have hnb7 := NB158_159.out; have hnc7 := NB159_158.out; obtain ⟨hcz8_0, hcz8_1, hcz8_2, hcz8_3⟩ := cz4 BK158; obtain ⟨hfz8_0, hfz8_1, hfz8_2, hfz8_3⟩ := fz4 BK158) | ((with_reducible refine gate_callee (f := 109) rfl ?_); refine goesL_ (some 10) rfl rfl Try.func109 (by kernel_rfl) rfl #[.agg #[.int .i64 a0_0, .int .i64 a0_1, .int .i64 a0_2, .slice A0_3 l0_3.length c0_3]] rfl (by (try simp only [List.map_toArray, List.map_cons, List.map_nil]); first | done | rfl | (simp only [List.length_drop, List.length_take]; rfl)) ?_; (with_reducible refine (spec_l14Own.calls a0_0 a0_1 a0_2 _ _ l0_3 t160 t161 t162 t163 _ ?side1 ?side2 A3.out).mono ?_); (case side1 => repeat (first | exact (Kd.C_below HR0_3.out HB.out) | (with_reducible refine Kd.C_alloc ?_ _) | (with_reducible refine Kd.C_drewN ?_ _) | (with_reducible refine Kd.C_drew ?_))); (case side2 => exact HC0_3.out); rintro e w9 ⟨v164, rfl, ho0, hb⟩; refine ⟨_, rfl, ?_⟩; have n0_ := Aside0.mk (Kd.R_lower ho0 (below_size (by repeat (first | (with_reducible first | exact HB.out | apply below_alloc | apply pw_below_drewN | apply below_drew1 | refine below_set ?_ GE158.out | refine below_set ?_ GE159.out) | exact HB.out)))); have n1_ := bX BK158 hb; have n2_ := bX BK159 hb; have n3_ := bS HB hb; clear BK158; clear BK159; clear HB; have HO165 := n0_; have BK158 := n1_; have BK159 := n2_; have HB := n3_; clear n0_ n1_ n2_ n3_; (try clear hb); (try clear hb2); (try clear hk); (try clear hi); (try clear ho0); obtain ⟨hcz10_0, hcz10_1, hcz10_2, hcz10_3⟩ := cz4 BK158; obtain ⟨hfz10_0, hfz10_1, hfz10_2, hfz10_3⟩ := fz4 BK158; obtain ⟨Ao11, co11, eo11⟩ := Kd.R_slice HO165.out; subst eo11))
 (try simp only [Act.put, sA, sZ, sS])
 go_cut [28] (fun v28 wc => ∃ (kq : Nat) (x28_3 : Bool), v28 = .bool x28_3 ∧ Aside0 (spec_l14Read.j0 kq a1 x28_3 t160 t161 t162 t163 = some (r1, r2, r3, r4, r5)) ∧ Aside0 (kq ≤ k) ∧ Aside0 (Kd.Q k177 177 wc w.heap.size (fun _ => True) (.slice Ao11 t163.length co11) t163) ∧ Aside0 (wc.heap[gb158]? = some (.cells #[.int .i64 t160, .int .i64 t161, .int .i64 t162, (.slice Ao11 t163.length co11)] 61 (0, 0))) ∧ Aside0 (wc.heap[gb159]? = some (.cells #[.int .i64 0, .int .i64 0, .int .i64 0, (.slice none 0 0)] 61 (0, 0))) ∧ Aside0 (Below w.heap.size w wc))
 case first =>
  have H := HC4.out
  clear HC4
  by_cases c12 : (t163.length : Int) = 0
  ·rw [if_pos c12] at H
   have c12b0 : ((t163.length : Int) == 0) = true := beq_iff_eq.mpr c12
   have c12b1 : ((t163.length : Int) != 0) = false := bne_eq_false_iff_eq.mpr c12
   clear c12
   (first | rw [c12b0] | (simp only [i64_w, i32_w]; rw [c12b0]) | skip)
   have H' := Aside0.mk H
   clear H
   try go_wp2
   have n0_ : Aside0 (Kd.R k177 177 ((((w9.setCell ⟨gb158, 0, none⟩ (.int .i64 t160)).setCell ⟨gb158, 1, none⟩ (.int .i64 t161)).setCell ⟨gb158, 2, none⟩ (.int .i64 t162)).setCell ⟨gb158, 3, none⟩ (.slice Ao11 t163.length co11)) w.heap.size (fun _ => True) (.slice Ao11 t163.length co11) t163) := ⟨by (with_reducible repeat (first | apply Kd.R_alloc | apply Kd.R_drewN | apply Kd.R_drew)); exact Kd.R_mono (Kd.R_far (p := ⟨gb158, 3, none⟩) (Kd.R_far (p := ⟨gb158, 2, none⟩) (Kd.R_far (p := ⟨gb158, 1, none⟩) (Kd.R_far (p := ⟨gb158, 0, none⟩) (Kd.R_types HO165.out BK158.out (by decide)) (fun _ hk => hk.2) (.int .i64 t160)) (fun _ hk => hk.2) (.int .i64 t161)) (fun _ hk => hk.2) (.int .i64 t162)) (fun _ hk => hk.2) (.slice Ao11 t163.length co11)) (fun _ hk => trivial)⟩
   have n1_ : Aside0 (((((w9.setCell ⟨gb158, 0, none⟩ (.int .i64 t160)).setCell ⟨gb158, 1, none⟩ (.int .i64 t161)).setCell ⟨gb158, 2, none⟩ (.int .i64 t162)).setCell ⟨gb158, 3, none⟩ (.slice Ao11 t163.length co11)).heap[gb158]? = some (.cells #[.int .i64 t160, .int .i64 t161, .int .i64 t162, .slice Ao11 t163.length co11] 61 (0, 0))) := ⟨by (with_reducible repeat (first | refine bN ?_ _ | refine bD ?_ | refine bA ?_ _)); refine blk_put (cs := #[.int .i64 t160, .int .i64 t161, .int .i64 t162, .slice A0_3 l0_3.length c0_3]) ?_ 3 _ rfl; (with_reducible repeat (first | refine bN ?_ _ | refine bD ?_ | refine bA ?_ _)); refine blk_put (cs := #[.int .i64 t160, .int .i64 t161, .int .i64 a0_2, .slice A0_3 l0_3.length c0_3]) ?_ 2 _ rfl; (with_reducible repeat (first | refine bN ?_ _ | refine bD ?_ | refine bA ?_ _)); refine blk_put (cs := #[.int .i64 t160, .int .i64 a0_1, .int .i64 a0_2, .slice A0_3 l0_3.length c0_3]) ?_ 1 _ rfl; (with_reducible repeat (first | refine bN ?_ _ | refine bD ?_ | refine bA ?_ _)); refine blk_put (cs := #[.int .i64 a0_0, .int .i64 a0_1, .int .i64 a0_2, .slice A0_3 l0_3.length c0_3]) ?_ 0 _ rfl; (with_reducible repeat (first | refine bN ?_ _ | refine bD ?_ | refine bA ?_ _)); exact BK158.out⟩
   have n2_ : Aside0 (((((w9.setCell ⟨gb158, 0, none⟩ (.int .i64 t160)).setCell ⟨gb158, 1, none⟩ (.int .i64 t161)).setCell ⟨gb158, 2, none⟩ (.int .i64 t162)).setCell ⟨gb158, 3, none⟩ (.slice Ao11 t163.length co11)).heap[gb159]? = some (.cells #[.int .i64 0, .int .i64 0, .int .i64 0, .slice none 0 0] 61 (0, 0))) := ⟨by (with_reducible repeat (first | refine bN ?_ _ | refine bD ?_ | refine bA ?_ _)); refine blk_far ?_ NB159_158.out _; (with_reducible repeat (first | refine bN ?_ _ | refine bD ?_ | refine bA ?_ _)); refine blk_far ?_ NB159_158.out _; (with_reducible repeat (first | refine bN ?_ _ | refine bD ?_ | refine bA ?_ _)); refine blk_far ?_ NB159_158.out _; (with_reducible repeat (first | refine bN ?_ _ | refine bD ?_ | refine bA ?_ _)); refine blk_far ?_ NB159_158.out _; (with_reducible repeat (first | refine bN ?_ _ | refine bD ?_ | refine bA ?_ _)); exact BK159.out⟩
   have n3_ : Aside0 (Below w.heap.size w ((((w9.setCell ⟨gb158, 0, none⟩ (.int .i64 t160)).setCell ⟨gb158, 1, none⟩ (.int .i64 t161)).setCell ⟨gb158, 2, none⟩ (.int .i64 t162)).setCell ⟨gb158, 3, none⟩ (.slice Ao11 t163.length co11))) := ⟨by repeat (first | (with_reducible first | exact HB.out | apply below_alloc | apply pw_below_drewN | apply below_drew1 | refine below_set ?_ GE158.out | refine below_set ?_ GE159.out) | exact HB.out)⟩
   (try clear HO165)
   (try clear BK158)
   (try clear BK159)
   (try clear HB)
   generalize ((((w9.setCell ⟨gb158, 0, none⟩ (.int .i64 t160)).setCell ⟨gb158, 1, none⟩ (.int .i64 t161)).setCell ⟨gb158, 2, none⟩ (.int .i64 t162)).setCell ⟨gb158, 3, none⟩ (.slice Ao11 t163.length co11)) = w13 at n0_ n1_ n2_ n3_ ⊢
   have HO165 := n0_
   have BK158 := n1_
   have BK159 := n2_
   have HB := n3_
   clear n0_ n1_ n2_ n3_
   have n0_ := Aside0.mk (Kd.R_drew HO165.out)
   have n1_ := Aside0.mk (blk_drew BK158.out)
   have n2_ := Aside0.mk (blk_drew BK159.out)
   have n3_ := Aside0.mk (below_drew1 HB.out)
   clear HO165
   clear BK158
   clear BK159
   clear HB
   have HO165 := n0_
   have BK158 := n1_
   have BK159 := n2_
   have HB := n3_
   clear n0_ n1_ n2_ n3_
   refine start_ (n := 18) (S := fun w' => w'.cell? ⟨gb158, 0, none⟩ = some (.int .i64 t160) ∧ w'.cell? ⟨gb158, 1, none⟩ = some (.int .i64 t161) ∧ w'.cell? ⟨gb158, 2, none⟩ = some (.int .i64 t162) ∧ w'.cell? ⟨gb158, 3, none⟩ = some (.slice Ao11 t163.length co11)) (ds := []) (bm 18 0) (by kernel_rfl) rfl rfl (cz4 BK158) (fun hHeld => ?_); refine with_tabW spec_l14Read.tab2 spec_l14Read.bits2 (fun HT_ HW_ => ?_)
   generalize w13.drew = w14 at HO165 BK158 BK159 HB hHeld ⊢
   refine pure_ (i := 0) (N := some 11) (v := ?_) (a' := ?_) (bm 18 1) rfl rfl (any_of HT_.out (by kernel_rfl)) (fun _ _ _ h => h) (Or.inl ⟨by rfl, ?_⟩) ?_ ?_
   rotate_left
   ·intro w'
    go_simp
    with_reducible rfl
   rotate_left
   ·simp only [Act.put, sA, sZ, sS, i64_w, i32_w]
    rfl
   refine take_ (i := 1) (N := some 12) (v := ?_) (a' := ?_) (bm 18 3) rfl rfl (take_ofW HT_.out HW_.out (by kernel_rfl)) (fun _ _ _ h => h) (Or.inl ⟨by rfl, ?_⟩) hHeld ?_ ?_
   rotate_left
   ·rintro w' ⟨s0, s1, s2, s3⟩
    go_simp
    with_reducible rfl
   rotate_left
   ·simp only [Act.put, sA, sZ, sS, i64_w, i32_w]
    rfl
   refine pure_ (i := 2) (N := some 13) (v := ?_) (a' := ?_) (bm 18 7) rfl rfl (any_of HT_.out (by kernel_rfl)) (fun _ _ _ h => h) (Or.inl ⟨by rfl, ?_⟩) ?_ ?_
   rotate_left
   ·intro w'
    go_simp
    with_reducible rfl
   rotate_left
   ·simp only [Act.put, sA, sZ, sS, i64_w, i32_w]
    rfl
   refine pure_ (i := 3) (N := some 14) (v := ?_) (a' := ?_) (bm 18 15) rfl rfl (any_of HT_.out (by kernel_rfl)) (fun _ _ _ h => h) (Or.inl ⟨by rfl, ?_⟩) ?_ ?_
   rotate_left
   ·intro w'
    go_simp
    with_reducible rfl
   rotate_left
   ·simp only [Act.put, sA, sZ, sS, i64_w, i32_w]
    rfl
   refine pure_ (i := 4) (N := some 15) (v := ?_) (a' := ?_) (bm 18 31) rfl rfl (any_of HT_.out (by kernel_rfl)) (fun _ _ _ h => h) (Or.inl ⟨by rfl, ?_⟩) ?_ ?_
   rotate_left
   ·intro w'
    go_simp
    with_reducible rfl
   rotate_left
   ·simp only [Act.put, sA, sZ, sS, i64_w, i32_w]
    rfl
   refine pure_ (i := 5) (N := some 16) (v := undef) (a' := ?_) (bm 18 63) rfl rfl (any_of HT_.out (by kernel_rfl)) (fun _ _ _ h => h) (Or.inr ⟨by rfl, rfl⟩) ?_ ?_
   rotate_left
   ·simp only [Act.put, sA, sZ, sS, i64_w, i32_w]
    rfl
   refine pure_ (i := 6) (N := some 17) (v := undef) (a' := ?_) (bm 18 127) rfl rfl (any_of HT_.out (by kernel_rfl)) (fun _ _ _ h => h) (Or.inr ⟨by rfl, rfl⟩) ?_ ?_
   rotate_left
   ·simp only [Act.put, sA, sZ, sS, i64_w, i32_w]
    rfl
   refine pure_ (i := 7) (N := some 18) (v := undef) (a' := ?_) (bm 18 255) rfl rfl (any_of HT_.out (by kernel_rfl)) (fun _ _ _ h => h) (Or.inr ⟨by rfl, rfl⟩) ?_ ?_
   rotate_left
   ·simp only [Act.put, sA, sZ, sS, i64_w, i32_w]
    rfl
   refine pure_ (i := 8) (N := some 19) (v := undef) (a' := ?_) (bm 18 511) rfl rfl (any_of HT_.out (by kernel_rfl)) (fun _ _ _ h => h) (Or.inr ⟨by rfl, rfl⟩) ?_ ?_
   rotate_left
   ·simp only [Act.put, sA, sZ, sS, i64_w, i32_w]
    rfl
   refine pure_ (i := 9) (N := some 20) (v := undef) (a' := ?_) (bm 18 1023) rfl rfl (any_of HT_.out (by kernel_rfl)) (fun _ _ _ h => h) (Or.inr ⟨by rfl, rfl⟩) ?_ ?_
   rotate_left
   ·simp only [Act.put, sA, sZ, sS, i64_w, i32_w]
    rfl
   refine pure_ (i := 10) (N := some 21) (v := undef) (a' := ?_) (bm 18 2047) rfl rfl (any_of HT_.out (by kernel_rfl)) (fun _ _ _ h => h) (Or.inr ⟨by rfl, rfl⟩) ?_ ?_
   rotate_left
   ·simp only [Act.put, sA, sZ, sS, i64_w, i32_w]
    rfl
   refine pure_ (i := 11) (N := some 22) (v := undef) (a' := ?_) (bm 18 4095) rfl rfl (any_of HT_.out (by kernel_rfl)) (fun _ _ _ h => h) (Or.inr ⟨by rfl, rfl⟩) ?_ ?_
   rotate_left
   ·simp only [Act.put, sA, sZ, sS, i64_w, i32_w]
    rfl
   refine pure_ (i := 12) (N := some 23) (v := undef) (a' := ?_) (bm 18 8191) rfl rfl (any_of HT_.out (by kernel_rfl)) (fun _ _ _ h => h) (Or.inr ⟨by rfl, rfl⟩) ?_ ?_
   rotate_left
   ·simp only [Act.put, sA, sZ, sS, i64_w, i32_w]
    rfl
   refine pure_ (i := 13) (N := some 24) (v := ?_) (a' := ?_) (bm 18 16383) rfl rfl (any_of HT_.out (by kernel_rfl)) (fun _ _ _ h => h) (Or.inl ⟨by rfl, ?_⟩) ?_ ?_
   rotate_left
   ·intro w'
    go_simp
    with_reducible rfl
   rotate_left
   ·simp only [Act.put, sA, sZ, sS, i64_w, i32_w]
    rfl
   refine pure_ (i := 14) (N := some 25) (v := ?_) (a' := ?_) (bm 18 32767) rfl rfl (any_of HT_.out (by kernel_rfl)) (fun _ _ _ h => h) (Or.inl ⟨by rfl, ?_⟩) ?_ ?_
   rotate_left
   ·intro w'
    go_simp
    with_reducible rfl
   rotate_left
   ·simp only [Act.put, sA, sZ, sS, i64_w, i32_w]
    rfl
   refine pure_ (i := 15) (N := some 26) (v := undef) (a' := ?_) (bm 18 65535) rfl rfl (any_of HT_.out (by kernel_rfl)) (fun _ _ _ h => h) (Or.inr ⟨by rfl, rfl⟩) ?_ ?_
   rotate_left
   ·simp only [Act.put, sA, sZ, sS, i64_w, i32_w]
    rfl
   refine pure_ (i := 16) (N := some 27) (v := undef) (a' := ?_) (bm 18 131071) rfl rfl (any_of HT_.out (by kernel_rfl)) (fun _ _ _ h => h) (Or.inr ⟨by rfl, rfl⟩) ?_ ?_
   rotate_left
   ·simp only [Act.put, sA, sZ, sS, i64_w, i32_w]
    rfl
   refine pure_ (i := 17) (N := some 28) (v := ?_) (a' := ?_) (bm 18 262143) rfl rfl (any_of HT_.out (by kernel_rfl)) (fun _ _ _ h => h) (Or.inl ⟨by rfl, ?_⟩) ?_ ?_
   rotate_left
   ·intro w'
    go_simp
    with_reducible rfl
   rotate_left
   ·simp only [Act.put, sA, sZ, sS, i64_w, i32_w]
    rfl
   refine done_ (done_of HT_.out (by kernel_rfl)) ?_
   try go_wp2
   go_meet
   case rel => exact ⟨_, (true), (by first | rfl | (simp; done) | (simp [*]; done)), H', ⟨by first | omega | exact Nat.le_refl _⟩, ⟨Kd.Q_of_R (mR HO165.out)⟩, ⟨by (with_reducible repeat (first | refine bN ?_ _ | refine bD ?_ | refine bA ?_ _)); exact BK158.out⟩, ⟨by (with_reducible repeat (first | refine bN ?_ _ | refine bD ?_ | refine bA ?_ _)); exact BK159.out⟩, ⟨by repeat (first | (with_reducible first | exact HB.out | apply below_alloc | apply pw_below_drewN | apply below_drew1 | refine below_set ?_ GE158.out | refine below_set ?_ GE159.out) | exact HB.out)⟩⟩
  ·rw [if_neg c12] at H
   have c12b0 : ((t163.length : Int) == 0) = false := beq_eq_false_iff_ne.mpr c12
   have c12b1 : ((t163.length : Int) != 0) = true := bne_iff_ne.mpr c12
   have c12b2 : ¬ (t163 = []) := fun h_ => c12 (by rw [h_]; rfl)
   (first | rw [c12b0] | (simp only [i64_w, i32_w]; rw [c12b0]) | skip)
   by_cases c15 : 0 < (t163.length : Int)
   ·rw [if_pos c15] at H
    have c15b0 : decide (0 < (t163.length : Int)) = true := decide_eq_true c15
    have c15b1 : decide (0 < t163.length) = true := decide_eq_true (by omega)
    clear c15
    by_cases c16 : ((rd_T177 t163 0).f0) = t161
    ·rw [if_pos c16] at H
     have c16b0 : (((rd_T177 t163 0).f0) == t161) = true := beq_iff_eq.mpr c16
     have c16b1 : (((rd_T177 t163 0).f0) != t161) = false := bne_eq_false_iff_eq.mpr c16
     clear c16
     have H' := Aside0.mk H
     clear H
     try go_wp2
     have n0_ : Aside0 (Kd.R k177 177 ((((w9.setCell ⟨gb158, 0, none⟩ (.int .i64 t160)).setCell ⟨gb158, 1, none⟩ (.int .i64 t161)).setCell ⟨gb158, 2, none⟩ (.int .i64 t162)).setCell ⟨gb158, 3, none⟩ (.slice Ao11 t163.length co11)) w.heap.size (fun _ => True) (.slice Ao11 t163.length co11) t163) := ⟨by (with_reducible repeat (first | apply Kd.R_alloc | apply Kd.R_drewN | apply Kd.R_drew)); exact Kd.R_mono (Kd.R_far (p := ⟨gb158, 3, none⟩) (Kd.R_far (p := ⟨gb158, 2, none⟩) (Kd.R_far (p := ⟨gb158, 1, none⟩) (Kd.R_far (p := ⟨gb158, 0, none⟩) (Kd.R_types HO165.out BK158.out (by decide)) (fun _ hk => hk.2) (.int .i64 t160)) (fun _ hk => hk.2) (.int .i64 t161)) (fun _ hk => hk.2) (.int .i64 t162)) (fun _ hk => hk.2) (.slice Ao11 t163.length co11)) (fun _ hk => trivial)⟩
     have n1_ : Aside0 (((((w9.setCell ⟨gb158, 0, none⟩ (.int .i64 t160)).setCell ⟨gb158, 1, none⟩ (.int .i64 t161)).setCell ⟨gb158, 2, none⟩ (.int .i64 t162)).setCell ⟨gb158, 3, none⟩ (.slice Ao11 t163.length co11)).heap[gb158]? = some (.cells #[.int .i64 t160, .int .i64 t161, .int .i64 t162, .slice Ao11 t163.length co11] 61 (0, 0))) := ⟨by (with_reducible repeat (first | refine bN ?_ _ | refine bD ?_ | refine bA ?_ _)); refine blk_put (cs := #[.int .i64 t160, .int .i64 t161, .int .i64 t162, .slice A0_3 l0_3.length c0_3]) ?_ 3 _ rfl; (with_reducible repeat (first | refine bN ?_ _ | refine bD ?_ | refine bA ?_ _)); refine blk_put (cs := #[.int .i64 t160, .int .i64 t161, .int .i64 a0_2, .slice A0_3 l0_3.length c0_3]) ?_ 2 _ rfl; (with_reducible repeat (first | refine bN ?_ _ | refine bD ?_ | refine bA ?_ _)); refine blk_put (cs := #[.int .i64 t160, .int .i64 a0_1, .int .i64 a0_2, .slice A0_3 l0_3.length c0_3]) ?_ 1 _ rfl; (with_reducible repeat (first | refine bN ?_ _ | refine bD ?_ | refine bA ?_ _)); refine blk_put (cs := #[.int .i64 a0_0, .int .i64 a0_1, .int .i64 a0_2, .slice A0_3 l0_3.length c0_3]) ?_ 0 _ rfl; (with_reducible repeat (first | refine bN ?_ _ | refine bD ?_ | refine bA ?_ _)); exact BK158.out⟩
     have n2_ : Aside0 (((((w9.setCell ⟨gb158, 0, none⟩ (.int .i64 t160)).setCell ⟨gb158, 1, none⟩ (.int .i64 t161)).setCell ⟨gb158, 2, none⟩ (.int .i64 t162)).setCell ⟨gb158, 3, none⟩ (.slice Ao11 t163.length co11)).heap[gb159]? = some (.cells #[.int .i64 0, .int .i64 0, .int .i64 0, .slice none 0 0] 61 (0, 0))) := ⟨by (with_reducible repeat (first | refine bN ?_ _ | refine bD ?_ | refine bA ?_ _)); refine blk_far ?_ NB159_158.out _; (with_reducible repeat (first | refine bN ?_ _ | refine bD ?_ | refine bA ?_ _)); refine blk_far ?_ NB159_158.out _; (with_reducible repeat (first | refine bN ?_ _ | refine bD ?_ | refine bA ?_ _)); refine blk_far ?_ NB159_158.out _; (with_reducible repeat (first | refine bN ?_ _ | refine bD ?_ | refine bA ?_ _)); refine blk_far ?_ NB159_158.out _; (with_reducible repeat (first | refine bN ?_ _ | refine bD ?_ | refine bA ?_ _)); exact BK159.out⟩
     have n3_ : Aside0 (Below w.heap.size w ((((w9.setCell ⟨gb158, 0, none⟩ (.int .i64 t160)).setCell ⟨gb158, 1, none⟩ (.int .i64 t161)).setCell ⟨gb158, 2, none⟩ (.int .i64 t162)).setCell ⟨gb158, 3, none⟩ (.slice Ao11 t163.length co11))) := ⟨by repeat (first | (with_reducible first | exact HB.out | apply below_alloc | apply pw_below_drewN | apply below_drew1 | refine below_set ?_ GE158.out | refine below_set ?_ GE159.out) | exact HB.out)⟩
     (try clear HO165)
     (try clear BK158)
     (try clear BK159)
     (try clear HB)
     generalize ((((w9.setCell ⟨gb158, 0, none⟩ (.int .i64 t160)).setCell ⟨gb158, 1, none⟩ (.int .i64 t161)).setCell ⟨gb158, 2, none⟩ (.int .i64 t162)).setCell ⟨gb158, 3, none⟩ (.slice Ao11 t163.length co11)) = w17 at n0_ n1_ n2_ n3_ ⊢
     have HO165 := n0_
     have BK158 := n1_
     have BK159 := n2_
     have HB := n3_
     clear n0_ n1_ n2_ n3_
     have n0_ := Aside0.mk (Kd.R_drew HO165.out)
     have n1_ := Aside0.mk (blk_drew BK158.out)
     have n2_ := Aside0.mk (blk_drew BK159.out)
     have n3_ := Aside0.mk (below_drew1 HB.out)
     clear HO165
     clear BK158
     clear BK159
     clear HB
     have HO165 := n0_
     have BK158 := n1_
     have BK159 := n2_
     have HB := n3_
     clear n0_ n1_ n2_ n3_
     have p166 : 0 ≤ (0 : Int) := (by omega)
     have q166 : 0 < (t163.length : Int) := of_decide_eq_true (by first | (with_reducible assumption) | assumption)
     obtain ⟨ad166, e166, hx166_0, hx166_1⟩ := at_T177 (Kd.R_reads' HO165.out).2.2 0 p166 q166
     cases e166
     have qi166 : (0 < t163.length) = True := eq_true (by omega)
     (try rw [show ((0 : Int)).toNat = 0 from rfl] at hx166_0)
     (try rw [show 0 * 2 = 0 from rfl] at hx166_0)
     (try rw [Addr.add_zero'] at hx166_0)
     (try rw [show ((0 : Int)).toNat = 0 from rfl] at hx166_1)
     (try rw [show 0 * 2 = 0 from rfl] at hx166_1)
     (try rw [Addr.add_zero'] at hx166_1)
     replace p166 := eq_true p166
     replace q166 := eq_true q166
     refine start_ (n := 18) (S := fun w' => w'.cell? ⟨gb158, 0, none⟩ = some (.int .i64 t160) ∧ w'.cell? ⟨gb158, 1, none⟩ = some (.int .i64 t161) ∧ w'.cell? ⟨gb158, 2, none⟩ = some (.int .i64 t162) ∧ w'.cell? ⟨gb158, 3, none⟩ = some (.slice (some ad166) t163.length co11) ∧ w'.cell? ad166 = some (.int .i64 ((rd_T177 t163 0).f0)) ∧ w'.cell? ⟨ad166.block, ad166.off + 1, none⟩ = some (.string ((rd_T177 t163 0).f1))) (ds := []) (bm 18 0) (by kernel_rfl) rfl rfl ⟨(blk_cell BK158.out 0).trans rfl, (blk_cell BK158.out 1).trans rfl, (blk_cell BK158.out 2).trans rfl, (blk_cell BK158.out 3).trans rfl, hx166_0, hx166_1⟩ (fun hHeld => ?_); refine with_tabW spec_l14Read.tab2 spec_l14Read.bits2 (fun HT_ HW_ => ?_)
     generalize w17.drew = w18 at HO165 BK158 BK159 HB hx166_0 hx166_1 hHeld ⊢
     refine pure_ (i := 0) (N := some 11) (v := ?_) (a' := ?_) (bm 18 1) rfl rfl (any_of HT_.out (by kernel_rfl)) (fun _ _ _ h => h) (Or.inl ⟨by rfl, ?_⟩) ?_ ?_
     rotate_left
     ·intro w'
      go_simp
      with_reducible rfl
     rotate_left
     ·simp only [Act.put, sA, sZ, sS, i64_w, i32_w]
      rfl
     refine take_ (i := 1) (N := some 12) (v := ?_) (a' := ?_) (bm 18 3) rfl rfl (take_ofW HT_.out HW_.out (by kernel_rfl)) (fun _ _ _ h => h) (Or.inl ⟨by rfl, ?_⟩) hHeld ?_ ?_
     rotate_left
     ·rintro w' ⟨s0, s1, s2, s3, s4, s5⟩
      go_simp
      with_reducible rfl
     rotate_left
     ·simp only [Act.put, sA, sZ, sS, i64_w, i32_w]
      rfl
     refine pure_ (i := 2) (N := some 13) (v := ?_) (a' := ?_) (bm 18 7) rfl rfl (any_of HT_.out (by kernel_rfl)) (fun _ _ _ h => h) (Or.inl ⟨by rfl, ?_⟩) ?_ ?_
     rotate_left
     ·intro w'
      go_simp
      with_reducible rfl
     rotate_left
     ·simp only [Act.put, sA, sZ, sS, i64_w, i32_w]
      rfl
     refine pure_ (i := 3) (N := some 14) (v := ?_) (a' := ?_) (bm 18 15) rfl rfl (any_of HT_.out (by kernel_rfl)) (fun _ _ _ h => h) (Or.inl ⟨by rfl, ?_⟩) ?_ ?_
     rotate_left
     ·intro w'
      go_simp
      with_reducible rfl
     rotate_left
     ·simp only [Act.put, sA, sZ, sS, i64_w, i32_w]
      rfl
     refine pure_ (i := 4) (N := some 15) (v := ?_) (a' := ?_) (bm 18 31) rfl rfl (any_of HT_.out (by kernel_rfl)) (fun _ _ _ h => h) (Or.inl ⟨by rfl, ?_⟩) ?_ ?_
     rotate_left
     ·intro w'
      go_simp
      with_reducible rfl
     rotate_left
     ·simp only [Act.put, sA, sZ, sS, i64_w, i32_w]
      rfl
     refine pure_ (i := 5) (N := some 16) (v := ?_) (a' := ?_) (bm 18 63) rfl rfl (any_of HT_.out (by kernel_rfl)) (fun _ _ _ h => h) (Or.inl ⟨by rfl, ?_⟩) ?_ ?_
     rotate_left
     ·intro w'
      go_simp
      with_reducible rfl
     rotate_left
     ·simp only [Act.put, sA, sZ, sS, i64_w, i32_w]
      rfl
     refine pure_ (i := 10) (N := some 21) (v := ?_) (a' := ?_) (bm 18 1087) rfl rfl (any_of HT_.out (by kernel_rfl)) (fun _ _ _ h => h) (Or.inl ⟨by rfl, ?_⟩) ?_ ?_
     rotate_left
     ·intro w'
      go_simp
      with_reducible rfl
     rotate_left
     ·simp only [Act.put, sA, sZ, sS, i64_w, i32_w]
      rfl
     refine take_ (i := 6) (N := some 17) (v := ?_) (a' := ?_) (bm 18 1151) rfl rfl (take_ofW HT_.out HW_.out (by kernel_rfl)) (fun _ _ _ h => h) (Or.inl ⟨by rfl, ?_⟩) hHeld ?_ ?_
     rotate_left
     ·rintro w' ⟨s0, s1, s2, s3, s4, s5⟩
      go_simp
      with_reducible rfl
     rotate_left
     ·simp only [Act.put, sA, sZ, sS, i64_w, i32_w]
      rfl
     refine pure_ (i := 7) (N := some 18) (v := ?_) (a' := ?_) (bm 18 1279) rfl rfl (any_of HT_.out (by kernel_rfl)) (fun _ _ _ h => h) (Or.inl ⟨by rfl, ?_⟩) ?_ ?_
     rotate_left
     ·intro w'
      go_simp
      with_reducible rfl
     rotate_left
     ·simp only [Act.put, sA, sZ, sS, i64_w, i32_w]
      rfl
     refine pure_ (i := 8) (N := some 19) (v := ?_) (a' := ?_) (bm 18 1535) rfl rfl (any_of HT_.out (by kernel_rfl)) (fun _ _ _ h => h) (Or.inl ⟨by rfl, ?_⟩) ?_ ?_
     rotate_left
     ·intro w'
      go_simp
      with_reducible rfl
     rotate_left
     ·simp only [Act.put, sA, sZ, sS, i64_w, i32_w]
      rfl
     refine take_ (i := 9) (N := some 20) (v := ?_) (a' := ?_) (bm 18 2047) rfl rfl (take_ofW HT_.out HW_.out (by kernel_rfl)) (fun _ _ _ h => h) (Or.inl ⟨by rfl, ?_⟩) hHeld ?_ ?_
     rotate_left
     ·rintro w' ⟨s0, s1, s2, s3, s4, s5⟩
      go_simp
      with_reducible rfl
     rotate_left
     ·simp only [Act.put, sA, sZ, sS, i64_w, i32_w]
      rfl
     refine take_ (i := 11) (N := some 22) (v := ?_) (a' := ?_) (bm 18 4095) rfl rfl (take_ofW HT_.out HW_.out (by kernel_rfl)) (fun _ _ _ h => h) (Or.inl ⟨by rfl, ?_⟩) hHeld ?_ ?_
     rotate_left
     ·rintro w' ⟨s0, s1, s2, s3, s4, s5⟩
      go_simp
      with_reducible rfl
     rotate_left
     ·simp only [Act.put, sA, sZ, sS, i64_w, i32_w]
      rfl
     refine pure_ (i := 12) (N := some 23) (v := ?_) (a' := ?_) (bm 18 8191) rfl rfl (any_of HT_.out (by kernel_rfl)) (fun _ _ _ h => h) (Or.inl ⟨by rfl, ?_⟩) ?_ ?_
     rotate_left
     ·intro w'
      go_simp
      with_reducible rfl
     rotate_left
     ·simp only [Act.put, sA, sZ, sS, i64_w, i32_w]
      rfl
     refine pure_ (i := 13) (N := some 24) (v := ?_) (a' := ?_) (bm 18 16383) rfl rfl (any_of HT_.out (by kernel_rfl)) (fun _ _ _ h => h) (Or.inl ⟨by rfl, ?_⟩) ?_ ?_
     rotate_left
     ·intro w'
      go_simp
      with_reducible rfl
     rotate_left
     ·simp only [Act.put, sA, sZ, sS, i64_w, i32_w]
      rfl
     refine pure_ (i := 14) (N := some 25) (v := ?_) (a' := ?_) (bm 18 32767) rfl rfl (any_of HT_.out (by kernel_rfl)) (fun _ _ _ h => h) (Or.inl ⟨by rfl, ?_⟩) ?_ ?_
     rotate_left
     ·intro w'
      go_simp
      with_reducible rfl
     rotate_left
     ·simp only [Act.put, sA, sZ, sS, i64_w, i32_w]
      rfl
     refine pure_ (i := 15) (N := some 26) (v := ?_) (a' := ?_) (bm 18 65535) rfl rfl (any_of HT_.out (by kernel_rfl)) (fun _ _ _ h => h) (Or.inl ⟨by rfl, ?_⟩) ?_ ?_
     rotate_left
     ·intro w'
      go_simp
      with_reducible rfl
     rotate_left
     ·simp only [Act.put, sA, sZ, sS, i64_w, i32_w]
      rfl
     refine pure_ (i := 16) (N := some 27) (v := ?_) (a' := ?_) (bm 18 131071) rfl rfl (any_of HT_.out (by kernel_rfl)) (fun _ _ _ h => h) (Or.inl ⟨by rfl, ?_⟩) ?_ ?_
     rotate_left
     ·intro w'
      go_simp
      with_reducible rfl
     rotate_left
     ·simp only [Act.put, sA, sZ, sS, i64_w, i32_w]
      rfl
     refine pure_ (i := 17) (N := some 28) (v := ?_) (a' := ?_) (bm 18 262143) rfl rfl (any_of HT_.out (by kernel_rfl)) (fun _ _ _ h => h) (Or.inl ⟨by rfl, ?_⟩) ?_ ?_
     rotate_left
     ·intro w'
      go_simp
      with_reducible rfl
     rotate_left
     ·simp only [Act.put, sA, sZ, sS, i64_w, i32_w]
      rfl
     refine done_ (done_of HT_.out (by kernel_rfl)) ?_
     try go_wp2
     go_meet
     case rel => exact ⟨_, ((a1 == 0)), (by first | rfl | (simp; done) | (simp [*]; done)), H', ⟨by first | omega | exact Nat.le_refl _⟩, ⟨Kd.Q_of_R (mR HO165.out)⟩, ⟨by (with_reducible repeat (first | refine bN ?_ _ | refine bD ?_ | refine bA ?_ _)); exact BK158.out⟩, ⟨by (with_reducible repeat (first | refine bN ?_ _ | refine bD ?_ | refine bA ?_ _)); exact BK159.out⟩, ⟨by repeat (first | (with_reducible first | exact HB.out | apply below_alloc | apply pw_below_drewN | apply below_drew1 | refine below_set ?_ GE158.out | refine below_set ?_ GE159.out) | exact HB.out)⟩⟩
    ·rw [if_neg c16] at H
     have c16b0 : (((rd_T177 t163 0).f0) == t161) = false := beq_eq_false_iff_ne.mpr c16
     have c16b1 : (((rd_T177 t163 0).f0) != t161) = true := bne_iff_ne.mpr c16
     have H' := Aside0.mk H
     clear H
     try go_wp2
     have n0_ : Aside0 (Kd.R k177 177 ((((w9.setCell ⟨gb158, 0, none⟩ (.int .i64 t160)).setCell ⟨gb158, 1, none⟩ (.int .i64 t161)).setCell ⟨gb158, 2, none⟩ (.int .i64 t162)).setCell ⟨gb158, 3, none⟩ (.slice Ao11 t163.length co11)) w.heap.size (fun _ => True) (.slice Ao11 t163.length co11) t163) := ⟨by (with_reducible repeat (first | apply Kd.R_alloc | apply Kd.R_drewN | apply Kd.R_drew)); exact Kd.R_mono (Kd.R_far (p := ⟨gb158, 3, none⟩) (Kd.R_far (p := ⟨gb158, 2, none⟩) (Kd.R_far (p := ⟨gb158, 1, none⟩) (Kd.R_far (p := ⟨gb158, 0, none⟩) (Kd.R_types HO165.out BK158.out (by decide)) (fun _ hk => hk.2) (.int .i64 t160)) (fun _ hk => hk.2) (.int .i64 t161)) (fun _ hk => hk.2) (.int .i64 t162)) (fun _ hk => hk.2) (.slice Ao11 t163.length co11)) (fun _ hk => trivial)⟩
     have n1_ : Aside0 (((((w9.setCell ⟨gb158, 0, none⟩ (.int .i64 t160)).setCell ⟨gb158, 1, none⟩ (.int .i64 t161)).setCell ⟨gb158, 2, none⟩ (.int .i64 t162)).setCell ⟨gb158, 3, none⟩ (.slice Ao11 t163.length co11)).heap[gb158]? = some (.cells #[.int .i64 t160, .int .i64 t161, .int .i64 t162, .slice Ao11 t163.length co11] 61 (0, 0))) := ⟨by (with_reducible repeat (first | refine bN ?_ _ | refine bD ?_ | refine bA ?_ _)); refine blk_put (cs := #[.int .i64 t160, .int .i64 t161, .int .i64 t162, .slice A0_3 l0_3.length c0_3]) ?_ 3 _ rfl; (with_reducible repeat (first | refine bN ?_ _ | refine bD ?_ | refine bA ?_ _)); refine blk_put (cs := #[.int .i64 t160, .int .i64 t161, .int .i64 a0_2, .slice A0_3 l0_3.length c0_3]) ?_ 2 _ rfl; (with_reducible repeat (first | refine bN ?_ _ | refine bD ?_ | refine bA ?_ _)); refine blk_put (cs := #[.int .i64 t160, .int .i64 a0_1, .int .i64 a0_2, .slice A0_3 l0_3.length c0_3]) ?_ 1 _ rfl; (with_reducible repeat (first | refine bN ?_ _ | refine bD ?_ | refine bA ?_ _)); refine blk_put (cs := #[.int .i64 a0_0, .int .i64 a0_1, .int .i64 a0_2, .slice A0_3 l0_3.length c0_3]) ?_ 0 _ rfl; (with_reducible repeat (first | refine bN ?_ _ | refine bD ?_ | refine bA ?_ _)); exact BK158.out⟩
     have n2_ : Aside0 (((((w9.setCell ⟨gb158, 0, none⟩ (.int .i64 t160)).setCell ⟨gb158, 1, none⟩ (.int .i64 t161)).setCell ⟨gb158, 2, none⟩ (.int .i64 t162)).setCell ⟨gb158, 3, none⟩ (.slice Ao11 t163.length co11)).heap[gb159]? = some (.cells #[.int .i64 0, .int .i64 0, .int .i64 0, .slice none 0 0] 61 (0, 0))) := ⟨by (with_reducible repeat (first | refine bN ?_ _ | refine bD ?_ | refine bA ?_ _)); refine blk_far ?_ NB159_158.out _; (with_reducible repeat (first | refine bN ?_ _ | refine bD ?_ | refine bA ?_ _)); refine blk_far ?_ NB159_158.out _; (with_reducible repeat (first | refine bN ?_ _ | refine bD ?_ | refine bA ?_ _)); refine blk_far ?_ NB159_158.out _; (with_reducible repeat (first | refine bN ?_ _ | refine bD ?_ | refine bA ?_ _)); refine blk_far ?_ NB159_158.out _; (with_reducible repeat (first | refine bN ?_ _ | refine bD ?_ | refine bA ?_ _)); exact BK159.out⟩
     have n3_ : Aside0 (Below w.heap.size w ((((w9.setCell ⟨gb158, 0, none⟩ (.int .i64 t160)).setCell ⟨gb158, 1, none⟩ (.int .i64 t161)).setCell ⟨gb158, 2, none⟩ (.int .i64 t162)).setCell ⟨gb158, 3, none⟩ (.slice Ao11 t163.length co11))) := ⟨by repeat (first | (with_reducible first | exact HB.out | apply below_alloc | apply pw_below_drewN | apply below_drew1 | refine below_set ?_ GE158.out | refine below_set ?_ GE159.out) | exact HB.out)⟩
     (try clear HO165)
     (try clear BK158)
     (try clear BK159)
     (try clear HB)
     generalize ((((w9.setCell ⟨gb158, 0, none⟩ (.int .i64 t160)).setCell ⟨gb158, 1, none⟩ (.int .i64 t161)).setCell ⟨gb158, 2, none⟩ (.int .i64 t162)).setCell ⟨gb158, 3, none⟩ (.slice Ao11 t163.length co11)) = w19 at n0_ n1_ n2_ n3_ ⊢
     have HO165 := n0_
     have BK158 := n1_
     have BK159 := n2_
     have HB := n3_
     clear n0_ n1_ n2_ n3_
     have n0_ := Aside0.mk (Kd.R_drew HO165.out)
     have n1_ := Aside0.mk (blk_drew BK158.out)
     have n2_ := Aside0.mk (blk_drew BK159.out)
     have n3_ := Aside0.mk (below_drew1 HB.out)
     clear HO165
     clear BK158
     clear BK159
     clear HB
     have HO165 := n0_
     have BK158 := n1_
     have BK159 := n2_
     have HB := n3_
     clear n0_ n1_ n2_ n3_
     have p166 : 0 ≤ (0 : Int) := (by omega)
     have q166 : 0 < (t163.length : Int) := of_decide_eq_true (by first | (with_reducible assumption) | assumption)
     obtain ⟨ad166, e166, hx166_0, hx166_1⟩ := at_T177 (Kd.R_reads' HO165.out).2.2 0 p166 q166
     cases e166
     have qi166 : (0 < t163.length) = True := eq_true (by omega)
     (try rw [show ((0 : Int)).toNat = 0 from rfl] at hx166_0)
     (try rw [show 0 * 2 = 0 from rfl] at hx166_0)
     (try rw [Addr.add_zero'] at hx166_0)
     (try rw [show ((0 : Int)).toNat = 0 from rfl] at hx166_1)
     (try rw [show 0 * 2 = 0 from rfl] at hx166_1)
     (try rw [Addr.add_zero'] at hx166_1)
     replace p166 := eq_true p166
     replace q166 := eq_true q166
     refine start_ (n := 18) (S := fun w' => w'.cell? ⟨gb158, 0, none⟩ = some (.int .i64 t160) ∧ w'.cell? ⟨gb158, 1, none⟩ = some (.int .i64 t161) ∧ w'.cell? ⟨gb158, 2, none⟩ = some (.int .i64 t162) ∧ w'.cell? ⟨gb158, 3, none⟩ = some (.slice (some ad166) t163.length co11) ∧ w'.cell? ad166 = some (.int .i64 ((rd_T177 t163 0).f0)) ∧ w'.cell? ⟨ad166.block, ad166.off + 1, none⟩ = some (.string ((rd_T177 t163 0).f1))) (ds := []) (bm 18 0) (by kernel_rfl) rfl rfl ⟨(blk_cell BK158.out 0).trans rfl, (blk_cell BK158.out 1).trans rfl, (blk_cell BK158.out 2).trans rfl, (blk_cell BK158.out 3).trans rfl, hx166_0, hx166_1⟩ (fun hHeld => ?_); refine with_tabW spec_l14Read.tab2 spec_l14Read.bits2 (fun HT_ HW_ => ?_)
     generalize w19.drew = w20 at HO165 BK158 BK159 HB hx166_0 hx166_1 hHeld ⊢
     refine pure_ (i := 0) (N := some 11) (v := ?_) (a' := ?_) (bm 18 1) rfl rfl (any_of HT_.out (by kernel_rfl)) (fun _ _ _ h => h) (Or.inl ⟨by rfl, ?_⟩) ?_ ?_
     rotate_left
     ·intro w'
      go_simp
      with_reducible rfl
     rotate_left
     ·simp only [Act.put, sA, sZ, sS, i64_w, i32_w]
      rfl
     refine take_ (i := 1) (N := some 12) (v := ?_) (a' := ?_) (bm 18 3) rfl rfl (take_ofW HT_.out HW_.out (by kernel_rfl)) (fun _ _ _ h => h) (Or.inl ⟨by rfl, ?_⟩) hHeld ?_ ?_
     rotate_left
     ·rintro w' ⟨s0, s1, s2, s3, s4, s5⟩
      go_simp
      with_reducible rfl
     rotate_left
     ·simp only [Act.put, sA, sZ, sS, i64_w, i32_w]
      rfl
     refine pure_ (i := 2) (N := some 13) (v := ?_) (a' := ?_) (bm 18 7) rfl rfl (any_of HT_.out (by kernel_rfl)) (fun _ _ _ h => h) (Or.inl ⟨by rfl, ?_⟩) ?_ ?_
     rotate_left
     ·intro w'
      go_simp
      with_reducible rfl
     rotate_left
     ·simp only [Act.put, sA, sZ, sS, i64_w, i32_w]
      rfl
     refine pure_ (i := 3) (N := some 14) (v := ?_) (a' := ?_) (bm 18 15) rfl rfl (any_of HT_.out (by kernel_rfl)) (fun _ _ _ h => h) (Or.inl ⟨by rfl, ?_⟩) ?_ ?_
     rotate_left
     ·intro w'
      go_simp
      with_reducible rfl
     rotate_left
     ·simp only [Act.put, sA, sZ, sS, i64_w, i32_w]
      rfl
     refine pure_ (i := 4) (N := some 15) (v := ?_) (a' := ?_) (bm 18 31) rfl rfl (any_of HT_.out (by kernel_rfl)) (fun _ _ _ h => h) (Or.inl ⟨by rfl, ?_⟩) ?_ ?_
     rotate_left
     ·intro w'
      go_simp
      with_reducible rfl
     rotate_left
     ·simp only [Act.put, sA, sZ, sS, i64_w, i32_w]
      rfl
     refine pure_ (i := 5) (N := some 16) (v := ?_) (a' := ?_) (bm 18 63) rfl rfl (any_of HT_.out (by kernel_rfl)) (fun _ _ _ h => h) (Or.inl ⟨by rfl, ?_⟩) ?_ ?_
     rotate_left
     ·intro w'
      go_simp
      with_reducible rfl
     rotate_left
     ·simp only [Act.put, sA, sZ, sS, i64_w, i32_w]
      rfl
     refine pure_ (i := 10) (N := some 21) (v := ?_) (a' := ?_) (bm 18 1087) rfl rfl (any_of HT_.out (by kernel_rfl)) (fun _ _ _ h => h) (Or.inl ⟨by rfl, ?_⟩) ?_ ?_
     rotate_left
     ·intro w'
      go_simp
      with_reducible rfl
     rotate_left
     ·simp only [Act.put, sA, sZ, sS, i64_w, i32_w]
      rfl
     refine take_ (i := 6) (N := some 17) (v := ?_) (a' := ?_) (bm 18 1151) rfl rfl (take_ofW HT_.out HW_.out (by kernel_rfl)) (fun _ _ _ h => h) (Or.inl ⟨by rfl, ?_⟩) hHeld ?_ ?_
     rotate_left
     ·rintro w' ⟨s0, s1, s2, s3, s4, s5⟩
      go_simp
      with_reducible rfl
     rotate_left
     ·simp only [Act.put, sA, sZ, sS, i64_w, i32_w]
      rfl
     refine pure_ (i := 7) (N := some 18) (v := ?_) (a' := ?_) (bm 18 1279) rfl rfl (any_of HT_.out (by kernel_rfl)) (fun _ _ _ h => h) (Or.inl ⟨by rfl, ?_⟩) ?_ ?_
     rotate_left
     ·intro w'
      go_simp
      with_reducible rfl
     rotate_left
     ·simp only [Act.put, sA, sZ, sS, i64_w, i32_w]
      rfl
     refine pure_ (i := 8) (N := some 19) (v := ?_) (a' := ?_) (bm 18 1535) rfl rfl (any_of HT_.out (by kernel_rfl)) (fun _ _ _ h => h) (Or.inl ⟨by rfl, ?_⟩) ?_ ?_
     rotate_left
     ·intro w'
      go_simp
      with_reducible rfl
     rotate_left
     ·simp only [Act.put, sA, sZ, sS, i64_w, i32_w]
      rfl
     refine take_ (i := 9) (N := some 20) (v := ?_) (a' := ?_) (bm 18 2047) rfl rfl (take_ofW HT_.out HW_.out (by kernel_rfl)) (fun _ _ _ h => h) (Or.inl ⟨by rfl, ?_⟩) hHeld ?_ ?_
     rotate_left
     ·rintro w' ⟨s0, s1, s2, s3, s4, s5⟩
      go_simp
      with_reducible rfl
     rotate_left
     ·simp only [Act.put, sA, sZ, sS, i64_w, i32_w]
      rfl
     refine take_ (i := 11) (N := some 22) (v := ?_) (a' := ?_) (bm 18 4095) rfl rfl (take_ofW HT_.out HW_.out (by kernel_rfl)) (fun _ _ _ h => h) (Or.inl ⟨by rfl, ?_⟩) hHeld ?_ ?_
     rotate_left
     ·rintro w' ⟨s0, s1, s2, s3, s4, s5⟩
      go_simp
      with_reducible rfl
     rotate_left
     ·simp only [Act.put, sA, sZ, sS, i64_w, i32_w]
      rfl
     refine pure_ (i := 12) (N := some 23) (v := ?_) (a' := ?_) (bm 18 8191) rfl rfl (any_of HT_.out (by kernel_rfl)) (fun _ _ _ h => h) (Or.inl ⟨by rfl, ?_⟩) ?_ ?_
     rotate_left
     ·intro w'
      go_simp
      with_reducible rfl
     rotate_left
     ·simp only [Act.put, sA, sZ, sS, i64_w, i32_w]
      rfl
     refine pure_ (i := 13) (N := some 24) (v := ?_) (a' := ?_) (bm 18 16383) rfl rfl (any_of HT_.out (by kernel_rfl)) (fun _ _ _ h => h) (Or.inl ⟨by rfl, ?_⟩) ?_ ?_
     rotate_left
     ·intro w'
      go_simp
      with_reducible rfl
     rotate_left
     ·simp only [Act.put, sA, sZ, sS, i64_w, i32_w]
      rfl
     refine pure_ (i := 14) (N := some 25) (v := ?_) (a' := ?_) (bm 18 32767) rfl rfl (any_of HT_.out (by kernel_rfl)) (fun _ _ _ h => h) (Or.inl ⟨by rfl, ?_⟩) ?_ ?_
     rotate_left
     ·intro w'
      go_simp
      with_reducible rfl
     rotate_left
     ·simp only [Act.put, sA, sZ, sS, i64_w, i32_w]
      rfl
     refine pure_ (i := 15) (N := some 26) (v := undef) (a' := ?_) (bm 18 65535) rfl rfl (any_of HT_.out (by kernel_rfl)) (fun _ _ _ h => h) (Or.inr ⟨by rfl, rfl⟩) ?_ ?_
     rotate_left
     ·simp only [Act.put, sA, sZ, sS, i64_w, i32_w]
      rfl
     refine pure_ (i := 16) (N := some 27) (v := undef) (a' := ?_) (bm 18 131071) rfl rfl (any_of HT_.out (by kernel_rfl)) (fun _ _ _ h => h) (Or.inr ⟨by rfl, rfl⟩) ?_ ?_
     rotate_left
     ·simp only [Act.put, sA, sZ, sS, i64_w, i32_w]
      rfl
     refine pure_ (i := 17) (N := some 28) (v := ?_) (a' := ?_) (bm 18 262143) rfl rfl (any_of HT_.out (by kernel_rfl)) (fun _ _ _ h => h) (Or.inl ⟨by rfl, ?_⟩) ?_ ?_
     rotate_left
     ·intro w'
      go_simp
      with_reducible rfl
     rotate_left
     ·simp only [Act.put, sA, sZ, sS, i64_w, i32_w]
      rfl
     refine done_ (done_of HT_.out (by kernel_rfl)) ?_
     try go_wp2
     go_meet
     case rel => exact ⟨_, (true), (by first | rfl | (simp; done) | (simp [*]; done)), H', ⟨by first | omega | exact Nat.le_refl _⟩, ⟨Kd.Q_of_R (mR HO165.out)⟩, ⟨by (with_reducible repeat (first | refine bN ?_ _ | refine bD ?_ | refine bA ?_ _)); exact BK158.out⟩, ⟨by (with_reducible repeat (first | refine bN ?_ _ | refine bD ?_ | refine bA ?_ _)); exact BK159.out⟩, ⟨by repeat (first | (with_reducible first | exact HB.out | apply below_alloc | apply pw_below_drewN | apply below_drew1 | refine below_set ?_ GE158.out | refine below_set ?_ GE159.out) | exact HB.out)⟩⟩
   ·rw [if_neg c15] at H
    exact absurd H (by simp)
 case rest =>
  clear HC4
  try clear c1
  try clear p1
  try clear q1
  try clear hx1
  try clear qi1
  try clear p2
  try clear c7
  try clear c10
  try clear c12
  try clear c12b0
  try clear c12b1
  try clear c12b2
  try clear c15
  try clear c15b0
  try clear c15b1
  try clear c16
  try clear c16b0
  try clear c16b1
  try clear p16
  try clear q16
  try clear hx16
  try clear qi16
  try clear hcz10_0
  try clear hcz10_1
  try clear hcz10_2
  try clear hcz10_3
  try clear hcz8_0
  try clear hcz8_1
  try clear hcz8_2
  try clear hcz8_3
  try clear hfz10_0
  try clear hfz10_1
  try clear hfz10_2
  try clear hfz10_3
  try clear hfz8_0
  try clear hfz8_1
  try clear hfz8_2
  try clear hfz8_3
  try clear hx166_0
  try clear hx166_1
  try clear p166
  try clear q166
  obtain ⟨kq, x28_3, rfl, HA, HJ3, HO_159003, BK158, BK159, HB⟩ := hcut
  cases kq with
  | zero => exact absurd HA.out (by simp [spec_l14Read.j0])
  | succ kj3 =>
   have H := HA.out
   clear HA
   simp only [spec_l14Read.j0] at H
   by_cases c21 : x28_3 = true
   ·subst c21
    have H1 : (some (t160, t161, t162, t163, (⟨#[]⟩ : ByteArray))) = some (r1, r2, r3, r4, r5) := by rw [if_pos rfl] at H; exact H
    clear H
    have H := H1
    clear H1
    simp only [Option.some.injEq, Prod.mk.injEq] at H
    obtain ⟨rfl, rfl, rfl, rfl, rfl⟩ := H
    have hnb22 := NB158_159.out
    have hnc22 := NB159_158.out
    obtain ⟨hcz23_0, hcz23_1, hcz23_2, hcz23_3⟩ := cz4 BK158
    obtain ⟨hfz23_0, hfz23_1, hfz23_2, hfz23_3⟩ := fz4 BK158
    obtain ⟨hcz24_0, hcz24_1, hcz24_2, hcz24_3⟩ := cz4 BK159
    obtain ⟨hfz24_0, hfz24_1, hfz24_2, hfz24_3⟩ := fz4 BK159
    go_wp2
    refine bodyPost_ret (results_ct rfl _ _ gb159 61 #[.int .i64 t160, .int .i64 t161, .int .i64 t162, .slice Ao11 t163.length co11] (0, 0) _ rfl (by (with_reducible repeat (first | refine bN ?_ _ | refine bD ?_ | refine bA ?_ _)); refine blk_put (cs := #[.int .i64 t160, .int .i64 t161, .int .i64 t162, .slice none 0 0]) ?_ 3 _ rfl; (with_reducible repeat (first | refine bN ?_ _ | refine bD ?_ | refine bA ?_ _)); refine blk_put (cs := #[.int .i64 t160, .int .i64 t161, .int .i64 0, .slice none 0 0]) ?_ 2 _ rfl; (with_reducible repeat (first | refine bN ?_ _ | refine bD ?_ | refine bA ?_ _)); refine blk_put (cs := #[.int .i64 t160, .int .i64 0, .int .i64 0, .slice none 0 0]) ?_ 1 _ rfl; (with_reducible repeat (first | refine bN ?_ _ | refine bD ?_ | refine bA ?_ _)); refine blk_put (cs := #[.int .i64 0, .int .i64 0, .int .i64 0, .slice none 0 0]) ?_ 0 _ rfl; (with_reducible repeat (first | refine bN ?_ _ | refine bD ?_ | refine bA ?_ _)); exact BK159.out) Try.underlying61 rfl (by kernel_rfl)) rfl ?_
    exact ⟨_, by first | rfl | (simp [errW_none, errW_some] <;> rfl) | (simp [*, errW_none, errW_some] <;> rfl), by (with_reducible repeat (first | apply Kd.Q_alloc | apply Kd.Q_drewN | apply Kd.Q_drew)); exact Kd.Q_mono (Kd.Q_far (p := ⟨gb159, 3, none⟩) (Kd.Q_far (p := ⟨gb159, 2, none⟩) (Kd.Q_far (p := ⟨gb159, 1, none⟩) (Kd.Q_far (p := ⟨gb159, 0, none⟩) (Kd.Q_types HO_159003.out BK159.out (by decide)) (fun _ hk => hk.2) (.int .i64 t160)) (fun _ hk => hk.2) (.int .i64 t161)) (fun _ hk => hk.2) (.int .i64 t162)) (fun _ hk => hk.2) (.slice Ao11 t163.length co11)) (fun _ hk => trivial), by repeat (first | (with_reducible first | exact HB.out | apply below_alloc | apply pw_below_drewN | apply below_drew1 | refine below_set ?_ GE158.out | refine below_set ?_ GE159.out) | exact HB.out)⟩
   ·replace c21 := Bool.eq_false_iff.mpr c21
    subst c21
    have H1 : (if 0 < (t163.length : Int) then (if (((rd_T177 t163 0).f1).size : Int) > a1 then (spec_l14Read.j1 kj3 a1 t160 t161 t162 t163 ((rd_T177 t163 0).f0) ((rd_T177 t163 0).f1)) else (spec_l14Read.j1 kj3 (((rd_T177 t163 0).f1).size : Int) t160 t161 t162 t163 ((rd_T177 t163 0).f0) ((rd_T177 t163 0).f1))) else (none)) = some (r1, r2, r3, r4, r5) := by rw [if_neg (show ¬ (false = true) by decide)] at H; exact H
    clear H
    have H := H1
    clear H1
    by_cases c25 : 0 < (t163.length : Int)
    ·rw [if_pos c25] at H
     have c25b0 : decide (0 < (t163.length : Int)) = true := decide_eq_true c25
     have c25b1 : decide (0 < t163.length) = true := decide_eq_true (by omega)
     clear c25
     have HC26 := Aside0.mk H
     clear H
     have hnb27 := NB158_159.out
     have hnc27 := NB159_158.out
     obtain ⟨hcz28_0, hcz28_1, hcz28_2, hcz28_3⟩ := cz4 BK158
     obtain ⟨hfz28_0, hfz28_1, hfz28_2, hfz28_3⟩ := fz4 BK158
     have p167 : 0 ≤ (0 : Int) := (by omega)
     have q167 : 0 < (t163.length : Int) := of_decide_eq_true (by first | (with_reducible assumption) | assumption)
     obtain ⟨ad167, e167, hx167_0, hx167_1⟩ := at_T177 (Kd.Q_reads' HO_159003.out).2.2 0 p167 q167
     cases e167
     have qi167 : (0 < t163.length) = True := eq_true (by omega)
     (try rw [show ((0 : Int)).toNat = 0 from rfl] at hx167_0)
     (try rw [show 0 * 2 = 0 from rfl] at hx167_0)
     (try rw [Addr.add_zero'] at hx167_0)
     (try rw [show ((0 : Int)).toNat = 0 from rfl] at hx167_1)
     (try rw [show 0 * 2 = 0 from rfl] at hx167_1)
     (try rw [Addr.add_zero'] at hx167_1)
     replace p167 := eq_true p167
     replace q167 := eq_true q167
     go_upto_if 39 with (first | ((with_reducible refine gate_dst (N := 6) rfl ?_); refine box_event ?hg (N := 6) ?hd (cs := #[.int .i64 0, .string (⟨#[]⟩ : ByteArray)]) (t := 177) ?hr ?_; (case hd => rfl); (case hg => rfl); (case hr => first | (go_simp; done) | (go_simp; rfl)); intro gb168 hg w29 hbox hb; have n0_ := Aside0.mk (Kd.Q_below (Kd.Q_elderB (by (with_reducible repeat (first | apply Kd.Q_alloc | apply Kd.Q_drewN | apply Kd.Q_drew)); exact HO_159003.out) gb168 (Nat.le_of_eq hg.symm)) hb); have n1_ := bX BK158 hb; have n2_ := bX BK159 hb; have n3_ := bS HB hb; have n4_ := Aside0.mk (hbox); have n5_ := Aside0.mk ((by rw [hg]; exact (below_size (by repeat (first | (with_reducible first | exact HB.out | apply below_alloc | apply pw_below_drewN | apply below_drew1 | refine below_set ?_ GE158.out | refine below_set ?_ GE159.out) | exact HB.out))) : w.heap.size ≤ gb168)); have n6_ := n5_; have n7_ := Aside0.mk ((by rw [hg]; exact Nat.ne_of_lt (bLt BK158) : gb158 ≠ gb168)); have n8_ := Aside0.mk ((by rw [hg]; exact Nat.ne_of_gt (bLt BK158) : gb168 ≠ gb158)); have n9_ := Aside0.mk ((by rw [hg]; exact Nat.ne_of_lt (bLt BK159) : gb159 ≠ gb168)); have n10_ := Aside0.mk ((by rw [hg]; exact Nat.ne_of_gt (bLt BK159) : gb168 ≠ gb159)); clear HO_159003; clear BK158; clear BK159; clear HB; have HO_159003 := n0_; have BK158 := n1_; have BK159 := n2_; have HB := n3_; have BK168 := n4_; have GW168 := n5_; have GE168 := n6_; have NB158_168 := n7_; have NB168_158 := n8_; have NB159_168 := n9_; have NB168_159 := n10_; clear n0_ n1_ n2_ n3_ n4_ n5_ n6_ n7_ n8_ n9_ n10_; clear hb hbox hg; have hnb30 := NB168_158.out; have hnc30 := NB158_168.out; have hnb31 := NB168_159.out; have hnc31 := NB159_168.out; obtain ⟨hcz32_0, hcz32_1⟩ := cz2 BK168; obtain ⟨hfz32_0, hfz32_1⟩ := fz2 BK168))
     (try simp only [Act.put, sA, sZ, sS])
     go_cut [7] (fun v7 wc => ∃ (kq : Nat) (x7_25 : Int), v7 = .int .i64 x7_25 ∧ Aside0 (spec_l14Read.j1 kq x7_25 t160 t161 t162 t163 ((rd_T177 t163 0).f0) ((rd_T177 t163 0).f1) = some (r1, r2, r3, r4, r5)) ∧ Aside0 (kq ≤ kj3) ∧ Aside0 (Kd.Q k177 177 wc w.heap.size (fun k_ => k_ ≠ gb168) (.slice (some ad167) t163.length co11) t163) ∧ Aside0 (wc.heap[gb158]? = some (.cells #[.int .i64 t160, .int .i64 t161, .int .i64 t162, (.slice (some ad167) t163.length co11)] 61 (0, 0))) ∧ Aside0 (wc.heap[gb159]? = some (.cells #[.int .i64 0, .int .i64 0, .int .i64 0, (.slice none 0 0)] 61 (0, 0))) ∧ Aside0 (wc.heap[gb168]? = some (.cells #[.int .i64 ((rd_T177 t163 0).f0), .string ((rd_T177 t163 0).f1)] 177 (0, 0))) ∧ Aside0 (Below w.heap.size w wc))
     case first =>
      have H := HC26.out
      clear HC26
      by_cases c33 : (((rd_T177 t163 0).f1).size : Int) > a1
      ·rw [if_pos c33] at H
       have c33b0 : decide (a1 < (((rd_T177 t163 0).f1).size : Int)) = true := decide_eq_true c33
       clear c33
       (first | rw [c33b0] | (simp only [i64_w, i32_w]; rw [c33b0]) | skip)
       have H' := Aside0.mk H
       clear H
       go_wp2
       go_meet
       case rel => exact ⟨_, (a1), (by first | rfl | (simp; done) | (simp [*]; done)), H', ⟨by have := HJ3.out; first | omega | exact Nat.le_refl _⟩, ⟨by (with_reducible repeat (first | apply Kd.Q_alloc | apply Kd.Q_drewN | apply Kd.Q_drew)); exact Kd.Q_mono (Kd.Q_far (p := ⟨gb168, 1, none⟩) (Kd.Q_far (p := ⟨gb168, 0, none⟩) (Kd.Q_mono HO_159003.out (fun k_ hk => (⟨hk, hk.2⟩ : _ ∧ k_ ≠ gb168))) (fun _ hk => hk.2) (.int .i64 ((rd_T177 t163 0).f0))) (fun _ hk => hk.2) (.string ((rd_T177 t163 0).f1))) (fun _ hk => hk.1.2)⟩, ⟨by (with_reducible repeat (first | refine bN ?_ _ | refine bD ?_ | refine bA ?_ _)); refine blk_far ?_ NB158_168.out _; (with_reducible repeat (first | refine bN ?_ _ | refine bD ?_ | refine bA ?_ _)); refine blk_far ?_ NB158_168.out _; (with_reducible repeat (first | refine bN ?_ _ | refine bD ?_ | refine bA ?_ _)); exact BK158.out⟩, ⟨by (with_reducible repeat (first | refine bN ?_ _ | refine bD ?_ | refine bA ?_ _)); refine blk_far ?_ NB159_168.out _; (with_reducible repeat (first | refine bN ?_ _ | refine bD ?_ | refine bA ?_ _)); refine blk_far ?_ NB159_168.out _; (with_reducible repeat (first | refine bN ?_ _ | refine bD ?_ | refine bA ?_ _)); exact BK159.out⟩, ⟨by (with_reducible repeat (first | refine bN ?_ _ | refine bD ?_ | refine bA ?_ _)); refine blk_put (cs := #[.int .i64 ((rd_T177 t163 0).f0), .string (⟨#[]⟩ : ByteArray)]) ?_ 1 _ rfl; (with_reducible repeat (first | refine bN ?_ _ | refine bD ?_ | refine bA ?_ _)); refine blk_put (cs := #[.int .i64 0, .string (⟨#[]⟩ : ByteArray)]) ?_ 0 _ rfl; (with_reducible repeat (first | refine bN ?_ _ | refine bD ?_ | refine bA ?_ _)); exact BK168.out⟩, ⟨by repeat (first | (with_reducible first | exact HB.out | apply below_alloc | apply pw_below_drewN | apply below_drew1 | refine below_set ?_ GE158.out | refine below_set ?_ GE159.out | refine below_set ?_ GE168.out) | exact HB.out)⟩⟩
      ·rw [if_neg c33] at H
       have c33b0 : decide (a1 < (((rd_T177 t163 0).f1).size : Int)) = false := decide_eq_false c33
       clear c33
       (first | rw [c33b0] | (simp only [i64_w, i32_w]; rw [c33b0]) | skip)
       have H' := Aside0.mk H
       clear H
       go_wp2
       go_meet
       case rel => exact ⟨_, ((((rd_T177 t163 0).f1).size : Int)), (by first | rfl | (simp; done) | (simp [*]; done)), H', ⟨by have := HJ3.out; first | omega | exact Nat.le_refl _⟩, ⟨by (with_reducible repeat (first | apply Kd.Q_alloc | apply Kd.Q_drewN | apply Kd.Q_drew)); exact Kd.Q_mono (Kd.Q_far (p := ⟨gb168, 1, none⟩) (Kd.Q_far (p := ⟨gb168, 0, none⟩) (Kd.Q_mono HO_159003.out (fun k_ hk => (⟨hk, hk.2⟩ : _ ∧ k_ ≠ gb168))) (fun _ hk => hk.2) (.int .i64 ((rd_T177 t163 0).f0))) (fun _ hk => hk.2) (.string ((rd_T177 t163 0).f1))) (fun _ hk => hk.1.2)⟩, ⟨by (with_reducible repeat (first | refine bN ?_ _ | refine bD ?_ | refine bA ?_ _)); refine blk_far ?_ NB158_168.out _; (with_reducible repeat (first | refine bN ?_ _ | refine bD ?_ | refine bA ?_ _)); refine blk_far ?_ NB158_168.out _; (with_reducible repeat (first | refine bN ?_ _ | refine bD ?_ | refine bA ?_ _)); exact BK158.out⟩, ⟨by (with_reducible repeat (first | refine bN ?_ _ | refine bD ?_ | refine bA ?_ _)); refine blk_far ?_ NB159_168.out _; (with_reducible repeat (first | refine bN ?_ _ | refine bD ?_ | refine bA ?_ _)); refine blk_far ?_ NB159_168.out _; (with_reducible repeat (first | refine bN ?_ _ | refine bD ?_ | refine bA ?_ _)); exact BK159.out⟩, ⟨by (with_reducible repeat (first | refine bN ?_ _ | refine bD ?_ | refine bA ?_ _)); refine blk_put (cs := #[.int .i64 ((rd_T177 t163 0).f0), .string (⟨#[]⟩ : ByteArray)]) ?_ 1 _ rfl; (with_reducible repeat (first | refine bN ?_ _ | refine bD ?_ | refine bA ?_ _)); refine blk_put (cs := #[.int .i64 0, .string (⟨#[]⟩ : ByteArray)]) ?_ 0 _ rfl; (with_reducible repeat (first | refine bN ?_ _ | refine bD ?_ | refine bA ?_ _)); exact BK168.out⟩, ⟨by repeat (first | (with_reducible first | exact HB.out | apply below_alloc | apply pw_below_drewN | apply below_drew1 | refine below_set ?_ GE158.out | refine below_set ?_ GE159.out | refine below_set ?_ GE168.out) | exact HB.out)⟩⟩
     case rest =>
      clear HC26
      try clear c1
      try clear p1
      try clear q1
      try clear hx1
      try clear qi1
      try clear c2
      try clear p2
      try clear c3
      try clear c7
      try clear c10
      try clear c12
      try clear c12b0
      try clear c12b1
      try clear c12b2
      try clear c15
      try clear c15b0
      try clear c15b1
      try clear c16
      try clear c16b0
      try clear c16b1
      try clear p16
      try clear q16
      try clear hx16
      try clear qi16
      try clear c21
      try clear c22
      try clear c25
      try clear c25b0
      try clear c25b1
      try clear c27
      try clear c30
      try clear c31
      try clear c33
      try clear c33b0
      try clear hcz10_0
      try clear hcz10_1
      try clear hcz10_2
      try clear hcz10_3
      try clear hcz23_0
      try clear hcz23_1
      try clear hcz23_2
      try clear hcz23_3
      try clear hcz24_0
      try clear hcz24_1
      try clear hcz24_2
      try clear hcz24_3
      try clear hcz28_0
      try clear hcz28_1
      try clear hcz28_2
      try clear hcz28_3
      try clear hcz32_0
      try clear hcz32_1
      try clear hcz8_0
      try clear hcz8_1
      try clear hcz8_2
      try clear hcz8_3
      try clear hfz10_0
      try clear hfz10_1
      try clear hfz10_2
      try clear hfz10_3
      try clear hfz23_0
      try clear hfz23_1
      try clear hfz23_2
      try clear hfz23_3
      try clear hfz24_0
      try clear hfz24_1
      try clear hfz24_2
      try clear hfz24_3
      try clear hfz28_0
      try clear hfz28_1
      try clear hfz28_2
      try clear hfz28_3
      try clear hfz32_0
      try clear hfz32_1
      try clear hfz8_0
      try clear hfz8_1
      try clear hfz8_2
      try clear hfz8_3
      try clear hx166_0
      try clear hx166_1
      try clear hx167_0
      try clear hx167_1
      try clear p1
      try clear p16
      try clear p166
      try clear p167
      try clear p2
      try clear q1
      try clear q16
      try clear q166
      try clear q167
      obtain ⟨kq, x7_25, rfl, HA, HJ25, HO_159003, BK158, BK159, BK168, HB⟩ := hcut
      cases kq with
      | zero => exact absurd HA.out (by simp [spec_l14Read.j1])
      | succ kj25 =>
       have H := HA.out
       clear HA
       simp only [spec_l14Read.j1] at H
       by_cases c34 : 0 ≤ x7_25
       ·rw [if_pos c34] at H
        have c34b0 := eq_true c34
        have c34b1 : decide (0 ≤ x7_25) = true := decide_eq_true c34
        clear c34
        by_cases c35 : x7_25 ≤ (((rd_T177 t163 0).f1).size : Int)
        ·rw [if_pos c35] at H
         have c35b0 := eq_true c35
         have c35b1 : decide (x7_25 ≤ (((rd_T177 t163 0).f1).size : Int)) = true := decide_eq_true c35
         clear c35
         by_cases c36 : x7_25 = (((rd_T177 t163 0).f1).size : Int)
         ·rw [if_pos c36] at H
          have c36b0 : (x7_25 == (((rd_T177 t163 0).f1).size : Int)) = true := beq_iff_eq.mpr c36
          have c36b1 : (x7_25 != (((rd_T177 t163 0).f1).size : Int)) = false := bne_eq_false_iff_eq.mpr c36
          clear c36
          by_cases c37 : 1 ≤ (t163.length : Int)
          ·rw [if_pos c37] at H
           have c37b0 := eq_true c37
           have c37b1 : decide (1 ≤ (t163.length : Int)) = true := decide_eq_true c37
           clear c37
           obtain ⟨y169, hy169⟩ : ∃ y_ : List (S177), y_ = (t163.drop (1 : Int).toNat) := ⟨_, rfl⟩
           replace H : (some (t160, wrap64 (t161 + x7_25), t162, y169, ((rd_T177 t163 0).f1).extract 0 (x7_25 : Int).toNat)) = some (r1, r2, r3, r4, r5) := by first | (rw [hy169]; with_reducible exact H) | (have H2_ := (Option.bind_some _ _).symm.trans H; rw [hy169]; with_reducible exact H2_) | (have H2_ := (Option.bind_some _ _).symm.trans H; with_reducible exact H2_) | with_reducible exact H | (rw [hy169]; exact H) | exact H
           have Ny169 := Aside0.mk hy169
           clear hy169
           simp only [Option.some.injEq, Prod.mk.injEq] at H
           obtain ⟨rfl, rfl, rfl, rfl, rfl⟩ := H
           have hnb38 := NB168_158.out
           have hnc38 := NB158_168.out
           have hnb39 := NB168_159.out
           have hnc39 := NB159_168.out
           obtain ⟨hcz40_0, hcz40_1⟩ := cz2 BK168
           obtain ⟨hfz40_0, hfz40_1⟩ := fz2 BK168
           have hnb41 := NB158_159.out
           have hnc41 := NB159_158.out
           obtain ⟨hcz42_0, hcz42_1, hcz42_2, hcz42_3⟩ := cz4 BK158
           obtain ⟨hfz42_0, hfz42_1, hfz42_2, hfz42_3⟩ := fz4 BK158
           go_wp2_with (first | ((with_reducible refine gate_store (t := 3) (p := 49) rfl ?_); refine store_event (t := 3) (p := 49) (v := ?vo_w43) (w1 := (wc.setCell ⟨gb158, 1, none⟩ (.int .i64 (wrap64 (t161 + x7_25))))) ?hg ?ho ?hn ?hr ?_; (case ho => rfl); (case hg => rfl); (case hn => rfl); (case hr => first | (go_simp; done) | (go_simp; rfl)); intro w43 hw; have n0_ : Aside0 (Kd.Q k177 177 w43 w.heap.size (fun k_ => k_ ≠ gb168) (.slice (some ad167) t163.length co11) t163) := ⟨(by rw [hw]; exact (by (with_reducible repeat (first | apply Kd.Q_alloc | apply Kd.Q_drewN | apply Kd.Q_drew)); exact Kd.Q_mono (Kd.Q_far (p := ⟨gb158, 1, none⟩) (Kd.Q_types HO_159003.out BK158.out (by decide)) (fun _ hk => hk.2) (.int .i64 (wrap64 (t161 + x7_25)))) (fun _ hk => hk.1)))⟩; have n1_ : Aside0 (w43.heap[gb158]? = some (.cells #[.int .i64 t160, .int .i64 (wrap64 (t161 + x7_25)), .int .i64 t162, .slice (some ad167) t163.length co11] 61 (0, 0))) := ⟨(by rw [hw]; exact (by (with_reducible repeat (first | refine bN ?_ _ | refine bD ?_ | refine bA ?_ _)); refine blk_put (cs := #[.int .i64 t160, .int .i64 t161, .int .i64 t162, .slice (some ad167) t163.length co11]) ?_ 1 _ rfl; (with_reducible repeat (first | refine bN ?_ _ | refine bD ?_ | refine bA ?_ _)); exact BK158.out))⟩; have n2_ : Aside0 (w43.heap[gb159]? = some (.cells #[.int .i64 0, .int .i64 0, .int .i64 0, .slice none 0 0] 61 (0, 0))) := ⟨(by rw [hw]; exact (by (with_reducible repeat (first | refine bN ?_ _ | refine bD ?_ | refine bA ?_ _)); refine blk_far ?_ NB159_158.out _; (with_reducible repeat (first | refine bN ?_ _ | refine bD ?_ | refine bA ?_ _)); exact BK159.out))⟩; have n3_ : Aside0 (w43.heap[gb168]? = some (.cells #[.int .i64 ((rd_T177 t163 0).f0), .string ((rd_T177 t163 0).f1)] 177 (0, 0))) := ⟨(by rw [hw]; exact (by (with_reducible repeat (first | refine bN ?_ _ | refine bD ?_ | refine bA ?_ _)); refine blk_far ?_ NB168_158.out _; (with_reducible repeat (first | refine bN ?_ _ | refine bD ?_ | refine bA ?_ _)); exact BK168.out))⟩; have n4_ : Aside0 (Below w.heap.size w w43) := ⟨(by rw [hw]; exact (by repeat (first | (with_reducible first | exact HB.out | apply below_alloc | apply pw_below_drewN | apply below_drew1 | refine below_set ?_ GE158.out | refine below_set ?_ GE159.out | refine below_set ?_ GE168.out) | exact HB.out)))⟩; clear hw; clear HO_159003; clear BK158; clear BK159; clear BK168; clear HB; have HO_159003 := n0_; have BK158 := n1_; have BK159 := n2_; have BK168 := n3_; have HB := n4_; clear n0_ n1_ n2_ n3_ n4_; obtain ⟨hcz44_0, hcz44_1⟩ := cz2 BK168; obtain ⟨hfz44_0, hfz44_1⟩ := fz2 BK168; obtain ⟨hcz45_0, hcz45_1, hcz45_2, hcz45_3⟩ := cz4 BK158; obtain ⟨hfz45_0, hfz45_1, hfz45_2, hfz45_3⟩ := fz4 BK158; have q46 : (1 : Int) ≤ ((t163.length : Int) : Int) := of_decide_eq_true (by first | (with_reducible assumption) | assumption); obtain ⟨i046, hi046, _, hsz46, _⟩ := info_parts info177; have hcut46 := cut_from (P := Try.prog) 59 177 .i64 Try.underlying59 hi046 2 hsz46 (some ad167) t163.length co11 1 (by omega) q46; have hr46 := Kd.Q_drop (k := (1 : Int).toNat) HO_159003.out (by omega); obtain ⟨A46, hA46⟩ : ∃ A1, A1 = (if co11 = (1 : Int).toNat then (some ad167) else ((some ad167) : Option Addr).map (·.add ((1 : Int).toNat * 2))) := ⟨_, rfl⟩; obtain ⟨c46, hc46⟩ : ∃ c1, c1 = co11 - (1 : Int).toNat := ⟨_, rfl⟩; have hy46 : y169.length = t163.length - (1 : Int).toNat := (by rw [Ny169.out, List.length_drop]); rw [← Ny169.out] at hr46; rw [← hy46, ← hA46, ← hc46] at hcut46; replace hr46 : Kd.Q k177 177 w43 w.heap.size (fun k_ => k_ ≠ gb168) (.slice A46 y169.length c46) y169 := (by rw [hA46, hc46, hy46]; exact hr46); have HE46 : Aside0 ((Value.slice A46 y169.length c46).ownBlock = (.slice (some ad167) t163.length co11 : Value).ownBlock) := ⟨by rw [hA46]; split <;> (cases ((some ad167) : Option Addr) <;> rfl)⟩; clear hy46 hi046 hsz46 HO_159003 hA46 hc46; have HO171 := Aside0.mk hr46; clear hr46; replace q46 := eq_true q46; obtain ⟨hcz47_0, hcz47_1, hcz47_2, hcz47_3⟩ := cz4 BK159; obtain ⟨hfz47_0, hfz47_1, hfz47_2, hfz47_3⟩ := fz4 BK159))
           refine bodyPost_ret (results_ct rfl _ _ gb159 61 #[.int .i64 t160, .int .i64 (wrap64 (t161 + x7_25)), .int .i64 t162, .slice A46 y169.length c46] (0, 0) _ rfl (by (with_reducible repeat (first | refine bN ?_ _ | refine bD ?_ | refine bA ?_ _)); refine blk_put (cs := #[.int .i64 t160, .int .i64 (wrap64 (t161 + x7_25)), .int .i64 t162, .slice none 0 0]) ?_ 3 _ rfl; (with_reducible repeat (first | refine bN ?_ _ | refine bD ?_ | refine bA ?_ _)); refine blk_put (cs := #[.int .i64 t160, .int .i64 (wrap64 (t161 + x7_25)), .int .i64 0, .slice none 0 0]) ?_ 2 _ rfl; (with_reducible repeat (first | refine bN ?_ _ | refine bD ?_ | refine bA ?_ _)); refine blk_put (cs := #[.int .i64 t160, .int .i64 0, .int .i64 0, .slice none 0 0]) ?_ 1 _ rfl; (with_reducible repeat (first | refine bN ?_ _ | refine bD ?_ | refine bA ?_ _)); refine blk_put (cs := #[.int .i64 0, .int .i64 0, .int .i64 0, .slice none 0 0]) ?_ 0 _ rfl; (with_reducible repeat (first | refine bN ?_ _ | refine bD ?_ | refine bA ?_ _)); refine blk_far ?_ NB159_158.out _; (with_reducible repeat (first | refine bN ?_ _ | refine bD ?_ | refine bA ?_ _)); exact BK159.out) Try.underlying61 rfl (by kernel_rfl)) rfl ?_
           exact ⟨_, by first | rfl | (simp [errW_none, errW_some] <;> rfl) | (simp [*, errW_none, errW_some] <;> rfl), by (with_reducible repeat (first | apply Kd.Q_alloc | apply Kd.Q_drewN | apply Kd.Q_drew)); exact Kd.Q_mono (Kd.Q_far (p := ⟨gb159, 3, none⟩) (Kd.Q_far (p := ⟨gb159, 2, none⟩) (Kd.Q_far (p := ⟨gb159, 1, none⟩) (Kd.Q_far (p := ⟨gb159, 0, none⟩) (Kd.Q_far (p := ⟨gb158, 3, none⟩) (Kd.Q_types (Kd.Q_types HO171.out BK158.out (by decide)) BK159.out (by decide)) (fun _ hk => hk.1.2) (.slice A46 y169.length c46)) (fun _ hk => hk.2) (.int .i64 t160)) (fun _ hk => hk.2) (.int .i64 (wrap64 (t161 + x7_25)))) (fun _ hk => hk.2) (.int .i64 t162)) (fun _ hk => hk.2) (.slice A46 y169.length c46)) (fun _ hk => trivial), by repeat (first | (with_reducible first | exact HB.out | apply below_alloc | apply pw_below_drewN | apply below_drew1 | refine below_set ?_ GE158.out | refine below_set ?_ GE159.out | refine below_set ?_ GE168.out) | exact HB.out)⟩
          ·rw [if_neg c37] at H
           exact absurd H (by simp)
         ·rw [if_neg c36] at H
          have c36b0 : (x7_25 == (((rd_T177 t163 0).f1).size : Int)) = false := beq_eq_false_iff_ne.mpr c36
          have c36b1 : (x7_25 != (((rd_T177 t163 0).f1).size : Int)) = true := bne_iff_ne.mpr c36
          have c48b0 := eq_true (of_decide_eq_true (by first | (with_reducible assumption) | assumption) : 0 ≤ x7_25)
          have c49b0 := eq_true (of_decide_eq_true (by first | (with_reducible assumption) | assumption) : x7_25 ≤ (((rd_T177 t163 0).f1).size : Int))
          by_cases c50 : 0 < (t163.length : Int)
          ·rw [if_pos c50] at H
           have c50b0 : decide (0 < (t163.length : Int)) = true := decide_eq_true c50
           have c50b1 : decide (0 < t163.length) = true := decide_eq_true (by omega)
           clear c50
           obtain ⟨y172, hy172⟩ : ∃ y_ : List (S177), y_ = (t163.set (0 : Int).toNat (⟨wrap64 (t161 + x7_25), ((rd_T177 t163 0).f1).extract (x7_25 : Int).toNat ((rd_T177 t163 0).f1).size⟩ : S177)) := ⟨_, rfl⟩
           replace H : (some (t160, wrap64 (t161 + x7_25), t162, y172, ((rd_T177 t163 0).f1).extract 0 (x7_25 : Int).toNat)) = some (r1, r2, r3, r4, r5) := by first | (rw [hy172]; with_reducible exact H) | (have H2_ := (Option.bind_some _ _).symm.trans H; rw [hy172]; with_reducible exact H2_) | (have H2_ := (Option.bind_some _ _).symm.trans H; with_reducible exact H2_) | with_reducible exact H | (rw [hy172]; exact H) | exact H
           have Ny172 := Aside0.mk hy172
           clear hy172
           simp only [Option.some.injEq, Prod.mk.injEq] at H
           obtain ⟨rfl, rfl, rfl, rfl, rfl⟩ := H
           have hnb52 := NB168_158.out
           have hnc52 := NB158_168.out
           have hnb53 := NB168_159.out
           have hnc53 := NB159_168.out
           obtain ⟨hcz54_0, hcz54_1⟩ := cz2 BK168
           obtain ⟨hfz54_0, hfz54_1⟩ := fz2 BK168
           have hnb55 := NB158_159.out
           have hnc55 := NB159_158.out
           obtain ⟨hcz56_0, hcz56_1, hcz56_2, hcz56_3⟩ := cz4 BK158
           obtain ⟨hfz56_0, hfz56_1, hfz56_2, hfz56_3⟩ := fz4 BK158
           try go_wp2
           have n0_ : Aside0 (Kd.Q k177 177 (wc.setCell ⟨gb158, 1, none⟩ (.int .i64 (wrap64 (t161 + x7_25)))) w.heap.size (fun k_ => k_ ≠ gb168) (.slice (some ad167) t163.length co11) t163) := ⟨by (with_reducible repeat (first | apply Kd.Q_alloc | apply Kd.Q_drewN | apply Kd.Q_drew)); exact Kd.Q_mono (Kd.Q_far (p := ⟨gb158, 1, none⟩) (Kd.Q_types HO_159003.out BK158.out (by decide)) (fun _ hk => hk.2) (.int .i64 (wrap64 (t161 + x7_25)))) (fun _ hk => hk.1)⟩
           have n1_ : Aside0 ((wc.setCell ⟨gb158, 1, none⟩ (.int .i64 (wrap64 (t161 + x7_25)))).heap[gb158]? = some (.cells #[.int .i64 t160, .int .i64 (wrap64 (t161 + x7_25)), .int .i64 t162, .slice (some ad167) t163.length co11] 61 (0, 0))) := ⟨by (with_reducible repeat (first | refine bN ?_ _ | refine bD ?_ | refine bA ?_ _)); refine blk_put (cs := #[.int .i64 t160, .int .i64 t161, .int .i64 t162, .slice (some ad167) t163.length co11]) ?_ 1 _ rfl; (with_reducible repeat (first | refine bN ?_ _ | refine bD ?_ | refine bA ?_ _)); exact BK158.out⟩
           have n2_ : Aside0 ((wc.setCell ⟨gb158, 1, none⟩ (.int .i64 (wrap64 (t161 + x7_25)))).heap[gb159]? = some (.cells #[.int .i64 0, .int .i64 0, .int .i64 0, .slice none 0 0] 61 (0, 0))) := ⟨by (with_reducible repeat (first | refine bN ?_ _ | refine bD ?_ | refine bA ?_ _)); refine blk_far ?_ NB159_158.out _; (with_reducible repeat (first | refine bN ?_ _ | refine bD ?_ | refine bA ?_ _)); exact BK159.out⟩
           have n3_ : Aside0 ((wc.setCell ⟨gb158, 1, none⟩ (.int .i64 (wrap64 (t161 + x7_25)))).heap[gb168]? = some (.cells #[.int .i64 ((rd_T177 t163 0).f0), .string ((rd_T177 t163 0).f1)] 177 (0, 0))) := ⟨by (with_reducible repeat (first | refine bN ?_ _ | refine bD ?_ | refine bA ?_ _)); refine blk_far ?_ NB168_158.out _; (with_reducible repeat (first | refine bN ?_ _ | refine bD ?_ | refine bA ?_ _)); exact BK168.out⟩
           have n4_ : Aside0 (Below w.heap.size w (wc.setCell ⟨gb158, 1, none⟩ (.int .i64 (wrap64 (t161 + x7_25))))) := ⟨by repeat (first | (with_reducible first | exact HB.out | apply below_alloc | apply pw_below_drewN | apply below_drew1 | refine below_set ?_ GE158.out | refine below_set ?_ GE159.out | refine below_set ?_ GE168.out) | exact HB.out)⟩
           (try clear HO_159003)
           (try clear BK158)
           (try clear BK159)
           (try clear BK168)
           (try clear HB)
           generalize (wc.setCell ⟨gb158, 1, none⟩ (.int .i64 (wrap64 (t161 + x7_25)))) = w57 at n0_ n1_ n2_ n3_ n4_ ⊢
           have HO_159003 := n0_
           have BK158 := n1_
           have BK159 := n2_
           have BK168 := n3_
           have HB := n4_
           clear n0_ n1_ n2_ n3_ n4_
           have n0_ := Aside0.mk (Kd.Q_drew HO_159003.out)
           have n1_ := Aside0.mk (blk_drew BK158.out)
           have n2_ := Aside0.mk (blk_drew BK159.out)
           have n3_ := Aside0.mk (blk_drew BK168.out)
           have n4_ := Aside0.mk (below_drew1 HB.out)
           clear HO_159003
           clear BK158
           clear BK159
           clear BK168
           clear HB
           have HO_159003 := n0_
           have BK158 := n1_
           have BK159 := n2_
           have BK168 := n3_
           have HB := n4_
           clear n0_ n1_ n2_ n3_ n4_
           have p51 : 0 ≤ (0 : Int) := (by omega)
           have q51 : (0 : Int) < ((t163.length : Int) : Int) := of_decide_eq_true (by first | (with_reducible assumption) | assumption)
           have qi51 : (0 < t163.length) = True := eq_true (by omega)
           obtain ⟨go51, oo51, co51, eo51, gb51, gl51, cl51, HG51⟩ := Kd.Q_form HO_159003.out (by omega)
           (first | cases eo51 | (injection eo51 with ea_ en_ ec_; (first | subst ea_ | (injection ea_ with ea_; subst ea_)); subst ec_; clear en_))
           have GB51 := Aside0.mk gb51
           have GG51 := Aside0.mk HG51
           clear gb51 gl51 HG51
           (first | simp only [add_at] at hx167_0 | skip)
           (first | simp only [add_at] at hx167_1 | skip)
           obtain ⟨ce51, hcl51, hM51, hcc51, hfr51⟩ := Kd.Q_elem HO_159003.out z177 (0 : Int) p51 q51
           obtain rfl := k177_openM hM51
           have hx51_0 : World.cell? _ ⟨go51, oo51 + (0 : Int).toNat * 2, none⟩ = some (.int .i64 ((rd_T177 t163 0).f0)) := hcc51 0 _ rfl
           have hx51_1 : World.cell? _ ⟨go51, oo51 + (0 : Int).toNat * 2 + 1, none⟩ = some (.string ((rd_T177 t163 0).f1)) := hcc51 1 _ rfl
           have hf51_0 : World.frozen? _ ⟨go51, oo51 + (0 : Int).toNat * 2, none⟩ = false := hfr51 0
           have hf51_1 : World.frozen? _ ⟨go51, oo51 + (0 : Int).toNat * 2 + 1, none⟩ = false := hfr51 1
           clear hcl51 hcc51 hfr51 hM51
           (try rw [show ((0 : Int)).toNat = 0 from rfl] at hx51_0)
           (try simp only [Nat.reduceMul, Nat.zero_mul, Nat.zero_add, Nat.reduceAdd, Nat.add_zero] at hx51_0)
           (try rw [show ((0 : Int)).toNat = 0 from rfl] at hf51_0)
           (try simp only [Nat.reduceMul, Nat.zero_mul, Nat.zero_add, Nat.reduceAdd, Nat.add_zero] at hf51_0)
           (try rw [show ((0 : Int)).toNat = 0 from rfl] at hx51_1)
           (try simp only [Nat.reduceMul, Nat.zero_mul, Nat.zero_add, Nat.reduceAdd, Nat.add_zero] at hx51_1)
           (try rw [show ((0 : Int)).toNat = 0 from rfl] at hf51_1)
           (try simp only [Nat.reduceMul, Nat.zero_mul, Nat.zero_add, Nat.reduceAdd, Nat.add_zero] at hf51_1)
           replace p51 := eq_true p51
           replace q51 := eq_true q51
           obtain ⟨ce59, hcl59, hM59, hcc59, hfr59⟩ := Kd.Q_elem HO_159003.out z177 (0 : Int) (by omega) (by have h_ : (0 : Int) < ((t163.length : Int) : Int) := of_decide_eq_true (by first | (with_reducible assumption) | assumption); first | exact h_ | (have e_ := (Kd.Q_reads' HO_159003.out).1; omega) | simpa using h_)
           obtain rfl := k177_openM hM59
           have HP59 := (Kd.Q_seg HO_159003.out (0 : Int) (by omega) (by have h_ : (0 : Int) < ((t163.length : Int) : Int) := of_decide_eq_true (by first | (with_reducible assumption) | assumption); first | exact h_ | (have e_ := (Kd.Q_reads' HO_159003.out).1; omega) | simpa using h_) (seg := [.int .i64 (wrap64 (t161 + x7_25)), .string (((rd_T177 t163 0).f1).extract (x7_25 : Int).toNat ((rd_T177 t163 0).f1).size)]) (j := 0) hcl59 hcc59 (show 2 ≤ 2 from by decide) (x' := (⟨wrap64 (t161 + x7_25), ((rd_T177 t163 0).f1).extract (x7_25 : Int).toNat ((rd_T177 t163 0).f1).size⟩ : S177)) (k177_mkM _ _ _ (⟨wrap64 (t161 + x7_25), ((rd_T177 t163 0).f1).extract (x7_25 : Int).toNat ((rd_T177 t163 0).f1).size⟩ : S177) ) (fun _ hk => hk)).1
           rw [← Ny172.out] at HP59
           have HQ59 := Aside0.mk HP59
           clear hcl59 hcc59 hfr59 hM59 HP59
           refine start_ (n := 11) (S := fun w' => w'.cell? ⟨gb158, 0, none⟩ = some (.int .i64 t160) ∧ w'.cell? ⟨gb158, 1, none⟩ = some (.int .i64 (wrap64 (t161 + x7_25))) ∧ w'.cell? ⟨gb158, 2, none⟩ = some (.int .i64 t162) ∧ w'.cell? ⟨gb158, 3, none⟩ = some (.slice (some ⟨go51, oo51, none⟩) t163.length co11) ∧ w'.cell? ⟨gb168, 0, none⟩ = some (.int .i64 ((rd_T177 t163 0).f0)) ∧ w'.cell? ⟨gb168, 1, none⟩ = some (.string ((rd_T177 t163 0).f1))) (ds := [10]) (bm 11 0) (by kernel_rfl) rfl rfl (cx4 BK158 (cz2 BK168)) (fun hHeld => ?_); refine with_tabW spec_l14Read.tab12 spec_l14Read.bits12 (fun HT_ HW_ => ?_)
           generalize w57.drew = w58 at HO_159003 BK158 BK159 BK168 HB GG51 HQ59 hf51_0 hf51_1 hx51_0 hx51_1 hHeld ⊢
           refine pure_ (i := 0) (N := some 59) (v := ?_) (a' := ?_) (bm 11 1) rfl rfl (any_of HT_.out (by kernel_rfl)) (fun _ _ _ h => h) (Or.inl ⟨by rfl, ?_⟩) ?_ ?_
           rotate_left
           ·intro w'
            go_simp
            with_reducible rfl
           rotate_left
           ·simp only [Act.put, sA, sZ, sS, i64_w, i32_w]
            rfl
           refine pure_ (i := 2) (N := some 61) (v := ?_) (a' := ?_) (bm 11 5) rfl rfl (any_of HT_.out (by kernel_rfl)) (fun _ _ _ h => h) (Or.inl ⟨by rfl, ?_⟩) ?_ ?_
           rotate_left
           ·intro w'
            go_simp
            with_reducible rfl
           rotate_left
           ·simp only [Act.put, sA, sZ, sS, i64_w, i32_w]
            rfl
           refine pure_ (i := 4) (N := some 63) (v := ?_) (a' := ?_) (bm 11 21) rfl rfl (any_of HT_.out (by kernel_rfl)) (fun _ _ _ h => h) (Or.inl ⟨by rfl, ?_⟩) ?_ ?_
           rotate_left
           ·intro w'
            go_simp
            with_reducible rfl
           rotate_left
           ·simp only [Act.put, sA, sZ, sS, i64_w, i32_w]
            rfl
           refine pure_ (i := 6) (N := some 65) (v := ?_) (a' := ?_) (bm 11 85) rfl rfl (any_of HT_.out (by kernel_rfl)) (fun _ _ _ h => h) (Or.inl ⟨by rfl, ?_⟩) ?_ ?_
           rotate_left
           ·intro w'
            go_simp
            with_reducible rfl
           rotate_left
           ·simp only [Act.put, sA, sZ, sS, i64_w, i32_w]
            rfl
           refine take_ (i := 1) (N := some 60) (v := ?_) (a' := ?_) (bm 11 87) rfl rfl (take_ofW HT_.out HW_.out (by kernel_rfl)) (fun _ _ _ h => h) (Or.inl ⟨by rfl, ?_⟩) hHeld ?_ ?_
           rotate_left
           ·rintro w' ⟨s0, s1, s2, s3, s4, s5⟩
            go_simp
            with_reducible rfl
           rotate_left
           ·simp only [Act.put, sA, sZ, sS, i64_w, i32_w]
            rfl
           refine take_ (i := 3) (N := some 62) (v := ?_) (a' := ?_) (bm 11 95) rfl rfl (take_ofW HT_.out HW_.out (by kernel_rfl)) (fun _ _ _ h => h) (Or.inl ⟨by rfl, ?_⟩) hHeld ?_ ?_
           rotate_left
           ·rintro w' ⟨s0, s1, s2, s3, s4, s5⟩
            go_simp
            with_reducible rfl
           rotate_left
           ·simp only [Act.put, sA, sZ, sS, i64_w, i32_w]
            rfl
           refine take_ (i := 5) (N := some 64) (v := ?_) (a' := ?_) (bm 11 127) rfl rfl (take_ofW HT_.out HW_.out (by kernel_rfl)) (fun _ _ _ h => h) (Or.inl ⟨by rfl, ?_⟩) hHeld ?_ ?_
           rotate_left
           ·rintro w' ⟨s0, s1, s2, s3, s4, s5⟩
            go_simp
            with_reducible rfl
           rotate_left
           ·simp only [Act.put, sA, sZ, sS, i64_w, i32_w]
            rfl
           refine pure_ (i := 7) (N := some 66) (v := ?_) (a' := ?_) (bm 11 255) rfl rfl (any_of HT_.out (by kernel_rfl)) (fun _ _ _ h => h) (Or.inl ⟨by rfl, ?_⟩) ?_ ?_
           rotate_left
           ·intro w'
            go_simp
            with_reducible rfl
           rotate_left
           ·simp only [Act.put, sA, sZ, sS, i64_w, i32_w]
            rfl
           refine pure_ (i := 8) (N := some 67) (v := ?_) (a' := ?_) (bm 11 511) rfl rfl (any_of HT_.out (by kernel_rfl)) (fun _ _ _ h => h) (Or.inl ⟨by rfl, ?_⟩) ?_ ?_
           rotate_left
           ·intro w'
            go_simp
            with_reducible rfl
           rotate_left
           ·simp only [Act.put, sA, sZ, sS, i64_w, i32_w]
            rfl
           refine pure_ (i := 9) (N := some 68) (v := ?_) (a' := ?_) (bm 11 1023) rfl rfl (any_of HT_.out (by kernel_rfl)) (fun _ _ _ h => h) (Or.inl ⟨by rfl, ?_⟩) ?_ ?_
           rotate_left
           ·intro w'
            go_simp
            with_reducible rfl
           rotate_left
           ·simp only [Act.put, sA, sZ, sS, i64_w, i32_w]
            rfl
           refine last_ (i := 10) (N := none) (bm 11 2047) rfl rfl (one_of HT_.out (by kernel_rfl)) (by decide) (fun K hK => ?_)
           refine skip_ (w1 := ?_) (by rfl) rfl ?_ ?_
           rotate_left
           ·go_simp
            rfl
           refine hK.out _ _ ?_
           clear hK K
           refine done_ (done_of HT_.out (by kernel_rfl)) ?_
           have n0_ : Aside0 (Kd.Q k177 177 ((w58.setCell ⟨go51, oo51 + 0, none⟩ (.int .i64 (wrap64 (t161 + x7_25)))).setCell ⟨go51, oo51 + 1, none⟩ (.string (((rd_T177 t163 0).f1).extract (x7_25 : Int).toNat ((rd_T177 t163 0).f1).size))) w.heap.size (fun k_ => k_ ≠ gb168) (.slice (some ⟨go51, oo51, none⟩) t163.length co11) y172) := ⟨by (with_reducible repeat (first | apply Kd.Q_alloc | apply Kd.Q_drewN | apply Kd.Q_drew)); exact HQ59.out⟩
           have n1_ : Aside0 (((w58.setCell ⟨go51, oo51 + 0, none⟩ (.int .i64 (wrap64 (t161 + x7_25)))).setCell ⟨go51, oo51 + 1, none⟩ (.string (((rd_T177 t163 0).f1).extract (x7_25 : Int).toNat ((rd_T177 t163 0).f1).size))).heap[gb158]? = some (.cells #[.int .i64 t160, .int .i64 (wrap64 (t161 + x7_25)), .int .i64 t162, .slice (some ⟨go51, oo51, none⟩) t163.length co11] 61 (0, 0))) := ⟨by (with_reducible repeat (first | refine bN ?_ _ | refine bD ?_ | refine bA ?_ _)); refine blk_far ?_ (by have h_ := Kd.Q_ne HO_159003.out BK158.out (by decide); intro e_; exact h_ (by rw [e_]; rfl)) _; (with_reducible repeat (first | refine bN ?_ _ | refine bD ?_ | refine bA ?_ _)); refine blk_far ?_ (by have h_ := Kd.Q_ne HO_159003.out BK158.out (by decide); intro e_; exact h_ (by rw [e_]; rfl)) _; (with_reducible repeat (first | refine bN ?_ _ | refine bD ?_ | refine bA ?_ _)); exact BK158.out⟩
           have n2_ : Aside0 (((w58.setCell ⟨go51, oo51 + 0, none⟩ (.int .i64 (wrap64 (t161 + x7_25)))).setCell ⟨go51, oo51 + 1, none⟩ (.string (((rd_T177 t163 0).f1).extract (x7_25 : Int).toNat ((rd_T177 t163 0).f1).size))).heap[gb159]? = some (.cells #[.int .i64 0, .int .i64 0, .int .i64 0, .slice none 0 0] 61 (0, 0))) := ⟨by (with_reducible repeat (first | refine bN ?_ _ | refine bD ?_ | refine bA ?_ _)); refine blk_far ?_ (by have h_ := Kd.Q_ne HO_159003.out BK159.out (by decide); intro e_; exact h_ (by rw [e_]; rfl)) _; (with_reducible repeat (first | refine bN ?_ _ | refine bD ?_ | refine bA ?_ _)); refine blk_far ?_ (by have h_ := Kd.Q_ne HO_159003.out BK159.out (by decide); intro e_; exact h_ (by rw [e_]; rfl)) _; (with_reducible repeat (first | refine bN ?_ _ | refine bD ?_ | refine bA ?_ _)); exact BK159.out⟩
           have n3_ : Aside0 (((w58.setCell ⟨go51, oo51 + 0, none⟩ (.int .i64 (wrap64 (t161 + x7_25)))).setCell ⟨go51, oo51 + 1, none⟩ (.string (((rd_T177 t163 0).f1).extract (x7_25 : Int).toNat ((rd_T177 t163 0).f1).size))).heap[gb168]? = some (.cells #[.int .i64 ((rd_T177 t163 0).f0), .string ((rd_T177 t163 0).f1)] 177 (0, 0))) := ⟨by (with_reducible repeat (first | refine bN ?_ _ | refine bD ?_ | refine bA ?_ _)); refine blk_far ?_ (by have h_ := Kd.Q_away HO_159003.out (fun _ hk => hk); intro e_; exact h_ (by rw [e_]; rfl)) _; (with_reducible repeat (first | refine bN ?_ _ | refine bD ?_ | refine bA ?_ _)); refine blk_far ?_ (by have h_ := Kd.Q_away HO_159003.out (fun _ hk => hk); intro e_; exact h_ (by rw [e_]; rfl)) _; (with_reducible repeat (first | refine bN ?_ _ | refine bD ?_ | refine bA ?_ _)); exact BK168.out⟩
           have n4_ : Aside0 (Below w.heap.size w ((w58.setCell ⟨go51, oo51 + 0, none⟩ (.int .i64 (wrap64 (t161 + x7_25)))).setCell ⟨go51, oo51 + 1, none⟩ (.string (((rd_T177 t163 0).f1).extract (x7_25 : Int).toNat ((rd_T177 t163 0).f1).size)))) := ⟨by repeat (first | (with_reducible first | exact HB.out | apply below_alloc | apply pw_below_drewN | apply below_drew1 | refine below_set ?_ GB51.out | refine below_set ?_ GB51.out | refine below_set ?_ GE158.out | refine below_set ?_ GE159.out | refine below_set ?_ GE168.out) | exact HB.out)⟩
           (try clear HO_159003)
           (try clear BK158)
           (try clear BK159)
           (try clear BK168)
           (try clear HB)
           generalize ((w58.setCell ⟨go51, oo51 + 0, none⟩ (.int .i64 (wrap64 (t161 + x7_25)))).setCell ⟨go51, oo51 + 1, none⟩ (.string (((rd_T177 t163 0).f1).extract (x7_25 : Int).toNat ((rd_T177 t163 0).f1).size))) = w60 at n0_ n1_ n2_ n3_ n4_ ⊢
           have HO_159003 := n0_
           have BK158 := n1_
           have BK159 := n2_
           have BK168 := n3_
           have HB := n4_
           clear n0_ n1_ n2_ n3_ n4_
           obtain ⟨hcz61_0, hcz61_1, hcz61_2, hcz61_3⟩ := cz4 BK158
           obtain ⟨hfz61_0, hfz61_1, hfz61_2, hfz61_3⟩ := fz4 BK158
           obtain ⟨hcz62_0, hcz62_1, hcz62_2, hcz62_3⟩ := cz4 BK159
           obtain ⟨hfz62_0, hfz62_1, hfz62_2, hfz62_3⟩ := fz4 BK159
           try go_wp2
           refine bodyPost_ret (results_ct rfl _ _ gb159 61 #[.int .i64 t160, .int .i64 (wrap64 (t161 + x7_25)), .int .i64 t162, .slice (some ⟨go51, oo51, none⟩) t163.length co11] (0, 0) _ rfl (by (with_reducible repeat (first | refine bN ?_ _ | refine bD ?_ | refine bA ?_ _)); refine blk_put (cs := #[.int .i64 t160, .int .i64 (wrap64 (t161 + x7_25)), .int .i64 t162, .slice none 0 0]) ?_ 3 _ rfl; (with_reducible repeat (first | refine bN ?_ _ | refine bD ?_ | refine bA ?_ _)); refine blk_put (cs := #[.int .i64 t160, .int .i64 (wrap64 (t161 + x7_25)), .int .i64 0, .slice none 0 0]) ?_ 2 _ rfl; (with_reducible repeat (first | refine bN ?_ _ | refine bD ?_ | refine bA ?_ _)); refine blk_put (cs := #[.int .i64 t160, .int .i64 0, .int .i64 0, .slice none 0 0]) ?_ 1 _ rfl; (with_reducible repeat (first | refine bN ?_ _ | refine bD ?_ | refine bA ?_ _)); refine blk_put (cs := #[.int .i64 0, .int .i64 0, .int .i64 0, .slice none 0 0]) ?_ 0 _ rfl; (with_reducible repeat (first | refine bN ?_ _ | refine bD ?_ | refine bA ?_ _)); exact BK159.out) Try.underlying61 rfl (by kernel_rfl)) rfl ?_
           exact ⟨_, by first | rfl | (simp [errW_none, errW_some] <;> rfl) | (simp [*, errW_none, errW_some] <;> rfl), by (with_reducible repeat (first | apply Kd.Q_alloc | apply Kd.Q_drewN | apply Kd.Q_drew)); exact Kd.Q_mono (Kd.Q_far (p := ⟨gb159, 3, none⟩) (Kd.Q_far (p := ⟨gb159, 2, none⟩) (Kd.Q_far (p := ⟨gb159, 1, none⟩) (Kd.Q_far (p := ⟨gb159, 0, none⟩) (Kd.Q_types HO_159003.out BK159.out (by decide)) (fun _ hk => hk.2) (.int .i64 t160)) (fun _ hk => hk.2) (.int .i64 (wrap64 (t161 + x7_25)))) (fun _ hk => hk.2) (.int .i64 t162)) (fun _ hk => hk.2) (.slice (some ⟨go51, oo51, none⟩) t163.length co11)) (fun _ hk => trivial), by repeat (first | (with_reducible first | exact HB.out | apply below_alloc | apply pw_below_drewN | apply below_drew1 | refine below_set ?_ GE158.out | refine below_set ?_ GE159.out | refine below_set ?_ GE168.out) | exact HB.out)⟩
          ·rw [if_neg c50] at H
           exact absurd H (by simp)
        ·rw [if_neg c35] at H
         exact absurd H (by simp)
       ·rw [if_neg c34] at H
        exact absurd H (by simp)
    ·rw [if_neg c25] at H
     exact absurd H (by simp)

end Go.Proofs.Ythkmjfapljmmpaa.PFnExactReadSome
