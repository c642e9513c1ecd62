-- Written by a program of this session (wip/xprint.py).
import Derived.Test.YtkcdhphhacjkhaaBx0
import Derived.Test.YtkcdhphhacjkhaaBx3
namespace Go.Proofs.Ytkcdhphhacjkhaa.B
open Go.RowKit Go.Proofs.YtkcdhphhacjkhaaW.PrintWords Go.Proofs.YtkcdhphhacjkhaaW.PrintLast Go.Proofs.YtkcdhphhacjkhaaW.PrintMore
open Go.Proofs.Ytkcdhphhacjkhaa.ShortK (bN bD bA sA sZ sS mR mB bX bLt bS cz2 fz2 cx2 cz3 fz3 cx3 cz4 fz4 cx4 cz5 fz5 cx5 cz6 fz6 cx6 cz7 fz7 cx7 cz8 fz8 cx8 cz9 fz9 cx9 cz10 fz10 cx10 cz11 fz11 cx11 cz12 fz12 cx12)
open Go.Proofs.Ytkcdhphhacjkhaa.StoreK (bm)
attribute [local go_sem] Go.Proofs.Ytkcdhphhacjkhaa.StoreK.isSome_setCell max2_int min2_int max_two min_two max_three min_three max_four min_four   -- for this text's walks alone
set_option linter.unusedVariables false
set_option linter.unusedSimpArgs false

/-! ### impl_poly_times: function 69 -/
mutual
def impl_poly_times.l0 : Nat → Int → Int → Int → Int → Int → Int → Int → Option (Int × Int)
 | 0, _, _, _, _, _, _, _ => none
 | k + 1, x9, x172000, x172001, x173000, x173001, x175000, x175001 => if x9 < 128 then (if 0 ≤ (wrap64 (63 - (Int.tmod x9 64))) then (if x9 > 63 then (impl_poly_times.j1 k (shr .u64 x173001 (wrap64 (63 - (Int.tmod x9 64)))) x9 x172000 x172001 x173000 x173001 x175000 x175001) else (impl_poly_times.j1 k (shr .u64 x173000 (wrap64 (63 - (Int.tmod x9 64)))) x9 x172000 x172001 x173000 x173001 x175000 x175001)) else (none)) else (some (x175000, x175001))
def impl_poly_times.j1 : Nat → Int → Int → Int → Int → Int → Int → Int → Int → Option (Int × Int)
 | 0, _, _, _, _, _, _, _, _ => none
 | k + 1, x7, x9, x172000, x172001, x173000, x173001, x175000, x175001 => if (Go.bits .and .u64 x7 1) = 1 then ((impl_poly_xor.f x175000 x175001 x172000 x172001).bind fun bt175 => (impl_poly_times.j2 k x9 x172000 x172001 x173000 x173001 bt175.1 bt175.2)) else (impl_poly_times.j2 k x9 x172000 x172001 x173000 x173001 x175000 x175001)
def impl_poly_times.j2 : Nat → Int → Int → Int → Int → Int → Int → Int → Option (Int × Int)
 | 0, _, _, _, _, _, _, _ => none
 | k + 1, x9, x172000, x172001, x173000, x173001, x175000, x175001 => (impl_poly_byX.f x172000 x172001).bind fun bt177 => (impl_poly_times.l0 k (wrap64 (x9 + 1)) bt177.1 bt177.2 x173000 x173001 x175000 x175001)
end
def impl_poly_times.f (k : Nat) (a0_0 : Int) (a0_1 : Int) (a1_0 : Int) (a1_1 : Int) : Option (Int × Int) := impl_poly_times.l0 k 0 a0_0 a0_1 a1_0 a1_1 0 0
theorem impl_poly_times.mono_l : ∀ k, (∀ y0 y1 y2 y3 y4 y5 y6, LeO (impl_poly_times.l0 k y0 y1 y2 y3 y4 y5 y6) (impl_poly_times.l0 (k + 1) y0 y1 y2 y3 y4 y5 y6)) ∧ (∀ y0 y1 y2 y3 y4 y5 y6 y7, LeO (impl_poly_times.j1 k y0 y1 y2 y3 y4 y5 y6 y7) (impl_poly_times.j1 (k + 1) y0 y1 y2 y3 y4 y5 y6 y7)) ∧ (∀ y0 y1 y2 y3 y4 y5 y6, LeO (impl_poly_times.j2 k y0 y1 y2 y3 y4 y5 y6) (impl_poly_times.j2 (k + 1) y0 y1 y2 y3 y4 y5 y6))
 | 0 => ⟨fun _ _ _ _ _ _ _ r h => by simp [impl_poly_times.l0] at h, fun _ _ _ _ _ _ _ _ r h => by simp [impl_poly_times.j1] at h, fun _ _ _ _ _ _ _ r h => by simp [impl_poly_times.j2] at h⟩
 | k + 1 => by
  obtain ⟨ih0, ih1, ih2⟩ := impl_poly_times.mono_l k
  refine ⟨?_, ?_, ?_⟩
  ·intro y0 y1 y2 y3 y4 y5 y6
   unfold impl_poly_times.l0
   repeat' first
   | (with_reducible exact ih0 _ _ _ _ _ _ _)
   | (with_reducible exact ih1 _ _ _ _ _ _ _ _)
   | (with_reducible exact ih2 _ _ _ _ _ _ _)
   | (with_reducible exact LeO.refl _)
   | (with_reducible exact LeO.none _)
   | (with_reducible refine LeO.ite ?_ ?_)
   | (with_reducible refine LeO.bind ?_ (fun _ => ?_))
   | exact ih0 _ _ _ _ _ _ _
   | exact ih1 _ _ _ _ _ _ _ _
   | exact ih2 _ _ _ _ _ _ _
   | exact LeO.none _
   | refine LeO.ite ?_ ?_
   | refine LeO.bind ?_ (fun _ => ?_)
  ·intro y0 y1 y2 y3 y4 y5 y6 y7
   unfold impl_poly_times.j1
   repeat' first
   | (with_reducible exact ih0 _ _ _ _ _ _ _)
   | (with_reducible exact ih1 _ _ _ _ _ _ _ _)
   | (with_reducible exact ih2 _ _ _ _ _ _ _)
   | (with_reducible exact LeO.refl _)
   | (with_reducible exact LeO.none _)
   | (with_reducible refine LeO.ite ?_ ?_)
   | (with_reducible refine LeO.bind ?_ (fun _ => ?_))
   | exact ih0 _ _ _ _ _ _ _
   | exact ih1 _ _ _ _ _ _ _ _
   | exact ih2 _ _ _ _ _ _ _
   | exact LeO.none _
   | refine LeO.ite ?_ ?_
   | refine LeO.bind ?_ (fun _ => ?_)
  ·intro y0 y1 y2 y3 y4 y5 y6
   unfold impl_poly_times.j2
   repeat' first
   | (with_reducible exact ih0 _ _ _ _ _ _ _)
   | (with_reducible exact ih1 _ _ _ _ _ _ _ _)
   | (with_reducible exact ih2 _ _ _ _ _ _ _)
   | (with_reducible exact LeO.refl _)
   | (with_reducible exact LeO.none _)
   | (with_reducible refine LeO.ite ?_ ?_)
   | (with_reducible refine LeO.bind ?_ (fun _ => ?_))
   | exact ih0 _ _ _ _ _ _ _
   | exact ih1 _ _ _ _ _ _ _ _
   | exact ih2 _ _ _ _ _ _ _
   | exact LeO.none _
   | refine LeO.ite ?_ ?_
   | refine LeO.bind ?_ (fun _ => ?_)
theorem impl_poly_times.mono : ∀ a0 a1 a2 a3 k, LeO (impl_poly_times.f k a0 a1 a2 a3) (impl_poly_times.f (k + 1) a0 a1 a2 a3) := by
 intro a0 a1 a2 a3 k
 obtain ⟨ih0, ih1, ih2⟩ := impl_poly_times.mono_l k
 unfold impl_poly_times.f
 repeat' first
   | (with_reducible exact ih0 _ _ _ _ _ _ _)
   | (with_reducible exact ih1 _ _ _ _ _ _ _ _)
   | (with_reducible exact ih2 _ _ _ _ _ _ _)
   | (with_reducible exact LeO.refl _)
   | (with_reducible exact LeO.none _)
   | (with_reducible refine LeO.ite ?_ ?_)
   | (with_reducible refine LeO.bind ?_ (fun _ => ?_))
   | exact ih0 _ _ _ _ _ _ _
   | exact ih1 _ _ _ _ _ _ _ _
   | exact ih2 _ _ _ _ _ _ _
   | exact LeO.none _
   | refine LeO.ite ?_ ?_
   | refine LeO.bind ?_ (fun _ => ?_)
set_option maxHeartbeats 64000000 in
set_option maxRecDepth 100000 in
theorem impl_poly_times.calls (k : Nat) (a0_0 : Int) (a0_1 : Int) (a1_0 : Int) (a1_1 : Int) (r1 : Int) (r2 : Int) (w : World) (h : impl_poly_times.f k a0_0 a0_1 a1_0 a1_1 = some (r1, r2)) :
  Calls Try.prog 69 #[.agg #[.int .u64 a0_0, .int .u64 a0_1], .agg #[.int .u64 a1_0, .int .u64 a1_1]] w fun e w' => e = .returned (.agg #[.int .u64 r1, .int .u64 r2]) ∧ Below w.heap.size w w' := by
 have hu76 := Try.underlying76
 have HB := Aside0.mk (Below.refl w.heap.size w)
 have H : (impl_poly_times.l0 k 0 a0_0 a0_1 a1_0 a1_1 0 0) = some (r1, r2) := h
 clear h
 have H' := Aside0.mk H
 clear H
 go_enter Try.func69, Try.ntmps69
 go_wp2_with (first | ((with_reducible refine gate_dst (N := 2) rfl ?_); refine box_event ?hg (N := 2) ?hd (cs := #[.int .u64 a0_0, .int .u64 a0_1]) (t := 76) ?hr ?_; (case hd => rfl); (case hg => rfl); (case hr => first | (go_simp; done) | (go_simp; rfl)); intro gb171 hg w3 hbox hb; have n0_ := bS HB hb; have n1_ := Aside0.mk (hbox); have n2_ := Aside0.mk ((by rw [hg]; exact (below_size (by repeat (first | (with_reducible first | exact HB.out | apply below_alloc | apply pw_below_drewN | apply below_drew1) | exact HB.out))) : w.heap.size ≤ gb171)); have n3_ := n2_; clear HB; have HB := n0_; have BK171 := n1_; have GW171 := n2_; have GE171 := n3_; clear n0_ n1_ n2_ n3_; clear hb hbox hg) | ((with_reducible refine gate_dst (N := 3) rfl ?_); refine box_event ?hg (N := 3) ?hd (cs := #[.int .u64 a1_0, .int .u64 a1_1]) (t := 76) ?hr ?_; (case hd => rfl); (case hg => rfl); (case hr => first | (go_simp; done) | (go_simp; rfl)); intro gb172 hg w4 hbox hb; have n0_ := bX BK171 hb; have n1_ := bS HB hb; have n2_ := Aside0.mk (hbox); have n3_ := Aside0.mk ((by rw [hg]; exact (below_size (by repeat (first | (with_reducible first | exact HB.out | apply below_alloc | apply pw_below_drewN | apply below_drew1 | refine below_set ?_ GE171.out) | exact HB.out))) : w.heap.size ≤ gb172)); have n4_ := n3_; have n5_ := Aside0.mk ((by rw [hg]; exact Nat.ne_of_lt (bLt BK171) : gb171 ≠ gb172)); have n6_ := Aside0.mk ((by rw [hg]; exact Nat.ne_of_gt (bLt BK171) : gb172 ≠ gb171)); clear BK171; clear HB; have BK171 := n0_; have HB := n1_; have BK172 := n2_; have GW172 := n3_; have GE172 := n4_; have NB171_172 := n5_; have NB172_171 := n6_; clear n0_ n1_ n2_ n3_ n4_ n5_ n6_; clear hb hbox hg) | ((with_reducible refine gate_dst (N := 4) rfl ?_); refine box_event ?hg (N := 4) ?hd (cs := #[.int .u64 0, .int .u64 0]) (t := 76) ?hr ?_; (case hd => rfl); (case hg => rfl); (case hr => first | (go_simp; done) | (go_simp; rfl)); intro gb173 hg w5 hbox hb; have n0_ := bX BK171 hb; have n1_ := bX BK172 hb; have n2_ := bS HB hb; have n3_ := Aside0.mk (hbox); have n4_ := Aside0.mk ((by rw [hg]; exact (below_size (by repeat (first | (with_reducible first | exact HB.out | apply below_alloc | apply pw_below_drewN | apply below_drew1 | refine below_set ?_ GE171.out | refine below_set ?_ GE172.out) | exact HB.out))) : w.heap.size ≤ gb173)); have n5_ := n4_; have n6_ := Aside0.mk ((by rw [hg]; exact Nat.ne_of_lt (bLt BK171) : gb171 ≠ gb173)); have n7_ := Aside0.mk ((by rw [hg]; exact Nat.ne_of_gt (bLt BK171) : gb173 ≠ gb171)); have n8_ := Aside0.mk ((by rw [hg]; exact Nat.ne_of_lt (bLt BK172) : gb172 ≠ gb173)); have n9_ := Aside0.mk ((by rw [hg]; exact Nat.ne_of_gt (bLt BK172) : gb173 ≠ gb172)); clear BK171; clear BK172; clear HB; have BK171 := n0_; have BK172 := n1_; have HB := n2_; have BK173 := n3_; have GW173 := n4_; have GE173 := n5_; have NB171_173 := n6_; have NB173_171 := n7_; have NB172_173 := n8_; have NB173_172 := n9_; clear n0_ n1_ n2_ n3_ n4_ n5_ n6_ n7_ n8_ n9_; clear hb hbox hg) | ((with_reducible refine gate_dst (N := 5) rfl ?_); refine box_event ?hg (N := 5) ?hd (cs := #[.int .u64 0, .int .u64 0]) (t := 76) ?hr ?_; (case hd => rfl); (case hg => rfl); (case hr => first | (go_simp; done) | (go_simp; rfl)); intro gb174 hg w6 hbox hb; have n0_ := bX BK171 hb; have n1_ := bX BK172 hb; have n2_ := bX BK173 hb; have n3_ := bS HB hb; have n4_ := Aside0.mk (hbox); have n5_ := Aside0.mk ((by rw [hg]; exact (below_size (by repeat (first | (with_reducible first | exact HB.out | apply below_alloc | apply pw_below_drewN | apply below_drew1 | refine below_set ?_ GE171.out | refine below_set ?_ GE172.out | refine below_set ?_ GE173.out) | exact HB.out))) : w.heap.size ≤ gb174)); have n6_ := n5_; have n7_ := Aside0.mk ((by rw [hg]; exact Nat.ne_of_lt (bLt BK171) : gb171 ≠ gb174)); have n8_ := Aside0.mk ((by rw [hg]; exact Nat.ne_of_gt (bLt BK171) : gb174 ≠ gb171)); have n9_ := Aside0.mk ((by rw [hg]; exact Nat.ne_of_lt (bLt BK172) : gb172 ≠ gb174)); have n10_ := Aside0.mk ((by rw [hg]; exact Nat.ne_of_gt (bLt BK172) : gb174 ≠ gb172)); have n11_ := Aside0.mk ((by rw [hg]; exact Nat.ne_of_lt (bLt BK173) : gb173 ≠ gb174)); have n12_ := Aside0.mk ((by rw [hg]; exact Nat.ne_of_gt (bLt BK173) : gb174 ≠ gb173)); clear BK171; clear BK172; clear BK173; clear HB; have BK171 := n0_; have BK172 := n1_; have BK173 := n2_; have HB := n3_; have BK174 := n4_; have GW174 := n5_; have GE174 := n6_; have NB171_174 := n7_; have NB174_171 := n8_; have NB172_174 := n9_; have NB174_172 := n10_; have NB173_174 := n11_; have NB174_173 := n12_; clear n0_ n1_ n2_ n3_ n4_ n5_ n6_ n7_ n8_ n9_ n10_ n11_ n12_; clear hb hbox hg; have hnb7 := NB174_171.out; have hnc7 := NB171_174.out; have hnb8 := NB174_172.out; have hnc8 := NB172_174.out; have hnb9 := NB174_173.out; have hnc9 := NB173_174.out; obtain ⟨hcz10_0, hcz10_1⟩ := cz2 BK174; obtain ⟨hfz10_0, hfz10_1⟩ := fz2 BK174))
 go_loopg [9] k (fun kq v9 w' => ∃ (x9_1 : Int) (x172000_1 : Int) (x172001_1 : Int) (x175000_1 : Int) (x175001_1 : Int), v9 = .int .i64 x9_1 ∧ Aside0 (impl_poly_times.l0 kq x9_1 x172000_1 x172001_1 a1_0 a1_1 x175000_1 x175001_1 = some (r1, r2)) ∧ Aside0 (kq ≤ k) ∧ Aside0 (w'.heap[gb171]? = some (.cells #[.int .u64 x172000_1, .int .u64 x172001_1] 76 (0, 0))) ∧ Aside0 (w'.heap[gb172]? = some (.cells #[.int .u64 a1_0, .int .u64 a1_1] 76 (0, 0))) ∧ Aside0 (w'.heap[gb173]? = some (.cells #[.int .u64 0, .int .u64 0] 76 (0, 0))) ∧ Aside0 (w'.heap[gb174]? = some (.cells #[.int .u64 x175000_1, .int .u64 x175001_1] 76 (0, 0))) ∧ Aside0 (Below w.heap.size w w'))
 case atStart => exact ⟨(0), (a0_0), (a0_1), (0), (0), (by first | rfl | (simp; done) | (simp [*]; done)), H', ⟨Nat.le_refl _⟩, ⟨by (with_reducible repeat (first | refine bN ?_ _ | refine bD ?_ | refine bA ?_ _)); refine blk_far ?_ NB171_174.out _; (with_reducible repeat (first | refine bN ?_ _ | refine bD ?_ | refine bA ?_ _)); refine blk_far ?_ NB171_174.out _; (with_reducible repeat (first | refine bN ?_ _ | refine bD ?_ | refine bA ?_ _)); exact BK171.out⟩, ⟨by (with_reducible repeat (first | refine bN ?_ _ | refine bD ?_ | refine bA ?_ _)); refine blk_far ?_ NB172_174.out _; (with_reducible repeat (first | refine bN ?_ _ | refine bD ?_ | refine bA ?_ _)); refine blk_far ?_ NB172_174.out _; (with_reducible repeat (first | refine bN ?_ _ | refine bD ?_ | refine bA ?_ _)); exact BK172.out⟩, ⟨by (with_reducible repeat (first | refine bN ?_ _ | refine bD ?_ | refine bA ?_ _)); refine blk_far ?_ NB173_174.out _; (with_reducible repeat (first | refine bN ?_ _ | refine bD ?_ | refine bA ?_ _)); refine blk_far ?_ NB173_174.out _; (with_reducible repeat (first | refine bN ?_ _ | refine bD ?_ | refine bA ?_ _)); exact BK173.out⟩, ⟨by (with_reducible repeat (first | refine bN ?_ _ | refine bD ?_ | refine bA ?_ _)); refine blk_put (cs := #[.int .u64 0, .int .u64 0]) ?_ 1 _ rfl; (with_reducible repeat (first | refine bN ?_ _ | refine bD ?_ | refine bA ?_ _)); refine blk_put (cs := #[.int .u64 0, .int .u64 0]) ?_ 0 _ rfl; (with_reducible repeat (first | refine bN ?_ _ | refine bD ?_ | refine bA ?_ _)); exact BK174.out⟩, ⟨by repeat (first | (with_reducible first | exact HB.out | apply below_alloc | apply pw_below_drewN | apply below_drew1 | refine below_set ?_ GE171.out | refine below_set ?_ GE172.out | refine below_set ?_ GE173.out | refine below_set ?_ GE174.out) | exact HB.out)⟩⟩
 case round =>
  clear H'
  try clear p2
  try clear c6
  try clear c7
  try clear c8
  try clear c9
  try clear hcz10_0
  try clear hcz10_1
  try clear hfz10_0
  try clear hfz10_1
  obtain ⟨x9_1, x172000_1, x172001_1, x175000_1, x175001_1, rfl, HA, HK1, BK171, BK172, BK173, BK174, HB⟩ := hrel
  cases gk with
  | zero => exact absurd HA.out (by simp [impl_poly_times.l0])
  | succ k1 =>
   have H := HA.out
   clear HA
   simp only [impl_poly_times.l0] at H
   by_cases c11 : x9_1 < 128
   ·rw [if_pos c11] at H
    have c11b0 : decide (x9_1 < 128) = true := decide_eq_true c11
    clear c11
    obtain ⟨ji12, hji12⟩ : ∃ j_ : Int, (wrap64 (63 - (Int.tmod x9_1 64))) = j_ := ⟨_, rfl⟩
    replace H : (if 0 ≤ (ji12) then (if x9_1 > 63 then (impl_poly_times.j1 k1 (shr .u64 a1_1 (ji12)) x9_1 x172000_1 x172001_1 a1_0 a1_1 x175000_1 x175001_1) else (impl_poly_times.j1 k1 (shr .u64 a1_0 (ji12)) x9_1 x172000_1 x172001_1 a1_0 a1_1 x175000_1 x175001_1)) else (none)) = some (r1, r2) := by first | (rw [hji12] at H; exact H) | (simp only [hji12] at H ⊢; exact H)
    have hji12w : (IntKind.i64.wrap (63 - (Int.tmod x9_1 64))) = ji12 := (i64_w _).trans hji12
    by_cases c13 : 0 ≤ (ji12)
    ·rw [if_pos c13] at H
     have c13b0 := eq_true c13
     have c13b1 : decide (0 ≤ (ji12)) = true := decide_eq_true c13
     clear c13
     obtain ⟨ji14, hji14⟩ : ∃ j_ : Int, (shr .u64 a1_0 (ji12)) = j_ := ⟨_, rfl⟩
     replace H : (if x9_1 > 63 then (impl_poly_times.j1 k1 (shr .u64 a1_1 (ji12)) x9_1 x172000_1 x172001_1 a1_0 a1_1 x175000_1 x175001_1) else (impl_poly_times.j1 k1 ji14 x9_1 x172000_1 x172001_1 a1_0 a1_1 x175000_1 x175001_1)) = some (r1, r2) := by first | (rw [hji14] at H; exact H) | (simp only [hji14] at H ⊢; exact H)
     have hji14_ : (a1_0 / 2 ^ min (ji12).toNat 64) = ji14 := hji14
     have hji14z : (ji12) ≤ 64 → (a1_0 / 2 ^ (ji12).toNat) = ji14 := shr_small hji14
     have HC15 := Aside0.mk H
     clear H
     have hnb16 := NB172_171.out
     have hnc16 := NB171_172.out
     have hnb17 := NB172_173.out
     have hnc17 := NB173_172.out
     have hnb18 := NB172_174.out
     have hnc18 := NB174_172.out
     obtain ⟨hcz19_0, hcz19_1⟩ := cz2 BK172
     obtain ⟨hfz19_0, hfz19_1⟩ := fz2 BK172
     go_upto_if 19 with (fail)
     go_cut [7] (fun v7 wc => ∃ (kq : Nat) (x7_14 : Int), v7 = .int .u64 x7_14 ∧ Aside0 (impl_poly_times.j1 kq x7_14 x9_1 x172000_1 x172001_1 a1_0 a1_1 x175000_1 x175001_1 = some (r1, r2)) ∧ Aside0 (kq ≤ k1) ∧ Aside0 (wc.heap[gb171]? = some (.cells #[.int .u64 x172000_1, .int .u64 x172001_1] 76 (0, 0))) ∧ Aside0 (wc.heap[gb172]? = some (.cells #[.int .u64 a1_0, .int .u64 a1_1] 76 (0, 0))) ∧ Aside0 (wc.heap[gb173]? = some (.cells #[.int .u64 0, .int .u64 0] 76 (0, 0))) ∧ Aside0 (wc.heap[gb174]? = some (.cells #[.int .u64 x175000_1, .int .u64 x175001_1] 76 (0, 0))) ∧ Aside0 (Below w.heap.size w wc))
     case first =>
      have H := HC15.out
      clear HC15
      by_cases c20 : x9_1 > 63
      ·rw [if_pos c20] at H
       have c20b0 : decide (63 < x9_1) = true := decide_eq_true c20
       clear c20
       (first | rw [c20b0] | (simp only [i64_w, i32_w]; rw [c20b0]) | skip)
       have c21b0 := eq_true (of_decide_eq_true (by first | (with_reducible assumption) | assumption) : 0 ≤ (ji12))
       obtain ⟨ji22, hji22⟩ : ∃ j_ : Int, (shr .u64 a1_1 (ji12)) = j_ := ⟨_, rfl⟩
       replace H : (impl_poly_times.j1 k1 ji22 x9_1 x172000_1 x172001_1 a1_0 a1_1 x175000_1 x175001_1) = some (r1, r2) := by first | (rw [hji22] at H; exact H) | (simp only [hji22] at H ⊢; exact H)
       have hji22_ : (a1_1 / 2 ^ min (ji12).toNat 64) = ji22 := hji22
       have hji22z : (ji12) ≤ 64 → (a1_1 / 2 ^ (ji12).toNat) = ji22 := shr_small hji22
       have H' := Aside0.mk H
       clear H
       have hnb23 := NB172_171.out
       have hnc23 := NB171_172.out
       have hnb24 := NB172_173.out
       have hnc24 := NB173_172.out
       have hnb25 := NB172_174.out
       have hnc25 := NB174_172.out
       obtain ⟨hcz26_0, hcz26_1⟩ := cz2 BK172
       obtain ⟨hfz26_0, hfz26_1⟩ := fz2 BK172
       go_wp2
       go_meet
       case rel => exact ⟨_, (ji22), (by first | rfl | (simp; done) | (simp only [← hji22] <;> (first | rfl | (simp; done))) | (simp only [← hji22, i64_w] <;> (first | rfl | (simp; done))) | (simp [*]; done)), H', ⟨by have := HK1.out; first | omega | exact Nat.le_refl _⟩, ⟨by (with_reducible repeat (first | refine bN ?_ _ | refine bD ?_ | refine bA ?_ _)); exact BK171.out⟩, ⟨by (with_reducible repeat (first | refine bN ?_ _ | refine bD ?_ | refine bA ?_ _)); exact BK172.out⟩, ⟨by (with_reducible repeat (first | refine bN ?_ _ | refine bD ?_ | refine bA ?_ _)); exact BK173.out⟩, ⟨by (with_reducible repeat (first | refine bN ?_ _ | refine bD ?_ | refine bA ?_ _)); exact BK174.out⟩, ⟨by repeat (first | (with_reducible first | exact HB.out | apply below_alloc | apply pw_below_drewN | apply below_drew1 | refine below_set ?_ GE171.out | refine below_set ?_ GE172.out | refine below_set ?_ GE173.out | refine below_set ?_ GE174.out) | exact HB.out)⟩⟩
      ·rw [if_neg c20] at H
       have c20b0 : decide (63 < x9_1) = false := decide_eq_false c20
       clear c20
       (first | rw [c20b0] | (simp only [i64_w, i32_w]; rw [c20b0]) | skip)
       have H' := Aside0.mk H
       clear H
       go_wp2
       go_meet
       case rel => exact ⟨_, (ji14), (by first | rfl | (simp; done) | (simp only [← hji14] <;> (first | rfl | (simp; done))) | (simp only [← hji14, i64_w] <;> (first | rfl | (simp; done))) | (simp [*]; done)), H', ⟨by have := HK1.out; first | omega | exact Nat.le_refl _⟩, ⟨by (with_reducible repeat (first | refine bN ?_ _ | refine bD ?_ | refine bA ?_ _)); exact BK171.out⟩, ⟨by (with_reducible repeat (first | refine bN ?_ _ | refine bD ?_ | refine bA ?_ _)); exact BK172.out⟩, ⟨by (with_reducible repeat (first | refine bN ?_ _ | refine bD ?_ | refine bA ?_ _)); exact BK173.out⟩, ⟨by (with_reducible repeat (first | refine bN ?_ _ | refine bD ?_ | refine bA ?_ _)); exact BK174.out⟩, ⟨by repeat (first | (with_reducible first | exact HB.out | apply below_alloc | apply pw_below_drewN | apply below_drew1 | refine below_set ?_ GE171.out | refine below_set ?_ GE172.out | refine below_set ?_ GE173.out | refine below_set ?_ GE174.out) | exact HB.out)⟩⟩
     case rest =>
      clear HC15
      try clear c1
      try clear c2
      try clear p2
      try clear c6
      try clear p6
      try clear c7
      try clear c8
      try clear c9
      try clear c11
      try clear c11b0
      try clear c13
      try clear c13b0
      try clear c13b1
      try clear c16
      try clear c17
      try clear c18
      try clear c20
      try clear c20b0
      try clear c21
      try clear c21b0
      try clear c23
      try clear c24
      try clear c25
      try clear hcz10_0
      try clear hcz10_1
      try clear hcz19_0
      try clear hcz19_1
      try clear hcz26_0
      try clear hcz26_1
      try clear hfz10_0
      try clear hfz10_1
      try clear hfz19_0
      try clear hfz19_1
      try clear hfz26_0
      try clear hfz26_1
      try clear p2
      obtain ⟨kq, x7_14, rfl, HA, HJ14, BK171, BK172, BK173, BK174, HB⟩ := hcut
      cases kq with
      | zero => exact absurd HA.out (by simp [impl_poly_times.j1])
      | succ kj14 =>
       have H := HA.out
       clear HA
       simp only [impl_poly_times.j1] at H
       have HC27 := Aside0.mk H
       clear H
       go_upto_if 28 with (fail)
       go_cut [] (fun wc => ∃ (kq : Nat) (x175000_26 : Int) (x175001_26 : Int), Aside0 (impl_poly_times.j2 kq x9_1 x172000_1 x172001_1 a1_0 a1_1 x175000_26 x175001_26 = some (r1, r2)) ∧ Aside0 (kq ≤ kj14) ∧ Aside0 (wc.heap[gb171]? = some (.cells #[.int .u64 x172000_1, .int .u64 x172001_1] 76 (0, 0))) ∧ Aside0 (wc.heap[gb172]? = some (.cells #[.int .u64 a1_0, .int .u64 a1_1] 76 (0, 0))) ∧ Aside0 (wc.heap[gb173]? = some (.cells #[.int .u64 0, .int .u64 0] 76 (0, 0))) ∧ Aside0 (wc.heap[gb174]? = some (.cells #[.int .u64 x175000_26, .int .u64 x175001_26] 76 (0, 0))) ∧ Aside0 (Below w.heap.size w wc))
       case first =>
        have H := HC27.out
        clear HC27
        by_cases c28 : (Go.bits .and .u64 x7_14 1) = 1
        ·rw [if_pos c28] at H
         have c28b0 : ((Go.bits .and .u64 x7_14 1) == 1) = true := beq_iff_eq.mpr c28
         have c28b1 : ((Go.bits .and .u64 x7_14 1) != 1) = false := bne_eq_false_iff_eq.mpr c28
         clear c28
         (first | rw [c28b0] | (simp only [i64_w, i32_w]; rw [c28b0]) | skip)
         replace H := Option.bind_eq_some_iff.mp H
         obtain ⟨⟨t175, t176⟩, A290, H⟩ := H
         replace H : (impl_poly_times.j2 kj14 x9_1 x172000_1 x172001_1 a1_0 a1_1 t175 t176) = some (r1, r2) := H
         have A29 := Aside0.mk A290
         clear A290
         have H' := Aside0.mk H
         clear H
         have hnb30 := NB174_171.out
         have hnc30 := NB171_174.out
         have hnb31 := NB174_172.out
         have hnc31 := NB172_174.out
         have hnb32 := NB174_173.out
         have hnc32 := NB173_174.out
         obtain ⟨hcz33_0, hcz33_1⟩ := cz2 BK174
         obtain ⟨hfz33_0, hfz33_1⟩ := fz2 BK174
         have hnb34 := NB171_172.out
         have hnc34 := NB172_171.out
         have hnb35 := NB171_173.out
         have hnc35 := NB173_171.out
         obtain ⟨hcz36_0, hcz36_1⟩ := cz2 BK171
         obtain ⟨hfz36_0, hfz36_1⟩ := fz2 BK171
         go_wp2_with (first | ((with_reducible refine gate_callee (f := 68) rfl ?_); refine goesL_ (some 31) rfl rfl Try.func68 (by kernel_rfl) rfl #[.agg #[.int .u64 x175000_1, .int .u64 x175001_1], .agg #[.int .u64 x172000_1, .int .u64 x172001_1]] rfl (by (try simp only [List.map_toArray, List.map_cons, List.map_nil]); first | done | rfl | (simp only [List.length_drop, List.length_take]; rfl)) ?_; (with_reducible refine (impl_poly_xor.calls x175000_1 x175001_1 x172000_1 x172001_1 t175 t176 _ A29.out).mono ?_); rintro e w37 ⟨rfl, hb⟩; refine ⟨_, rfl, ?_⟩; have n0_ := bX BK171 hb; have n1_ := bX BK172 hb; have n2_ := bX BK173 hb; have n3_ := bX BK174 hb; have n4_ := bS HB hb; clear BK171; clear BK172; clear BK173; clear BK174; clear HB; have BK171 := n0_; have BK172 := n1_; have BK173 := n2_; have BK174 := n3_; have HB := n4_; clear n0_ n1_ n2_ n3_ n4_; (try clear hb); (try clear hb2); (try clear hk); (try clear hi); obtain ⟨hcz38_0, hcz38_1⟩ := cz2 BK174; obtain ⟨hfz38_0, hfz38_1⟩ := fz2 BK174))
         go_meet
         case rel => exact ⟨_, (t175), (t176), H', ⟨by have := HK1.out; have := HJ14.out; first | omega | exact Nat.le_refl _⟩, ⟨by (with_reducible repeat (first | refine bN ?_ _ | refine bD ?_ | refine bA ?_ _)); refine blk_far ?_ NB171_174.out _; (with_reducible repeat (first | refine bN ?_ _ | refine bD ?_ | refine bA ?_ _)); refine blk_far ?_ NB171_174.out _; (with_reducible repeat (first | refine bN ?_ _ | refine bD ?_ | refine bA ?_ _)); exact BK171.out⟩, ⟨by (with_reducible repeat (first | refine bN ?_ _ | refine bD ?_ | refine bA ?_ _)); refine blk_far ?_ NB172_174.out _; (with_reducible repeat (first | refine bN ?_ _ | refine bD ?_ | refine bA ?_ _)); refine blk_far ?_ NB172_174.out _; (with_reducible repeat (first | refine bN ?_ _ | refine bD ?_ | refine bA ?_ _)); exact BK172.out⟩, ⟨by (with_reducible repeat (first | refine bN ?_ _ | refine bD ?_ | refine bA ?_ _)); refine blk_far ?_ NB173_174.out _; (with_reducible repeat (first | refine bN ?_ _ | refine bD ?_ | refine bA ?_ _)); refine blk_far ?_ NB173_174.out _; (with_reducible repeat (first | refine bN ?_ _ | refine bD ?_ | refine bA ?_ _)); exact BK173.out⟩, ⟨by (with_reducible repeat (first | refine bN ?_ _ | refine bD ?_ | refine bA ?_ _)); refine blk_put (cs := #[.int .u64 t175, .int .u64 x175001_1]) ?_ 1 _ rfl; (with_reducible repeat (first | refine bN ?_ _ | refine bD ?_ | refine bA ?_ _)); refine blk_put (cs := #[.int .u64 x175000_1, .int .u64 x175001_1]) ?_ 0 _ rfl; (with_reducible repeat (first | refine bN ?_ _ | refine bD ?_ | refine bA ?_ _)); exact BK174.out⟩, ⟨by repeat (first | (with_reducible first | exact HB.out | apply below_alloc | apply pw_below_drewN | apply below_drew1 | refine below_set ?_ GE171.out | refine below_set ?_ GE172.out | refine below_set ?_ GE173.out | refine below_set ?_ GE174.out) | exact HB.out)⟩⟩
        ·rw [if_neg c28] at H
         have c28b0 : ((Go.bits .and .u64 x7_14 1) == 1) = false := beq_eq_false_iff_ne.mpr c28
         have c28b1 : ((Go.bits .and .u64 x7_14 1) != 1) = true := bne_iff_ne.mpr c28
         (first | rw [c28b0] | (simp only [i64_w, i32_w]; rw [c28b0]) | skip)
         have H' := Aside0.mk H
         clear H
         go_wp2
         go_meet
         case rel => exact ⟨_, (x175000_1), (x175001_1), H', ⟨by have := HK1.out; have := HJ14.out; first | omega | exact Nat.le_refl _⟩, ⟨by (with_reducible repeat (first | refine bN ?_ _ | refine bD ?_ | refine bA ?_ _)); exact BK171.out⟩, ⟨by (with_reducible repeat (first | refine bN ?_ _ | refine bD ?_ | refine bA ?_ _)); exact BK172.out⟩, ⟨by (with_reducible repeat (first | refine bN ?_ _ | refine bD ?_ | refine bA ?_ _)); exact BK173.out⟩, ⟨by (with_reducible repeat (first | refine bN ?_ _ | refine bD ?_ | refine bA ?_ _)); exact BK174.out⟩, ⟨by repeat (first | (with_reducible first | exact HB.out | apply below_alloc | apply pw_below_drewN | apply below_drew1 | refine below_set ?_ GE171.out | refine below_set ?_ GE172.out | refine below_set ?_ GE173.out | refine below_set ?_ GE174.out) | exact HB.out)⟩⟩
       case rest =>
        clear HC27
        try clear c1
        try clear c2
        try clear p2
        try clear c3
        try clear c6
        try clear p6
        try clear c7
        try clear c8
        try clear c9
        try clear c11
        try clear c11b0
        try clear c13
        try clear c13b0
        try clear c13b1
        try clear c16
        try clear c17
        try clear c18
        try clear c20
        try clear c20b0
        try clear c21
        try clear c21b0
        try clear c23
        try clear c24
        try clear c25
        try clear c28
        try clear c28b0
        try clear c28b1
        try clear c30
        try clear c31
        try clear c32
        try clear c34
        try clear c35
        try clear hcz10_0
        try clear hcz10_1
        try clear hcz19_0
        try clear hcz19_1
        try clear hcz26_0
        try clear hcz26_1
        try clear hcz33_0
        try clear hcz33_1
        try clear hcz36_0
        try clear hcz36_1
        try clear hcz38_0
        try clear hcz38_1
        try clear hfz10_0
        try clear hfz10_1
        try clear hfz19_0
        try clear hfz19_1
        try clear hfz26_0
        try clear hfz26_1
        try clear hfz33_0
        try clear hfz33_1
        try clear hfz36_0
        try clear hfz36_1
        try clear hfz38_0
        try clear hfz38_1
        try clear p2
        try clear p6
        obtain ⟨kq, x175000_26, x175001_26, HA, HJ26, BK171, BK172, BK173, BK174, HB⟩ := hcut
        cases kq with
        | zero => exact absurd HA.out (by simp [impl_poly_times.j2])
        | succ kj26 =>
         have H := HA.out
         clear HA
         simp only [impl_poly_times.j2] at H
         replace H := Option.bind_eq_some_iff.mp H
         obtain ⟨⟨t177, t178⟩, A390, H⟩ := H
         replace H : (impl_poly_times.l0 kj26 (wrap64 (x9_1 + 1)) t177 t178 a1_0 a1_1 x175000_26 x175001_26) = some (r1, r2) := H
         have A39 := Aside0.mk A390
         clear A390
         have H' := Aside0.mk H
         clear H
         have hnb40 := NB171_172.out
         have hnc40 := NB172_171.out
         have hnb41 := NB171_173.out
         have hnc41 := NB173_171.out
         have hnb42 := NB171_174.out
         have hnc42 := NB174_171.out
         obtain ⟨hcz43_0, hcz43_1⟩ := cz2 BK171
         obtain ⟨hfz43_0, hfz43_1⟩ := fz2 BK171
         go_wp2_with (first | ((with_reducible refine gate_callee (f := 77) rfl ?_); refine goesL_ (some 33) rfl rfl Try.func77 (by kernel_rfl) rfl #[.agg #[.int .u64 x172000_1, .int .u64 x172001_1]] rfl (by (try simp only [List.map_toArray, List.map_cons, List.map_nil]); first | done | rfl | (simp only [List.length_drop, List.length_take]; rfl)) ?_; (with_reducible refine (impl_poly_byX.calls x172000_1 x172001_1 t177 t178 _ A39.out).mono ?_); rintro e w44 ⟨rfl, hb⟩; refine ⟨_, rfl, ?_⟩; have n0_ := bX BK171 hb; have n1_ := bX BK172 hb; have n2_ := bX BK173 hb; have n3_ := bX BK174 hb; have n4_ := bS HB hb; clear BK171; clear BK172; clear BK173; clear BK174; clear HB; have BK171 := n0_; have BK172 := n1_; have BK173 := n2_; have BK174 := n3_; have HB := n4_; clear n0_ n1_ n2_ n3_ n4_; (try clear hb); (try clear hb2); (try clear hk); (try clear hi); obtain ⟨hcz45_0, hcz45_1⟩ := cz2 BK171; obtain ⟨hfz45_0, hfz45_1⟩ := fz2 BK171))
         go_roundg kj26
         case measure => have := HK1.out; have := HJ14.out; have := HJ26.out; omega
         case rel => exact ⟨(wrap64 (x9_1 + 1)), (t177), (t178), (x175000_26), (x175001_26), (by first | rfl | (simp; done) | (simp [*]; done)), H', ⟨by have := HK1.out; have := HJ14.out; have := HJ26.out; omega⟩, ⟨by (with_reducible repeat (first | refine bN ?_ _ | refine bD ?_ | refine bA ?_ _)); refine blk_put (cs := #[.int .u64 t177, .int .u64 x172001_1]) ?_ 1 _ rfl; (with_reducible repeat (first | refine bN ?_ _ | refine bD ?_ | refine bA ?_ _)); refine blk_put (cs := #[.int .u64 x172000_1, .int .u64 x172001_1]) ?_ 0 _ rfl; (with_reducible repeat (first | refine bN ?_ _ | refine bD ?_ | refine bA ?_ _)); exact BK171.out⟩, ⟨by (with_reducible repeat (first | refine bN ?_ _ | refine bD ?_ | refine bA ?_ _)); refine blk_far ?_ NB172_171.out _; (with_reducible repeat (first | refine bN ?_ _ | refine bD ?_ | refine bA ?_ _)); refine blk_far ?_ NB172_171.out _; (with_reducible repeat (first | refine bN ?_ _ | refine bD ?_ | refine bA ?_ _)); exact BK172.out⟩, ⟨by (with_reducible repeat (first | refine bN ?_ _ | refine bD ?_ | refine bA ?_ _)); refine blk_far ?_ NB173_171.out _; (with_reducible repeat (first | refine bN ?_ _ | refine bD ?_ | refine bA ?_ _)); refine blk_far ?_ NB173_171.out _; (with_reducible repeat (first | refine bN ?_ _ | refine bD ?_ | refine bA ?_ _)); exact BK173.out⟩, ⟨by (with_reducible repeat (first | refine bN ?_ _ | refine bD ?_ | refine bA ?_ _)); refine blk_far ?_ NB174_171.out _; (with_reducible repeat (first | refine bN ?_ _ | refine bD ?_ | refine bA ?_ _)); refine blk_far ?_ NB174_171.out _; (with_reducible repeat (first | refine bN ?_ _ | refine bD ?_ | refine bA ?_ _)); exact BK174.out⟩, ⟨by repeat (first | (with_reducible first | exact HB.out | apply below_alloc | apply pw_below_drewN | apply below_drew1 | refine below_set ?_ GE171.out | refine below_set ?_ GE172.out | refine below_set ?_ GE173.out | refine below_set ?_ GE174.out) | exact HB.out)⟩⟩
    ·rw [if_neg c13] at H
     exact absurd H (by simp)
   ·rw [if_neg c11] at H
    have c11b0 : decide (x9_1 < 128) = false := decide_eq_false c11
    clear c11
    simp only [Option.some.injEq, Prod.mk.injEq] at H
    obtain ⟨rfl, rfl⟩ := H
    have hnb46 := NB174_171.out
    have hnc46 := NB171_174.out
    have hnb47 := NB174_172.out
    have hnc47 := NB172_174.out
    have hnb48 := NB174_173.out
    have hnc48 := NB173_174.out
    obtain ⟨hcz49_0, hcz49_1⟩ := cz2 BK174
    obtain ⟨hfz49_0, hfz49_1⟩ := fz2 BK174
    have hnb50 := NB173_171.out
    have hnc50 := NB171_173.out
    have hnb51 := NB173_172.out
    have hnc51 := NB172_173.out
    obtain ⟨hcz52_0, hcz52_1⟩ := cz2 BK173
    obtain ⟨hfz52_0, hfz52_1⟩ := fz2 BK173
    go_wp2
    refine bodyPost_ret (results_cell_row rfl _ _ gb173 76 #[.int .u64 x175000_1, .int .u64 x175001_1] (0, 0) _ rfl (by (with_reducible repeat (first | refine bN ?_ _ | refine bD ?_ | refine bA ?_ _)); refine blk_put (cs := #[.int .u64 x175000_1, .int .u64 0]) ?_ 1 _ rfl; (with_reducible repeat (first | refine bN ?_ _ | refine bD ?_ | refine bA ?_ _)); refine blk_put (cs := #[.int .u64 0, .int .u64 0]) ?_ 0 _ rfl; (with_reducible repeat (first | refine bN ?_ _ | refine bD ?_ | refine bA ?_ _)); exact BK173.out) Try.underlying76 rfl (by kernel_rfl)) rfl ?_
    exact ⟨by first | rfl | (simp [errW_none, errW_some] <;> rfl) | (simp [*, errW_none, errW_some] <;> rfl), by repeat (first | (with_reducible first | exact HB.out | apply below_alloc | apply pw_below_drewN | apply below_drew1 | refine below_set ?_ GE171.out | refine below_set ?_ GE172.out | refine below_set ?_ GE173.out | refine below_set ?_ GE174.out) | exact HB.out)⟩

/-! ### impl_ghash: function 51 -/
def impl_ghash.l0 : Nat → ByteArray → Int → Int → Int → Int → Int → Option (Int × Int)
 | 0, _, _, _, _, _, _ => none
 | k + 1, x1, x6, x180000, x180001, x182000, x182001 => if x6 < (x1.size : Int) then (if 0 ≤ x6 then (if x6 ≤ (wrap64 (x6 + 16)) then (if (wrap64 (x6 + 16)) ≤ (x1.size : Int) then ((impl_polyOf.f k (x1.extract (x6 : Int).toNat ((wrap64 (x6 + 16)) : Int).toNat)).bind fun bt182 => ((impl_poly_xor.f x182000 x182001 bt182.1 bt182.2).bind fun bt184 => ((impl_poly_times.f k bt184.1 bt184.2 x180000 x180001).bind fun bt186 => (impl_ghash.l0 k x1 (wrap64 (x6 + 16)) x180000 x180001 bt186.1 bt186.2)))) else (none)) else (none)) else (none)) else (some (x182000, x182001))
def impl_ghash.f (k : Nat) (a0_0 : Int) (a0_1 : Int) (a1 : ByteArray) : Option (Int × Int) := impl_ghash.l0 k a1 0 a0_0 a0_1 0 0
theorem impl_ghash.mono_l : ∀ k, (∀ y0 y1 y2 y3 y4 y5, LeO (impl_ghash.l0 k y0 y1 y2 y3 y4 y5) (impl_ghash.l0 (k + 1) y0 y1 y2 y3 y4 y5))
 | 0 => fun _ _ _ _ _ _ r h => by simp [impl_ghash.l0] at h
 | k + 1 => by
  have ih0 := impl_ghash.mono_l k
  ·intro y0 y1 y2 y3 y4 y5
   unfold impl_ghash.l0
   repeat' first
   | (with_reducible exact ih0 _ _ _ _ _ _)
   | (with_reducible exact impl_polyOf.mono _ _)
   | (with_reducible exact impl_poly_times.mono _ _ _ _ _)
   | (with_reducible exact LeO.refl _)
   | (with_reducible exact LeO.none _)
   | (with_reducible refine LeO.ite ?_ ?_)
   | (with_reducible refine LeO.bind ?_ (fun _ => ?_))
   | exact ih0 _ _ _ _ _ _
   | exact impl_polyOf.mono _ _
   | exact impl_poly_times.mono _ _ _ _ _
   | exact LeO.none _
   | refine LeO.ite ?_ ?_
   | refine LeO.bind ?_ (fun _ => ?_)
theorem impl_ghash.mono : ∀ a0 a1 a2 k, LeO (impl_ghash.f k a0 a1 a2) (impl_ghash.f (k + 1) a0 a1 a2) := by
 intro a0 a1 a2 k
 have ih0 := impl_ghash.mono_l k
 unfold impl_ghash.f
 repeat' first
   | (with_reducible exact ih0 _ _ _ _ _ _)
   | (with_reducible exact impl_polyOf.mono _ _)
   | (with_reducible exact impl_poly_times.mono _ _ _ _ _)
   | (with_reducible exact LeO.refl _)
   | (with_reducible exact LeO.none _)
   | (with_reducible refine LeO.ite ?_ ?_)
   | (with_reducible refine LeO.bind ?_ (fun _ => ?_))
   | exact ih0 _ _ _ _ _ _
   | exact impl_polyOf.mono _ _
   | exact impl_poly_times.mono _ _ _ _ _
   | exact LeO.none _
   | refine LeO.ite ?_ ?_
   | refine LeO.bind ?_ (fun _ => ?_)
def impl_ghash.T5 : Bool × List (List Nat × List Nat) := (true, [([], []), ([], []), ([], []), ([], []), ([3], [3]), ([1, 2, 4], [1, 2, 4]), ([5], [5]), ([0, 6, 6], [0, 6]), ([], []), ([7, 8, 7], [7, 8]), ([9, 9, 0, 1, 2, 3, 4, 5, 6, 7, 8, 9], [9])])
def impl_ghash.B5 : List Nat := [0, 0, 0, 0, 8, 30, 62, 127, 0, 511, 1023]
theorem impl_ghash.tab5 : rtab .any (opsOf Try.f51 5) = impl_ghash.T5 := by kernel_rfl
theorem impl_ghash.bits5 : waitsOk impl_ghash.T5.2 impl_ghash.B5 = true := by kernel_rfl
set_option maxHeartbeats 64000000 in
set_option maxRecDepth 100000 in
theorem impl_ghash.calls (k : Nat) (a0_0 : Int) (a0_1 : Int) (a1 : ByteArray) (r1 : Int) (r2 : Int) (w : World) (h : impl_ghash.f k a0_0 a0_1 a1 = some (r1, r2)) :
  Calls Try.prog 51 #[.agg #[.int .u64 a0_0, .int .u64 a0_1], .string a1] w fun e w' => e = .returned (.agg #[.int .u64 r1, .int .u64 r2]) ∧ Below w.heap.size w w' := by
 have hu76 := Try.underlying76
 have HB := Aside0.mk (Below.refl w.heap.size w)
 have H : (impl_ghash.l0 k a1 0 a0_0 a0_1 0 0) = some (r1, r2) := h
 clear h
 have H' := Aside0.mk H
 clear H
 go_enter Try.func51, Try.ntmps51
 go_wp2_with (first | ((with_reducible refine gate_dst (N := 2) rfl ?_); refine box_event ?hg (N := 2) ?hd (cs := #[.int .u64 a0_0, .int .u64 a0_1]) (t := 76) ?hr ?_; (case hd => rfl); (case hg => rfl); (case hr => first | (go_simp; done) | (go_simp; rfl)); intro gb179 hg w3 hbox hb; have n0_ := bS HB hb; have n1_ := Aside0.mk (hbox); have n2_ := Aside0.mk ((by rw [hg]; exact (below_size (by repeat (first | (with_reducible first | exact HB.out | apply below_alloc | apply pw_below_drewN | apply below_drew1) | exact HB.out))) : w.heap.size ≤ gb179)); have n3_ := n2_; clear HB; have HB := n0_; have BK179 := n1_; have GW179 := n2_; have GE179 := n3_; clear n0_ n1_ n2_ n3_; clear hb hbox hg) | ((with_reducible refine gate_dst (N := 4) rfl ?_); refine box_event ?hg (N := 4) ?hd (cs := #[.int .u64 0, .int .u64 0]) (t := 76) ?hr ?_; (case hd => rfl); (case hg => rfl); (case hr => first | (go_simp; done) | (go_simp; rfl)); intro gb180 hg w4 hbox hb; have n0_ := bX BK179 hb; have n1_ := bS HB hb; have n2_ := Aside0.mk (hbox); have n3_ := Aside0.mk ((by rw [hg]; exact (below_size (by repeat (first | (with_reducible first | exact HB.out | apply below_alloc | apply pw_below_drewN | apply below_drew1 | refine below_set ?_ GE179.out) | exact HB.out))) : w.heap.size ≤ gb180)); have n4_ := n3_; have n5_ := Aside0.mk ((by rw [hg]; exact Nat.ne_of_lt (bLt BK179) : gb179 ≠ gb180)); have n6_ := Aside0.mk ((by rw [hg]; exact Nat.ne_of_gt (bLt BK179) : gb180 ≠ gb179)); clear BK179; clear HB; have BK179 := n0_; have HB := n1_; have BK180 := n2_; have GW180 := n3_; have GE180 := n4_; have NB179_180 := n5_; have NB180_179 := n6_; clear n0_ n1_ n2_ n3_ n4_ n5_ n6_; clear hb hbox hg) | ((with_reducible refine gate_dst (N := 5) rfl ?_); refine box_event ?hg (N := 5) ?hd (cs := #[.int .u64 0, .int .u64 0]) (t := 76) ?hr ?_; (case hd => rfl); (case hg => rfl); (case hr => first | (go_simp; done) | (go_simp; rfl)); intro gb181 hg w5 hbox hb; have n0_ := bX BK179 hb; have n1_ := bX BK180 hb; have n2_ := bS HB hb; have n3_ := Aside0.mk (hbox); have n4_ := Aside0.mk ((by rw [hg]; exact (below_size (by repeat (first | (with_reducible first | exact HB.out | apply below_alloc | apply pw_below_drewN | apply below_drew1 | refine below_set ?_ GE179.out | refine below_set ?_ GE180.out) | exact HB.out))) : w.heap.size ≤ gb181)); have n5_ := n4_; have n6_ := Aside0.mk ((by rw [hg]; exact Nat.ne_of_lt (bLt BK179) : gb179 ≠ gb181)); have n7_ := Aside0.mk ((by rw [hg]; exact Nat.ne_of_gt (bLt BK179) : gb181 ≠ gb179)); have n8_ := Aside0.mk ((by rw [hg]; exact Nat.ne_of_lt (bLt BK180) : gb180 ≠ gb181)); have n9_ := Aside0.mk ((by rw [hg]; exact Nat.ne_of_gt (bLt BK180) : gb181 ≠ gb180)); clear BK179; clear BK180; clear HB; have BK179 := n0_; have BK180 := n1_; have HB := n2_; have BK181 := n3_; have GW181 := n4_; have GE181 := n5_; have NB179_181 := n6_; have NB181_179 := n7_; have NB180_181 := n8_; have NB181_180 := n9_; clear n0_ n1_ n2_ n3_ n4_ n5_ n6_ n7_ n8_ n9_; clear hb hbox hg; have hnb6 := NB181_179.out; have hnc6 := NB179_181.out; have hnb7 := NB181_180.out; have hnc7 := NB180_181.out; obtain ⟨hcz8_0, hcz8_1⟩ := cz2 BK181; obtain ⟨hfz8_0, hfz8_1⟩ := fz2 BK181))
 go_loopg [6] k (fun kq v6 w' => ∃ (x6_1 : Int) (x182000_1 : Int) (x182001_1 : Int), v6 = .int .i64 x6_1 ∧ Aside0 (impl_ghash.l0 kq a1 x6_1 a0_0 a0_1 x182000_1 x182001_1 = some (r1, r2)) ∧ Aside0 (kq ≤ k) ∧ Aside0 (w'.heap[gb179]? = some (.cells #[.int .u64 a0_0, .int .u64 a0_1] 76 (0, 0))) ∧ Aside0 (w'.heap[gb180]? = some (.cells #[.int .u64 0, .int .u64 0] 76 (0, 0))) ∧ Aside0 (w'.heap[gb181]? = some (.cells #[.int .u64 x182000_1, .int .u64 x182001_1] 76 (0, 0))) ∧ Aside0 (Below w.heap.size w w'))
 case atStart => exact ⟨(0), (0), (0), (by first | rfl | (simp; done) | (simp [*]; done)), H', ⟨Nat.le_refl _⟩, ⟨by (with_reducible repeat (first | refine bN ?_ _ | refine bD ?_ | refine bA ?_ _)); refine blk_far ?_ NB179_181.out _; (with_reducible repeat (first | refine bN ?_ _ | refine bD ?_ | refine bA ?_ _)); refine blk_far ?_ NB179_181.out _; (with_reducible repeat (first | refine bN ?_ _ | refine bD ?_ | refine bA ?_ _)); exact BK179.out⟩, ⟨by (with_reducible repeat (first | refine bN ?_ _ | refine bD ?_ | refine bA ?_ _)); refine blk_far ?_ NB180_181.out _; (with_reducible repeat (first | refine bN ?_ _ | refine bD ?_ | refine bA ?_ _)); refine blk_far ?_ NB180_181.out _; (with_reducible repeat (first | refine bN ?_ _ | refine bD ?_ | refine bA ?_ _)); exact BK180.out⟩, ⟨by (with_reducible repeat (first | refine bN ?_ _ | refine bD ?_ | refine bA ?_ _)); refine blk_put (cs := #[.int .u64 0, .int .u64 0]) ?_ 1 _ rfl; (with_reducible repeat (first | refine bN ?_ _ | refine bD ?_ | refine bA ?_ _)); refine blk_put (cs := #[.int .u64 0, .int .u64 0]) ?_ 0 _ rfl; (with_reducible repeat (first | refine bN ?_ _ | refine bD ?_ | refine bA ?_ _)); exact BK181.out⟩, ⟨by repeat (first | (with_reducible first | exact HB.out | apply below_alloc | apply pw_below_drewN | apply below_drew1 | refine below_set ?_ GE179.out | refine below_set ?_ GE180.out | refine below_set ?_ GE181.out) | exact HB.out)⟩⟩
 case round =>
  clear H'
  try clear p2
  try clear c5
  try clear c6
  try clear c7
  try clear hcz8_0
  try clear hcz8_1
  try clear hfz8_0
  try clear hfz8_1
  obtain ⟨x6_1, x182000_1, x182001_1, rfl, HA, HK1, BK179, BK180, BK181, HB⟩ := hrel
  cases gk with
  | zero => exact absurd HA.out (by simp [impl_ghash.l0])
  | succ k1 =>
   have H := HA.out
   clear HA
   simp only [impl_ghash.l0] at H
   by_cases c9 : x6_1 < (a1.size : Int)
   ·rw [if_pos c9] at H
    have c9b0 : decide (x6_1 < (a1.size : Int)) = true := decide_eq_true c9
    clear c9
    by_cases c10 : 0 ≤ x6_1
    ·rw [if_pos c10] at H
     have c10b0 := eq_true c10
     have c10b1 : decide (0 ≤ x6_1) = true := decide_eq_true c10
     clear c10
     by_cases c11 : x6_1 ≤ (wrap64 (x6_1 + 16))
     ·rw [if_pos c11] at H
      have c11b0 := eq_true c11
      have c11b1 : decide (x6_1 ≤ (wrap64 (x6_1 + 16))) = true := decide_eq_true c11
      by_cases c12 : (wrap64 (x6_1 + 16)) ≤ (a1.size : Int)
      ·rw [if_pos c12] at H
       have c12b0 := eq_true c12
       have c12b1 : decide ((wrap64 (x6_1 + 16)) ≤ (a1.size : Int)) = true := decide_eq_true c12
       replace H := Option.bind_eq_some_iff.mp H
       obtain ⟨⟨t182, t183⟩, A130, H⟩ := H
       replace H : ((impl_poly_xor.f x182000_1 x182001_1 t182 t183).bind fun bt184 => ((impl_poly_times.f k1 bt184.1 bt184.2 a0_0 a0_1).bind fun bt186 => (impl_ghash.l0 k1 a1 (wrap64 (x6_1 + 16)) a0_0 a0_1 bt186.1 bt186.2))) = some (r1, r2) := H
       have A13 := Aside0.mk A130
       clear A130
       replace H := Option.bind_eq_some_iff.mp H
       obtain ⟨⟨t184, t185⟩, A140, H⟩ := H
       replace H : ((impl_poly_times.f k1 t184 t185 a0_0 a0_1).bind fun bt186 => (impl_ghash.l0 k1 a1 (wrap64 (x6_1 + 16)) a0_0 a0_1 bt186.1 bt186.2)) = some (r1, r2) := H
       have A14 := Aside0.mk A140
       clear A140
       replace H := Option.bind_eq_some_iff.mp H
       obtain ⟨⟨t186, t187⟩, A150, H⟩ := H
       replace H : (impl_ghash.l0 k1 a1 (wrap64 (x6_1 + 16)) a0_0 a0_1 t186 t187) = some (r1, r2) := H
       have A15 := Aside0.mk A150
       clear A150
       have H' := Aside0.mk H
       clear H
       try go_wp2
       have n0_ := Aside0.mk (blk_drew BK179.out)
       have n1_ := Aside0.mk (blk_drew BK180.out)
       have n2_ := Aside0.mk (blk_drew BK181.out)
       have n3_ := Aside0.mk (below_drew1 HB.out)
       clear BK179
       clear BK180
       clear BK181
       clear HB
       have BK179 := n0_
       have BK180 := n1_
       have BK181 := n2_
       have HB := n3_
       clear n0_ n1_ n2_ n3_
       refine start_ (n := 11) (S := fun w' => w'.cell? ⟨gb181, 0, none⟩ = some (.int .u64 x182000_1) ∧ w'.cell? ⟨gb181, 1, none⟩ = some (.int .u64 x182001_1) ∧ w'.cell? ⟨gb179, 0, none⟩ = some (.int .u64 a0_0) ∧ w'.cell? ⟨gb179, 1, none⟩ = some (.int .u64 a0_1)) (ds := [10]) (bm 11 0) (by kernel_rfl) rfl rfl (cx2 BK181 (cz2 BK179)) (fun hHeld => ?_); refine with_tabW impl_ghash.tab5 impl_ghash.bits5 (fun HT_ HW_ => ?_)
       generalize wr.drew = w16 at BK179 BK180 BK181 HB hHeld ⊢
       refine pure_ (i := 1) (N := some 15) (v := ?_) (a' := ?_) (bm 11 2) rfl rfl (any_of HT_.out (by kernel_rfl)) (fun _ _ _ h => h) (Or.inl ⟨by rfl, ?_⟩) ?_ ?_
       rotate_left
       ·intro w'
        go_simp
        with_reducible rfl
       rotate_left
       ·simp only [Act.put, sA, sZ, sS, i64_w, i32_w]
        rfl
       refine pure_ (i := 2) (N := some 16) (v := ?_) (a' := ?_) (bm 11 6) rfl rfl (any_of HT_.out (by kernel_rfl)) (fun _ _ _ h => h) (Or.inl ⟨by rfl, ?_⟩) ?_ ?_
       rotate_left
       ·intro w'
        go_simp
        with_reducible rfl
       rotate_left
       ·simp only [Act.put, sA, sZ, sS, i64_w, i32_w]
        rfl
       refine pure_ (i := 3) (N := some 17) (v := ?_) (a' := ?_) (bm 11 14) rfl rfl (any_of HT_.out (by kernel_rfl)) (fun _ _ _ h => h) (Or.inl ⟨by rfl, ?_⟩) ?_ ?_
       rotate_left
       ·intro w'
        go_simp
        with_reducible rfl
       rotate_left
       ·simp only [Act.put, sA, sZ, sS, i64_w, i32_w]
        rfl
       refine pure_ (i := 4) (N := some 18) (v := ?_) (a' := ?_) (bm 11 30) rfl rfl (any_of HT_.out (by kernel_rfl)) (fun _ _ _ h => h) (Or.inl ⟨by rfl, ?_⟩) ?_ ?_
       rotate_left
       ·intro w'
        go_simp
        with_reducible rfl
       rotate_left
       ·simp only [Act.put, sA, sZ, sS, i64_w, i32_w]
        rfl
       refine pure_ (i := 5) (N := some 19) (v := ?_) (a' := ?_) (bm 11 62) rfl rfl (any_of HT_.out (by kernel_rfl)) (fun _ _ _ h => h) (Or.inl ⟨by rfl, ?_⟩) ?_ ?_
       rotate_left
       ·intro w'
        go_simp
        with_reducible rfl
       rotate_left
       ·simp only [Act.put, sA, sZ, sS, i64_w, i32_w]
        rfl
       refine take_ (i := 0) (N := some 14) (v := ?_) (a' := ?_) (bm 11 63) rfl rfl (take_ofW HT_.out HW_.out (by kernel_rfl)) (fun _ _ _ h => h) (Or.inl ⟨by rfl, ?_⟩) hHeld ?_ ?_
       rotate_left
       ·rintro w' ⟨s0, s1, s2, s3⟩
        go_simp
        with_reducible rfl
       rotate_left
       ·simp only [Act.put, sA, sZ, sS, i64_w, i32_w]
        rfl
       refine take_ (i := 8) (N := some 22) (v := ?_) (a' := ?_) (bm 11 319) rfl rfl (take_ofW HT_.out HW_.out (by kernel_rfl)) (fun _ _ _ h => h) (Or.inl ⟨by rfl, ?_⟩) hHeld ?_ ?_
       rotate_left
       ·rintro w' ⟨s0, s1, s2, s3⟩
        go_simp
        with_reducible rfl
       rotate_left
       ·simp only [Act.put, sA, sZ, sS, i64_w, i32_w]
        rfl
       refine one_ (i := 6) (N := some 20) (bm 11 383) rfl rfl (one_of HT_.out (by kernel_rfl)) (by decide) (fun K hK => ?_)
       refine goes_ Try.func49 (by kernel_rfl) rfl #[.string (a1.extract (x6_1 : Int).toNat ((wrap64 (x6_1 + 16)) : Int).toNat)] (by rfl) rfl rfl (by (try simp only [List.map_toArray, List.map_cons, List.map_nil]); first | done | rfl | (simp only [List.length_drop, List.length_take]; rfl)) ?_
       with_reducible refine (impl_polyOf.calls k1 (a1.extract (x6_1 : Int).toNat ((wrap64 (x6_1 + 16)) : Int).toNat) t182 t183 _ A13.out).mono ?_
       rintro e w17 ⟨rfl, hb⟩
       refine ⟨_, rfl, ?_⟩
       have n0_ := bX BK179 hb
       have n1_ := bX BK180 hb
       have n2_ := bX BK181 hb
       have n3_ := bS HB hb
       clear BK179
       clear BK180
       clear BK181
       clear HB
       have BK179 := n0_
       have BK180 := n1_
       have BK181 := n2_
       have HB := n3_
       clear n0_ n1_ n2_ n3_
       (try clear hb)
       (try clear hb2)
       (try clear hk)
       (try clear hi)
       refine hK.out _ _ (cx2 BK181 (cz2 BK179)) (fun hHeld => ?_)
       clear hK K
       refine norm_ (a' := ?_) ?_ ?_
       rotate_left
       ·show Act.put _ (some 20) _ = _
        simp only [Act.put, sA, sZ, sS, i64_w, i32_w]
        rfl
       refine one_ (i := 7) (N := some 21) (bm 11 511) rfl rfl (one_of HT_.out (by kernel_rfl)) (by decide) (fun K hK => ?_)
       refine goes_ Try.func68 (by kernel_rfl) rfl #[.agg #[.int .u64 x182000_1, .int .u64 x182001_1], .agg #[.int .u64 t182, .int .u64 t183]] (by rfl) rfl rfl (by (try simp only [List.map_toArray, List.map_cons, List.map_nil]); first | done | rfl | (simp only [List.length_drop, List.length_take]; rfl)) ?_
       with_reducible refine (impl_poly_xor.calls x182000_1 x182001_1 t182 t183 t184 t185 _ A14.out).mono ?_
       rintro e w18 ⟨rfl, hb⟩
       refine ⟨_, rfl, ?_⟩
       have n0_ := bX BK179 hb
       have n1_ := bX BK180 hb
       have n2_ := bX BK181 hb
       have n3_ := bS HB hb
       clear BK179
       clear BK180
       clear BK181
       clear HB
       have BK179 := n0_
       have BK180 := n1_
       have BK181 := n2_
       have HB := n3_
       clear n0_ n1_ n2_ n3_
       (try clear hb)
       (try clear hb2)
       (try clear hk)
       (try clear hi)
       refine hK.out _ _ (cx2 BK181 (cz2 BK179)) (fun hHeld => ?_)
       clear hK K
       refine norm_ (a' := ?_) ?_ ?_
       rotate_left
       ·show Act.put _ (some 21) _ = _
        simp only [Act.put, sA, sZ, sS, i64_w, i32_w]
        rfl
       refine one_ (i := 9) (N := some 23) (bm 11 1023) rfl rfl (one_of HT_.out (by kernel_rfl)) (by decide) (fun K hK => ?_)
       refine goes_ Try.func69 (by kernel_rfl) rfl #[.agg #[.int .u64 t184, .int .u64 t185], .agg #[.int .u64 a0_0, .int .u64 a0_1]] (by rfl) rfl rfl (by (try simp only [List.map_toArray, List.map_cons, List.map_nil]); first | done | rfl | (simp only [List.length_drop, List.length_take]; rfl)) ?_
       with_reducible refine (impl_poly_times.calls k1 t184 t185 a0_0 a0_1 t186 t187 _ A15.out).mono ?_
       rintro e w19 ⟨rfl, hb⟩
       refine ⟨_, rfl, ?_⟩
       have n0_ := bX BK179 hb
       have n1_ := bX BK180 hb
       have n2_ := bX BK181 hb
       have n3_ := bS HB hb
       clear BK179
       clear BK180
       clear BK181
       clear HB
       have BK179 := n0_
       have BK180 := n1_
       have BK181 := n2_
       have HB := n3_
       clear n0_ n1_ n2_ n3_
       (try clear hb)
       (try clear hb2)
       (try clear hk)
       (try clear hi)
       refine hK.out _ _ (cx2 BK181 (cz2 BK179)) (fun hHeld => ?_)
       clear hK K
       refine norm_ (a' := ?_) ?_ ?_
       rotate_left
       ·show Act.put _ (some 23) _ = _
        simp only [Act.put, sA, sZ, sS, i64_w, i32_w]
        rfl
       refine last_ (i := 10) (N := none) (bm 11 2047) rfl rfl (one_of HT_.out (by kernel_rfl)) (by decide) (fun K hK => ?_)
       have hs20 : w19.cell? ⟨gb181, 0, none⟩ = some (.int .u64 x182000_1) := (blk_cell BK181.out 0).trans rfl
       have hfs20 := blk_frozen BK181.out 0
       have hns20_0 := NB179_181.out
       have hns20_1 := NB180_181.out
       have hms20_0 := NB181_179.out
       have hms20_1 := NB181_180.out
       have hs21 : w19.cell? ⟨gb181, 1, none⟩ = some (.int .u64 x182001_1) := (blk_cell BK181.out 1).trans rfl
       have hfs21 := blk_frozen BK181.out 1
       have hns21_0 := NB179_181.out
       have hns21_1 := NB180_181.out
       have hms21_0 := NB181_179.out
       have hms21_1 := NB181_180.out
       refine skip_ (w1 := ?_) (by rfl) rfl ?_ ?_
       rotate_left
       ·go_simp
        rfl
       refine hK.out _ _ ?_
       clear hK K
       refine done_ (done_of HT_.out (by kernel_rfl)) ?_
       try go_wp2
       go_roundg k1
       case measure => have := HK1.out; omega
       case rel => exact ⟨(wrap64 (x6_1 + 16)), (t186), (t187), (by first | rfl | (simp; done) | (simp [*]; done)), H', ⟨by have := HK1.out; omega⟩, ⟨by (with_reducible repeat (first | refine bN ?_ _ | refine bD ?_ | refine bA ?_ _)); refine blk_far ?_ NB179_181.out _; (with_reducible repeat (first | refine bN ?_ _ | refine bD ?_ | refine bA ?_ _)); refine blk_far ?_ NB179_181.out _; (with_reducible repeat (first | refine bN ?_ _ | refine bD ?_ | refine bA ?_ _)); exact BK179.out⟩, ⟨by (with_reducible repeat (first | refine bN ?_ _ | refine bD ?_ | refine bA ?_ _)); refine blk_far ?_ NB180_181.out _; (with_reducible repeat (first | refine bN ?_ _ | refine bD ?_ | refine bA ?_ _)); refine blk_far ?_ NB180_181.out _; (with_reducible repeat (first | refine bN ?_ _ | refine bD ?_ | refine bA ?_ _)); exact BK180.out⟩, ⟨by (with_reducible repeat (first | refine bN ?_ _ | refine bD ?_ | refine bA ?_ _)); refine blk_put (cs := #[.int .u64 t186, .int .u64 x182001_1]) ?_ 1 _ rfl; (with_reducible repeat (first | refine bN ?_ _ | refine bD ?_ | refine bA ?_ _)); refine blk_put (cs := #[.int .u64 x182000_1, .int .u64 x182001_1]) ?_ 0 _ rfl; (with_reducible repeat (first | refine bN ?_ _ | refine bD ?_ | refine bA ?_ _)); exact BK181.out⟩, ⟨by repeat (first | (with_reducible first | exact HB.out | apply below_alloc | apply pw_below_drewN | apply below_drew1 | refine below_set ?_ GE179.out | refine below_set ?_ GE180.out | refine below_set ?_ GE181.out) | exact HB.out)⟩⟩
      ·rw [if_neg c12] at H
       exact absurd H (by simp)
     ·rw [if_neg c11] at H
      exact absurd H (by simp)
    ·rw [if_neg c10] at H
     exact absurd H (by simp)
   ·rw [if_neg c9] at H
    have c9b0 : decide (x6_1 < (a1.size : Int)) = false := decide_eq_false c9
    clear c9
    simp only [Option.some.injEq, Prod.mk.injEq] at H
    obtain ⟨rfl, rfl⟩ := H
    have hnb22 := NB181_179.out
    have hnc22 := NB179_181.out
    have hnb23 := NB181_180.out
    have hnc23 := NB180_181.out
    obtain ⟨hcz24_0, hcz24_1⟩ := cz2 BK181
    obtain ⟨hfz24_0, hfz24_1⟩ := fz2 BK181
    have hnb25 := NB180_179.out
    have hnc25 := NB179_180.out
    obtain ⟨hcz26_0, hcz26_1⟩ := cz2 BK180
    obtain ⟨hfz26_0, hfz26_1⟩ := fz2 BK180
    go_wp2
    refine bodyPost_ret (results_cell_row rfl _ _ gb180 76 #[.int .u64 x182000_1, .int .u64 x182001_1] (0, 0) _ rfl (by (with_reducible repeat (first | refine bN ?_ _ | refine bD ?_ | refine bA ?_ _)); refine blk_put (cs := #[.int .u64 x182000_1, .int .u64 0]) ?_ 1 _ rfl; (with_reducible repeat (first | refine bN ?_ _ | refine bD ?_ | refine bA ?_ _)); refine blk_put (cs := #[.int .u64 0, .int .u64 0]) ?_ 0 _ rfl; (with_reducible repeat (first | refine bN ?_ _ | refine bD ?_ | refine bA ?_ _)); exact BK180.out) Try.underlying76 rfl (by kernel_rfl)) rfl ?_
    exact ⟨by first | rfl | (simp [errW_none, errW_some] <;> rfl) | (simp [*, errW_none, errW_some] <;> rfl), by repeat (first | (with_reducible first | exact HB.out | apply below_alloc | apply pw_below_drewN | apply below_drew1 | refine below_set ?_ GE179.out | refine below_set ?_ GE180.out | refine below_set ?_ GE181.out) | exact HB.out)⟩

-- NOT PRINTED: function 84 (bits_Mul32)

-- NOT PRINTED: function 85 (bits_Mul64)

-- NOT PRINTED: function 78 (bits_Mul)

-- NOT PRINTED: function 86 (stringslite_HasPrefix)

-- NOT PRINTED: function 79 (strings_HasPrefix)

-- NOT PRINTED: function 89 (abi_NoEscape)

-- NOT PRINTED: function 87 (strings_Builder_copyCheck)

-- NOT PRINTED: function 90 (bytealg_MakeNoZero)

-- NOT PRINTED: function 88 (strings_Builder_grow)

-- NOT PRINTED: function 80 (strings_Builder_Grow)

-- NOT PRINTED: function 81 (strings_Builder_WriteString)

-- NOT PRINTED: function 82 (strings_Builder_Len)

-- NOT PRINTED: function 83 (strings_Builder_String)

-- NOT PRINTED: function 70 (strings_Repeat)

-- NOT PRINTED: function 52 (impl_filled)

/-! ### impl_poly_text: function 53 -/
def impl_poly_text.f (k : Nat) (a0_0 : Int) (a0_1 : Int) : Option (ByteArray) := (impl_bigEndian.f k a0_0 8).bind fun t189 => ((impl_bigEndian.f k a0_1 8).bind fun t190 => (if t189.size + t190.size ≤ 9223372036854775807 then (some (t189 ++ t190)) else (none)))
theorem impl_poly_text.mono : ∀ a0 a1 k, LeO (impl_poly_text.f k a0 a1) (impl_poly_text.f (k + 1) a0 a1) := by
 intro a0 a1 k
 unfold impl_poly_text.f
 repeat' first
   | (with_reducible exact impl_bigEndian.mono _ _ _)
   | (with_reducible exact LeO.refl _)
   | (with_reducible exact LeO.none _)
   | (with_reducible refine LeO.ite ?_ ?_)
   | (with_reducible refine LeO.bind ?_ (fun _ => ?_))
   | exact impl_bigEndian.mono _ _ _
   | exact LeO.none _
   | refine LeO.ite ?_ ?_
   | refine LeO.bind ?_ (fun _ => ?_)
def impl_poly_text.T1 : Bool × List (List Nat × List Nat) := (true, [([], []), ([0], [0]), ([1], [1]), ([], []), ([3], [3]), ([4, 2], [4]), ([2, 5], [2, 5]), ([6, 5, 0, 1, 2, 3, 4, 5, 6], [6])])
def impl_poly_text.B1 : List Nat := [0, 1, 3, 0, 8, 31, 63, 127]
theorem impl_poly_text.tab1 : rtab .any (opsOf Try.f53 1) = impl_poly_text.T1 := by kernel_rfl
theorem impl_poly_text.bits1 : waitsOk impl_poly_text.T1.2 impl_poly_text.B1 = true := by kernel_rfl
set_option maxHeartbeats 64000000 in
set_option maxRecDepth 100000 in
theorem impl_poly_text.calls (k : Nat) (a0_0 : Int) (a0_1 : Int) (r : ByteArray) (w : World) (h : impl_poly_text.f k a0_0 a0_1 = some r) :
  Calls Try.prog 53 #[.agg #[.int .u64 a0_0, .int .u64 a0_1]] w fun e w' => e = .returned (.string r) ∧ Below w.heap.size w w' := by
 have hu76 := Try.underlying76
 have HB := Aside0.mk (Below.refl w.heap.size w)
 have H : ((impl_bigEndian.f k a0_0 8).bind fun t189 => ((impl_bigEndian.f k a0_1 8).bind fun t190 => (if t189.size + t190.size ≤ 9223372036854775807 then (some (t189 ++ t190)) else (none)))) = some r := h
 clear h
 replace H := Option.bind_eq_some_iff.mp H
 obtain ⟨t189, A20, H⟩ := H
 replace H : ((impl_bigEndian.f k a0_1 8).bind fun t190 => (if t189.size + t190.size ≤ 9223372036854775807 then (some (t189 ++ t190)) else (none))) = some r := H
 have A2 := Aside0.mk A20
 clear A20
 replace H := Option.bind_eq_some_iff.mp H
 obtain ⟨t190, A30, H⟩ := H
 replace H : (if t189.size + t190.size ≤ 9223372036854775807 then (some (t189 ++ t190)) else (none)) = some r := H
 have A3 := Aside0.mk A30
 clear A30
 by_cases c4 : t189.size + t190.size ≤ 9223372036854775807
 ·rw [if_pos c4] at H
  have c4b0 := eq_true c4
  have c4b1 : decide (t189.size + t190.size ≤ 9223372036854775807) = true := decide_eq_true c4
  try have c4b2 : (9223372036854775807 < t189.size + t190.size) = False := eq_false (Nat.not_lt.2 c4)
  obtain rfl := Option.some.inj H
  go_enter Try.func53, Try.ntmps53
  try go_wp2_with (first | ((with_reducible refine gate_dst (N := 1) rfl ?_); refine box_event ?hg (N := 1) ?hd (cs := #[.int .u64 a0_0, .int .u64 a0_1]) (t := 76) ?hr ?_; (case hd => rfl); (case hg => rfl); (case hr => first | (go_simp; done) | (go_simp; rfl)); intro gb188 hg w5 hbox hb; have n0_ := bS HB hb; have n1_ := Aside0.mk (hbox); have n2_ := Aside0.mk ((by rw [hg]; exact (below_size (by repeat (first | (with_reducible first | exact HB.out | apply below_alloc | apply pw_below_drewN | apply below_drew1) | exact HB.out))) : w.heap.size ≤ gb188)); have n3_ := n2_; clear HB; have HB := n0_; have BK188 := n1_; have GW188 := n2_; have GE188 := n3_; clear n0_ n1_ n2_ n3_; clear hb hbox hg))
  have n0_ := Aside0.mk (blk_drew BK188.out)
  have n1_ := Aside0.mk (below_drew1 HB.out)
  clear BK188
  clear HB
  have BK188 := n0_
  have HB := n1_
  clear n0_ n1_
  refine start_ (n := 8) (S := fun w' => w'.cell? ⟨gb188, 0, none⟩ = some (.int .u64 a0_0) ∧ w'.cell? ⟨gb188, 1, none⟩ = some (.int .u64 a0_1)) (ds := []) (bm 8 0) (by kernel_rfl) rfl rfl (cz2 BK188) (fun hHeld => ?_); refine with_tabW impl_poly_text.tab1 impl_poly_text.bits1 (fun HT_ HW_ => ?_)
  generalize w5.drew = w6 at BK188 HB hHeld ⊢
  refine pure_ (i := 0) (N := some 3) (v := ?_) (a' := ?_) (bm 8 1) rfl rfl (any_of HT_.out (by kernel_rfl)) (fun _ _ _ h => h) (Or.inl ⟨by rfl, ?_⟩) ?_ ?_
  rotate_left
  ·intro w'
   go_simp
   with_reducible rfl
  rotate_left
  ·simp only [Act.put, sA, sZ, sS, i64_w, i32_w]
   rfl
  refine pure_ (i := 3) (N := some 6) (v := ?_) (a' := ?_) (bm 8 9) rfl rfl (any_of HT_.out (by kernel_rfl)) (fun _ _ _ h => h) (Or.inl ⟨by rfl, ?_⟩) ?_ ?_
  rotate_left
  ·intro w'
   go_simp
   with_reducible rfl
  rotate_left
  ·simp only [Act.put, sA, sZ, sS, i64_w, i32_w]
   rfl
  refine take_ (i := 1) (N := some 4) (v := ?_) (a' := ?_) (bm 8 11) rfl rfl (take_ofW HT_.out HW_.out (by kernel_rfl)) (fun _ _ _ h => h) (Or.inl ⟨by rfl, ?_⟩) hHeld ?_ ?_
  rotate_left
  ·rintro w' ⟨s0, s1⟩
   go_simp
   with_reducible rfl
  rotate_left
  ·simp only [Act.put, sA, sZ, sS, i64_w, i32_w]
   rfl
  refine take_ (i := 4) (N := some 7) (v := ?_) (a' := ?_) (bm 8 27) rfl rfl (take_ofW HT_.out HW_.out (by kernel_rfl)) (fun _ _ _ h => h) (Or.inl ⟨by rfl, ?_⟩) hHeld ?_ ?_
  rotate_left
  ·rintro w' ⟨s0, s1⟩
   go_simp
   with_reducible rfl
  rotate_left
  ·simp only [Act.put, sA, sZ, sS, i64_w, i32_w]
   rfl
  refine one_ (i := 2) (N := some 5) (bm 8 31) rfl rfl (one_of HT_.out (by kernel_rfl)) (by decide) (fun K hK => ?_)
  refine goes_ Try.func22 (by kernel_rfl) rfl #[.int .u64 a0_0, .int .i64 8] (by rfl) rfl rfl (by (try simp only [List.map_toArray, List.map_cons, List.map_nil]); first | done | rfl | (simp only [List.length_drop, List.length_take]; rfl)) ?_
  with_reducible refine (impl_bigEndian.calls k a0_0 8 t189 _ A2.out).mono ?_
  rintro e w7 ⟨rfl, hb⟩
  refine ⟨_, rfl, ?_⟩
  have n0_ := bX BK188 hb
  have n1_ := bS HB hb
  clear BK188
  clear HB
  have BK188 := n0_
  have HB := n1_
  clear n0_ n1_
  (try clear hb)
  (try clear hb2)
  (try clear hk)
  (try clear hi)
  refine hK.out _ _ (cz2 BK188) (fun hHeld => ?_)
  clear hK K
  refine norm_ (a' := ?_) ?_ ?_
  rotate_left
  ·show Act.put _ (some 5) _ = _
   simp only [Act.put, sA, sZ, sS, i64_w, i32_w]
   rfl
  refine one_ (i := 5) (N := some 8) (bm 8 63) rfl rfl (one_of HT_.out (by kernel_rfl)) (by decide) (fun K hK => ?_)
  refine goes_ Try.func22 (by kernel_rfl) rfl #[.int .u64 a0_1, .int .i64 8] (by rfl) rfl rfl (by (try simp only [List.map_toArray, List.map_cons, List.map_nil]); first | done | rfl | (simp only [List.length_drop, List.length_take]; rfl)) ?_
  with_reducible refine (impl_bigEndian.calls k a0_1 8 t190 _ A3.out).mono ?_
  rintro e w8 ⟨rfl, hb⟩
  refine ⟨_, rfl, ?_⟩
  have n0_ := bX BK188 hb
  have n1_ := bS HB hb
  clear BK188
  clear HB
  have BK188 := n0_
  have HB := n1_
  clear n0_ n1_
  (try clear hb)
  (try clear hb2)
  (try clear hk)
  (try clear hi)
  refine hK.out _ _ (cz2 BK188) (fun hHeld => ?_)
  clear hK K
  refine norm_ (a' := ?_) ?_ ?_
  rotate_left
  ·show Act.put _ (some 8) _ = _
   simp only [Act.put, sA, sZ, sS, i64_w, i32_w]
   rfl
  refine pure_ (i := 6) (N := some 9) (v := ?_) (a' := ?_) (bm 8 127) rfl rfl (any_of HT_.out (by kernel_rfl)) (fun _ _ _ h => h) (Or.inl ⟨by rfl, ?_⟩) ?_ ?_
  rotate_left
  ·intro w'
   go_simp
   with_reducible rfl
  rotate_left
  ·simp only [Act.put, sA, sZ, sS, i64_w, i32_w]
   rfl
  refine pure_ (i := 7) (N := some 2) (v := ?_) (a' := ?_) (bm 8 255) rfl rfl (any_of HT_.out (by kernel_rfl)) (fun _ _ _ h => h) (Or.inl ⟨by rfl, ?_⟩) ?_ ?_
  rotate_left
  ·intro w'
   go_simp
   with_reducible rfl
  rotate_left
  ·simp only [Act.put, sA, sZ, sS, i64_w, i32_w]
   rfl
  refine done_ (done_of HT_.out (by kernel_rfl)) ?_
  try go_wp2
  go_ret
  exact ⟨by first | rfl | (simp [errW_none, errW_some] <;> rfl) | (simp [*, errW_none, errW_some] <;> rfl), by repeat (first | (with_reducible first | exact HB.out | apply below_alloc | apply pw_below_drewN | apply below_drew1 | refine below_set ?_ GE188.out) | exact HB.out)⟩
 ·rw [if_neg c4] at H
  exact absurd H (by simp)

-- NOT PRINTED: function 54 (impl_xored)

-- NOT PRINTED: function 36 (impl_cipher_tag)

-- NOT PRINTED: function 21 (impl_SealText)

-- NOT PRINTED: function 8 (impl_MintToken)

-- NOT PRINTED: function 3 (laws_FnExactMintToken)

end Go.Proofs.Ytkcdhphhacjkhaa.B
