-- Written by a program of this session (wip/xprint.py).
import Derived.Test.YtpdoplkiaejpiaaPFnExactFramesBytesx0
import Derived.Test.YtpdoplkiaejpiaaPFnExactFramesBytesx1
import Derived.Test.YtpdoplkiaejpiaaPFnExactFramesBytesx2
namespace Go.Proofs.Ytpdoplkiaejpiaa.PFnExactFramesBytes
open Go.RowKit Go.Proofs.YtpdoplkiaejpiaaW.PrintWords Go.Proofs.YtpdoplkiaejpiaaW.PrintLast Go.Proofs.YtpdoplkiaejpiaaW.PrintMore
open Go.Proofs.Ytpdoplkiaejpiaa.ShortK (bN bD bA sA sZ sS mR mB bX bLt bS cz2 fz2 cx2 cz3 fz3 cx3 cz4 fz4 cx4 cz5 fz5 cx5 cz6 fz6 cx6 cz7 fz7 cx7 cz8 fz8 cx8 cz9 fz9 cx9 cz10 fz10 cx10 cz11 fz11 cx11 cz12 fz12 cx12)
attribute [local go_sem] Go.Proofs.Ytpdoplkiaejpiaa.StoreK.isSome_setCell max2_int min2_int max_two min_two max_three min_three max_four min_four   -- for this text's walks alone
set_option linter.unusedVariables false
set_option linter.unusedSimpArgs false

/-! ### spec_FramesBytes: function 28 -/
open Go.Proofs.Ytpdoplkiaejpiaa.QuietK Go.Proofs.Ytpdoplkiaejpiaa.FrK

/-! ### spec_l1Ranges: function 92 -/
mutual
def spec_l1Ranges.l0 : Nat → List (S92) → List (S92) → Int → Int → Option (Bool)
 | 0, _, _, _, _ => none
 | k + 1, x0, x5, x6, x7 => if x7 < x6 then (if 0 ≤ x7 then (if x7 < (x5.length : Int) then ((spec_l1In.f ((rd_T92 x5 x7).f0) 0 ((rd_T92 x5 x7).f1)).bind fun t106 => (if t106 = true then ((spec_l1Known.f ((rd_T92 x5 x7).f1)).bind fun t107 => (if t107 = true then (if x7 > 0 then (if 0 ≤ (wrap64 (x7 - 1)) then (if (wrap64 (x7 - 1)) < (x0.length : Int) then (spec_l1Ranges.j1 k x0 x5 x6 x7 (decide (((rd_T92 x5 x7).f1) > (wrap64 (((rd_T92 x0 (wrap64 (x7 - 1))).f0) - 2))))) else (none)) else (none)) else (spec_l1Ranges.j1 k x0 x5 x6 x7 false)) else (spec_l1Ranges.j1 k x0 x5 x6 x7 true))) else (spec_l1Ranges.j1 k x0 x5 x6 x7 true))) else (none)) else (none)) else ((spec_l1In.f (x0.length : Int) 1 20).bind fun t109 => (some t109))
def spec_l1Ranges.j1 : Nat → List (S92) → List (S92) → Int → Int → Bool → Option (Bool)
 | 0, _, _, _, _, _ => none
 | k + 1, x0, x5, x6, x7, x39 => if x39 = true then (some false) else (spec_l1Ranges.l0 k x0 x5 x6 (wrap64 (x7 + 1)))
end
def spec_l1Ranges.f (k : Nat) (l0 : List (S92)) : Option (Bool) := spec_l1Ranges.l0 k l0 l0 (l0.length : Int) 0
theorem spec_l1Ranges.mono_l : ∀ k, (∀ y0 y1 y2 y3, LeO (spec_l1Ranges.l0 k y0 y1 y2 y3) (spec_l1Ranges.l0 (k + 1) y0 y1 y2 y3)) ∧ (∀ y0 y1 y2 y3 y4, LeO (spec_l1Ranges.j1 k y0 y1 y2 y3 y4) (spec_l1Ranges.j1 (k + 1) y0 y1 y2 y3 y4))
 | 0 => ⟨fun _ _ _ _ r h => by simp [spec_l1Ranges.l0] at h, fun _ _ _ _ _ r h => by simp [spec_l1Ranges.j1] at h⟩
 | k + 1 => by
  obtain ⟨ih0, ih1⟩ := spec_l1Ranges.mono_l k
  refine ⟨?_, ?_⟩
  ·intro y0 y1 y2 y3
   unfold spec_l1Ranges.l0
   repeat' first
   | (with_reducible exact ih0 _ _ _ _)
   | (with_reducible exact ih1 _ _ _ _ _)
   | (with_reducible exact LeO.refl _)
   | (with_reducible exact LeO.none _)
   | (with_reducible refine LeO.ite ?_ ?_)
   | (with_reducible refine LeO.bind ?_ (fun _ => ?_))
   | exact ih0 _ _ _ _
   | exact ih1 _ _ _ _ _
   | exact LeO.none _
   | refine LeO.ite ?_ ?_
   | refine LeO.bind ?_ (fun _ => ?_)
  ·intro y0 y1 y2 y3 y4
   unfold spec_l1Ranges.j1
   repeat' first
   | (with_reducible exact ih0 _ _ _ _)
   | (with_reducible exact ih1 _ _ _ _ _)
   | (with_reducible exact LeO.refl _)
   | (with_reducible exact LeO.none _)
   | (with_reducible refine LeO.ite ?_ ?_)
   | (with_reducible refine LeO.bind ?_ (fun _ => ?_))
   | exact ih0 _ _ _ _
   | exact ih1 _ _ _ _ _
   | exact LeO.none _
   | refine LeO.ite ?_ ?_
   | refine LeO.bind ?_ (fun _ => ?_)
theorem spec_l1Ranges.mono : ∀ a0 k, LeO (spec_l1Ranges.f k a0) (spec_l1Ranges.f (k + 1) a0) := by
 intro a0 k
 obtain ⟨ih0, ih1⟩ := spec_l1Ranges.mono_l k
 unfold spec_l1Ranges.f
 repeat' first
   | (with_reducible exact ih0 _ _ _ _)
   | (with_reducible exact ih1 _ _ _ _ _)
   | (with_reducible exact LeO.refl _)
   | (with_reducible exact LeO.none _)
   | (with_reducible refine LeO.ite ?_ ?_)
   | (with_reducible refine LeO.bind ?_ (fun _ => ?_))
   | exact ih0 _ _ _ _
   | exact ih1 _ _ _ _ _
   | exact LeO.none _
   | refine LeO.ite ?_ ?_
   | refine LeO.bind ?_ (fun _ => ?_)
set_option maxHeartbeats 64000000 in
set_option maxRecDepth 100000 in
theorem spec_l1Ranges.calls (k : Nat) (A0 : Option Addr) (c0 : Nat) (l0 : List (S92)) (r : Bool) (w : World) (hr0 : Kd.C k92 w A0 l0.length l0) (hc0 : l0.length ≤ c0) (h : spec_l1Ranges.f k l0 = some r) :
  Calls Try.prog 92 #[.slice A0 l0.length c0] w fun e w' => e = .returned (.bool r) ∧ Below w.heap.size w w' := by
 have hu92 := Try.underlying92
 have HR0 := Aside0.mk hr0
 have HC0 := Aside0.mk hc0
 clear hr0 hc0
 have HB := Aside0.mk (Below.refl w.heap.size w)
 have H : (spec_l1Ranges.l0 k l0 l0 (l0.length : Int) 0) = some r := h
 clear h
 have H' := Aside0.mk H
 clear H
 go_enter Try.func92, Try.ntmps92
 go_wp2
 repeat (go_quiet (fail); try go_wp2)
 go_loopg [7] k (fun kq v7 w' => ∃ (x7_1 : Int), v7 = .int .i64 x7_1 ∧ Aside0 (spec_l1Ranges.l0 kq l0 l0 (l0.length : Int) x7_1 = some r) ∧ Aside0 (kq ≤ k) ∧ Aside0 (Below w.heap.size w w'))
 case atStart => exact ⟨(0), (by first | rfl | (simp; done) | (simp [*]; done)), H', ⟨Nat.le_refl _⟩, ⟨by repeat (first | (with_reducible first | exact HB.out | apply below_alloc | apply pw_below_drewN | apply below_drew1) | exact HB.out)⟩⟩
 case round =>
  clear H'
  obtain ⟨x7_1, rfl, HA, HK1, HB⟩ := hrel
  cases gk with
  | zero => exact absurd HA.out (by simp [spec_l1Ranges.l0])
  | succ k1 =>
   have H := HA.out
   clear HA
   simp only [spec_l1Ranges.l0] at H
   by_cases c2 : x7_1 < (l0.length : Int)
   ·rw [if_pos c2] at H
    have c2b0 : decide (x7_1 < (l0.length : Int)) = true := decide_eq_true c2
    clear c2
    by_cases c3 : 0 ≤ x7_1
    ·rw [if_pos c3] at H
     have c3b0 : decide (0 ≤ x7_1) = true := decide_eq_true c3
     clear c3
     by_cases c4 : x7_1 < (l0.length : Int)
     ·rw [if_pos c4] at H
      have c4b0 : decide (x7_1 < (l0.length : Int)) = true := decide_eq_true c4
      clear c4
      have HC5 := Aside0.mk H
      clear H
      have p104 : 0 ≤ (x7_1 : Int) := of_decide_eq_true (by first | (with_reducible assumption) | assumption)
      have q104 : x7_1 < (l0.length : Int) := of_decide_eq_true (by first | (with_reducible assumption) | assumption)
      obtain ⟨ad104, e104, hx104_0, hx104_1⟩ := at_T92 HR0.out x7_1 p104 q104
      cases e104
      replace hx104_0 := (HB.out.cell (World.block_lt_of_cell? w _ hx104_0)).trans hx104_0
      replace hx104_1 := (HB.out.cell (World.block_lt_of_cell? w _ hx104_1)).trans hx104_1
      replace p104 := eq_true p104
      replace q104 := eq_true q104
      go_upto_region 4 with (first | ((with_reducible refine gate_dst (N := 4) rfl ?_); refine box_event ?hg (N := 4) ?hd (cs := #[.int .i64 0, .int .i64 0]) (t := 92) ?hr ?_; (case hd => rfl); (case hg => rfl); (case hr => first | (go_simp; done) | (go_simp; rfl)); intro gb105 hg w6 hbox hb; have n0_ := bS HB hb; have n1_ := Aside0.mk (hbox); have n2_ := Aside0.mk ((by rw [hg]; exact (below_size (by repeat (first | (with_reducible first | exact HB.out | apply below_alloc | apply pw_below_drewN | apply below_drew1) | exact HB.out))) : w.heap.size ≤ gb105)); have n3_ := n2_; clear HB; have HB := n0_; have BK105 := n1_; have GW105 := n2_; have GE105 := n3_; clear n0_ n1_ n2_ n3_; clear hb hbox hg; obtain ⟨hcz7_0, hcz7_1⟩ := cz2 BK105; obtain ⟨hfz7_0, hfz7_1⟩ := fz2 BK105))
      repeat (go_quiet (first | ((with_reducible refine gate_dst (N := 4) rfl ?_); refine box_event ?hg (N := 4) ?hd (cs := #[.int .i64 0, .int .i64 0]) (t := 92) ?hr ?_; (case hd => rfl); (case hg => rfl); (case hr => first | (go_simp; done) | (go_simp; rfl)); intro gb105 hg w6 hbox hb; have n0_ := bS HB hb; have n1_ := Aside0.mk (hbox); have n2_ := Aside0.mk ((by rw [hg]; exact (below_size (by repeat (first | (with_reducible first | exact HB.out | apply below_alloc | apply pw_below_drewN | apply below_drew1) | exact HB.out))) : w.heap.size ≤ gb105)); have n3_ := n2_; clear HB; have HB := n0_; have BK105 := n1_; have GW105 := n2_; have GE105 := n3_; clear n0_ n1_ n2_ n3_; clear hb hbox hg; obtain ⟨hcz7_0, hcz7_1⟩ := cz2 BK105; obtain ⟨hfz7_0, hfz7_1⟩ := fz2 BK105)); go_upto_region 4 with (first | ((with_reducible refine gate_dst (N := 4) rfl ?_); refine box_event ?hg (N := 4) ?hd (cs := #[.int .i64 0, .int .i64 0]) (t := 92) ?hr ?_; (case hd => rfl); (case hg => rfl); (case hr => first | (go_simp; done) | (go_simp; rfl)); intro gb105 hg w6 hbox hb; have n0_ := bS HB hb; have n1_ := Aside0.mk (hbox); have n2_ := Aside0.mk ((by rw [hg]; exact (below_size (by repeat (first | (with_reducible first | exact HB.out | apply below_alloc | apply pw_below_drewN | apply below_drew1) | exact HB.out))) : w.heap.size ≤ gb105)); have n3_ := n2_; clear HB; have HB := n0_; have BK105 := n1_; have GW105 := n2_; have GE105 := n3_; clear n0_ n1_ n2_ n3_; clear hb hbox hg; obtain ⟨hcz7_0, hcz7_1⟩ := cz2 BK105; obtain ⟨hfz7_0, hfz7_1⟩ := fz2 BK105)))
      (try simp only [Act.put, sA, sZ, sS])
      go_cut [39] (fun v39 wc => ∃ (kq : Nat) (x39_4 : Bool), v39 = .bool x39_4 ∧ Aside0 (spec_l1Ranges.j1 kq l0 l0 (l0.length : Int) x7_1 x39_4 = some r) ∧ Aside0 (kq ≤ k1) ∧ Aside0 (wc.heap[gb105]? = some (.cells #[.int .i64 ((rd_T92 l0 x7_1).f0), .int .i64 ((rd_T92 l0 x7_1).f1)] 92 (0, 0))) ∧ Aside0 (Below w.heap.size w wc))
      case first =>
       have H := HC5.out
       clear HC5
       replace H := Option.bind_eq_some_iff.mp H
       obtain ⟨t106, A80, H⟩ := H
       replace H : (if t106 = true then ((spec_l1Known.f ((rd_T92 l0 x7_1).f1)).bind fun t107 => (if t107 = true then (if x7_1 > 0 then (if 0 ≤ (wrap64 (x7_1 - 1)) then (if (wrap64 (x7_1 - 1)) < (l0.length : Int) then (spec_l1Ranges.j1 k1 l0 l0 (l0.length : Int) x7_1 (decide (((rd_T92 l0 x7_1).f1) > (wrap64 (((rd_T92 l0 (wrap64 (x7_1 - 1))).f0) - 2))))) else (none)) else (none)) else (spec_l1Ranges.j1 k1 l0 l0 (l0.length : Int) x7_1 false)) else (spec_l1Ranges.j1 k1 l0 l0 (l0.length : Int) x7_1 true))) else (spec_l1Ranges.j1 k1 l0 l0 (l0.length : Int) x7_1 true)) = some r := H
       have A8 := Aside0.mk A80
       clear A80
       by_cases c9 : t106 = true
       ·subst c9
        have H1 : ((spec_l1Known.f ((rd_T92 l0 x7_1).f1)).bind fun t107 => (if t107 = true then (if x7_1 > 0 then (if 0 ≤ (wrap64 (x7_1 - 1)) then (if (wrap64 (x7_1 - 1)) < (l0.length : Int) then (spec_l1Ranges.j1 k1 l0 l0 (l0.length : Int) x7_1 (decide (((rd_T92 l0 x7_1).f1) > (wrap64 (((rd_T92 l0 (wrap64 (x7_1 - 1))).f0) - 2))))) else (none)) else (none)) else (spec_l1Ranges.j1 k1 l0 l0 (l0.length : Int) x7_1 false)) else (spec_l1Ranges.j1 k1 l0 l0 (l0.length : Int) x7_1 true))) = some r := by rw [if_pos rfl] at H; exact H
        clear H
        have H := H1
        clear H1
        replace H := Option.bind_eq_some_iff.mp H
        obtain ⟨t107, A100, H⟩ := H
        replace H : (if t107 = true then (if x7_1 > 0 then (if 0 ≤ (wrap64 (x7_1 - 1)) then (if (wrap64 (x7_1 - 1)) < (l0.length : Int) then (spec_l1Ranges.j1 k1 l0 l0 (l0.length : Int) x7_1 (decide (((rd_T92 l0 x7_1).f1) > (wrap64 (((rd_T92 l0 (wrap64 (x7_1 - 1))).f0) - 2))))) else (none)) else (none)) else (spec_l1Ranges.j1 k1 l0 l0 (l0.length : Int) x7_1 false)) else (spec_l1Ranges.j1 k1 l0 l0 (l0.length : Int) x7_1 true)) = some r := H
        have A10 := Aside0.mk A100
        clear A100
        by_cases c11 : t107 = true
        ·subst c11
         have H1 : (if x7_1 > 0 then (if 0 ≤ (wrap64 (x7_1 - 1)) then (if (wrap64 (x7_1 - 1)) < (l0.length : Int) then (spec_l1Ranges.j1 k1 l0 l0 (l0.length : Int) x7_1 (decide (((rd_T92 l0 x7_1).f1) > (wrap64 (((rd_T92 l0 (wrap64 (x7_1 - 1))).f0) - 2))))) else (none)) else (none)) else (spec_l1Ranges.j1 k1 l0 l0 (l0.length : Int) x7_1 false)) = some r := by rw [if_pos rfl] at H; exact H
         clear H
         have H := H1
         clear H1
         by_cases c12 : x7_1 > 0
         ·rw [if_pos c12] at H
          have c12b0 : decide (0 < x7_1) = true := decide_eq_true c12
          clear c12
          (first | rw [c12b0] | (simp only [i64_w, i32_w]; rw [c12b0]) | skip)
          obtain ⟨ji13, hji13⟩ : ∃ j_ : Int, (wrap64 (x7_1 - 1)) = j_ := ⟨_, rfl⟩
          replace H : (if 0 ≤ (ji13) then (if (ji13) < (l0.length : Int) then (spec_l1Ranges.j1 k1 l0 l0 (l0.length : Int) x7_1 (decide (((rd_T92 l0 x7_1).f1) > (wrap64 (((rd_T92 l0 (ji13)).f0) - 2))))) else (none)) else (none)) = some r := by first | (rw [hji13] at H; exact H) | (simp only [hji13] at H ⊢; exact H)
          (try rw [hji13] at A8)
          (try rw [hji13] at A10)
          have hji13w : (IntKind.i64.wrap (x7_1 - 1)) = ji13 := (i64_w _).trans hji13
          by_cases c14 : 0 ≤ (ji13)
          ·rw [if_pos c14] at H
           have c14b0 : decide (0 ≤ (ji13)) = true := decide_eq_true c14
           clear c14
           by_cases c15 : (ji13) < (l0.length : Int)
           ·rw [if_pos c15] at H
            have c15b0 : decide ((ji13) < (l0.length : Int)) = true := decide_eq_true c15
            clear c15
            have H' := Aside0.mk H
            clear H
            obtain ⟨hcz16_0, hcz16_1⟩ := cz2 BK105
            obtain ⟨hfz16_0, hfz16_1⟩ := fz2 BK105
            go_wp2_with (first | (go_at_call 71; (with_reducible refine (spec_l1In.calls ((rd_T92 l0 x7_1).f0) 0 ((rd_T92 l0 x7_1).f1) true _ A8.out).mono ?_); rintro e w' ⟨rfl, ⟨nd, rfl⟩⟩; (try first | exact ⟨rfl, _, World.drewN_drewN _ _ _⟩ | exact ⟨rfl, _, Eq.trans (World.drewN_drewN _ _ _) (congrArg (World.drewN _) (Nat.add_assoc _ _ _))⟩)) | (go_at_call 78; (with_reducible refine (spec_l1Known.calls ((rd_T92 l0 x7_1).f1) true _ A10.out).mono ?_); rintro e w' ⟨rfl, ⟨nd, rfl⟩⟩; (try first | exact ⟨rfl, _, World.drewN_drewN _ _ _⟩ | exact ⟨rfl, _, Eq.trans (World.drewN_drewN _ _ _) (congrArg (World.drewN _) (Nat.add_assoc _ _ _))⟩); have p108 : 0 ≤ ((ji13) : Int) := of_decide_eq_true (by first | (with_reducible assumption) | assumption); have q108 : (ji13) < (l0.length : Int) := of_decide_eq_true (by first | (with_reducible assumption) | assumption); obtain ⟨ad108, e108, hx108_0, hx108_1⟩ := at_T92 HR0.out (ji13) p108 q108; obtain rfl : ad104 = ad108 := (by injection e108); have hn108_0 : ad104.block ≠ gb105 := Nat.ne_of_lt (Nat.lt_of_lt_of_le (by have := World.block_lt_of_cell? _ _ hx108_0; first | rwa [add_block] at this | exact this) GW105.out); have hn108_1 : ad104.block ≠ gb105 := Nat.ne_of_lt (Nat.lt_of_lt_of_le (by have := World.block_lt_of_cell? _ _ hx108_0; first | rwa [add_block] at this | exact this) GW105.out); replace hx108_0 := (HB.out.cell (World.block_lt_of_cell? w _ hx108_0)).trans hx108_0; replace hx108_1 := (HB.out.cell (World.block_lt_of_cell? w _ hx108_1)).trans hx108_1; replace hx108_0 := (cell_far (p := ⟨gb105, 0, none⟩) (by first | (rw [add_block]; exact hn108_0) | (show (Addr.add _ _).block ≠ _; rw [add_block]; exact hn108_0) | exact hn108_0) (.int .i64 ((rd_T92 l0 x7_1).f0))).trans hx108_0; replace hx108_1 := (cell_far (p := ⟨gb105, 0, none⟩) (by first | (rw [add_block]; exact hn108_0) | (show (Addr.add _ _).block ≠ _; rw [add_block]; exact hn108_0) | exact hn108_0) (.int .i64 ((rd_T92 l0 x7_1).f0))).trans hx108_1; replace hx108_0 := (cell_far (p := ⟨gb105, 1, none⟩) (by first | (rw [add_block]; exact hn108_1) | (show (Addr.add _ _).block ≠ _; rw [add_block]; exact hn108_1) | exact hn108_1) (.int .i64 ((rd_T92 l0 x7_1).f1))).trans hx108_0; replace hx108_1 := (cell_far (p := ⟨gb105, 1, none⟩) (by first | (rw [add_block]; exact hn108_1) | (show (Addr.add _ _).block ≠ _; rw [add_block]; exact hn108_1) | exact hn108_1) (.int .i64 ((rd_T92 l0 x7_1).f1))).trans hx108_1; (try have hy108_0 := fun (n_ : Nat) => (show ((((w6.drewN n_).setCell ⟨gb105, 0, none⟩ (.int .i64 ((rd_T92 l0 x7_1).f0))).setCell ⟨gb105, 1, none⟩ (.int .i64 ((rd_T92 l0 x7_1).f1)))).cell? _ = some _ from hx108_0)); (try have hy108_1 := fun (n_ : Nat) => (show ((((w6.drewN n_).setCell ⟨gb105, 0, none⟩ (.int .i64 ((rd_T92 l0 x7_1).f0))).setCell ⟨gb105, 1, none⟩ (.int .i64 ((rd_T92 l0 x7_1).f1)))).cell? _ = some _ from hx108_1)); clear hn108_0; clear hn108_1; replace p108 := eq_true p108; replace q108 := eq_true q108))
            repeat (go_quiet (first | (go_at_call 71; (with_reducible refine (spec_l1In.calls ((rd_T92 l0 x7_1).f0) 0 ((rd_T92 l0 x7_1).f1) true _ A8.out).mono ?_); rintro e w' ⟨rfl, ⟨nd, rfl⟩⟩; (try first | exact ⟨rfl, _, World.drewN_drewN _ _ _⟩ | exact ⟨rfl, _, Eq.trans (World.drewN_drewN _ _ _) (congrArg (World.drewN _) (Nat.add_assoc _ _ _))⟩)) | (go_at_call 78; (with_reducible refine (spec_l1Known.calls ((rd_T92 l0 x7_1).f1) true _ A10.out).mono ?_); rintro e w' ⟨rfl, ⟨nd, rfl⟩⟩; (try first | exact ⟨rfl, _, World.drewN_drewN _ _ _⟩ | exact ⟨rfl, _, Eq.trans (World.drewN_drewN _ _ _) (congrArg (World.drewN _) (Nat.add_assoc _ _ _))⟩); have p108 : 0 ≤ ((ji13) : Int) := of_decide_eq_true (by first | (with_reducible assumption) | assumption); have q108 : (ji13) < (l0.length : Int) := of_decide_eq_true (by first | (with_reducible assumption) | assumption); obtain ⟨ad108, e108, hx108_0, hx108_1⟩ := at_T92 HR0.out (ji13) p108 q108; obtain rfl : ad104 = ad108 := (by injection e108); have hn108_0 : ad104.block ≠ gb105 := Nat.ne_of_lt (Nat.lt_of_lt_of_le (by have := World.block_lt_of_cell? _ _ hx108_0; first | rwa [add_block] at this | exact this) GW105.out); have hn108_1 : ad104.block ≠ gb105 := Nat.ne_of_lt (Nat.lt_of_lt_of_le (by have := World.block_lt_of_cell? _ _ hx108_0; first | rwa [add_block] at this | exact this) GW105.out); replace hx108_0 := (HB.out.cell (World.block_lt_of_cell? w _ hx108_0)).trans hx108_0; replace hx108_1 := (HB.out.cell (World.block_lt_of_cell? w _ hx108_1)).trans hx108_1; replace hx108_0 := (cell_far (p := ⟨gb105, 0, none⟩) (by first | (rw [add_block]; exact hn108_0) | (show (Addr.add _ _).block ≠ _; rw [add_block]; exact hn108_0) | exact hn108_0) (.int .i64 ((rd_T92 l0 x7_1).f0))).trans hx108_0; replace hx108_1 := (cell_far (p := ⟨gb105, 0, none⟩) (by first | (rw [add_block]; exact hn108_0) | (show (Addr.add _ _).block ≠ _; rw [add_block]; exact hn108_0) | exact hn108_0) (.int .i64 ((rd_T92 l0 x7_1).f0))).trans hx108_1; replace hx108_0 := (cell_far (p := ⟨gb105, 1, none⟩) (by first | (rw [add_block]; exact hn108_1) | (show (Addr.add _ _).block ≠ _; rw [add_block]; exact hn108_1) | exact hn108_1) (.int .i64 ((rd_T92 l0 x7_1).f1))).trans hx108_0; replace hx108_1 := (cell_far (p := ⟨gb105, 1, none⟩) (by first | (rw [add_block]; exact hn108_1) | (show (Addr.add _ _).block ≠ _; rw [add_block]; exact hn108_1) | exact hn108_1) (.int .i64 ((rd_T92 l0 x7_1).f1))).trans hx108_1; (try have hy108_0 := fun (n_ : Nat) => (show ((((w6.drewN n_).setCell ⟨gb105, 0, none⟩ (.int .i64 ((rd_T92 l0 x7_1).f0))).setCell ⟨gb105, 1, none⟩ (.int .i64 ((rd_T92 l0 x7_1).f1)))).cell? _ = some _ from hx108_0)); (try have hy108_1 := fun (n_ : Nat) => (show ((((w6.drewN n_).setCell ⟨gb105, 0, none⟩ (.int .i64 ((rd_T92 l0 x7_1).f0))).setCell ⟨gb105, 1, none⟩ (.int .i64 ((rd_T92 l0 x7_1).f1)))).cell? _ = some _ from hx108_1)); clear hn108_0; clear hn108_1; replace p108 := eq_true p108; replace q108 := eq_true q108)); try go_wp2_with (first | (go_at_call 71; (with_reducible refine (spec_l1In.calls ((rd_T92 l0 x7_1).f0) 0 ((rd_T92 l0 x7_1).f1) true _ A8.out).mono ?_); rintro e w' ⟨rfl, ⟨nd, rfl⟩⟩; (try first | exact ⟨rfl, _, World.drewN_drewN _ _ _⟩ | exact ⟨rfl, _, Eq.trans (World.drewN_drewN _ _ _) (congrArg (World.drewN _) (Nat.add_assoc _ _ _))⟩)) | (go_at_call 78; (with_reducible refine (spec_l1Known.calls ((rd_T92 l0 x7_1).f1) true _ A10.out).mono ?_); rintro e w' ⟨rfl, ⟨nd, rfl⟩⟩; (try first | exact ⟨rfl, _, World.drewN_drewN _ _ _⟩ | exact ⟨rfl, _, Eq.trans (World.drewN_drewN _ _ _) (congrArg (World.drewN _) (Nat.add_assoc _ _ _))⟩); have p108 : 0 ≤ ((ji13) : Int) := of_decide_eq_true (by first | (with_reducible assumption) | assumption); have q108 : (ji13) < (l0.length : Int) := of_decide_eq_true (by first | (with_reducible assumption) | assumption); obtain ⟨ad108, e108, hx108_0, hx108_1⟩ := at_T92 HR0.out (ji13) p108 q108; obtain rfl : ad104 = ad108 := (by injection e108); have hn108_0 : ad104.block ≠ gb105 := Nat.ne_of_lt (Nat.lt_of_lt_of_le (by have := World.block_lt_of_cell? _ _ hx108_0; first | rwa [add_block] at this | exact this) GW105.out); have hn108_1 : ad104.block ≠ gb105 := Nat.ne_of_lt (Nat.lt_of_lt_of_le (by have := World.block_lt_of_cell? _ _ hx108_0; first | rwa [add_block] at this | exact this) GW105.out); replace hx108_0 := (HB.out.cell (World.block_lt_of_cell? w _ hx108_0)).trans hx108_0; replace hx108_1 := (HB.out.cell (World.block_lt_of_cell? w _ hx108_1)).trans hx108_1; replace hx108_0 := (cell_far (p := ⟨gb105, 0, none⟩) (by first | (rw [add_block]; exact hn108_0) | (show (Addr.add _ _).block ≠ _; rw [add_block]; exact hn108_0) | exact hn108_0) (.int .i64 ((rd_T92 l0 x7_1).f0))).trans hx108_0; replace hx108_1 := (cell_far (p := ⟨gb105, 0, none⟩) (by first | (rw [add_block]; exact hn108_0) | (show (Addr.add _ _).block ≠ _; rw [add_block]; exact hn108_0) | exact hn108_0) (.int .i64 ((rd_T92 l0 x7_1).f0))).trans hx108_1; replace hx108_0 := (cell_far (p := ⟨gb105, 1, none⟩) (by first | (rw [add_block]; exact hn108_1) | (show (Addr.add _ _).block ≠ _; rw [add_block]; exact hn108_1) | exact hn108_1) (.int .i64 ((rd_T92 l0 x7_1).f1))).trans hx108_0; replace hx108_1 := (cell_far (p := ⟨gb105, 1, none⟩) (by first | (rw [add_block]; exact hn108_1) | (show (Addr.add _ _).block ≠ _; rw [add_block]; exact hn108_1) | exact hn108_1) (.int .i64 ((rd_T92 l0 x7_1).f1))).trans hx108_1; (try have hy108_0 := fun (n_ : Nat) => (show ((((w6.drewN n_).setCell ⟨gb105, 0, none⟩ (.int .i64 ((rd_T92 l0 x7_1).f0))).setCell ⟨gb105, 1, none⟩ (.int .i64 ((rd_T92 l0 x7_1).f1)))).cell? _ = some _ from hx108_0)); (try have hy108_1 := fun (n_ : Nat) => (show ((((w6.drewN n_).setCell ⟨gb105, 0, none⟩ (.int .i64 ((rd_T92 l0 x7_1).f0))).setCell ⟨gb105, 1, none⟩ (.int .i64 ((rd_T92 l0 x7_1).f1)))).cell? _ = some _ from hx108_1)); clear hn108_0; clear hn108_1; replace p108 := eq_true p108; replace q108 := eq_true q108)))
            go_meet
            case rel => exact ⟨_, (decide (((rd_T92 l0 x7_1).f1) > (wrap64 (((rd_T92 l0 (ji13)).f0) - 2)))), (by first | rfl | (simp; done) | (simp only [← hji13] <;> (first | rfl | (simp; done))) | (simp only [← hji13, i64_w] <;> (first | rfl | (simp; done))) | (simp [*]; done)), H', ⟨by have := HK1.out; first | omega | exact Nat.le_refl _⟩, ⟨by (with_reducible repeat (first | refine bN ?_ _ | refine bD ?_ | refine bA ?_ _)); refine blk_put (cs := #[.int .i64 ((rd_T92 l0 x7_1).f0), .int .i64 0]) ?_ 1 _ rfl; (with_reducible repeat (first | refine bN ?_ _ | refine bD ?_ | refine bA ?_ _)); refine blk_put (cs := #[.int .i64 0, .int .i64 0]) ?_ 0 _ rfl; (with_reducible repeat (first | refine bN ?_ _ | refine bD ?_ | refine bA ?_ _)); exact BK105.out⟩, ⟨by repeat (first | (with_reducible first | exact HB.out | apply below_alloc | apply pw_below_drewN | apply below_drew1 | refine below_set ?_ GE105.out) | exact HB.out)⟩⟩
           ·rw [if_neg c15] at H
            exact absurd H (by simp)
          ·rw [if_neg c14] at H
           exact absurd H (by simp)
         ·rw [if_neg c12] at H
          have c12b0 : decide (0 < x7_1) = false := decide_eq_false c12
          clear c12
          (first | rw [c12b0] | (simp only [i64_w, i32_w]; rw [c12b0]) | skip)
          have H' := Aside0.mk H
          clear H
          obtain ⟨hcz17_0, hcz17_1⟩ := cz2 BK105
          obtain ⟨hfz17_0, hfz17_1⟩ := fz2 BK105
          go_wp2_with (first | (go_at_call 71; (with_reducible refine (spec_l1In.calls ((rd_T92 l0 x7_1).f0) 0 ((rd_T92 l0 x7_1).f1) true _ A8.out).mono ?_); rintro e w' ⟨rfl, ⟨nd, rfl⟩⟩; (try first | exact ⟨rfl, _, World.drewN_drewN _ _ _⟩ | exact ⟨rfl, _, Eq.trans (World.drewN_drewN _ _ _) (congrArg (World.drewN _) (Nat.add_assoc _ _ _))⟩)) | (go_at_call 78; (with_reducible refine (spec_l1Known.calls ((rd_T92 l0 x7_1).f1) true _ A10.out).mono ?_); rintro e w' ⟨rfl, ⟨nd, rfl⟩⟩; (try first | exact ⟨rfl, _, World.drewN_drewN _ _ _⟩ | exact ⟨rfl, _, Eq.trans (World.drewN_drewN _ _ _) (congrArg (World.drewN _) (Nat.add_assoc _ _ _))⟩)))
          repeat (go_quiet (first | (go_at_call 71; (with_reducible refine (spec_l1In.calls ((rd_T92 l0 x7_1).f0) 0 ((rd_T92 l0 x7_1).f1) true _ A8.out).mono ?_); rintro e w' ⟨rfl, ⟨nd, rfl⟩⟩; (try first | exact ⟨rfl, _, World.drewN_drewN _ _ _⟩ | exact ⟨rfl, _, Eq.trans (World.drewN_drewN _ _ _) (congrArg (World.drewN _) (Nat.add_assoc _ _ _))⟩)) | (go_at_call 78; (with_reducible refine (spec_l1Known.calls ((rd_T92 l0 x7_1).f1) true _ A10.out).mono ?_); rintro e w' ⟨rfl, ⟨nd, rfl⟩⟩; (try first | exact ⟨rfl, _, World.drewN_drewN _ _ _⟩ | exact ⟨rfl, _, Eq.trans (World.drewN_drewN _ _ _) (congrArg (World.drewN _) (Nat.add_assoc _ _ _))⟩))); try go_wp2_with (first | (go_at_call 71; (with_reducible refine (spec_l1In.calls ((rd_T92 l0 x7_1).f0) 0 ((rd_T92 l0 x7_1).f1) true _ A8.out).mono ?_); rintro e w' ⟨rfl, ⟨nd, rfl⟩⟩; (try first | exact ⟨rfl, _, World.drewN_drewN _ _ _⟩ | exact ⟨rfl, _, Eq.trans (World.drewN_drewN _ _ _) (congrArg (World.drewN _) (Nat.add_assoc _ _ _))⟩)) | (go_at_call 78; (with_reducible refine (spec_l1Known.calls ((rd_T92 l0 x7_1).f1) true _ A10.out).mono ?_); rintro e w' ⟨rfl, ⟨nd, rfl⟩⟩; (try first | exact ⟨rfl, _, World.drewN_drewN _ _ _⟩ | exact ⟨rfl, _, Eq.trans (World.drewN_drewN _ _ _) (congrArg (World.drewN _) (Nat.add_assoc _ _ _))⟩))))
          go_meet
          case rel => exact ⟨_, (false), (by first | rfl | (simp; done) | (simp [*]; done)), H', ⟨by have := HK1.out; first | omega | exact Nat.le_refl _⟩, ⟨by (with_reducible repeat (first | refine bN ?_ _ | refine bD ?_ | refine bA ?_ _)); refine blk_put (cs := #[.int .i64 ((rd_T92 l0 x7_1).f0), .int .i64 0]) ?_ 1 _ rfl; (with_reducible repeat (first | refine bN ?_ _ | refine bD ?_ | refine bA ?_ _)); refine blk_put (cs := #[.int .i64 0, .int .i64 0]) ?_ 0 _ rfl; (with_reducible repeat (first | refine bN ?_ _ | refine bD ?_ | refine bA ?_ _)); exact BK105.out⟩, ⟨by repeat (first | (with_reducible first | exact HB.out | apply below_alloc | apply pw_below_drewN | apply below_drew1 | refine below_set ?_ GE105.out) | exact HB.out)⟩⟩
        ·replace c11 := Bool.eq_false_iff.mpr c11
         subst c11
         have H1 : (spec_l1Ranges.j1 k1 l0 l0 (l0.length : Int) x7_1 true) = some r := by rw [if_neg (show ¬ (false = true) by decide)] at H; exact H
         clear H
         have H := H1
         clear H1
         have H' := Aside0.mk H
         clear H
         obtain ⟨hcz18_0, hcz18_1⟩ := cz2 BK105
         obtain ⟨hfz18_0, hfz18_1⟩ := fz2 BK105
         go_wp2_with (first | (go_at_call 71; (with_reducible refine (spec_l1In.calls ((rd_T92 l0 x7_1).f0) 0 ((rd_T92 l0 x7_1).f1) true _ A8.out).mono ?_); rintro e w' ⟨rfl, ⟨nd, rfl⟩⟩; (try first | exact ⟨rfl, _, World.drewN_drewN _ _ _⟩ | exact ⟨rfl, _, Eq.trans (World.drewN_drewN _ _ _) (congrArg (World.drewN _) (Nat.add_assoc _ _ _))⟩)) | (go_at_call 78; (with_reducible refine (spec_l1Known.calls ((rd_T92 l0 x7_1).f1) false _ A10.out).mono ?_); rintro e w' ⟨rfl, ⟨nd, rfl⟩⟩; (try first | exact ⟨rfl, _, World.drewN_drewN _ _ _⟩ | exact ⟨rfl, _, Eq.trans (World.drewN_drewN _ _ _) (congrArg (World.drewN _) (Nat.add_assoc _ _ _))⟩)))
         repeat (go_quiet (first | (go_at_call 71; (with_reducible refine (spec_l1In.calls ((rd_T92 l0 x7_1).f0) 0 ((rd_T92 l0 x7_1).f1) true _ A8.out).mono ?_); rintro e w' ⟨rfl, ⟨nd, rfl⟩⟩; (try first | exact ⟨rfl, _, World.drewN_drewN _ _ _⟩ | exact ⟨rfl, _, Eq.trans (World.drewN_drewN _ _ _) (congrArg (World.drewN _) (Nat.add_assoc _ _ _))⟩)) | (go_at_call 78; (with_reducible refine (spec_l1Known.calls ((rd_T92 l0 x7_1).f1) false _ A10.out).mono ?_); rintro e w' ⟨rfl, ⟨nd, rfl⟩⟩; (try first | exact ⟨rfl, _, World.drewN_drewN _ _ _⟩ | exact ⟨rfl, _, Eq.trans (World.drewN_drewN _ _ _) (congrArg (World.drewN _) (Nat.add_assoc _ _ _))⟩))); try go_wp2_with (first | (go_at_call 71; (with_reducible refine (spec_l1In.calls ((rd_T92 l0 x7_1).f0) 0 ((rd_T92 l0 x7_1).f1) true _ A8.out).mono ?_); rintro e w' ⟨rfl, ⟨nd, rfl⟩⟩; (try first | exact ⟨rfl, _, World.drewN_drewN _ _ _⟩ | exact ⟨rfl, _, Eq.trans (World.drewN_drewN _ _ _) (congrArg (World.drewN _) (Nat.add_assoc _ _ _))⟩)) | (go_at_call 78; (with_reducible refine (spec_l1Known.calls ((rd_T92 l0 x7_1).f1) false _ A10.out).mono ?_); rintro e w' ⟨rfl, ⟨nd, rfl⟩⟩; (try first | exact ⟨rfl, _, World.drewN_drewN _ _ _⟩ | exact ⟨rfl, _, Eq.trans (World.drewN_drewN _ _ _) (congrArg (World.drewN _) (Nat.add_assoc _ _ _))⟩))))
         go_meet
         case rel => exact ⟨_, (true), (by first | rfl | (simp; done) | (simp [*]; done)), H', ⟨by have := HK1.out; first | omega | exact Nat.le_refl _⟩, ⟨by (with_reducible repeat (first | refine bN ?_ _ | refine bD ?_ | refine bA ?_ _)); refine blk_put (cs := #[.int .i64 ((rd_T92 l0 x7_1).f0), .int .i64 0]) ?_ 1 _ rfl; (with_reducible repeat (first | refine bN ?_ _ | refine bD ?_ | refine bA ?_ _)); refine blk_put (cs := #[.int .i64 0, .int .i64 0]) ?_ 0 _ rfl; (with_reducible repeat (first | refine bN ?_ _ | refine bD ?_ | refine bA ?_ _)); exact BK105.out⟩, ⟨by repeat (first | (with_reducible first | exact HB.out | apply below_alloc | apply pw_below_drewN | apply below_drew1 | refine below_set ?_ GE105.out) | exact HB.out)⟩⟩
       ·replace c9 := Bool.eq_false_iff.mpr c9
        subst c9
        have H1 : (spec_l1Ranges.j1 k1 l0 l0 (l0.length : Int) x7_1 true) = some r := by rw [if_neg (show ¬ (false = true) by decide)] at H; exact H
        clear H
        have H := H1
        clear H1
        have H' := Aside0.mk H
        clear H
        obtain ⟨hcz19_0, hcz19_1⟩ := cz2 BK105
        obtain ⟨hfz19_0, hfz19_1⟩ := fz2 BK105
        go_wp2_with (first | (go_at_call 71; (with_reducible refine (spec_l1In.calls ((rd_T92 l0 x7_1).f0) 0 ((rd_T92 l0 x7_1).f1) false _ A8.out).mono ?_); rintro e w' ⟨rfl, ⟨nd, rfl⟩⟩; (try first | exact ⟨rfl, _, World.drewN_drewN _ _ _⟩ | exact ⟨rfl, _, Eq.trans (World.drewN_drewN _ _ _) (congrArg (World.drewN _) (Nat.add_assoc _ _ _))⟩)))
        repeat (go_quiet (first | (go_at_call 71; (with_reducible refine (spec_l1In.calls ((rd_T92 l0 x7_1).f0) 0 ((rd_T92 l0 x7_1).f1) false _ A8.out).mono ?_); rintro e w' ⟨rfl, ⟨nd, rfl⟩⟩; (try first | exact ⟨rfl, _, World.drewN_drewN _ _ _⟩ | exact ⟨rfl, _, Eq.trans (World.drewN_drewN _ _ _) (congrArg (World.drewN _) (Nat.add_assoc _ _ _))⟩))); try go_wp2_with (first | (go_at_call 71; (with_reducible refine (spec_l1In.calls ((rd_T92 l0 x7_1).f0) 0 ((rd_T92 l0 x7_1).f1) false _ A8.out).mono ?_); rintro e w' ⟨rfl, ⟨nd, rfl⟩⟩; (try first | exact ⟨rfl, _, World.drewN_drewN _ _ _⟩ | exact ⟨rfl, _, Eq.trans (World.drewN_drewN _ _ _) (congrArg (World.drewN _) (Nat.add_assoc _ _ _))⟩))))
        go_meet
        case rel => exact ⟨_, (true), (by first | rfl | (simp; done) | (simp [*]; done)), H', ⟨by have := HK1.out; first | omega | exact Nat.le_refl _⟩, ⟨by (with_reducible repeat (first | refine bN ?_ _ | refine bD ?_ | refine bA ?_ _)); refine blk_put (cs := #[.int .i64 ((rd_T92 l0 x7_1).f0), .int .i64 0]) ?_ 1 _ rfl; (with_reducible repeat (first | refine bN ?_ _ | refine bD ?_ | refine bA ?_ _)); refine blk_put (cs := #[.int .i64 0, .int .i64 0]) ?_ 0 _ rfl; (with_reducible repeat (first | refine bN ?_ _ | refine bD ?_ | refine bA ?_ _)); exact BK105.out⟩, ⟨by repeat (first | (with_reducible first | exact HB.out | apply below_alloc | apply pw_below_drewN | apply below_drew1 | refine below_set ?_ GE105.out) | exact HB.out)⟩⟩
      case rest =>
       clear HC5
       try clear c1
       try clear p1
       try clear q1
       try clear hx1
       try clear c2
       try clear c2b0
       try clear p2
       try clear c3
       try clear c3b0
       try clear c4
       try clear c4b0
       try clear p6
       try clear c9
       try clear p10
       try clear q10
       try clear hx10
       try clear c11
       try clear c12
       try clear c12b0
       try clear c14
       try clear c14b0
       try clear c15
       try clear c15b0
       try clear hcz16_0
       try clear hcz16_1
       try clear hcz17_0
       try clear hcz17_1
       try clear hcz18_0
       try clear hcz18_1
       try clear hcz19_0
       try clear hcz19_1
       try clear hcz7_0
       try clear hcz7_1
       try clear hfz16_0
       try clear hfz16_1
       try clear hfz17_0
       try clear hfz17_1
       try clear hfz18_0
       try clear hfz18_1
       try clear hfz19_0
       try clear hfz19_1
       try clear hfz7_0
       try clear hfz7_1
       try clear hx104_0
       try clear hx104_1
       try clear hx108_0
       try clear hx108_1
       try clear p104
       try clear p108
       try clear q104
       try clear q108
       obtain ⟨kq, x39_4, rfl, HA, HJ4, BK105, HB⟩ := hcut
       cases kq with
       | zero => exact absurd HA.out (by simp [spec_l1Ranges.j1])
       | succ kj4 =>
        have H := HA.out
        clear HA
        simp only [spec_l1Ranges.j1] at H
        by_cases c20 : x39_4 = true
        ·subst c20
         have H1 : (some false) = some r := by rw [if_pos rfl] at H; exact H
         clear H
         have H := H1
         clear H1
         obtain rfl := Option.some.inj H
         go_wp2
         repeat (go_quiet (fail); try go_wp2)
         go_ret
         exact ⟨by first | rfl | (simp [errW_none, errW_some] <;> rfl) | (simp [*, errW_none, errW_some] <;> rfl), by repeat (first | (with_reducible first | exact HB.out | apply below_alloc | apply pw_below_drewN | apply below_drew1 | refine below_set ?_ GE105.out) | exact HB.out)⟩
        ·replace c20 := Bool.eq_false_iff.mpr c20
         subst c20
         have H1 : (spec_l1Ranges.l0 kj4 l0 l0 (l0.length : Int) (wrap64 (x7_1 + 1))) = some r := by rw [if_neg (show ¬ (false = true) by decide)] at H; exact H
         clear H
         have H := H1
         clear H1
         have H' := Aside0.mk H
         clear H
         go_wp2
         repeat (go_quiet (fail); try go_wp2)
         go_roundg kj4
         case measure => have := HK1.out; have := HJ4.out; omega
         case rel => exact ⟨(wrap64 (x7_1 + 1)), (by first | rfl | (simp; done) | (simp [*]; done)), H', ⟨by have := HK1.out; have := HJ4.out; omega⟩, ⟨by repeat (first | (with_reducible first | exact HB.out | apply below_alloc | apply pw_below_drewN | apply below_drew1 | refine below_set ?_ GE105.out) | exact HB.out)⟩⟩
     ·rw [if_neg c4] at H
      exact absurd H (by simp)
    ·rw [if_neg c3] at H
     exact absurd H (by simp)
   ·rw [if_neg c2] at H
    have c2b0 : decide (x7_1 < (l0.length : Int)) = false := decide_eq_false c2
    clear c2
    replace H := Option.bind_eq_some_iff.mp H
    obtain ⟨t109, A210, H⟩ := H
    replace H : (some t109) = some r := H
    have A21 := Aside0.mk A210
    clear A210
    obtain rfl := Option.some.inj H
    go_wp2_with (first | (go_at_call 71; (with_reducible refine (spec_l1In.calls (l0.length : Int) 1 20 t109 _ A21.out).mono ?_); rintro e w' ⟨rfl, ⟨nd, rfl⟩⟩; (try first | exact ⟨rfl, _, World.drewN_drewN _ _ _⟩ | exact ⟨rfl, _, Eq.trans (World.drewN_drewN _ _ _) (congrArg (World.drewN _) (Nat.add_assoc _ _ _))⟩)))
    repeat (go_quiet (first | (go_at_call 71; (with_reducible refine (spec_l1In.calls (l0.length : Int) 1 20 t109 _ A21.out).mono ?_); rintro e w' ⟨rfl, ⟨nd, rfl⟩⟩; (try first | exact ⟨rfl, _, World.drewN_drewN _ _ _⟩ | exact ⟨rfl, _, Eq.trans (World.drewN_drewN _ _ _) (congrArg (World.drewN _) (Nat.add_assoc _ _ _))⟩))); try go_wp2_with (first | (go_at_call 71; (with_reducible refine (spec_l1In.calls (l0.length : Int) 1 20 t109 _ A21.out).mono ?_); rintro e w' ⟨rfl, ⟨nd, rfl⟩⟩; (try first | exact ⟨rfl, _, World.drewN_drewN _ _ _⟩ | exact ⟨rfl, _, Eq.trans (World.drewN_drewN _ _ _) (congrArg (World.drewN _) (Nat.add_assoc _ _ _))⟩))))
    go_ret
    exact ⟨by first | rfl | (simp [errW_none, errW_some] <;> rfl) | (simp [*, errW_none, errW_some] <;> rfl), by repeat (first | (with_reducible first | exact HB.out | apply below_alloc | apply pw_below_drewN | apply below_drew1) | exact HB.out)⟩

def inB (x lo hi : Int) : Bool := decide (lo ≤ x ∧ x ≤ hi)
theorem l1In_inB (x lo hi : Int) : spec_l1In.f x lo hi = some (inB x lo hi) := by
  unfold spec_l1In.f inB
  by_cases h : lo ≤ x <;> simp [h]
theorem l1Known_isVar (x : Int) : spec_l1Known.f x = some (isVr x) := by
  unfold spec_l1Known.f
  rw [l1In_inB]
  rfl
def sHead (kd fa fb fc : Int) (fin : Bool) (dat : ByteArray) (many lo hi : Int) : Bool := decide (many < 0) || (!isVr fa || (!isVr fb || (!isVr fc || (!inB (dat.size : Int) lo hi || (fin && (kd != 8))))))
def sNums (fa fb fc many : Int) : Bool := (decide (many < 3) && (fc != 0)) || ((decide (many < 2) && (fb != 0)) || (decide (many < 1) && (fa != 0)))
def sRng (k : Nat) (kd : Int) (rs : List S92) : Option Bool := if kd = 2 then (if 0 < rs.length then (spec_l1Ranges.f k rs).bind fun b => some (!b) else some true) else some (decide (0 < rs.length))
def sTail (kd fa fb fc : Int) (dat : ByteArray) : Bool := if kd = 6 then decide (fa ≤ wrap64 (4611686018427387903 - (dat.size : Int))) else if kd = 8 then decide (fb ≤ wrap64 (4611686018427387903 - (dat.size : Int))) else if kd = 24 then (decide (fb ≤ fa) && decide (fc ≤ 255)) else true
def spec_GoodFrame.f (k : Nat) (kd fa fb fc : Int) (fin : Bool) (dat : ByteArray) (rs : List S92) : Option Bool :=
  (spec_l1Shape.f k kd).bind fun t => if sHead kd fa fb fc fin dat t.1 t.2.1 t.2.2 = true then some false else if sNums fa fb fc t.1 = true then some false else (sRng k kd rs).bind fun q => if q = true then some false else some (sTail kd fa fb fc dat)
theorem spec_GoodFrame.mono : ∀ (kd fa fb fc : Int) (fin : Bool) (dat : ByteArray) (rs : List S92) (k : Nat), LeO (spec_GoodFrame.f k kd fa fb fc fin dat rs) (spec_GoodFrame.f (k + 1) kd fa fb fc fin dat rs) := by
  intro kd fa fb fc fin dat rs k
  unfold spec_GoodFrame.f sRng
  exact LeO.bind (spec_l1Shape.mono _ _) (fun _ => LeO.ite (LeO.refl _) (LeO.ite (LeO.refl _) (LeO.bind (LeO.ite (LeO.ite (LeO.bind (spec_l1Ranges.mono _ _) (fun _ => LeO.refl _)) (LeO.refl _)) (LeO.refl _)) (fun _ => LeO.refl _))))
theorem sHead_cases : ∀ (v1 v2 v3 v4 v5 fin v6 : Bool), (v1 = true ∧ (v1 || (!v2 || (!v3 || (!v4 || (!v5 || (fin && v6)))))) = true) ∨ (v1 = false ∧ ((v2 = false ∧ (v1 || (!v2 || (!v3 || (!v4 || (!v5 || (fin && v6)))))) = true) ∨ (v2 = true ∧ ((v3 = false ∧ (v1 || (!v2 || (!v3 || (!v4 || (!v5 || (fin && v6)))))) = true) ∨ (v3 = true ∧ ((v4 = false ∧ (v1 || (!v2 || (!v3 || (!v4 || (!v5 || (fin && v6)))))) = true) ∨ (v4 = true ∧ ((v5 = false ∧ (v1 || (!v2 || (!v3 || (!v4 || (!v5 || (fin && v6)))))) = true) ∨ (v5 = true ∧ ((fin = false ∧ (v1 || (!v2 || (!v3 || (!v4 || (!v5 || (fin && v6)))))) = false) ∨ (fin = true ∧ ((v6 = false ∧ (v1 || (!v2 || (!v3 || (!v4 || (!v5 || (fin && v6)))))) = false) ∨ (v6 = true ∧ (v1 || (!v2 || (!v3 || (!v4 || (!v5 || (fin && v6)))))) = true))))))))))))) := by decide
theorem sNums_cases : ∀ (m3 v3 m2 v2 m1 v1 : Bool), (m3 = true ∧ v3 = true ∧ ((m3 && v3) || ((m2 && v2) || (m1 && v1))) = true) ∨ ((m3 = false ∨ (m3 = true ∧ v3 = false)) ∧ ((m2 = true ∧ v2 = true ∧ ((m3 && v3) || ((m2 && v2) || (m1 && v1))) = true) ∨ ((m2 = false ∨ (m2 = true ∧ v2 = false)) ∧ ((m1 = true ∧ v1 = true ∧ ((m3 && v3) || ((m2 && v2) || (m1 && v1))) = true) ∨ ((m1 = false ∨ (m1 = true ∧ v1 = false)) ∧ ((m3 && v3) || ((m2 && v2) || (m1 && v1))) = false))))) := by decide
set_option maxHeartbeats 4000000 in
set_option maxRecDepth 100000 in
theorem spec_GoodFrame.calls (k : Nat) (kd fa fb fc : Int) (fin : Bool) (dat : ByteArray) (AR : Option Addr) (cR : Nat) (rs : List S92) (r : Bool) (w : World) (hr : Kd.C k92 w AR rs.length rs) (hc : rs.length ≤ cR) (h : spec_GoodFrame.f k kd fa fb fc fin dat rs = some r) :
    Calls Try.prog 42 #[.agg #[.int .i64 kd, .int .i64 fa, .int .i64 fb, .int .i64 fc, .bool fin, .string dat, .slice AR rs.length cR]] w fun e w' => e = .returned (.bool r) ∧ Below w.heap.size w w' := by
  obtain ⟨⟨many, lo, hi⟩, h1, hT⟩ := Option.bind_eq_some_iff.mp h
  clear h
  have HS := Aside0.mk h1
  have HT := Aside0.mk hT
  have HR := Aside0.mk hr
  have HC := Aside0.mk hc
  have HB := Aside0.mk (Below.refl w.heap.size w)
  clear h1 hT hr hc
  have hu30 := Try.underlying30
  go_enter Try.func42, Try.ntmps42
  go_upto_region 2 with (first
    | ((with_reducible refine gate_dst (N := 1) rfl ?_); (try (refine gate_guard (by rfl) ?_; dsimp only)); refine box_event ?hg (N := 1) ?hd (cs := #[.int .i64 kd, .int .i64 fa, .int .i64 fb, .int .i64 fc, .bool fin, .string dat, .slice AR rs.length cR]) (t := 30) ?hr ?_; (case hd => rfl); (case hg => rfl); (case hr => first | (go_simp; done) | (go_simp; rfl)); intro g hg1 w2 hbox hb; have QG := Aside0.mk hbox; have HB2 := Aside0.mk (HB.out.trans (hb.mono HB.out.size)); clear hbox hb hg1 HB; obtain ⟨z0, z1, z2, z3, z4, z5, z6⟩ := Go.Proofs.Ytpdoplkiaejpiaa.ShortK.cz7 QG)
    | (go_at_call 91; refine (spec_l1Shape.calls k kd many lo hi _ HS.out).mono ?_; rintro e w3 ⟨rfl, ⟨nd, rfl⟩⟩; have HB := Aside0.mk (pw_below_drewN HB2.out nd); have QG3 := Aside0.mk (blk_below QG.out (pw_below_drewN (Below.refl _ _) nd)); clear HS; obtain ⟨z0, z1, z2, z3, z4, z5, z6⟩ := Go.Proofs.Ytpdoplkiaejpiaa.ShortK.cz7 QG3))
  go_cut [50] (fun v50 wc => v50 = .bool (sHead kd fa fb fc fin dat many lo hi) ∧ Aside0 (wc.heap[g]? = some (.cells #[.int .i64 kd, .int .i64 fa, .int .i64 fb, .int .i64 fc, .bool fin, .string dat, .slice AR rs.length cR] 30 (0, 0))) ∧ Aside0 (Below w.heap.size w wc))
  case first =>
    have V1 := Aside0.mk (l1Known_isVar fa)
    have V2 := Aside0.mk (l1Known_isVar fb)
    have V3 := Aside0.mk (l1Known_isVar fc)
    have V4 := Aside0.mk (l1In_inB (dat.size : Int) lo hi)
    have hcases := sHead_cases (decide (many < 0)) (isVr fa) (isVr fb) (isVr fc) (inB (dat.size : Int) lo hi) fin (kd != 8)
    rw [show (decide (many < 0) || (!isVr fa || (!isVr fb || (!isVr fc || (!inB (dat.size : Int) lo hi || (fin && (kd != 8))))))) = sHead kd fa fb fc fin dat many lo hi from rfl] at hcases
    rcases hcases with ⟨hm, HN⟩ | ⟨hm, ⟨ha, HN⟩ | ⟨ha, ⟨hb, HN⟩ | ⟨hb, ⟨hc, HN⟩ | ⟨hc, ⟨hd, HN⟩ | ⟨hd, ⟨rfl, HN⟩ | ⟨rfl, ⟨h8, HN⟩ | ⟨h8, HN⟩⟩⟩⟩⟩⟩⟩
    all_goals (
      have HN' := Aside0.mk HN
      clear HN
      go_wp2_with (first
        | (go_at_call 78; refine (spec_l1Known.calls fa (isVr fa) _ V1.out).mono ?_; rintro e w4 ⟨rfl, ⟨nd1, rfl⟩⟩; clear V1)
        | (go_at_call 78; refine (spec_l1Known.calls fb (isVr fb) _ V2.out).mono ?_; rintro e w4 ⟨rfl, ⟨nd2, rfl⟩⟩; clear V2)
        | (go_at_call 78; refine (spec_l1Known.calls fc (isVr fc) _ V3.out).mono ?_; rintro e w4 ⟨rfl, ⟨nd3, rfl⟩⟩; clear V3)
        | (go_at_call 71; refine (spec_l1In.calls (dat.size : Int) lo hi (inB (dat.size : Int) lo hi) _ V4.out).mono ?_; rintro e w4 ⟨rfl, ⟨nd4, rfl⟩⟩; clear V4))
      go_meet
      case rel => exact ⟨by rw [HN'.out], ⟨by repeat (first | exact QG3.out | exact QG.out | refine blk_below ?_ (pw_below_drewN (Below.refl _ _) _))⟩, ⟨by repeat (first | exact HB.out | exact HB2.out | refine pw_below_drewN ?_ _)⟩⟩)
  case rest =>
    obtain ⟨rfl, QG, HB⟩ := hcut
    cases hN : sHead kd fa fb fc fin dat many lo hi with
    | true =>
      obtain rfl : r = false := by
        have h_ := HT.out
        simp only [hN, if_true] at h_
        exact (Option.some.inj h_).symm
      go_wp2
      go_ret
      exact ⟨rfl, HB.out⟩
    | false =>
      have HT2 : Aside0 ((if sNums fa fb fc many = true then some false else (sRng k kd rs).bind fun q => if q = true then some false else some (sTail kd fa fb fc dat)) = some r) := ⟨by
        have h_ := HT.out
        simp only [hN, Bool.false_eq_true, if_false] at h_
        exact h_⟩
      clear HT hN z0 z1 z2 z3 z4 z5 z6 QG3
      obtain ⟨z0, z1, z2, z3, z4, z5, z6⟩ := Go.Proofs.Ytpdoplkiaejpiaa.ShortK.cz7 QG
      go_upto_region 4 with (fail)
      go_cut [75] (fun v75 wc => v75 = .bool (sNums fa fb fc many) ∧ Aside0 (wc.heap[g]? = some (.cells #[.int .i64 kd, .int .i64 fa, .int .i64 fb, .int .i64 fc, .bool fin, .string dat, .slice AR rs.length cR] 30 (0, 0))) ∧ Aside0 (Below w.heap.size w wc))
      case first =>
        have hcases := sNums_cases (decide (many < 3)) (fc != 0) (decide (many < 2)) (fb != 0) (decide (many < 1)) (fa != 0)
        rw [show ((decide (many < 3) && (fc != 0)) || ((decide (many < 2) && (fb != 0)) || (decide (many < 1) && (fa != 0)))) = sNums fa fb fc many from rfl] at hcases
        rcases hcases with ⟨m3, v3, HN⟩ | ⟨m3 | ⟨m3, v3⟩, ⟨m2, v2, HN⟩ | ⟨m2 | ⟨m2, v2⟩, ⟨m1, v1, HN⟩ | ⟨m1 | ⟨m1, v1⟩, HN⟩⟩⟩
        all_goals (
          have HN' := Aside0.mk HN
          clear HN
          go_wp2
          go_meet
          case rel => exact ⟨by rw [HN'.out], QG, HB⟩)
      case rest =>
        clear QG z0 z1 z2 z3 z4 z5 z6 HB
        obtain ⟨rfl, QG, HB⟩ := hcut
        obtain ⟨z0, z1, z2, z3, z4, z5, z6⟩ := Go.Proofs.Ytpdoplkiaejpiaa.ShortK.cz7 QG
        cases hN : sNums fa fb fc many with
        | true =>
          obtain rfl : r = false := by
            have h_ := HT2.out
            simp only [hN, if_true] at h_
            exact (Option.some.inj h_).symm
          go_wp2
          go_ret
          exact ⟨rfl, HB.out⟩
        | false =>
          have HT3 : Aside0 (((sRng k kd rs).bind fun q => if q = true then some false else some (sTail kd fa fb fc dat)) = some r) := ⟨by
            have h_ := HT2.out
            simp only [hN, Bool.false_eq_true, if_false] at h_
            exact h_⟩
          clear HT2 hN
          have H := HT3.out
          clear HT3
          unfold sRng at H
          have HRC := Aside0.mk (Kd.C_below HR.out HB.out)
          by_cases k2 : kd = 2
          · rw [if_pos k2] at H
            by_cases hl : 0 < rs.length
            · have hld := decide_eq_true hl
              rw [if_pos hl] at H
              clear hl
              obtain ⟨q, hq, H⟩ := Option.bind_eq_some_iff.mp H
              obtain ⟨b, hb, hq⟩ := Option.bind_eq_some_iff.mp hq
              have HG := Aside0.mk hb
              clear hb
              obtain rfl := Option.some.inj hq
              clear hq
              subst k2
              have ht2 : sTail 2 fa fb fc dat = true := rfl
              rw [ht2] at H
              cases b with
              | false =>
                obtain rfl : r = false := (Option.some.inj H).symm
                clear H ht2
                go_wp2_with (go_at_call 92; refine (spec_l1Ranges.calls k AR cR rs false _ (by first | exact HRC.out | exact Kd.C_below HRC.out (pw_below_drewN (Below.refl _ _) _)) HC.out HG.out).mono ?_; rintro e w5 ⟨rfl, hb⟩; have HB5 := Aside0.mk (HB.out.trans (hb.mono HB.out.size)); have QG5 := Aside0.mk (blk_below QG.out hb); clear hb)
                go_ret
                exact ⟨rfl, HB5.out⟩
              | true =>
                obtain rfl : r = true := (Option.some.inj H).symm
                clear H ht2
                go_wp2_with (go_at_call 92; refine (spec_l1Ranges.calls k AR cR rs true _ (by first | exact HRC.out | exact Kd.C_below HRC.out (pw_below_drewN (Below.refl _ _) _)) HC.out HG.out).mono ?_; rintro e w5 ⟨rfl, hb⟩; have HB5 := Aside0.mk (HB.out.trans (hb.mono HB.out.size)); have QG5 := Aside0.mk (blk_below QG.out hb); clear hb z0 z1 z2 z3 z4 z5 z6; obtain ⟨z0, z1, z2, z3, z4, z5, z6⟩ := Go.Proofs.Ytpdoplkiaejpiaa.ShortK.cz7 QG5)
                go_ret
                exact ⟨rfl, HB5.out⟩
            · have hld := decide_eq_false hl
              rw [if_neg hl] at H
              clear hl
              obtain rfl : r = false := (Option.some.inj H).symm
              clear H
              subst k2
              go_wp2
              go_ret
              exact ⟨rfl, HB.out⟩
          · rw [if_neg k2] at H
            have e2 : (kd == 2) = false := beq_eq_false_iff_ne.mpr k2
            by_cases hl : 0 < rs.length
            · have hld := decide_eq_true hl
              rw [hld] at H
              clear hl
              obtain rfl : r = false := (Option.some.inj H).symm
              clear H
              go_wp2
              go_ret
              exact ⟨rfl, HB.out⟩
            · have hld := decide_eq_false hl
              rw [hld] at H
              clear hl
              have H2 : sTail kd fa fb fc dat = r := Option.some.inj H
              clear H
              unfold sTail at H2
              by_cases k6 : kd = 6
              · rw [if_pos k6] at H2
                subst k6
                subst H2
                go_wp2
                go_ret
                exact ⟨by first | rfl | (simp; done), HB.out⟩
              rw [if_neg k6] at H2
              have e6 : (kd == 6) = false := beq_eq_false_iff_ne.mpr k6
              by_cases k8 : kd = 8
              · rw [if_pos k8] at H2
                subst k8
                subst H2
                go_wp2
                go_ret
                exact ⟨by first | rfl | (simp; done), HB.out⟩
              rw [if_neg k8] at H2
              have e8 : (kd == 8) = false := beq_eq_false_iff_ne.mpr k8
              by_cases k24 : kd = 24
              · rw [if_pos k24] at H2
                subst k24
                by_cases hf : fb ≤ fa
                · have hfd := decide_eq_true hf
                  rw [hfd, Bool.true_and] at H2
                  clear hf
                  subst H2
                  go_wp2
                  go_ret
                  exact ⟨by first | rfl | (simp; done), HB.out⟩
                · have hfd := decide_eq_false hf
                  rw [hfd, Bool.false_and] at H2
                  clear hf
                  subst H2
                  go_wp2
                  go_ret
                  exact ⟨by first | rfl | (simp; done), HB.out⟩
              rw [if_neg k24] at H2
              have e24 : (kd == 24) = false := beq_eq_false_iff_ne.mpr k24
              subst H2
              go_wp2
              go_ret
              exact ⟨by first | rfl | (simp; done), HB.out⟩
def sV (k : Nat) (n : Int) (out : ByteArray) : Option ByteArray := (spec_l1Var.f k n).bind fun x => hcat out x
theorem sV_some {k : Nat} {n : Int} {out r : ByteArray} (h : sV k n out = some r) : ∃ x, spec_l1Var.f k n = some x ∧ hcat out x = some r := Option.bind_eq_some_iff.mp h
/-- The rounds of an ack's ranges. -/
def sAckLoop (k : Nat) (rs : List S92) : Nat → Int → ByteArray → Option ByteArray
  | 0, _, out => some out
  | n + 1, i, out => if 0 < i then (spec_l1Var.f k (wrap64 (wrap64 ((rd_T92 rs (i - 1)).f0 - (rd_T92 rs i).f1) - 2))).bind fun x => (spec_l1Var.f k (wrap64 ((rd_T92 rs i).f1 - (rd_T92 rs i).f0))).bind fun y => (hcat x y).bind fun xy => (hcat out xy).bind fun o => sAckLoop k rs n (i + 1) o else sAckLoop k rs n (i + 1) out
def sAckHead (k : Nat) (fa : Int) (rs : List S92) (s : ByteArray) : Option ByteArray :=
  (spec_l1Var.f k (rd_T92 rs 0).f1).bind fun a => (spec_l1Var.f k fa).bind fun b => (spec_l1Var.f k (wrap64 ((rs.length : Int) - 1))).bind fun c => (spec_l1Var.f k (wrap64 ((rd_T92 rs 0).f1 - (rd_T92 rs 0).f0))).bind fun d => (hcat a b).bind fun ab => (hcat ab c).bind fun abc => (hcat abc d).bind fun x => hcat s x
def sAck (k : Nat) (fa : Int) (rs : List S92) (s : ByteArray) : Option ByteArray := if 0 < rs.length ∧ rs.length ≤ 4611686018427387904 then (sAckHead k fa rs s).bind (sAckLoop k rs rs.length 0) else none
def sStream (k : Nat) (fa fb : Int) (fin : Bool) (text : ByteArray) : Option ByteArray :=
  (if fb = 0 then some (⟨#[]⟩ : ByteArray) else spec_l1Var.f k fb).bind fun off => (spec_l1Var.f k (streamKind fb fin)).bind fun a => (spec_l1Var.f k fa).bind fun b => (hcat a b).bind fun ab => (hcat ab off).bind fun abo => hcat abo text
def sTailB (k : Nat) (kd fa fb fc : Int) (fin : Bool) (dat : ByteArray) (rs : List S92) (kind text : ByteArray) : Option ByteArray :=
  if kd = 16 then sV k fa kind
  else if kd = 17 ∨ kd = 5 then (sV k fa kind).bind fun o => sV k fb o
  else if kd = 4 then (sV k fa kind).bind fun o => (sV k fb o).bind fun o => sV k fc o
  else if kd = 28 then (sV k fa kind).bind fun o => (sV k fb o).bind fun o => hcat o text
  else if kd = 2 then sAck k fa rs kind
  else if kd = 6 then (sV k fa kind).bind fun o => hcat o text
  else if kd = 7 then hcat kind text
  else if kd = 8 then sStream k fa fb fin text
  else if kd = 24 then (sV k fa kind).bind fun o => (sV k fb o).bind fun o => (spec_l1Fixed.f k (dat.size : Int) 1).bind fun x => (hcat o x).bind fun o => (hcat o dat).bind fun o => (spec_l1Fixed.f k fc 1).bind fun y => hcat o y
  else if kd = 26 ∨ kd = 27 then hcat kind dat
  else if kd = 48 then (spec_l1Var.f k 49).bind fun o => hcat o text
  else some kind
def spec_l1Bytes.f (k : Nat) (kd fa fb fc : Int) (fin : Bool) (dat : ByteArray) (rs : List S92) : Option ByteArray := (spec_l1Var.f k kd).bind fun kind => (spec_l1Var.f k (dat.size : Int)).bind fun tl => (hcat tl dat).bind fun text => sTailB k kd fa fb fc fin dat rs kind text
set_option maxHeartbeats 4000000 in
set_option maxRecDepth 100000 in
theorem spec_l1Bytes.calls (k : Nat) (kd fa fb fc : Int) (fin : Bool) (dat : ByteArray) (AR : Option Addr) (cR : Nat) (rs : List S92) (r : ByteArray) (w : World) (hr : Kd.C k92 w AR rs.length rs) (hc : rs.length ≤ cR) (h : spec_l1Bytes.f k kd fa fb fc fin dat rs = some r) :
    Calls Try.prog 43 #[.agg #[.int .i64 kd, .int .i64 fa, .int .i64 fb, .int .i64 fc, .bool fin, .string dat, .slice AR rs.length cR]] w fun e w' => e = .returned (.string r) ∧ Below w.heap.size w w' := by
  unfold spec_l1Bytes.f at h
  obtain ⟨kind, hk, hT⟩ := Option.bind_eq_some_iff.mp h
  clear h
  obtain ⟨tl, htl, hT⟩ := Option.bind_eq_some_iff.mp hT
  obtain ⟨text, htx, hT⟩ := Option.bind_eq_some_iff.mp hT
  obtain ⟨rfl, s0⟩ := hcat_some htx
  have HT := Aside0.mk hT
  have HK := Aside0.mk hk
  have HL := Aside0.mk htl
  have HR := Aside0.mk hr
  have HC := Aside0.mk hc
  have HB := Aside0.mk (Below.refl w.heap.size w)
  clear hk htl htx hT hr hc
  have hu30 := Try.underlying30
  go_enter Try.func43, Try.ntmps43
  go_wp2_with (first
    | ((with_reducible refine gate_dst (N := 1) rfl ?_); (try (refine gate_guard (by rfl) ?_; dsimp only)); refine box_event ?hg (N := 1) ?hd (cs := #[.int .i64 kd, .int .i64 fa, .int .i64 fb, .int .i64 fc, .bool fin, .string dat, .slice AR rs.length cR]) (t := 30) ?hr ?_; (case hd => rfl); (case hg => rfl); (case hr => first | (go_simp; done) | (go_simp; rfl)); intro g hg1 w2 hbox hb; have QG := Aside0.mk hbox; have HB2 := Aside0.mk (HB.out.trans (hb.mono HB.out.size)); clear hbox hb hg1 HB; obtain ⟨z0, z1, z2, z3, z4, z5, z6⟩ := Go.Proofs.Ytpdoplkiaejpiaa.ShortK.cz7 QG)
    | (go_at_call 93; refine (spec_l1Var.calls k kd kind _ HK.out).mono ?_; rintro e w3 ⟨rfl, hb⟩; have HB := Aside0.mk (HB2.out.trans (hb.mono HB2.out.size)); have QG3 := Aside0.mk (blk_below QG.out hb); clear hb HB2 QG HK z0 z1 z2 z3 z4 z5 z6; obtain ⟨z0, z1, z2, z3, z4, z5, z6⟩ := Go.Proofs.Ytpdoplkiaejpiaa.ShortK.cz7 QG3))
  refine region_quiet (C := fun w' => w'.cell? ⟨g, 5, none⟩ = some (.string dat) ∧ Aside0 (w'.heap[g]? = some (.cells #[.int .i64 kd, .int .i64 fa, .int .i64 fb, .int .i64 fc, .bool fin, .string dat, .slice AR rs.length cR] 30 (0, 0))) ∧ Aside0 (Below w.heap.size w w')) (by kernel_rfl) (by kernel_rfl) ?hC ?_
  case hC => exact ⟨cb_ z5 (below_drew (Below.refl _ w3)), ⟨blk_below QG3.out (below_drew (Below.refl _ w3))⟩, ⟨below_drew HB.out⟩⟩
  repeat (first
    | go_big_quiet_skip
    | (go_big_quiet_want; refine quiet_call ?_ Try.func93 (by kernel_rfl) rfl #[.int .i64 (dat.size : Int)] rfl (by (try simp only [List.map_toArray, List.map_cons, List.map_nil]); first | done | rfl) ?_ ?_; rotate_left 1; (· (rintro w' ⟨x0, x1, x2⟩; refine (spec_l1Var.calls k (dat.size : Int) tl w' HL.out).mono ?_; rintro e w'' ⟨rfl, hb⟩; exact ⟨by with_reducible rfl, cb_ x0 hb, ⟨blk_below x1.out hb⟩, ⟨x2.out.trans (hb.mono x2.out.size)⟩⟩)); simp only [Act.put, List.setIfInBounds_toArray, List.set_cons_zero, List.set_cons_succ, i64_w, i32_w]; go_big_quiet_on)
    | (go_big_quiet_want; refine quiet_op (v := ?_) ?_ ?_; rotate_left 1; (· (rintro w' ⟨x0, -, -⟩; go_simp; with_reducible rfl)); simp only [Act.put, List.setIfInBounds_toArray, List.set_cons_zero, List.set_cons_succ, i64_w, i32_w]; go_big_quiet_on))
  refine wpQuiet_nil ?_
  clear z0 z1 z2 z3 z4 z5 z6 QG3 HB HL
  rintro wb ⟨-, QG, HB⟩
  obtain ⟨z0, z1, z2, z3, z4, z5, z6⟩ := Go.Proofs.Ytpdoplkiaejpiaa.ShortK.cz7 QG
  have HRB := Aside0.mk (Kd.C_below HR.out HB.out)
  have h := HT.out
  clear HT
  generalize tl ++ dat = text at h ⊢
  clear s0
  unfold sTailB at h
  by_cases k16 : kd = 16
  case pos =>
    rw [if_pos k16] at h
    subst k16
    obtain ⟨a, j1, h1⟩ := sV_some h
    obtain ⟨rfl, s1⟩ := hcat_some h1
    have H1 := Aside0.mk j1
    clear h h1 j1
    go_wp2_with (first
      | (go_at_call 93; refine (spec_l1Var.calls k fa a _ H1.out).mono ?_; rintro e w2 ⟨rfl, hb⟩; have HB2 := Aside0.mk (HB.out.trans (hb.mono HB.out.size)); clear hb))
    go_ret
    exact ⟨by first | rfl | (simp; done), HB2.out⟩
  rw [if_neg k16] at h
  have e16 : (kd == 16) = false := beq_eq_false_iff_ne.mpr k16
  by_cases k17 : kd = 17 ∨ kd = 5
  case pos =>
    rw [if_pos k17] at h
    rcases k17 with rfl | rfl
    · skip
      obtain ⟨o1, h1, h2⟩ := Option.bind_eq_some_iff.mp h
      obtain ⟨a, j1, h1⟩ := sV_some h1
      obtain ⟨b, j2, h2⟩ := sV_some h2
      obtain ⟨rfl, s1⟩ := hcat_some h1
      obtain ⟨rfl, s2⟩ := hcat_some h2
      simp only [ByteArray.size_append] at s2
      have H1 := Aside0.mk j1
      have H2 := Aside0.mk j2
      clear h h1 h2 j1 j2
      go_wp2_with fail
      refine region_quiet (C := fun w' => w'.cell? ⟨g, 1, none⟩ = some (.int .i64 fa) ∧ w'.cell? ⟨g, 2, none⟩ = some (.int .i64 fb) ∧ Aside0 (Below w.heap.size w w')) (by kernel_rfl) (by kernel_rfl) ?hC ?_
      case hC => exact ⟨cb_ z1 (below_drew (Below.refl _ wb)), cb_ z2 (below_drew (Below.refl _ wb)), ⟨below_drew HB.out⟩⟩
      repeat (first
        | go_big_quiet_skip
        | (go_big_quiet_want; refine quiet_call ?_ Try.func93 (by kernel_rfl) rfl #[.int .i64 fa] rfl (by (try simp only [List.map_toArray, List.map_cons, List.map_nil]); first | done | rfl) ?_ ?_; rotate_left 1; (· (rintro w' ⟨x0, x1, x2⟩; refine (spec_l1Var.calls k fa a w' H1.out).mono ?_; rintro e w'' ⟨rfl, hb⟩; exact ⟨by with_reducible rfl, cb_ x0 hb, cb_ x1 hb, ⟨x2.out.trans (hb.mono x2.out.size)⟩⟩)); simp only [Act.put, List.setIfInBounds_toArray, List.set_cons_zero, List.set_cons_succ, i64_w, i32_w]; go_big_quiet_on)
        | (go_big_quiet_want; refine quiet_call ?_ Try.func93 (by kernel_rfl) rfl #[.int .i64 fb] rfl (by (try simp only [List.map_toArray, List.map_cons, List.map_nil]); first | done | rfl) ?_ ?_; rotate_left 1; (· (rintro w' ⟨x0, x1, x2⟩; refine (spec_l1Var.calls k fb b w' H2.out).mono ?_; rintro e w'' ⟨rfl, hb⟩; exact ⟨by with_reducible rfl, cb_ x0 hb, cb_ x1 hb, ⟨x2.out.trans (hb.mono x2.out.size)⟩⟩)); simp only [Act.put, List.setIfInBounds_toArray, List.set_cons_zero, List.set_cons_succ, i64_w, i32_w]; go_big_quiet_on)
        | (go_big_quiet_want; refine quiet_op (v := ?_) ?_ ?_; rotate_left 1; (· (rintro w' ⟨x0, x1, -⟩; go_simp; with_reducible rfl)); simp only [Act.put, List.setIfInBounds_toArray, List.set_cons_zero, List.set_cons_succ, i64_w, i32_w]; go_big_quiet_on))
      refine wpQuiet_nil ?_
      rintro w' ⟨-, -, x2⟩
      go_wp2
      go_ret
      exact ⟨by first | rfl | (simp; done), x2.out⟩
    · skip
      obtain ⟨o1, h1, h2⟩ := Option.bind_eq_some_iff.mp h
      obtain ⟨a, j1, h1⟩ := sV_some h1
      obtain ⟨b, j2, h2⟩ := sV_some h2
      obtain ⟨rfl, s1⟩ := hcat_some h1
      obtain ⟨rfl, s2⟩ := hcat_some h2
      simp only [ByteArray.size_append] at s2
      have H1 := Aside0.mk j1
      have H2 := Aside0.mk j2
      clear h h1 h2 j1 j2
      go_wp2_with fail
      refine region_quiet (C := fun w' => w'.cell? ⟨g, 1, none⟩ = some (.int .i64 fa) ∧ w'.cell? ⟨g, 2, none⟩ = some (.int .i64 fb) ∧ Aside0 (Below w.heap.size w w')) (by kernel_rfl) (by kernel_rfl) ?hC ?_
      case hC => exact ⟨cb_ z1 (below_drew (Below.refl _ wb)), cb_ z2 (below_drew (Below.refl _ wb)), ⟨below_drew HB.out⟩⟩
      repeat (first
        | go_big_quiet_skip
        | (go_big_quiet_want; refine quiet_call ?_ Try.func93 (by kernel_rfl) rfl #[.int .i64 fa] rfl (by (try simp only [List.map_toArray, List.map_cons, List.map_nil]); first | done | rfl) ?_ ?_; rotate_left 1; (· (rintro w' ⟨x0, x1, x2⟩; refine (spec_l1Var.calls k fa a w' H1.out).mono ?_; rintro e w'' ⟨rfl, hb⟩; exact ⟨by with_reducible rfl, cb_ x0 hb, cb_ x1 hb, ⟨x2.out.trans (hb.mono x2.out.size)⟩⟩)); simp only [Act.put, List.setIfInBounds_toArray, List.set_cons_zero, List.set_cons_succ, i64_w, i32_w]; go_big_quiet_on)
        | (go_big_quiet_want; refine quiet_call ?_ Try.func93 (by kernel_rfl) rfl #[.int .i64 fb] rfl (by (try simp only [List.map_toArray, List.map_cons, List.map_nil]); first | done | rfl) ?_ ?_; rotate_left 1; (· (rintro w' ⟨x0, x1, x2⟩; refine (spec_l1Var.calls k fb b w' H2.out).mono ?_; rintro e w'' ⟨rfl, hb⟩; exact ⟨by with_reducible rfl, cb_ x0 hb, cb_ x1 hb, ⟨x2.out.trans (hb.mono x2.out.size)⟩⟩)); simp only [Act.put, List.setIfInBounds_toArray, List.set_cons_zero, List.set_cons_succ, i64_w, i32_w]; go_big_quiet_on)
        | (go_big_quiet_want; refine quiet_op (v := ?_) ?_ ?_; rotate_left 1; (· (rintro w' ⟨x0, x1, -⟩; go_simp; with_reducible rfl)); simp only [Act.put, List.setIfInBounds_toArray, List.set_cons_zero, List.set_cons_succ, i64_w, i32_w]; go_big_quiet_on))
      refine wpQuiet_nil ?_
      rintro w' ⟨-, -, x2⟩
      go_wp2
      go_ret
      exact ⟨by first | rfl | (simp; done), x2.out⟩
  rw [if_neg k17] at h
  have e17 : (kd == 17) = false := beq_eq_false_iff_ne.mpr (fun h => k17 (Or.inl h))
  have e5 : (kd == 5) = false := beq_eq_false_iff_ne.mpr (fun h => k17 (Or.inr h))
  by_cases k4 : kd = 4
  case pos =>
    rw [if_pos k4] at h
    subst k4
    obtain ⟨o1, h1, h⟩ := Option.bind_eq_some_iff.mp h
    obtain ⟨o2, h2, h3⟩ := Option.bind_eq_some_iff.mp h
    obtain ⟨a, j1, h1⟩ := sV_some h1
    obtain ⟨b, j2, h2⟩ := sV_some h2
    obtain ⟨c, j3, h3⟩ := sV_some h3
    obtain ⟨rfl, s1⟩ := hcat_some h1
    obtain ⟨rfl, s2⟩ := hcat_some h2
    obtain ⟨rfl, s3⟩ := hcat_some h3
    simp only [ByteArray.size_append] at s2 s3
    have H1 := Aside0.mk j1
    have H2 := Aside0.mk j2
    have H3 := Aside0.mk j3
    clear h h1 h2 h3 j1 j2 j3
    go_wp2_with fail
    refine region_quiet (C := fun w' => w'.cell? ⟨g, 1, none⟩ = some (.int .i64 fa) ∧ w'.cell? ⟨g, 2, none⟩ = some (.int .i64 fb) ∧ w'.cell? ⟨g, 3, none⟩ = some (.int .i64 fc) ∧ Aside0 (Below w.heap.size w w')) (by kernel_rfl) (by kernel_rfl) ?hC ?_
    case hC => exact ⟨cb_ z1 (below_drew (Below.refl _ wb)), cb_ z2 (below_drew (Below.refl _ wb)), cb_ z3 (below_drew (Below.refl _ wb)), ⟨below_drew HB.out⟩⟩
    repeat (first
      | go_big_quiet_skip
      | (go_big_quiet_want; refine quiet_call ?_ Try.func93 (by kernel_rfl) rfl #[.int .i64 fa] rfl (by (try simp only [List.map_toArray, List.map_cons, List.map_nil]); first | done | rfl) ?_ ?_; rotate_left 1; (· (rintro w' ⟨x0, x1, x2, x3⟩; refine (spec_l1Var.calls k fa a w' H1.out).mono ?_; rintro e w'' ⟨rfl, hb⟩; exact ⟨by with_reducible rfl, cb_ x0 hb, cb_ x1 hb, cb_ x2 hb, ⟨x3.out.trans (hb.mono x3.out.size)⟩⟩)); simp only [Act.put, List.setIfInBounds_toArray, List.set_cons_zero, List.set_cons_succ, i64_w, i32_w]; go_big_quiet_on)
      | (go_big_quiet_want; refine quiet_call ?_ Try.func93 (by kernel_rfl) rfl #[.int .i64 fb] rfl (by (try simp only [List.map_toArray, List.map_cons, List.map_nil]); first | done | rfl) ?_ ?_; rotate_left 1; (· (rintro w' ⟨x0, x1, x2, x3⟩; refine (spec_l1Var.calls k fb b w' H2.out).mono ?_; rintro e w'' ⟨rfl, hb⟩; exact ⟨by with_reducible rfl, cb_ x0 hb, cb_ x1 hb, cb_ x2 hb, ⟨x3.out.trans (hb.mono x3.out.size)⟩⟩)); simp only [Act.put, List.setIfInBounds_toArray, List.set_cons_zero, List.set_cons_succ, i64_w, i32_w]; go_big_quiet_on)
      | (go_big_quiet_want; refine quiet_call ?_ Try.func93 (by kernel_rfl) rfl #[.int .i64 fc] rfl (by (try simp only [List.map_toArray, List.map_cons, List.map_nil]); first | done | rfl) ?_ ?_; rotate_left 1; (· (rintro w' ⟨x0, x1, x2, x3⟩; refine (spec_l1Var.calls k fc c w' H3.out).mono ?_; rintro e w'' ⟨rfl, hb⟩; exact ⟨by with_reducible rfl, cb_ x0 hb, cb_ x1 hb, cb_ x2 hb, ⟨x3.out.trans (hb.mono x3.out.size)⟩⟩)); simp only [Act.put, List.setIfInBounds_toArray, List.set_cons_zero, List.set_cons_succ, i64_w, i32_w]; go_big_quiet_on)
      | (go_big_quiet_want; refine quiet_op (v := ?_) ?_ ?_; rotate_left 1; (· (rintro w' ⟨x0, x1, x2, -⟩; go_simp; with_reducible rfl)); simp only [Act.put, List.setIfInBounds_toArray, List.set_cons_zero, List.set_cons_succ, i64_w, i32_w]; go_big_quiet_on))
    refine wpQuiet_nil ?_
    rintro w' ⟨-, -, -, x3⟩
    go_wp2
    go_ret
    exact ⟨by first | rfl | (simp; done), x3.out⟩
  rw [if_neg k4] at h
  have e4 : (kd == 4) = false := beq_eq_false_iff_ne.mpr k4
  by_cases k28 : kd = 28
  case pos =>
    rw [if_pos k28] at h
    subst k28
    obtain ⟨o1, h1, h⟩ := Option.bind_eq_some_iff.mp h
    obtain ⟨o2, h2, h3⟩ := Option.bind_eq_some_iff.mp h
    obtain ⟨a, j1, h1⟩ := sV_some h1
    obtain ⟨b, j2, h2⟩ := sV_some h2
    obtain ⟨rfl, s1⟩ := hcat_some h1
    obtain ⟨rfl, s2⟩ := hcat_some h2
    obtain ⟨rfl, s3⟩ := hcat_some h3
    simp only [ByteArray.size_append] at s2 s3
    have H1 := Aside0.mk j1
    have H2 := Aside0.mk j2
    clear h h1 h2 h3 j1 j2
    go_wp2_with fail
    refine region_quiet (C := fun w' => w'.cell? ⟨g, 1, none⟩ = some (.int .i64 fa) ∧ w'.cell? ⟨g, 2, none⟩ = some (.int .i64 fb) ∧ Aside0 (Below w.heap.size w w')) (by kernel_rfl) (by kernel_rfl) ?hC ?_
    case hC => exact ⟨cb_ z1 (below_drew (Below.refl _ wb)), cb_ z2 (below_drew (Below.refl _ wb)), ⟨below_drew HB.out⟩⟩
    repeat (first
      | go_big_quiet_skip
      | (go_big_quiet_want; refine quiet_call ?_ Try.func93 (by kernel_rfl) rfl #[.int .i64 fa] rfl (by (try simp only [List.map_toArray, List.map_cons, List.map_nil]); first | done | rfl) ?_ ?_; rotate_left 1; (· (rintro w' ⟨x0, x1, x2⟩; refine (spec_l1Var.calls k fa a w' H1.out).mono ?_; rintro e w'' ⟨rfl, hb⟩; exact ⟨by with_reducible rfl, cb_ x0 hb, cb_ x1 hb, ⟨x2.out.trans (hb.mono x2.out.size)⟩⟩)); simp only [Act.put, List.setIfInBounds_toArray, List.set_cons_zero, List.set_cons_succ, i64_w, i32_w]; go_big_quiet_on)
      | (go_big_quiet_want; refine quiet_call ?_ Try.func93 (by kernel_rfl) rfl #[.int .i64 fb] rfl (by (try simp only [List.map_toArray, List.map_cons, List.map_nil]); first | done | rfl) ?_ ?_; rotate_left 1; (· (rintro w' ⟨x0, x1, x2⟩; refine (spec_l1Var.calls k fb b w' H2.out).mono ?_; rintro e w'' ⟨rfl, hb⟩; exact ⟨by with_reducible rfl, cb_ x0 hb, cb_ x1 hb, ⟨x2.out.trans (hb.mono x2.out.size)⟩⟩)); simp only [Act.put, List.setIfInBounds_toArray, List.set_cons_zero, List.set_cons_succ, i64_w, i32_w]; go_big_quiet_on)
      | (go_big_quiet_want; refine quiet_op (v := ?_) ?_ ?_; rotate_left 1; (· (rintro w' ⟨x0, x1, -⟩; go_simp; with_reducible rfl)); simp only [Act.put, List.setIfInBounds_toArray, List.set_cons_zero, List.set_cons_succ, i64_w, i32_w]; go_big_quiet_on))
    refine wpQuiet_nil ?_
    rintro w' ⟨-, -, x2⟩
    go_wp2
    go_ret
    exact ⟨by first | rfl | (simp; done), x2.out⟩
  rw [if_neg k28] at h
  have e28 : (kd == 28) = false := beq_eq_false_iff_ne.mpr k28
  by_cases k2 : kd = 2
  case pos =>
    rw [if_pos k2] at h
    subst k2
    unfold sAck at h
    split at h
    case isFalse => cases h
    case isTrue hlen =>
    obtain ⟨hd, hH, hL⟩ := Option.bind_eq_some_iff.mp h
    unfold sAckHead at hH
    obtain ⟨a, h1, hH⟩ := Option.bind_eq_some_iff.mp hH
    obtain ⟨b, h2, hH⟩ := Option.bind_eq_some_iff.mp hH
    obtain ⟨c, h3, hH⟩ := Option.bind_eq_some_iff.mp hH
    obtain ⟨d, h4, hH⟩ := Option.bind_eq_some_iff.mp hH
    obtain ⟨ab, h5, hH⟩ := Option.bind_eq_some_iff.mp hH
    obtain ⟨abc, h6, hH⟩ := Option.bind_eq_some_iff.mp hH
    obtain ⟨abcd, h7, h8⟩ := Option.bind_eq_some_iff.mp hH
    obtain ⟨rfl, s1⟩ := hcat_some h5
    obtain ⟨rfl, s2⟩ := hcat_some h6
    obtain ⟨rfl, s3⟩ := hcat_some h7
    obtain ⟨rfl, s4⟩ := hcat_some h8
    simp only [ByteArray.size_append] at s2 s3 s4
    have H1 := Aside0.mk h1
    have H2 := Aside0.mk h2
    have H3 := Aside0.mk h3
    have H4 := Aside0.mk h4
    have HL := Aside0.mk hL
    have HLN := Aside0.mk hlen
    have hu92 := Try.underlying92
    clear h hH h1 h2 h3 h4 h5 h6 h7 h8 hL
    have p0 : (0 : Int) < (rs.length : Int) := by have := hlen.1; omega
    obtain ⟨ad, e0, hx0, hx1⟩ := at_T92 HRB.out 0 (by omega) p0
    cases e0
    have hy0 : wb.cell? ad = some (.int .i64 (rd_T92 rs 0).f0) := hx0
    have hy1 : wb.cell? ⟨ad.block, ad.off + 1, none⟩ = some (.int .i64 (rd_T92 rs 0).f1) := hx1
    clear hx0 hx1 hlen
    have p0' := eq_true p0
    have p0n : (0 < rs.length) = True := eq_true (by omega)
    have q0 : decide ((0 : Int) < (rs.length : Int)) = true := decide_eq_true p0
    go_wp2_with fail
    refine region_quiet (C := fun w' => w'.cell? ad = some (.int .i64 (rd_T92 rs 0).f0) ∧ w'.cell? ⟨ad.block, ad.off + 1, none⟩ = some (.int .i64 (rd_T92 rs 0).f1) ∧ w'.cell? ⟨g, 1, none⟩ = some (.int .i64 fa) ∧ w'.cell? ⟨g, 6, none⟩ = some (.slice (some ad) rs.length cR) ∧ Aside0 (w'.heap[g]? = some (.cells #[.int .i64 2, .int .i64 fa, .int .i64 fb, .int .i64 fc, .bool fin, .string dat, .slice (some ad) rs.length cR] 30 (0, 0))) ∧ Aside0 (Below w.heap.size w w')) (by kernel_rfl) (by kernel_rfl) ?hC ?_
    case hC => exact ⟨cb_ hy0 (below_drew (Below.refl _ wb)), cb_ hy1 (below_drew (Below.refl _ wb)), cb_ z1 (below_drew (Below.refl _ wb)), cb_ z6 (below_drew (Below.refl _ wb)), ⟨blk_below QG.out (below_drew (Below.refl _ wb))⟩, ⟨below_drew HB.out⟩⟩
    repeat (first
      | go_big_quiet_skip
      | (go_big_quiet_want; refine quiet_call ?_ Try.func93 (by kernel_rfl) rfl #[.int .i64 (rd_T92 rs 0).f1] rfl (by (try simp only [List.map_toArray, List.map_cons, List.map_nil]); first | done | rfl) ?_ ?_; rotate_left 1; (· (rintro w' ⟨x0, x1, x2, x3, xb, x4⟩; refine (spec_l1Var.calls k (rd_T92 rs 0).f1 a w' H1.out).mono ?_; rintro e w'' ⟨rfl, hb⟩; exact ⟨by with_reducible rfl, cb_ x0 hb, cb_ x1 hb, cb_ x2 hb, cb_ x3 hb, ⟨blk_below xb.out hb⟩, ⟨x4.out.trans (hb.mono x4.out.size)⟩⟩)); simp only [Act.put, List.setIfInBounds_toArray, List.set_cons_zero, List.set_cons_succ, i64_w, i32_w]; go_big_quiet_on)
      | (go_big_quiet_want; refine quiet_call ?_ Try.func93 (by kernel_rfl) rfl #[.int .i64 fa] rfl (by (try simp only [List.map_toArray, List.map_cons, List.map_nil]); first | done | rfl) ?_ ?_; rotate_left 1; (· (rintro w' ⟨x0, x1, x2, x3, xb, x4⟩; refine (spec_l1Var.calls k fa b w' H2.out).mono ?_; rintro e w'' ⟨rfl, hb⟩; exact ⟨by with_reducible rfl, cb_ x0 hb, cb_ x1 hb, cb_ x2 hb, cb_ x3 hb, ⟨blk_below xb.out hb⟩, ⟨x4.out.trans (hb.mono x4.out.size)⟩⟩)); simp only [Act.put, List.setIfInBounds_toArray, List.set_cons_zero, List.set_cons_succ, i64_w, i32_w]; go_big_quiet_on)
      | (go_big_quiet_want; refine quiet_call ?_ Try.func93 (by kernel_rfl) rfl #[.int .i64 (wrap64 ((rs.length : Int) - 1))] rfl (by (try simp only [List.map_toArray, List.map_cons, List.map_nil]); first | done | rfl) ?_ ?_; rotate_left 1; (· (rintro w' ⟨x0, x1, x2, x3, xb, x4⟩; refine (spec_l1Var.calls k (wrap64 ((rs.length : Int) - 1)) c w' H3.out).mono ?_; rintro e w'' ⟨rfl, hb⟩; exact ⟨by with_reducible rfl, cb_ x0 hb, cb_ x1 hb, cb_ x2 hb, cb_ x3 hb, ⟨blk_below xb.out hb⟩, ⟨x4.out.trans (hb.mono x4.out.size)⟩⟩)); simp only [Act.put, List.setIfInBounds_toArray, List.set_cons_zero, List.set_cons_succ, i64_w, i32_w]; go_big_quiet_on)
      | (go_big_quiet_want; refine quiet_call ?_ Try.func93 (by kernel_rfl) rfl #[.int .i64 (wrap64 ((rd_T92 rs 0).f1 - (rd_T92 rs 0).f0))] rfl (by (try simp only [List.map_toArray, List.map_cons, List.map_nil]); first | done | rfl) ?_ ?_; rotate_left 1; (· (rintro w' ⟨x0, x1, x2, x3, xb, x4⟩; refine (spec_l1Var.calls k (wrap64 ((rd_T92 rs 0).f1 - (rd_T92 rs 0).f0)) d w' H4.out).mono ?_; rintro e w'' ⟨rfl, hb⟩; exact ⟨by with_reducible rfl, cb_ x0 hb, cb_ x1 hb, cb_ x2 hb, cb_ x3 hb, ⟨blk_below xb.out hb⟩, ⟨x4.out.trans (hb.mono x4.out.size)⟩⟩)); simp only [Act.put, List.setIfInBounds_toArray, List.set_cons_zero, List.set_cons_succ, i64_w, i32_w]; go_big_quiet_on)
      | (go_big_quiet_want; refine quiet_op (v := ?_) ?_ ?_; rotate_left 1; (· (rintro w' ⟨x0, x1, x2, x3, -⟩; go_simp; with_reducible rfl)); simp only [Act.put, List.setIfInBounds_toArray, List.set_cons_zero, List.set_cons_succ, i64_w, i32_w]; go_big_quiet_on))
    refine wpQuiet_nil ?_
    rintro w7 ⟨-, -, -, -, QG7, HB7⟩
    clear hy0 hy1 z0 z1 z2 z3 z4 z5 z6 s1 s2 s3 s4 H1 H2 H3 H4 p0' QG
    have z6 : w7.cell? ⟨g, 6, none⟩ = some (.slice (some ad) rs.length cR) := (blk_cell QG7.out 6).trans rfl
    go_wp2_with fail
    go_loopg [3, 104] rs.length (fun kq v3 v104 w' => ∃ (i : Int) (out : ByteArray), v3 = .string out ∧ v104 = .int .i64 i ∧ Aside0 (sAckLoop k rs kq i out = some r) ∧ Aside0 (i + kq = (rs.length : Int) ∧ 0 ≤ i) ∧ Aside0 (w'.heap[g]? = some (.cells #[.int .i64 2, .int .i64 fa, .int .i64 fb, .int .i64 fc, .bool fin, .string dat, .slice (some ad) rs.length cR] 30 (0, 0))) ∧ Aside0 (Below w.heap.size w w'))
    case atStart => exact ⟨0, _, rfl, rfl, HL, ⟨⟨by omega, by omega⟩⟩, QG7, HB7⟩
    case round =>
      clear HL HB7 QG7 z6
      obtain ⟨i, out, rfl, rfl, HA, HI, QG, HB⟩ := hrel
      obtain ⟨hi1, hi0⟩ := HI.out
      clear HI
      cases gk with
      | zero =>
        have hd2 : decide (i < (rs.length : Int)) = false := decide_eq_false (by omega)
        obtain rfl : out = r := Option.some.inj HA.out
        clear HA hi1 hi0
        go_wp2
        go_ret
        exact ⟨rfl, HB.out⟩
      | succ n =>
        have HA1 := HA.out
        unfold sAckLoop at HA1
        clear HA
        have hi2 : i < (rs.length : Int) := by omega
        have hd2 : decide (i < (rs.length : Int)) = true := decide_eq_true hi2
        have HII := Aside0.mk (And.intro hi1 hi0)
        obtain ⟨ad', e0, hy0, hy1⟩ := at_T92 HR.out i hi0 hi2
        injection e0 with e0
        subst e0
        have q0 := cb_ hy0 HB.out
        have q1 := cb_ hy1 HB.out
        have q6 : wr.cell? ⟨g, 6, none⟩ = some (.slice (some ad) rs.length cR) := (blk_cell QG.out 6).trans rfl
        clear hy0 hy1 hi1
        have r0 := eq_true hi0
        have r1 := eq_true hi2
        have HWI := Aside0.mk (show wrap64 (i + 1) = i + 1 from by have := HLN.out; have := HII.out; unfold wrap64; omega)
        have hbn : Below wr.heap.size wr (wr.alloc (.cells #[.int .i64 (rd_T92 rs i).f0, .int .i64 (rd_T92 rs i).f1] 92 (0, 0))) := below_alloc (Below.refl _ wr) _
        have hbox : (wr.alloc (.cells #[.int .i64 (rd_T92 rs i).f0, .int .i64 (rd_T92 rs i).f1] 92 (0, 0))).heap[wr.heap.size]? = some (.cells #[.int .i64 (rd_T92 rs i).f0, .int .i64 (rd_T92 rs i).f1] 92 (0, 0)) := blk_new wr _
        by_cases hz : 0 < i
        · skip
          rw [if_pos hz] at HA1
          obtain ⟨x, hx, HA1⟩ := Option.bind_eq_some_iff.mp HA1
          obtain ⟨y, hy, HA1⟩ := Option.bind_eq_some_iff.mp HA1
          obtain ⟨xy, hxy, HA1⟩ := Option.bind_eq_some_iff.mp HA1
          obtain ⟨o, ho, HA1⟩ := Option.bind_eq_some_iff.mp HA1
          obtain ⟨rfl, s1⟩ := hcat_some hxy
          obtain ⟨rfl, s2⟩ := hcat_some ho
          simp only [ByteArray.size_append] at s2
          have hzd : decide (0 < i) = true := decide_eq_true hz
          have wi2 : wrap64 (i - 1) = i - 1 := by have := HLN.out; unfold wrap64; omega
          have wi : IntKind.i64.wrap (i - 1) = i - 1 := by rw [i64_w]; exact wi2
          obtain ⟨j, hj⟩ : ∃ j : Int, i - 1 = j := ⟨_, rfl⟩
          have hj0 : 0 ≤ j := by omega
          have hj1 : j < (rs.length : Int) := by omega
          rw [hj] at hx
          replace wi := wi.trans hj
          replace wi2 := wi2.trans hj
          clear hj
          obtain ⟨ad', e0, hx0, -⟩ := at_T92 HR.out j hj0 hj1
          injection e0 with e0
          subst e0
          have q2 := cb_ hx0 HB.out
          clear hx0
          have r2 := eq_true hj0
          have r3 := eq_true hj1
          have HX := Aside0.mk hx
          have HY := Aside0.mk hy
          have HN := Aside0.mk HA1
          clear HA1 hx hy hxy ho
          go_upto_region 19 with (fail)
          have HBOX := Aside0.mk hbox
          have HBN := Aside0.mk hbn
          clear hbox hbn
          revert HBOX HBN
          generalize wr.alloc (.cells #[.int .i64 (rd_T92 rs i).f0, .int .i64 (rd_T92 rs i).f1] 92 (0, 0)) = w6
          intro HBOX HBN
          have y0 : w6.cell? ⟨wr.heap.size, 0, none⟩ = some (.int .i64 (rd_T92 rs i).f0) := (blk_cell HBOX.out 0).trans rfl
          have y1 : w6.cell? ⟨wr.heap.size, 1, none⟩ = some (.int .i64 (rd_T92 rs i).f1) := (blk_cell HBOX.out 1).trans rfl
          have y2 := cb_ q2 HBN.out
          have y6 := cb_ q6 HBN.out
          have HG6 := Aside0.mk (blk_below QG.out HBN.out)
          have HB6 := Aside0.mk (HB.out.trans (HBN.out.mono HB.out.size))
          clear HB HBN HBOX q0 q1 q2 q6
          refine region_quiet (C := fun w' => w'.cell? ⟨wr.heap.size, 0, none⟩ = some (.int .i64 (rd_T92 rs i).f0) ∧ w'.cell? ⟨wr.heap.size, 1, none⟩ = some (.int .i64 (rd_T92 rs i).f1) ∧ w'.cell? (ad.add (j.toNat * 2)) = some (.int .i64 (rd_T92 rs j).f0) ∧ w'.cell? ⟨g, 6, none⟩ = some (.slice (some ad) rs.length cR) ∧ Aside0 (w'.heap[g]? = some (.cells #[.int .i64 2, .int .i64 fa, .int .i64 fb, .int .i64 fc, .bool fin, .string dat, .slice (some ad) rs.length cR] 30 (0, 0))) ∧ Aside0 (Below w.heap.size w w')) (by kernel_rfl) (by kernel_rfl) ?hC ?_
          case hC => exact ⟨cb_ y0 (below_drew (Below.refl _ w6)), cb_ y1 (below_drew (Below.refl _ w6)), cb_ y2 (below_drew (Below.refl _ w6)), cb_ y6 (below_drew (Below.refl _ w6)), ⟨blk_below HG6.out (below_drew (Below.refl _ w6))⟩, ⟨below_drew HB6.out⟩⟩
          repeat (first
            | go_big_quiet_skip
            | (go_big_quiet_want; refine quiet_call ?_ Try.func93 (by kernel_rfl) rfl #[.int .i64 (wrap64 (wrap64 ((rd_T92 rs j).f0 - (rd_T92 rs i).f1) - 2))] rfl (by (try simp only [List.map_toArray, List.map_cons, List.map_nil]); first | done | rfl) ?_ ?_; rotate_left 1; (· (rintro w' ⟨x0, x1, x2, x3, xb, x4⟩; refine (spec_l1Var.calls k (wrap64 (wrap64 ((rd_T92 rs j).f0 - (rd_T92 rs i).f1) - 2)) x w' HX.out).mono ?_; rintro e w'' ⟨rfl, hb⟩; exact ⟨by with_reducible rfl, cb_ x0 hb, cb_ x1 hb, cb_ x2 hb, cb_ x3 hb, ⟨blk_below xb.out hb⟩, ⟨x4.out.trans (hb.mono x4.out.size)⟩⟩)); simp only [Act.put, List.setIfInBounds_toArray, List.set_cons_zero, List.set_cons_succ, i64_w, i32_w]; go_big_quiet_on)
            | (go_big_quiet_want; refine quiet_call ?_ Try.func93 (by kernel_rfl) rfl #[.int .i64 (wrap64 ((rd_T92 rs i).f1 - (rd_T92 rs i).f0))] rfl (by (try simp only [List.map_toArray, List.map_cons, List.map_nil]); first | done | rfl) ?_ ?_; rotate_left 1; (· (rintro w' ⟨x0, x1, x2, x3, xb, x4⟩; refine (spec_l1Var.calls k (wrap64 ((rd_T92 rs i).f1 - (rd_T92 rs i).f0)) y w' HY.out).mono ?_; rintro e w'' ⟨rfl, hb⟩; exact ⟨by with_reducible rfl, cb_ x0 hb, cb_ x1 hb, cb_ x2 hb, cb_ x3 hb, ⟨blk_below xb.out hb⟩, ⟨x4.out.trans (hb.mono x4.out.size)⟩⟩)); simp only [Act.put, List.setIfInBounds_toArray, List.set_cons_zero, List.set_cons_succ, i64_w, i32_w]; go_big_quiet_on)
            | (go_big_quiet_want; refine quiet_op (v := ?_) ?_ ?_; rotate_left 1; (· (rintro w' ⟨x0, x1, x2, x3, -⟩; go_simp; with_reducible rfl)); simp only [Act.put, List.setIfInBounds_toArray, List.set_cons_zero, List.set_cons_succ, i64_w, i32_w]; go_big_quiet_on))
          refine wpQuiet_nil ?_
          rintro w' ⟨-, -, -, -, xb, x4⟩
          go_wp2
          go_roundg n
          case measure => omega
          case rel => exact ⟨i + 1, _, rfl, by first | rfl | (simp; done) | (rw [HWI.out]), HN, ⟨⟨by have := HII.out; omega, by have := HII.out; omega⟩⟩, xb, x4⟩
        · skip
          rw [if_neg hz] at HA1
          have hzd : decide (0 < i) = false := decide_eq_false hz
          have HN := Aside0.mk HA1
          clear HA1
          go_wp2
          go_roundg n
          case measure => omega
          case rel => exact ⟨i + 1, _, rfl, by first | rfl | (simp; done) | (rw [HWI.out]), HN, ⟨⟨by have := HII.out; omega, by have := HII.out; omega⟩⟩, ⟨blk_alloc QG.out _⟩, ⟨below_alloc HB.out _⟩⟩
  rw [if_neg k2] at h
  have e2 : (kd == 2) = false := beq_eq_false_iff_ne.mpr k2
  by_cases k6 : kd = 6
  case pos =>
    rw [if_pos k6] at h
    subst k6
    obtain ⟨o1, h1, h2⟩ := Option.bind_eq_some_iff.mp h
    obtain ⟨a, j1, h1⟩ := sV_some h1
    obtain ⟨rfl, s1⟩ := hcat_some h1
    obtain ⟨rfl, s2⟩ := hcat_some h2
    simp only [ByteArray.size_append] at s2
    have H1 := Aside0.mk j1
    clear h h1 h2 j1
    go_wp2_with (first
      | (go_at_call 93; refine (spec_l1Var.calls k fa a _ H1.out).mono ?_; rintro e w2 ⟨rfl, hb⟩; have HB2 := Aside0.mk (HB.out.trans (hb.mono HB.out.size)); clear hb))
    go_ret
    exact ⟨by first | rfl | (simp; done), HB2.out⟩
  rw [if_neg k6] at h
  have e6 : (kd == 6) = false := beq_eq_false_iff_ne.mpr k6
  by_cases k7 : kd = 7
  case pos =>
    rw [if_pos k7] at h
    subst k7
    obtain ⟨rfl, s1⟩ := hcat_some h
    clear h
    go_wp2_with fail
    go_ret
    exact ⟨by first | rfl | (simp; done), HB.out⟩
  rw [if_neg k7] at h
  have e7 : (kd == 7) = false := beq_eq_false_iff_ne.mpr k7
  by_cases k8 : kd = 8
  case pos =>
    rw [if_pos k8] at h
    subst k8
    unfold sStream at h
    obtain ⟨off, h0, h⟩ := Option.bind_eq_some_iff.mp h
    obtain ⟨a, h1, h⟩ := Option.bind_eq_some_iff.mp h
    obtain ⟨b, h2, h⟩ := Option.bind_eq_some_iff.mp h
    obtain ⟨ab, h4, h⟩ := Option.bind_eq_some_iff.mp h
    obtain ⟨abo, h5, h⟩ := Option.bind_eq_some_iff.mp h
    obtain ⟨rfl, s1⟩ := hcat_some h4
    obtain ⟨rfl, s2⟩ := hcat_some h5
    obtain ⟨rfl, s3⟩ := hcat_some h
    simp only [ByteArray.size_append] at s2 s3
    have H0 := Aside0.mk h0
    have H1 := Aside0.mk h1
    have H2 := Aside0.mk h2
    clear h h0 h1 h2 h4 h5
    have b11 : Go.bits .or .i64 10 1 = 11 := by decide
    have b14 : Go.bits .or .i64 10 4 = 14 := by decide
    have b15 : Go.bits .or .i64 14 1 = 15 := by decide
    by_cases hf0 : fb = 0
    · skip
      have hf1 : (fb != 0) = false := by simp [hf0]
      obtain rfl : off = (⟨#[]⟩ : ByteArray) := by have h_ := H0.out; rw [if_pos hf0] at h_; exact (Option.some.inj h_).symm
      have t2 : (9223372036854775807 < a.size + b.size + 0 + text.size) = False := s3
      have t3 : (9223372036854775807 < (a ++ b ++ (⟨#[]⟩ : ByteArray)).size + text.size) = False := by rw [ByteArray.size_append, ByteArray.size_append]; exact s3
      have t4 : (9223372036854775807 < a.size + b.size + (#[] : Array UInt8).size + text.size) = False := s3
      have t1 : (9223372036854775807 < a.size + b.size + text.size) = False := s3
      clear H0
      cases fin with
      | false =>
        have HK : Aside0 (spec_l1Var.f k 10 = some a) := ⟨by have h_ := H1.out; unfold streamKind at h_; simpa [hf0] using h_⟩
        clear H1
        go_wp2_with fail
        refine region_quiet (C := fun w' => w'.cell? ⟨g, 1, none⟩ = some (.int .i64 fa) ∧ Aside0 (Below w.heap.size w w')) (by kernel_rfl) (by kernel_rfl) ?hC ?_
        case hC => exact ⟨cb_ z1 (below_drew (Below.refl _ wb)), ⟨below_drew HB.out⟩⟩
        repeat (first
          | go_big_quiet_skip
          | (go_big_quiet_want; refine quiet_call ?_ Try.func93 (by kernel_rfl) rfl #[.int .i64 10] rfl (by (try simp only [List.map_toArray, List.map_cons, List.map_nil]); first | done | rfl) ?_ ?_; rotate_left 1; (· (rintro w' ⟨x0, x1⟩; refine (spec_l1Var.calls k 10 a w' HK.out).mono ?_; rintro e w'' ⟨rfl, hb⟩; exact ⟨by with_reducible rfl, cb_ x0 hb, ⟨x1.out.trans (hb.mono x1.out.size)⟩⟩)); simp only [Act.put, List.setIfInBounds_toArray, List.set_cons_zero, List.set_cons_succ, i64_w, i32_w]; go_big_quiet_on)
          | (go_big_quiet_want; refine quiet_call ?_ Try.func93 (by kernel_rfl) rfl #[.int .i64 fa] rfl (by (try simp only [List.map_toArray, List.map_cons, List.map_nil]); first | done | rfl) ?_ ?_; rotate_left 1; (· (rintro w' ⟨x0, x1⟩; refine (spec_l1Var.calls k fa b w' H2.out).mono ?_; rintro e w'' ⟨rfl, hb⟩; exact ⟨by with_reducible rfl, cb_ x0 hb, ⟨x1.out.trans (hb.mono x1.out.size)⟩⟩)); simp only [Act.put, List.setIfInBounds_toArray, List.set_cons_zero, List.set_cons_succ, i64_w, i32_w]; go_big_quiet_on)
          | (go_big_quiet_want; refine quiet_op (v := ?_) ?_ ?_; rotate_left 1; (· (rintro w' ⟨x0, -⟩; go_simp; with_reducible rfl)); simp only [Act.put, List.setIfInBounds_toArray, List.set_cons_zero, List.set_cons_succ, i64_w, i32_w]; go_big_quiet_on))
        refine wpQuiet_nil ?_
        rintro w' ⟨-, x1⟩
        go_wp2
        go_ret
        exact ⟨by first | rfl | (simp; done), x1.out⟩
      | true =>
        have HK : Aside0 (spec_l1Var.f k 11 = some a) := ⟨by have h_ := H1.out; unfold streamKind at h_; simpa [hf0] using h_⟩
        clear H1
        go_wp2_with fail
        refine region_quiet (C := fun w' => w'.cell? ⟨g, 1, none⟩ = some (.int .i64 fa) ∧ Aside0 (Below w.heap.size w w')) (by kernel_rfl) (by kernel_rfl) ?hC ?_
        case hC => exact ⟨cb_ z1 (below_drew (Below.refl _ wb)), ⟨below_drew HB.out⟩⟩
        repeat (first
          | go_big_quiet_skip
          | (go_big_quiet_want; refine quiet_call ?_ Try.func93 (by kernel_rfl) rfl #[.int .i64 11] rfl (by (try simp only [List.map_toArray, List.map_cons, List.map_nil]); first | done | rfl) ?_ ?_; rotate_left 1; (· (rintro w' ⟨x0, x1⟩; refine (spec_l1Var.calls k 11 a w' HK.out).mono ?_; rintro e w'' ⟨rfl, hb⟩; exact ⟨by with_reducible rfl, cb_ x0 hb, ⟨x1.out.trans (hb.mono x1.out.size)⟩⟩)); simp only [Act.put, List.setIfInBounds_toArray, List.set_cons_zero, List.set_cons_succ, i64_w, i32_w]; go_big_quiet_on)
          | (go_big_quiet_want; refine quiet_call ?_ Try.func93 (by kernel_rfl) rfl #[.int .i64 fa] rfl (by (try simp only [List.map_toArray, List.map_cons, List.map_nil]); first | done | rfl) ?_ ?_; rotate_left 1; (· (rintro w' ⟨x0, x1⟩; refine (spec_l1Var.calls k fa b w' H2.out).mono ?_; rintro e w'' ⟨rfl, hb⟩; exact ⟨by with_reducible rfl, cb_ x0 hb, ⟨x1.out.trans (hb.mono x1.out.size)⟩⟩)); simp only [Act.put, List.setIfInBounds_toArray, List.set_cons_zero, List.set_cons_succ, i64_w, i32_w]; go_big_quiet_on)
          | (go_big_quiet_want; refine quiet_op (v := ?_) ?_ ?_; rotate_left 1; (· (rintro w' ⟨x0, -⟩; go_simp; with_reducible rfl)); simp only [Act.put, List.setIfInBounds_toArray, List.set_cons_zero, List.set_cons_succ, i64_w, i32_w]; go_big_quiet_on))
        refine wpQuiet_nil ?_
        rintro w' ⟨-, x1⟩
        go_wp2
        go_ret
        exact ⟨by first | rfl | (simp; done), x1.out⟩
    · skip
      have hf1 : (fb != 0) = true := by simp [hf0]
      have HF : Aside0 (spec_l1Var.f k fb = some off) := ⟨by have h_ := H0.out; rw [if_neg hf0] at h_; exact h_⟩
      clear H0
      cases fin with
      | false =>
        have HK : Aside0 (spec_l1Var.f k 14 = some a) := ⟨by have h_ := H1.out; unfold streamKind at h_; simpa [hf0] using h_⟩
        clear H1
        go_wp2_with (go_at_call 93; refine (spec_l1Var.calls k fb off _ HF.out).mono ?_; rintro e w2 ⟨rfl, hb⟩; have HB2 := Aside0.mk (HB.out.trans (hb.mono HB.out.size)); have q1 := cb_ z1 hb; have q4 := cb_ z4 hb; have q5 := cb_ z5 hb; clear hb HF)
        refine region_quiet (C := fun w' => w'.cell? ⟨g, 1, none⟩ = some (.int .i64 fa) ∧ Aside0 (Below w.heap.size w w')) (by kernel_rfl) (by kernel_rfl) ?hC ?_
        case hC => exact ⟨cb_ q1 (below_drew (Below.refl _ w2)), ⟨below_drew HB2.out⟩⟩
        repeat (first
          | go_big_quiet_skip
          | (go_big_quiet_want; refine quiet_call ?_ Try.func93 (by kernel_rfl) rfl #[.int .i64 14] rfl (by (try simp only [List.map_toArray, List.map_cons, List.map_nil]); first | done | rfl) ?_ ?_; rotate_left 1; (· (rintro w' ⟨x0, x1⟩; refine (spec_l1Var.calls k 14 a w' HK.out).mono ?_; rintro e w'' ⟨rfl, hb⟩; exact ⟨by with_reducible rfl, cb_ x0 hb, ⟨x1.out.trans (hb.mono x1.out.size)⟩⟩)); simp only [Act.put, List.setIfInBounds_toArray, List.set_cons_zero, List.set_cons_succ, i64_w, i32_w]; go_big_quiet_on)
          | (go_big_quiet_want; refine quiet_call ?_ Try.func93 (by kernel_rfl) rfl #[.int .i64 fa] rfl (by (try simp only [List.map_toArray, List.map_cons, List.map_nil]); first | done | rfl) ?_ ?_; rotate_left 1; (· (rintro w' ⟨x0, x1⟩; refine (spec_l1Var.calls k fa b w' H2.out).mono ?_; rintro e w'' ⟨rfl, hb⟩; exact ⟨by with_reducible rfl, cb_ x0 hb, ⟨x1.out.trans (hb.mono x1.out.size)⟩⟩)); simp only [Act.put, List.setIfInBounds_toArray, List.set_cons_zero, List.set_cons_succ, i64_w, i32_w]; go_big_quiet_on)
          | (go_big_quiet_want; refine quiet_op (v := ?_) ?_ ?_; rotate_left 1; (· (rintro w' ⟨x0, -⟩; go_simp; with_reducible rfl)); simp only [Act.put, List.setIfInBounds_toArray, List.set_cons_zero, List.set_cons_succ, i64_w, i32_w]; go_big_quiet_on))
        refine wpQuiet_nil ?_
        rintro w' ⟨-, x1⟩
        go_wp2
        go_ret
        exact ⟨by first | rfl | (simp; done), x1.out⟩
      | true =>
        have HK : Aside0 (spec_l1Var.f k 15 = some a) := ⟨by have h_ := H1.out; unfold streamKind at h_; simpa [hf0] using h_⟩
        clear H1
        go_wp2_with (go_at_call 93; refine (spec_l1Var.calls k fb off _ HF.out).mono ?_; rintro e w2 ⟨rfl, hb⟩; have HB2 := Aside0.mk (HB.out.trans (hb.mono HB.out.size)); have q1 := cb_ z1 hb; have q4 := cb_ z4 hb; have q5 := cb_ z5 hb; clear hb HF)
        refine region_quiet (C := fun w' => w'.cell? ⟨g, 1, none⟩ = some (.int .i64 fa) ∧ Aside0 (Below w.heap.size w w')) (by kernel_rfl) (by kernel_rfl) ?hC ?_
        case hC => exact ⟨cb_ q1 (below_drew (Below.refl _ w2)), ⟨below_drew HB2.out⟩⟩
        repeat (first
          | go_big_quiet_skip
          | (go_big_quiet_want; refine quiet_call ?_ Try.func93 (by kernel_rfl) rfl #[.int .i64 15] rfl (by (try simp only [List.map_toArray, List.map_cons, List.map_nil]); first | done | rfl) ?_ ?_; rotate_left 1; (· (rintro w' ⟨x0, x1⟩; refine (spec_l1Var.calls k 15 a w' HK.out).mono ?_; rintro e w'' ⟨rfl, hb⟩; exact ⟨by with_reducible rfl, cb_ x0 hb, ⟨x1.out.trans (hb.mono x1.out.size)⟩⟩)); simp only [Act.put, List.setIfInBounds_toArray, List.set_cons_zero, List.set_cons_succ, i64_w, i32_w]; go_big_quiet_on)
          | (go_big_quiet_want; refine quiet_call ?_ Try.func93 (by kernel_rfl) rfl #[.int .i64 fa] rfl (by (try simp only [List.map_toArray, List.map_cons, List.map_nil]); first | done | rfl) ?_ ?_; rotate_left 1; (· (rintro w' ⟨x0, x1⟩; refine (spec_l1Var.calls k fa b w' H2.out).mono ?_; rintro e w'' ⟨rfl, hb⟩; exact ⟨by with_reducible rfl, cb_ x0 hb, ⟨x1.out.trans (hb.mono x1.out.size)⟩⟩)); simp only [Act.put, List.setIfInBounds_toArray, List.set_cons_zero, List.set_cons_succ, i64_w, i32_w]; go_big_quiet_on)
          | (go_big_quiet_want; refine quiet_op (v := ?_) ?_ ?_; rotate_left 1; (· (rintro w' ⟨x0, -⟩; go_simp; with_reducible rfl)); simp only [Act.put, List.setIfInBounds_toArray, List.set_cons_zero, List.set_cons_succ, i64_w, i32_w]; go_big_quiet_on))
        refine wpQuiet_nil ?_
        rintro w' ⟨-, x1⟩
        go_wp2
        go_ret
        exact ⟨by first | rfl | (simp; done), x1.out⟩
  rw [if_neg k8] at h
  have e8 : (kd == 8) = false := beq_eq_false_iff_ne.mpr k8
  by_cases k24 : kd = 24
  case pos =>
    rw [if_pos k24] at h
    subst k24
    obtain ⟨o1, h1, h⟩ := Option.bind_eq_some_iff.mp h
    obtain ⟨o2, h2, h⟩ := Option.bind_eq_some_iff.mp h
    obtain ⟨c, j3, h⟩ := Option.bind_eq_some_iff.mp h
    obtain ⟨o3, h3, h⟩ := Option.bind_eq_some_iff.mp h
    obtain ⟨o4, h4, h⟩ := Option.bind_eq_some_iff.mp h
    obtain ⟨d, j4, h5⟩ := Option.bind_eq_some_iff.mp h
    obtain ⟨a, j1, h1⟩ := sV_some h1
    obtain ⟨b, j2, h2⟩ := sV_some h2
    obtain ⟨rfl, s1⟩ := hcat_some h1
    obtain ⟨rfl, s2⟩ := hcat_some h2
    obtain ⟨rfl, s3⟩ := hcat_some h3
    obtain ⟨rfl, s4⟩ := hcat_some h4
    obtain ⟨rfl, s5⟩ := hcat_some h5
    simp only [ByteArray.size_append] at s2 s3 s4 s5
    have H1 := Aside0.mk j1
    have H2 := Aside0.mk j2
    have H3 := Aside0.mk j3
    have H4 := Aside0.mk j4
    clear h h1 h2 h3 h4 h5 j1 j2 j3 j4
    go_wp2_with fail
    refine region_quiet (C := fun w' => w'.cell? ⟨g, 1, none⟩ = some (.int .i64 fa) ∧ w'.cell? ⟨g, 2, none⟩ = some (.int .i64 fb) ∧ w'.cell? ⟨g, 3, none⟩ = some (.int .i64 fc) ∧ w'.cell? ⟨g, 5, none⟩ = some (.string dat) ∧ Aside0 (Below w.heap.size w w')) (by kernel_rfl) (by kernel_rfl) ?hC ?_
    case hC => exact ⟨cb_ z1 (below_drew (Below.refl _ wb)), cb_ z2 (below_drew (Below.refl _ wb)), cb_ z3 (below_drew (Below.refl _ wb)), cb_ z5 (below_drew (Below.refl _ wb)), ⟨below_drew HB.out⟩⟩
    repeat (first
      | go_big_quiet_skip
      | (go_big_quiet_want; refine quiet_call ?_ Try.func93 (by kernel_rfl) rfl #[.int .i64 fa] rfl (by (try simp only [List.map_toArray, List.map_cons, List.map_nil]); first | done | rfl) ?_ ?_; rotate_left 1; (· (rintro w' ⟨x0, x1, x2, x3, x4⟩; refine (spec_l1Var.calls k fa a w' H1.out).mono ?_; rintro e w'' ⟨rfl, hb⟩; exact ⟨by with_reducible rfl, cb_ x0 hb, cb_ x1 hb, cb_ x2 hb, cb_ x3 hb, ⟨x4.out.trans (hb.mono x4.out.size)⟩⟩)); simp only [Act.put, List.setIfInBounds_toArray, List.set_cons_zero, List.set_cons_succ, i64_w, i32_w]; go_big_quiet_on)
      | (go_big_quiet_want; refine quiet_call ?_ Try.func93 (by kernel_rfl) rfl #[.int .i64 fb] rfl (by (try simp only [List.map_toArray, List.map_cons, List.map_nil]); first | done | rfl) ?_ ?_; rotate_left 1; (· (rintro w' ⟨x0, x1, x2, x3, x4⟩; refine (spec_l1Var.calls k fb b w' H2.out).mono ?_; rintro e w'' ⟨rfl, hb⟩; exact ⟨by with_reducible rfl, cb_ x0 hb, cb_ x1 hb, cb_ x2 hb, cb_ x3 hb, ⟨x4.out.trans (hb.mono x4.out.size)⟩⟩)); simp only [Act.put, List.setIfInBounds_toArray, List.set_cons_zero, List.set_cons_succ, i64_w, i32_w]; go_big_quiet_on)
      | (go_big_quiet_want; refine quiet_call ?_ Try.func94 (by kernel_rfl) rfl #[.int .i64 (dat.size : Int), .int .i64 1] rfl (by (try simp only [List.map_toArray, List.map_cons, List.map_nil]); first | done | rfl) ?_ ?_; rotate_left 1; (· (rintro w' ⟨x0, x1, x2, x3, x4⟩; refine (spec_l1Fixed.calls k (dat.size : Int) 1 c w' H3.out).mono ?_; rintro e w'' ⟨rfl, hb⟩; exact ⟨by with_reducible rfl, cb_ x0 hb, cb_ x1 hb, cb_ x2 hb, cb_ x3 hb, ⟨x4.out.trans (hb.mono x4.out.size)⟩⟩)); simp only [Act.put, List.setIfInBounds_toArray, List.set_cons_zero, List.set_cons_succ, i64_w, i32_w]; go_big_quiet_on)
      | (go_big_quiet_want; refine quiet_call ?_ Try.func94 (by kernel_rfl) rfl #[.int .i64 fc, .int .i64 1] rfl (by (try simp only [List.map_toArray, List.map_cons, List.map_nil]); first | done | rfl) ?_ ?_; rotate_left 1; (· (rintro w' ⟨x0, x1, x2, x3, x4⟩; refine (spec_l1Fixed.calls k fc 1 d w' H4.out).mono ?_; rintro e w'' ⟨rfl, hb⟩; exact ⟨by with_reducible rfl, cb_ x0 hb, cb_ x1 hb, cb_ x2 hb, cb_ x3 hb, ⟨x4.out.trans (hb.mono x4.out.size)⟩⟩)); simp only [Act.put, List.setIfInBounds_toArray, List.set_cons_zero, List.set_cons_succ, i64_w, i32_w]; go_big_quiet_on)
      | (go_big_quiet_want; refine quiet_op (v := ?_) ?_ ?_; rotate_left 1; (· (rintro w' ⟨x0, x1, x2, x3, -⟩; go_simp; with_reducible rfl)); simp only [Act.put, List.setIfInBounds_toArray, List.set_cons_zero, List.set_cons_succ, i64_w, i32_w]; go_big_quiet_on))
    refine wpQuiet_nil ?_
    rintro w' ⟨-, -, -, -, x4⟩
    go_wp2
    go_ret
    exact ⟨by first | rfl | (simp; done), x4.out⟩
  rw [if_neg k24] at h
  have e24 : (kd == 24) = false := beq_eq_false_iff_ne.mpr k24
  by_cases k26 : kd = 26 ∨ kd = 27
  case pos =>
    rw [if_pos k26] at h
    rcases k26 with rfl | rfl
    · skip
      obtain ⟨rfl, s1⟩ := hcat_some h
      clear h
      go_wp2_with fail
      go_ret
      exact ⟨by first | rfl | (simp; done), HB.out⟩
    · skip
      obtain ⟨rfl, s1⟩ := hcat_some h
      clear h
      go_wp2_with fail
      go_ret
      exact ⟨by first | rfl | (simp; done), HB.out⟩
  rw [if_neg k26] at h
  have e26 : (kd == 26) = false := beq_eq_false_iff_ne.mpr (fun h => k26 (Or.inl h))
  have e27 : (kd == 27) = false := beq_eq_false_iff_ne.mpr (fun h => k26 (Or.inr h))
  by_cases k48 : kd = 48
  case pos =>
    rw [if_pos k48] at h
    subst k48
    obtain ⟨a, j1, h2⟩ := Option.bind_eq_some_iff.mp h
    obtain ⟨rfl, s1⟩ := hcat_some h2
    have H1 := Aside0.mk j1
    clear h h2 j1
    go_wp2_with (first
      | (go_at_call 93; refine (spec_l1Var.calls k 49 a _ H1.out).mono ?_; rintro e w2 ⟨rfl, hb⟩; have HB2 := Aside0.mk (HB.out.trans (hb.mono HB.out.size)); clear hb))
    go_ret
    exact ⟨by first | rfl | (simp; done), HB2.out⟩
  rw [if_neg k48] at h
  have e48 : (kd == 48) = false := beq_eq_false_iff_ne.mpr k48
  obtain rfl := Option.some.inj h
  clear h
  go_wp2_with fail
  go_ret
  exact ⟨by first | rfl | (simp; done), HB.out⟩
theorem sV_mono (k : Nat) (n : Int) (o : ByteArray) : LeO (sV k n o) (sV (k + 1) n o) := LeO.bind (spec_l1Var.mono _ _) (fun _ => LeO.refl _)
theorem sAckLoop_mono (k : Nat) (rs : List S92) : ∀ n i o, LeO (sAckLoop k rs n i o) (sAckLoop (k + 1) rs n i o)
  | 0, _, _ => LeO.refl _
  | n + 1, i, o => by
    unfold sAckLoop
    exact LeO.ite (LeO.bind (spec_l1Var.mono _ _) (fun _ => LeO.bind (spec_l1Var.mono _ _) (fun _ => LeO.bind (LeO.refl _) (fun _ => LeO.bind (LeO.refl _) (fun _ => sAckLoop_mono k rs n _ _))))) (sAckLoop_mono k rs n _ _)
theorem sAck_mono (k : Nat) (fa : Int) (rs : List S92) (s : ByteArray) : LeO (sAck k fa rs s) (sAck (k + 1) fa rs s) := by
  unfold sAck sAckHead
  exact LeO.ite (LeO.bind (LeO.bind (spec_l1Var.mono _ _) (fun _ => LeO.bind (spec_l1Var.mono _ _) (fun _ => LeO.bind (spec_l1Var.mono _ _) (fun _ => LeO.bind (spec_l1Var.mono _ _) (fun _ => LeO.refl _))))) (fun _ => sAckLoop_mono _ _ _ _ _)) (LeO.refl _)
theorem sStream_mono (k : Nat) (fa fb : Int) (fin : Bool) (t : ByteArray) : LeO (sStream k fa fb fin t) (sStream (k + 1) fa fb fin t) := by
  unfold sStream
  exact LeO.bind (LeO.ite (LeO.refl _) (spec_l1Var.mono _ _)) (fun _ => LeO.bind (spec_l1Var.mono _ _) (fun _ => LeO.bind (spec_l1Var.mono _ _) (fun _ => LeO.refl _)))
theorem sTailB_mono (k : Nat) (kd fa fb fc : Int) (fin : Bool) (dat : ByteArray) (rs : List S92) (o t : ByteArray) : LeO (sTailB k kd fa fb fc fin dat rs o t) (sTailB (k + 1) kd fa fb fc fin dat rs o t) := by
  unfold sTailB
  refine LeO.ite (sV_mono _ _ _) ?_
  refine LeO.ite (LeO.bind (sV_mono _ _ _) (fun _ => sV_mono _ _ _)) ?_
  refine LeO.ite (LeO.bind (sV_mono _ _ _) (fun _ => LeO.bind (sV_mono _ _ _) (fun _ => sV_mono _ _ _))) ?_
  refine LeO.ite (LeO.bind (sV_mono _ _ _) (fun _ => LeO.bind (sV_mono _ _ _) (fun _ => LeO.refl _))) ?_
  refine LeO.ite (sAck_mono _ _ _ _) ?_
  refine LeO.ite (LeO.bind (sV_mono _ _ _) (fun _ => LeO.refl _)) ?_
  refine LeO.ite (LeO.refl _) ?_
  refine LeO.ite (sStream_mono _ _ _ _ _) ?_
  refine LeO.ite (LeO.bind (sV_mono _ _ _) (fun _ => LeO.bind (sV_mono _ _ _) (fun _ => LeO.bind (spec_l1Fixed.mono _ _ _) (fun _ => LeO.bind (LeO.refl _) (fun _ => LeO.bind (LeO.refl _) (fun _ => LeO.bind (spec_l1Fixed.mono _ _ _) (fun _ => LeO.refl _))))))) ?_
  refine LeO.ite (LeO.refl _) ?_
  exact LeO.ite (LeO.bind (spec_l1Var.mono _ _) (fun _ => LeO.refl _)) (LeO.refl _)
theorem spec_l1Bytes.mono : ∀ (kd fa fb fc : Int) (fin : Bool) (dat : ByteArray) (rs : List S92) (k : Nat), LeO (spec_l1Bytes.f k kd fa fb fc fin dat rs) (spec_l1Bytes.f (k + 1) kd fa fb fc fin dat rs) := by
  intro kd fa fb fc fin dat rs k
  unfold spec_l1Bytes.f
  exact LeO.bind (spec_l1Var.mono _ _) (fun _ => LeO.bind (spec_l1Var.mono _ _) (fun _ => LeO.bind (LeO.refl _) (fun _ => sTailB_mono _ _ _ _ _ _ _ _ _ _)))
def spec_FrameBytes.f (k : Nat) (kd fa fb fc : Int) (fin : Bool) (dat : ByteArray) (rs : List S92) : Option (ByteArray × Bool) := (spec_GoodFrame.f k kd fa fb fc fin dat rs).bind fun b => if b = true then (spec_l1Bytes.f k kd fa fb fc fin dat rs).bind fun s => some (s, true) else some ((⟨#[]⟩ : ByteArray), false)
theorem spec_FrameBytes.mono : ∀ (kd fa fb fc : Int) (fin : Bool) (dat : ByteArray) (rs : List S92) (k : Nat), LeO (spec_FrameBytes.f k kd fa fb fc fin dat rs) (spec_FrameBytes.f (k + 1) kd fa fb fc fin dat rs) := by
  intro kd fa fb fc fin dat rs k
  unfold spec_FrameBytes.f
  exact LeO.bind (spec_GoodFrame.mono _ _ _ _ _ _ _ _) (fun _ => LeO.ite (LeO.bind (spec_l1Bytes.mono _ _ _ _ _ _ _ _) (fun _ => LeO.refl _)) (LeO.refl _))
set_option maxHeartbeats 4000000 in
set_option maxRecDepth 100000 in
theorem spec_FrameBytes.calls (k : Nat) (kd fa fb fc : Int) (fin : Bool) (dat : ByteArray) (AR : Option Addr) (cR : Nat) (rs : List S92) (r1 : ByteArray) (r2 : Bool) (w : World) (hr : Kd.C k92 w AR rs.length rs) (hc : rs.length ≤ cR) (h : spec_FrameBytes.f k kd fa fb fc fin dat rs = some (r1, r2)) :
    Calls Try.prog 9 #[.agg #[.int .i64 kd, .int .i64 fa, .int .i64 fb, .int .i64 fc, .bool fin, .string dat, .slice AR rs.length cR]] w fun e w' => e = .returned (.tuple #[.string r1, .bool r2]) ∧ Below w.heap.size w w' := by
  obtain ⟨b, h1, hT⟩ := Option.bind_eq_some_iff.mp h
  clear h
  have HG := Aside0.mk h1
  have HR := Aside0.mk hr
  have HC := Aside0.mk hc
  have HB := Aside0.mk (Below.refl w.heap.size w)
  clear h1 hr hc
  have hu30 := Try.underlying30
  cases b with
  | false =>
    have hE := Option.some.inj ((if_neg (by decide)).symm.trans hT)
    obtain rfl := congrArg Prod.fst hE
    obtain rfl := congrArg Prod.snd hE
    clear hT hE
    go_enter Try.func9, Try.ntmps9
    go_wp2_with (first
      | ((with_reducible refine gate_dst (N := 1) rfl ?_); (try (refine gate_guard (by rfl) ?_; dsimp only)); refine box_event ?hg (N := 1) ?hd (cs := #[.int .i64 kd, .int .i64 fa, .int .i64 fb, .int .i64 fc, .bool fin, .string dat, .slice AR rs.length cR]) (t := 30) ?hr ?_; (case hd => rfl); (case hg => rfl); (case hr => first | (go_simp; done) | (go_simp; rfl)); intro g hg1 w2 hbox hb; have QG := Aside0.mk hbox; have HB2 := Aside0.mk (HB.out.trans (hb.mono HB.out.size)); have HR2 := Aside0.mk (Kd.C_below HR.out HB2.out); clear hbox hb hg1 HB HR; obtain ⟨z0, z1, z2, z3, z4, z5, z6⟩ := Go.Proofs.Ytpdoplkiaejpiaa.ShortK.cz7 QG)
      | (go_at_call 42; refine (spec_GoodFrame.calls k kd fa fb fc fin dat AR cR rs false _ HR2.out HC.out HG.out).mono ?_; rintro e w3 ⟨rfl, hb⟩; have HB3 := Aside0.mk (HB2.out.trans (hb.mono HB2.out.size)); clear hb))
    go_ret2
    exact ⟨by first | rfl | (simp; done), HB3.out⟩
  | true =>
    obtain ⟨s, h2, hT⟩ := Option.bind_eq_some_iff.mp ((if_pos rfl).symm.trans hT)
    have HS := Aside0.mk h2
    have hE := Option.some.inj hT
    obtain rfl := congrArg Prod.fst hE
    obtain rfl := congrArg Prod.snd hE
    clear hT hE h2
    go_enter Try.func9, Try.ntmps9
    go_wp2_with (first
      | ((with_reducible refine gate_dst (N := 1) rfl ?_); (try (refine gate_guard (by rfl) ?_; dsimp only)); refine box_event ?hg (N := 1) ?hd (cs := #[.int .i64 kd, .int .i64 fa, .int .i64 fb, .int .i64 fc, .bool fin, .string dat, .slice AR rs.length cR]) (t := 30) ?hr ?_; (case hd => rfl); (case hg => rfl); (case hr => first | (go_simp; done) | (go_simp; rfl)); intro g hg1 w2 hbox hb; have QG := Aside0.mk hbox; have HB2 := Aside0.mk (HB.out.trans (hb.mono HB.out.size)); have HR2 := Aside0.mk (Kd.C_below HR.out HB2.out); clear hbox hb hg1 HB HR; obtain ⟨z0, z1, z2, z3, z4, z5, z6⟩ := Go.Proofs.Ytpdoplkiaejpiaa.ShortK.cz7 QG)
      | (go_at_call 42; refine (spec_GoodFrame.calls k kd fa fb fc fin dat AR cR rs true _ HR2.out HC.out HG.out).mono ?_; rintro e w3 ⟨rfl, hb⟩; have HB3 := Aside0.mk (HB2.out.trans (hb.mono HB2.out.size)); have HR3 := Aside0.mk (Kd.C_below HR2.out hb); have QG3 := Aside0.mk (blk_below QG.out hb); clear hb z0 z1 z2 z3 z4 z5 z6; obtain ⟨z0, z1, z2, z3, z4, z5, z6⟩ := Go.Proofs.Ytpdoplkiaejpiaa.ShortK.cz7 QG3)
      | (go_at_call 43; refine (spec_l1Bytes.calls k kd fa fb fc fin dat AR cR rs s _ HR3.out HC.out HS.out).mono ?_; rintro e w4 ⟨rfl, hb⟩; have HB4 := Aside0.mk (HB3.out.trans (hb.mono HB3.out.size)); clear hb))
    go_ret2
    exact ⟨by first | rfl | (simp; done), HB4.out⟩
def specFs (k : Nat) (l : List S30) : Nat → Int → ByteArray → Option (ByteArray × Bool)
  | 0, _, out => if 1500 < (out.size : Int) then some ((⟨#[]⟩ : ByteArray), false) else some (out, true)
  | n + 1, i, out => (spec_GoodFrame.f k (rd_T30 l i).f0 (rd_T30 l i).f1 (rd_T30 l i).f2 (rd_T30 l i).f3 (rd_T30 l i).f4 (rd_T30 l i).f5 (rd_T30 l i).f6).bind fun b => if b = true then (spec_l1Bytes.f k (rd_T30 l i).f0 (rd_T30 l i).f1 (rd_T30 l i).f2 (rd_T30 l i).f3 (rd_T30 l i).f4 (rd_T30 l i).f5 (rd_T30 l i).f6).bind fun x => (hcat out x).bind fun o => specFs k l n (i + 1) o else some ((⟨#[]⟩ : ByteArray), false)
def spec_FramesBytes.f (k : Nat) (l : List S30) : Option (ByteArray × Bool) := if (l.length : Int) ≤ 4611686018427387904 then (if 40 < (l.length : Int) then some ((⟨#[]⟩ : ByteArray), false) else specFs k l l.length 0 (⟨#[]⟩ : ByteArray)) else none
theorem specFs_mono (k : Nat) (l : List S30) : ∀ n i o, LeO (specFs k l n i o) (specFs (k + 1) l n i o)
  | 0, _, _ => LeO.refl _
  | n + 1, i, o => by
    unfold specFs
    exact LeO.bind (spec_GoodFrame.mono _ _ _ _ _ _ _ _) (fun _ => LeO.ite (LeO.bind (spec_l1Bytes.mono _ _ _ _ _ _ _ _) (fun _ => LeO.bind (LeO.refl _) (fun _ => specFs_mono k l n _ _))) (LeO.refl _))
theorem spec_FramesBytes.mono : ∀ (l : List S30) (k : Nat), LeO (spec_FramesBytes.f k l) (spec_FramesBytes.f (k + 1) l) := by
  intro l k
  unfold spec_FramesBytes.f
  exact LeO.ite (LeO.ite (LeO.refl _) (specFs_mono _ _ _ _ _)) (LeO.refl _)
set_option maxHeartbeats 4000000 in
set_option maxRecDepth 100000 in
theorem spec_FramesBytes.calls (k : Nat) (A0 : Option Addr) (c0 : Nat) (l : List S30) (r1 : ByteArray) (r2 : Bool) (w : World) (hr0 : Kd.C k30 w A0 l.length l) (hc0 : l.length ≤ c0) (h : spec_FramesBytes.f k l = some (r1, r2)) :
    Calls Try.prog 28 #[.slice A0 l.length c0] w fun e w' => e = .returned (.tuple #[.string r1, .bool r2]) ∧ Below w.heap.size w w' := by
  unfold spec_FramesBytes.f at h
  split at h
  case isFalse => cases h
  case isTrue hlen =>
  have hu30 := Try.underlying30
  have HR := Aside0.mk hr0
  have HLN := Aside0.mk hlen
  have HB := Aside0.mk (Below.refl w.heap.size w)
  clear hr0 hlen
  by_cases h40 : 40 < (l.length : Int)
  · have H := (if_pos h40).symm.trans h
    clear h
    have hd : decide (40 < (l.length : Int)) = true := decide_eq_true h40
    clear h40
    have hE := Option.some.inj H
    obtain rfl := congrArg Prod.fst hE
    obtain rfl := congrArg Prod.snd hE
    clear H hE
    go_enter Try.func28, Try.ntmps28
    go_wp2
    go_ret2
    exact ⟨by first | rfl | (simp; done), HB.out⟩
  · have HA := Aside0.mk ((if_neg h40).symm.trans h)
    clear h
    have hd : decide (40 < (l.length : Int)) = false := decide_eq_false h40
    clear h40
    go_enter Try.func28, Try.ntmps28
    go_wp2_with fail
    go_loopg [4, 12] l.length (fun kq v4 v12 w' => ∃ (i : Int) (out : ByteArray), v4 = .string out ∧ v12 = .int .i64 i ∧ Aside0 (specFs k l kq i out = some (r1, r2)) ∧ Aside0 (i + kq = (l.length : Int) ∧ 0 ≤ i) ∧ Aside0 (Below w.heap.size w w'))
    case atStart => exact ⟨0, _, rfl, rfl, HA, ⟨⟨by omega, by omega⟩⟩, HB⟩
    case round =>
      clear HA HB
      obtain ⟨i, out, rfl, rfl, HA, HI, HB⟩ := hrel
      obtain ⟨hi1, hi0⟩ := HI.out
      clear HI
      cases gk with
      | zero =>
        have hd2 : decide (i < (l.length : Int)) = false := decide_eq_false (by omega)
        have H := HA.out
        unfold specFs at H
        clear HA hi1 hi0
        by_cases hs : 1500 < (out.size : Int)
        · rw [if_pos hs] at H
          have hE := Option.some.inj H
          obtain rfl := congrArg Prod.fst hE
          obtain rfl := congrArg Prod.snd hE
          clear H hE
          have hsd : decide (1500 < (out.size : Int)) = true := decide_eq_true hs
          clear hs
          go_wp2
          go_ret2
          exact ⟨by first | rfl | (simp; done), HB.out⟩
        · rw [if_neg hs] at H
          have hE := Option.some.inj H
          obtain rfl := congrArg Prod.fst hE
          obtain rfl := congrArg Prod.snd hE
          clear H hE
          have hsd : decide (1500 < (out.size : Int)) = false := decide_eq_false hs
          clear hs
          go_wp2
          go_ret2
          exact ⟨by first | rfl | (simp; done), HB.out⟩
      | succ n =>
        have HA1 := HA.out
        unfold specFs at HA1
        clear HA
        have hi2 : i < (l.length : Int) := by omega
        have hd2 : decide (i < (l.length : Int)) = true := decide_eq_true hi2
        have HII := Aside0.mk (And.intro hi1 hi0)
        obtain ⟨ad, A6, c6, eA, q0, q1, q2, q3, q4, q5, q6, hl6, hk6⟩ := at_T30 (Kd.C_below HR.out HB.out) i hi0 hi2
        subst eA
        have HL6 := Aside0.mk hl6
        have HK6 := Aside0.mk hk6
        clear hl6 hk6 hi1
        have s0 := eq_true hi0
        have s1 := eq_true hi2
        have HWI := Aside0.mk (show wrap64 (i + 1) = i + 1 from by have := HLN.out; have := HII.out; unfold wrap64; omega)
        generalize rd_T30 l i = y at q0 q1 q2 q3 q4 q5 q6 HL6 HK6 HA1
        have hbn : Below wr.heap.size wr (wr.alloc (.cells #[.int .i64 y.f0, .int .i64 y.f1, .int .i64 y.f2, .int .i64 y.f3, .bool y.f4, .string y.f5, .slice A6 y.f6.length c6] 30 (0, 0))) := below_alloc (Below.refl _ wr) _
        have hbox : (wr.alloc (.cells #[.int .i64 y.f0, .int .i64 y.f1, .int .i64 y.f2, .int .i64 y.f3, .bool y.f4, .string y.f5, .slice A6 y.f6.length c6] 30 (0, 0))).heap[wr.heap.size]? = some (.cells #[.int .i64 y.f0, .int .i64 y.f1, .int .i64 y.f2, .int .i64 y.f3, .bool y.f4, .string y.f5, .slice A6 y.f6.length c6] 30 (0, 0)) := blk_new wr _
        obtain ⟨b, hg, HA1⟩ := Option.bind_eq_some_iff.mp HA1
        have HG := Aside0.mk hg
        clear hg
        go_upto_region 7 with (fail)
        have HBOX := Aside0.mk hbox
        have HBN := Aside0.mk hbn
        clear hbox hbn
        revert HBOX HBN
        generalize wr.alloc (.cells #[.int .i64 y.f0, .int .i64 y.f1, .int .i64 y.f2, .int .i64 y.f3, .bool y.f4, .string y.f5, .slice A6 y.f6.length c6] 30 (0, 0)) = w6
        intro HBOX HBN
        obtain ⟨z0, z1, z2, z3, z4, z5, z6⟩ := Go.Proofs.Ytpdoplkiaejpiaa.ShortK.cz7 HBOX
        have HK7 := Aside0.mk (Kd.C_below HK6.out HBN.out)
        have HB6 := Aside0.mk (HB.out.trans (HBN.out.mono HB.out.size))
        clear HB HBN HK6 q0 q1 q2 q3 q4 q5 q6
        cases b with
        | false =>
          have H := (if_neg (by decide)).symm.trans HA1
          clear HA1
          have hE := Option.some.inj H
          obtain rfl := congrArg Prod.fst hE
          obtain rfl := congrArg Prod.snd hE
          clear H hE
          go_wp2_with (go_at_call 42; refine (spec_GoodFrame.calls k y.f0 y.f1 y.f2 y.f3 y.f4 y.f5 A6 c6 y.f6 false _ HK7.out HL6.out HG.out).mono ?_; rintro e w7 ⟨rfl, hb⟩; have HB7 := Aside0.mk (HB6.out.trans (hb.mono HB6.out.size)); clear hb)
          go_ret2
          exact ⟨by first | rfl | (simp; done), HB7.out⟩
        | true =>
          have H := (if_pos rfl).symm.trans HA1
          clear HA1
          obtain ⟨x, hx, H⟩ := Option.bind_eq_some_iff.mp H
          obtain ⟨o, ho, H⟩ := Option.bind_eq_some_iff.mp H
          obtain ⟨rfl, t1⟩ := hcat_some ho
          have HX := Aside0.mk hx
          have HN := Aside0.mk H
          clear H hx ho
          go_wp2_with (first
            | (go_at_call 42; refine (spec_GoodFrame.calls k y.f0 y.f1 y.f2 y.f3 y.f4 y.f5 A6 c6 y.f6 true _ HK7.out HL6.out HG.out).mono ?_; rintro e w7 ⟨rfl, hb⟩; have HB7 := Aside0.mk (HB6.out.trans (hb.mono HB6.out.size)); have HK8 := Aside0.mk (Kd.C_below HK7.out hb); have HBOX7 := Aside0.mk (blk_below HBOX.out hb); clear hb z0 z1 z2 z3 z4 z5 z6; obtain ⟨z0, z1, z2, z3, z4, z5, z6⟩ := Go.Proofs.Ytpdoplkiaejpiaa.ShortK.cz7 HBOX7)
            | (go_at_call 43; refine (spec_l1Bytes.calls k y.f0 y.f1 y.f2 y.f3 y.f4 y.f5 A6 c6 y.f6 x _ HK8.out HL6.out HX.out).mono ?_; rintro e w8 ⟨rfl, hb⟩; have HB8 := Aside0.mk (HB7.out.trans (hb.mono HB7.out.size)); clear hb))
          go_roundg n
          case measure => omega
          case rel => exact ⟨i + 1, _, rfl, by first | rfl | (simp; done) | (rw [HWI.out]), HN, ⟨⟨by have := HII.out; omega, by have := HII.out; omega⟩⟩, HB8⟩

end Go.Proofs.Ytpdoplkiaejpiaa.PFnExactFramesBytes
