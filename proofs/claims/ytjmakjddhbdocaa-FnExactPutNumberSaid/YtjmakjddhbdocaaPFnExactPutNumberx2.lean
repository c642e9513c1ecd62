-- Written by a program of this session (wip/xprint.py).
import Derived.Test.YtjmakjddhbdocaaPFnExactPutNumberx0
import Derived.Test.YtjmakjddhbdocaaPFnExactPutNumberx1
namespace Go.Proofs.Ytjmakjddhbdocaa.PFnExactPutNumber
open Go.RowKit Go.Proofs.YtjmakjddhbdocaaW.PrintWords Go.Proofs.YtjmakjddhbdocaaW.PrintLast Go.Proofs.YtjmakjddhbdocaaW.PrintMore
open Go.Proofs.Ytjmakjddhbdocaa.ShortK (bN bD bA sA sZ sS cz2 fz2 cz3 fz3 cz4 fz4 cz5 fz5 cz6 fz6 cz7 fz7 cz8 fz8 cz9 fz9 cz10 fz10 cz11 fz11 cz12 fz12)
attribute [local go_sem] Go.Proofs.Ytjmakjddhbdocaa.StoreK.isSome_setCell max2_int min2_int max_two min_two max_three min_three max_four min_four   -- for this text's walks alone
set_option linter.unusedVariables false
set_option linter.unusedSimpArgs false

/-! ### spec_l1Ranges: function 134 -/
mutual
def spec_l1Ranges.l0 : Nat → List (S105) → List (S105) → Int → Int → Option (Bool)
 | 0, _, _, _, _ => none
 | k + 1, x0, x5, x6, x7 => if x7 < x6 then (if 0 ≤ x7 then (if x7 < (x5.length : Int) then ((spec_l1In.f ((rd_T105 x5 x7).f0) 0 ((rd_T105 x5 x7).f1)).bind fun t121 => (if t121 = true then ((spec_l1Known.f ((rd_T105 x5 x7).f1)).bind fun t122 => (if t122 = true then (if x7 > 0 then (if 0 ≤ (wrap64 (x7 - 1)) then (if (wrap64 (x7 - 1)) < (x0.length : Int) then (spec_l1Ranges.j1 k x0 x5 x6 x7 (decide (((rd_T105 x5 x7).f1) > (wrap64 (((rd_T105 x0 (wrap64 (x7 - 1))).f0) - 2))))) else (none)) else (none)) else (spec_l1Ranges.j1 k x0 x5 x6 x7 false)) else (spec_l1Ranges.j1 k x0 x5 x6 x7 true))) else (spec_l1Ranges.j1 k x0 x5 x6 x7 true))) else (none)) else (none)) else ((spec_l1In.f (x0.length : Int) 1 20).bind fun t124 => (some t124))
def spec_l1Ranges.j1 : Nat → List (S105) → List (S105) → Int → Int → Bool → Option (Bool)
 | 0, _, _, _, _, _ => none
 | k + 1, x0, x5, x6, x7, x39 => if x39 = true then (some false) else (spec_l1Ranges.l0 k x0 x5 x6 (wrap64 (x7 + 1)))
end
def spec_l1Ranges.f (k : Nat) (l0 : List (S105)) : Option (Bool) := spec_l1Ranges.l0 k l0 l0 (l0.length : Int) 0
theorem spec_l1Ranges.mono_l : ∀ k, (∀ y0 y1 y2 y3, LeO (spec_l1Ranges.l0 k y0 y1 y2 y3) (spec_l1Ranges.l0 (k + 1) y0 y1 y2 y3)) ∧ (∀ y0 y1 y2 y3 y4, LeO (spec_l1Ranges.j1 k y0 y1 y2 y3 y4) (spec_l1Ranges.j1 (k + 1) y0 y1 y2 y3 y4))
 | 0 => ⟨fun _ _ _ _ r h => by simp [spec_l1Ranges.l0] at h, fun _ _ _ _ _ r h => by simp [spec_l1Ranges.j1] at h⟩
 | k + 1 => by
  obtain ⟨ih0, ih1⟩ := spec_l1Ranges.mono_l k
  refine ⟨?_, ?_⟩
  ·intro y0 y1 y2 y3
   unfold spec_l1Ranges.l0
   repeat' first
   | (with_reducible exact ih0 _ _ _ _)
   | (with_reducible exact ih1 _ _ _ _ _)
   | (with_reducible exact LeO.refl _)
   | (with_reducible exact LeO.none _)
   | (with_reducible refine LeO.ite ?_ ?_)
   | (with_reducible refine LeO.bind ?_ (fun _ => ?_))
   | exact ih0 _ _ _ _
   | exact ih1 _ _ _ _ _
   | exact LeO.none _
   | refine LeO.ite ?_ ?_
   | refine LeO.bind ?_ (fun _ => ?_)
  ·intro y0 y1 y2 y3 y4
   unfold spec_l1Ranges.j1
   repeat' first
   | (with_reducible exact ih0 _ _ _ _)
   | (with_reducible exact ih1 _ _ _ _ _)
   | (with_reducible exact LeO.refl _)
   | (with_reducible exact LeO.none _)
   | (with_reducible refine LeO.ite ?_ ?_)
   | (with_reducible refine LeO.bind ?_ (fun _ => ?_))
   | exact ih0 _ _ _ _
   | exact ih1 _ _ _ _ _
   | exact LeO.none _
   | refine LeO.ite ?_ ?_
   | refine LeO.bind ?_ (fun _ => ?_)
theorem spec_l1Ranges.mono : ∀ a0 k, LeO (spec_l1Ranges.f k a0) (spec_l1Ranges.f (k + 1) a0) := by
 intro a0 k
 obtain ⟨ih0, ih1⟩ := spec_l1Ranges.mono_l k
 unfold spec_l1Ranges.f
 repeat' first
   | (with_reducible exact ih0 _ _ _ _)
   | (with_reducible exact ih1 _ _ _ _ _)
   | (with_reducible exact LeO.refl _)
   | (with_reducible exact LeO.none _)
   | (with_reducible refine LeO.ite ?_ ?_)
   | (with_reducible refine LeO.bind ?_ (fun _ => ?_))
   | exact ih0 _ _ _ _
   | exact ih1 _ _ _ _ _
   | exact LeO.none _
   | refine LeO.ite ?_ ?_
   | refine LeO.bind ?_ (fun _ => ?_)
set_option maxHeartbeats 64000000 in
set_option maxRecDepth 100000 in
theorem spec_l1Ranges.calls (k : Nat) (A0 : Option Addr) (c0 : Nat) (l0 : List (S105)) (r : Bool) (w : World) (hr0 : Kd.C k105 w A0 l0.length l0) (hc0 : l0.length ≤ c0) (h : spec_l1Ranges.f k l0 = some r) :
  Calls Try.prog 134 #[.slice A0 l0.length c0] w fun e w' => e = .returned (.bool r) ∧ Below w.heap.size w w' := by
 have hu105 := Try.underlying105
 have HR0 := Aside0.mk hr0
 have HC0 := Aside0.mk hc0
 clear hr0 hc0
 have HB := Aside0.mk (Below.refl w.heap.size w)
 have H : (spec_l1Ranges.l0 k l0 l0 (l0.length : Int) 0) = some r := h
 clear h
 have H' := Aside0.mk H
 clear H
 go_enter Try.func134, Try.ntmps134
 go_wp2
 repeat (go_quiet (fail); try go_wp2)
 go_loopg [7] k (fun kq v7 w' => ∃ (x7_1 : Int), v7 = .int .i64 x7_1 ∧ Aside0 (spec_l1Ranges.l0 kq l0 l0 (l0.length : Int) x7_1 = some r) ∧ Aside0 (kq ≤ k) ∧ Aside0 (Below w.heap.size w w'))
 case atStart => exact ⟨(0), (by first | rfl | (simp; done) | (simp [*]; done)), H', ⟨Nat.le_refl _⟩, ⟨by repeat (first | (with_reducible first | exact HB.out | apply below_alloc | apply pw_below_drewN | apply below_drew1) | exact HB.out)⟩⟩
 case round =>
  clear H'
  try clear c1
  obtain ⟨x7_1, rfl, HA, HK1, HB⟩ := hrel
  cases gk with
  | zero => exact absurd HA.out (by simp [spec_l1Ranges.l0])
  | succ k1 =>
   have H := HA.out
   clear HA
   simp only [spec_l1Ranges.l0] at H
   by_cases c2 : x7_1 < (l0.length : Int)
   ·rw [if_pos c2] at H
    have c2b0 : decide (x7_1 < (l0.length : Int)) = true := decide_eq_true c2
    clear c2
    by_cases c3 : 0 ≤ x7_1
    ·rw [if_pos c3] at H
     have c3b0 : decide (0 ≤ x7_1) = true := decide_eq_true c3
     clear c3
     by_cases c4 : x7_1 < (l0.length : Int)
     ·rw [if_pos c4] at H
      have c4b0 : decide (x7_1 < (l0.length : Int)) = true := decide_eq_true c4
      clear c4
      have HC5 := Aside0.mk H
      clear H
      have p119 : 0 ≤ (x7_1 : Int) := of_decide_eq_true (by first | (with_reducible assumption) | assumption)
      have q119 : x7_1 < (l0.length : Int) := of_decide_eq_true (by first | (with_reducible assumption) | assumption)
      obtain ⟨ad119, e119, hx119_0, hx119_1⟩ := at_T105 HR0.out x7_1 p119 q119
      cases e119
      replace hx119_0 := (HB.out.cell (World.block_lt_of_cell? w _ hx119_0)).trans hx119_0
      replace hx119_1 := (HB.out.cell (World.block_lt_of_cell? w _ hx119_1)).trans hx119_1
      replace p119 := eq_true p119
      replace q119 := eq_true q119
      go_upto_region 4 with (first | ((with_reducible refine gate_dst (N := 4) rfl ?_); refine box_event ?hg (N := 4) ?hd (cs := #[.int .i64 0, .int .i64 0]) (t := 105) ?hr ?_; (case hd => rfl); (case hg => rfl); (case hr => first | (go_simp; done) | (go_simp; rfl)); intro gb120 hg w6 hbox hb; have n0_ := Aside0.mk (below_step (by repeat (first | (with_reducible first | exact HB.out | apply below_alloc | apply pw_below_drewN | apply below_drew1) | exact HB.out)) hb); have n1_ := Aside0.mk (hbox); have n2_ := Aside0.mk ((by rw [hg]; exact (below_size (by repeat (first | (with_reducible first | exact HB.out | apply below_alloc | apply pw_below_drewN | apply below_drew1) | exact HB.out))) : w.heap.size ≤ gb120)); have n3_ := n2_; clear HB; have HB := n0_; have BK120 := n1_; have GW120 := n2_; have GE120 := n3_; clear n0_ n1_ n2_ n3_; clear hb hbox hg; obtain ⟨hcz7_0, hcz7_1⟩ := cz2 BK120; obtain ⟨hfz7_0, hfz7_1⟩ := fz2 BK120))
      repeat (go_quiet (first | ((with_reducible refine gate_dst (N := 4) rfl ?_); refine box_event ?hg (N := 4) ?hd (cs := #[.int .i64 0, .int .i64 0]) (t := 105) ?hr ?_; (case hd => rfl); (case hg => rfl); (case hr => first | (go_simp; done) | (go_simp; rfl)); intro gb120 hg w6 hbox hb; have n0_ := Aside0.mk (below_step (by repeat (first | (with_reducible first | exact HB.out | apply below_alloc | apply pw_below_drewN | apply below_drew1) | exact HB.out)) hb); have n1_ := Aside0.mk (hbox); have n2_ := Aside0.mk ((by rw [hg]; exact (below_size (by repeat (first | (with_reducible first | exact HB.out | apply below_alloc | apply pw_below_drewN | apply below_drew1) | exact HB.out))) : w.heap.size ≤ gb120)); have n3_ := n2_; clear HB; have HB := n0_; have BK120 := n1_; have GW120 := n2_; have GE120 := n3_; clear n0_ n1_ n2_ n3_; clear hb hbox hg; obtain ⟨hcz7_0, hcz7_1⟩ := cz2 BK120; obtain ⟨hfz7_0, hfz7_1⟩ := fz2 BK120)); go_upto_region 4 with (first | ((with_reducible refine gate_dst (N := 4) rfl ?_); refine box_event ?hg (N := 4) ?hd (cs := #[.int .i64 0, .int .i64 0]) (t := 105) ?hr ?_; (case hd => rfl); (case hg => rfl); (case hr => first | (go_simp; done) | (go_simp; rfl)); intro gb120 hg w6 hbox hb; have n0_ := Aside0.mk (below_step (by repeat (first | (with_reducible first | exact HB.out | apply below_alloc | apply pw_below_drewN | apply below_drew1) | exact HB.out)) hb); have n1_ := Aside0.mk (hbox); have n2_ := Aside0.mk ((by rw [hg]; exact (below_size (by repeat (first | (with_reducible first | exact HB.out | apply below_alloc | apply pw_below_drewN | apply below_drew1) | exact HB.out))) : w.heap.size ≤ gb120)); have n3_ := n2_; clear HB; have HB := n0_; have BK120 := n1_; have GW120 := n2_; have GE120 := n3_; clear n0_ n1_ n2_ n3_; clear hb hbox hg; obtain ⟨hcz7_0, hcz7_1⟩ := cz2 BK120; obtain ⟨hfz7_0, hfz7_1⟩ := fz2 BK120)))
      (try simp only [Act.put, sA, sZ, sS])
      go_cut [39] (fun v39 wc => ∃ (kq : Nat) (x39_4 : Bool), v39 = .bool x39_4 ∧ Aside0 (spec_l1Ranges.j1 kq l0 l0 (l0.length : Int) x7_1 x39_4 = some r) ∧ Aside0 (kq ≤ k1) ∧ Aside0 (wc.heap[gb120]? = some (.cells #[.int .i64 ((rd_T105 l0 x7_1).f0), .int .i64 ((rd_T105 l0 x7_1).f1)] 105 (0, 0))) ∧ Aside0 (Below w.heap.size w wc))
      case first =>
       have H := HC5.out
       clear HC5
       replace H := Option.bind_eq_some_iff.mp H
       obtain ⟨t121, A80, H⟩ := H
       replace H : (if t121 = true then ((spec_l1Known.f ((rd_T105 l0 x7_1).f1)).bind fun t122 => (if t122 = true then (if x7_1 > 0 then (if 0 ≤ (wrap64 (x7_1 - 1)) then (if (wrap64 (x7_1 - 1)) < (l0.length : Int) then (spec_l1Ranges.j1 k1 l0 l0 (l0.length : Int) x7_1 (decide (((rd_T105 l0 x7_1).f1) > (wrap64 (((rd_T105 l0 (wrap64 (x7_1 - 1))).f0) - 2))))) else (none)) else (none)) else (spec_l1Ranges.j1 k1 l0 l0 (l0.length : Int) x7_1 false)) else (spec_l1Ranges.j1 k1 l0 l0 (l0.length : Int) x7_1 true))) else (spec_l1Ranges.j1 k1 l0 l0 (l0.length : Int) x7_1 true)) = some r := H
       have A8 := Aside0.mk A80
       clear A80
       by_cases c9 : t121 = true
       ·subst c9
        have H1 : ((spec_l1Known.f ((rd_T105 l0 x7_1).f1)).bind fun t122 => (if t122 = true then (if x7_1 > 0 then (if 0 ≤ (wrap64 (x7_1 - 1)) then (if (wrap64 (x7_1 - 1)) < (l0.length : Int) then (spec_l1Ranges.j1 k1 l0 l0 (l0.length : Int) x7_1 (decide (((rd_T105 l0 x7_1).f1) > (wrap64 (((rd_T105 l0 (wrap64 (x7_1 - 1))).f0) - 2))))) else (none)) else (none)) else (spec_l1Ranges.j1 k1 l0 l0 (l0.length : Int) x7_1 false)) else (spec_l1Ranges.j1 k1 l0 l0 (l0.length : Int) x7_1 true))) = some r := by rw [if_pos rfl] at H; exact H
        clear H
        have H := H1
        clear H1
        replace H := Option.bind_eq_some_iff.mp H
        obtain ⟨t122, A100, H⟩ := H
        replace H : (if t122 = true then (if x7_1 > 0 then (if 0 ≤ (wrap64 (x7_1 - 1)) then (if (wrap64 (x7_1 - 1)) < (l0.length : Int) then (spec_l1Ranges.j1 k1 l0 l0 (l0.length : Int) x7_1 (decide (((rd_T105 l0 x7_1).f1) > (wrap64 (((rd_T105 l0 (wrap64 (x7_1 - 1))).f0) - 2))))) else (none)) else (none)) else (spec_l1Ranges.j1 k1 l0 l0 (l0.length : Int) x7_1 false)) else (spec_l1Ranges.j1 k1 l0 l0 (l0.length : Int) x7_1 true)) = some r := H
        have A10 := Aside0.mk A100
        clear A100
        by_cases c11 : t122 = true
        ·subst c11
         have H1 : (if x7_1 > 0 then (if 0 ≤ (wrap64 (x7_1 - 1)) then (if (wrap64 (x7_1 - 1)) < (l0.length : Int) then (spec_l1Ranges.j1 k1 l0 l0 (l0.length : Int) x7_1 (decide (((rd_T105 l0 x7_1).f1) > (wrap64 (((rd_T105 l0 (wrap64 (x7_1 - 1))).f0) - 2))))) else (none)) else (none)) else (spec_l1Ranges.j1 k1 l0 l0 (l0.length : Int) x7_1 false)) = some r := by rw [if_pos rfl] at H; exact H
         clear H
         have H := H1
         clear H1
         by_cases c12 : x7_1 > 0
         ·rw [if_pos c12] at H
          have c12b0 : decide (0 < x7_1) = true := decide_eq_true c12
          clear c12
          (first | rw [c12b0] | (simp only [i64_w, i32_w]; rw [c12b0]) | skip)
          obtain ⟨ji13, hji13⟩ : ∃ j_ : Int, (wrap64 (x7_1 - 1)) = j_ := ⟨_, rfl⟩
          replace H : (if 0 ≤ (ji13) then (if (ji13) < (l0.length : Int) then (spec_l1Ranges.j1 k1 l0 l0 (l0.length : Int) x7_1 (decide (((rd_T105 l0 x7_1).f1) > (wrap64 (((rd_T105 l0 (ji13)).f0) - 2))))) else (none)) else (none)) = some r := by first | (rw [hji13] at H; exact H) | (simp only [hji13] at H ⊢; exact H)
          (try rw [hji13] at A8)
          (try rw [hji13] at A10)
          have hji13w : (IntKind.i64.wrap (x7_1 - 1)) = ji13 := (i64_w _).trans hji13
          by_cases c14 : 0 ≤ (ji13)
          ·rw [if_pos c14] at H
           have c14b0 : decide (0 ≤ (ji13)) = true := decide_eq_true c14
           clear c14
           by_cases c15 : (ji13) < (l0.length : Int)
           ·rw [if_pos c15] at H
            have c15b0 : decide ((ji13) < (l0.length : Int)) = true := decide_eq_true c15
            clear c15
            have H' := Aside0.mk H
            clear H
            obtain ⟨hcz16_0, hcz16_1⟩ := cz2 BK120
            obtain ⟨hfz16_0, hfz16_1⟩ := fz2 BK120
            go_wp2_with (first | (go_at_call 106; (with_reducible refine (spec_l1In.calls ((rd_T105 l0 x7_1).f0) 0 ((rd_T105 l0 x7_1).f1) true _ A8.out).mono ?_); rintro e w' ⟨rfl, ⟨nd, rfl⟩⟩; (try first | exact ⟨rfl, _, World.drewN_drewN _ _ _⟩ | exact ⟨rfl, _, Eq.trans (World.drewN_drewN _ _ _) (congrArg (World.drewN _) (Nat.add_assoc _ _ _))⟩)) | (go_at_call 113; (with_reducible refine (spec_l1Known.calls ((rd_T105 l0 x7_1).f1) true _ A10.out).mono ?_); rintro e w' ⟨rfl, ⟨nd, rfl⟩⟩; (try first | exact ⟨rfl, _, World.drewN_drewN _ _ _⟩ | exact ⟨rfl, _, Eq.trans (World.drewN_drewN _ _ _) (congrArg (World.drewN _) (Nat.add_assoc _ _ _))⟩); have p123 : 0 ≤ ((ji13) : Int) := of_decide_eq_true (by first | (with_reducible assumption) | assumption); have q123 : (ji13) < (l0.length : Int) := of_decide_eq_true (by first | (with_reducible assumption) | assumption); obtain ⟨ad123, e123, hx123_0, hx123_1⟩ := at_T105 HR0.out (ji13) p123 q123; obtain rfl : ad119 = ad123 := (by injection e123); have hn123_0 : ad119.block ≠ gb120 := Nat.ne_of_lt (Nat.lt_of_lt_of_le (by have := World.block_lt_of_cell? _ _ hx123_0; first | rwa [add_block] at this | exact this) GW120.out); have hn123_1 : ad119.block ≠ gb120 := Nat.ne_of_lt (Nat.lt_of_lt_of_le (by have := World.block_lt_of_cell? _ _ hx123_0; first | rwa [add_block] at this | exact this) GW120.out); replace hx123_0 := (HB.out.cell (World.block_lt_of_cell? w _ hx123_0)).trans hx123_0; replace hx123_1 := (HB.out.cell (World.block_lt_of_cell? w _ hx123_1)).trans hx123_1; replace hx123_0 := (cell_far (p := ⟨gb120, 0, none⟩) (by first | (rw [add_block]; exact hn123_0) | (show (Addr.add _ _).block ≠ _; rw [add_block]; exact hn123_0) | exact hn123_0) (.int .i64 ((rd_T105 l0 x7_1).f0))).trans hx123_0; replace hx123_1 := (cell_far (p := ⟨gb120, 0, none⟩) (by first | (rw [add_block]; exact hn123_0) | (show (Addr.add _ _).block ≠ _; rw [add_block]; exact hn123_0) | exact hn123_0) (.int .i64 ((rd_T105 l0 x7_1).f0))).trans hx123_1; replace hx123_0 := (cell_far (p := ⟨gb120, 1, none⟩) (by first | (rw [add_block]; exact hn123_1) | (show (Addr.add _ _).block ≠ _; rw [add_block]; exact hn123_1) | exact hn123_1) (.int .i64 ((rd_T105 l0 x7_1).f1))).trans hx123_0; replace hx123_1 := (cell_far (p := ⟨gb120, 1, none⟩) (by first | (rw [add_block]; exact hn123_1) | (show (Addr.add _ _).block ≠ _; rw [add_block]; exact hn123_1) | exact hn123_1) (.int .i64 ((rd_T105 l0 x7_1).f1))).trans hx123_1; (try have hy123_0 := fun (n_ : Nat) => (show ((((w6.drewN n_).setCell ⟨gb120, 0, none⟩ (.int .i64 ((rd_T105 l0 x7_1).f0))).setCell ⟨gb120, 1, none⟩ (.int .i64 ((rd_T105 l0 x7_1).f1)))).cell? _ = some _ from hx123_0)); (try have hy123_1 := fun (n_ : Nat) => (show ((((w6.drewN n_).setCell ⟨gb120, 0, none⟩ (.int .i64 ((rd_T105 l0 x7_1).f0))).setCell ⟨gb120, 1, none⟩ (.int .i64 ((rd_T105 l0 x7_1).f1)))).cell? _ = some _ from hx123_1)); clear hn123_0; clear hn123_1; replace p123 := eq_true p123; replace q123 := eq_true q123))
            repeat (go_quiet (first | (go_at_call 106; (with_reducible refine (spec_l1In.calls ((rd_T105 l0 x7_1).f0) 0 ((rd_T105 l0 x7_1).f1) true _ A8.out).mono ?_); rintro e w' ⟨rfl, ⟨nd, rfl⟩⟩; (try first | exact ⟨rfl, _, World.drewN_drewN _ _ _⟩ | exact ⟨rfl, _, Eq.trans (World.drewN_drewN _ _ _) (congrArg (World.drewN _) (Nat.add_assoc _ _ _))⟩)) | (go_at_call 113; (with_reducible refine (spec_l1Known.calls ((rd_T105 l0 x7_1).f1) true _ A10.out).mono ?_); rintro e w' ⟨rfl, ⟨nd, rfl⟩⟩; (try first | exact ⟨rfl, _, World.drewN_drewN _ _ _⟩ | exact ⟨rfl, _, Eq.trans (World.drewN_drewN _ _ _) (congrArg (World.drewN _) (Nat.add_assoc _ _ _))⟩); have p123 : 0 ≤ ((ji13) : Int) := of_decide_eq_true (by first | (with_reducible assumption) | assumption); have q123 : (ji13) < (l0.length : Int) := of_decide_eq_true (by first | (with_reducible assumption) | assumption); obtain ⟨ad123, e123, hx123_0, hx123_1⟩ := at_T105 HR0.out (ji13) p123 q123; obtain rfl : ad119 = ad123 := (by injection e123); have hn123_0 : ad119.block ≠ gb120 := Nat.ne_of_lt (Nat.lt_of_lt_of_le (by have := World.block_lt_of_cell? _ _ hx123_0; first | rwa [add_block] at this | exact this) GW120.out); have hn123_1 : ad119.block ≠ gb120 := Nat.ne_of_lt (Nat.lt_of_lt_of_le (by have := World.block_lt_of_cell? _ _ hx123_0; first | rwa [add_block] at this | exact this) GW120.out); replace hx123_0 := (HB.out.cell (World.block_lt_of_cell? w _ hx123_0)).trans hx123_0; replace hx123_1 := (HB.out.cell (World.block_lt_of_cell? w _ hx123_1)).trans hx123_1; replace hx123_0 := (cell_far (p := ⟨gb120, 0, none⟩) (by first | (rw [add_block]; exact hn123_0) | (show (Addr.add _ _).block ≠ _; rw [add_block]; exact hn123_0) | exact hn123_0) (.int .i64 ((rd_T105 l0 x7_1).f0))).trans hx123_0; replace hx123_1 := (cell_far (p := ⟨gb120, 0, none⟩) (by first | (rw [add_block]; exact hn123_0) | (show (Addr.add _ _).block ≠ _; rw [add_block]; exact hn123_0) | exact hn123_0) (.int .i64 ((rd_T105 l0 x7_1).f0))).trans hx123_1; replace hx123_0 := (cell_far (p := ⟨gb120, 1, none⟩) (by first | (rw [add_block]; exact hn123_1) | (show (Addr.add _ _).block ≠ _; rw [add_block]; exact hn123_1) | exact hn123_1) (.int .i64 ((rd_T105 l0 x7_1).f1))).trans hx123_0; replace hx123_1 := (cell_far (p := ⟨gb120, 1, none⟩) (by first | (rw [add_block]; exact hn123_1) | (show (Addr.add _ _).block ≠ _; rw [add_block]; exact hn123_1) | exact hn123_1) (.int .i64 ((rd_T105 l0 x7_1).f1))).trans hx123_1; (try have hy123_0 := fun (n_ : Nat) => (show ((((w6.drewN n_).setCell ⟨gb120, 0, none⟩ (.int .i64 ((rd_T105 l0 x7_1).f0))).setCell ⟨gb120, 1, none⟩ (.int .i64 ((rd_T105 l0 x7_1).f1)))).cell? _ = some _ from hx123_0)); (try have hy123_1 := fun (n_ : Nat) => (show ((((w6.drewN n_).setCell ⟨gb120, 0, none⟩ (.int .i64 ((rd_T105 l0 x7_1).f0))).setCell ⟨gb120, 1, none⟩ (.int .i64 ((rd_T105 l0 x7_1).f1)))).cell? _ = some _ from hx123_1)); clear hn123_0; clear hn123_1; replace p123 := eq_true p123; replace q123 := eq_true q123)); try go_wp2_with (first | (go_at_call 106; (with_reducible refine (spec_l1In.calls ((rd_T105 l0 x7_1).f0) 0 ((rd_T105 l0 x7_1).f1) true _ A8.out).mono ?_); rintro e w' ⟨rfl, ⟨nd, rfl⟩⟩; (try first | exact ⟨rfl, _, World.drewN_drewN _ _ _⟩ | exact ⟨rfl, _, Eq.trans (World.drewN_drewN _ _ _) (congrArg (World.drewN _) (Nat.add_assoc _ _ _))⟩)) | (go_at_call 113; (with_reducible refine (spec_l1Known.calls ((rd_T105 l0 x7_1).f1) true _ A10.out).mono ?_); rintro e w' ⟨rfl, ⟨nd, rfl⟩⟩; (try first | exact ⟨rfl, _, World.drewN_drewN _ _ _⟩ | exact ⟨rfl, _, Eq.trans (World.drewN_drewN _ _ _) (congrArg (World.drewN _) (Nat.add_assoc _ _ _))⟩); have p123 : 0 ≤ ((ji13) : Int) := of_decide_eq_true (by first | (with_reducible assumption) | assumption); have q123 : (ji13) < (l0.length : Int) := of_decide_eq_true (by first | (with_reducible assumption) | assumption); obtain ⟨ad123, e123, hx123_0, hx123_1⟩ := at_T105 HR0.out (ji13) p123 q123; obtain rfl : ad119 = ad123 := (by injection e123); have hn123_0 : ad119.block ≠ gb120 := Nat.ne_of_lt (Nat.lt_of_lt_of_le (by have := World.block_lt_of_cell? _ _ hx123_0; first | rwa [add_block] at this | exact this) GW120.out); have hn123_1 : ad119.block ≠ gb120 := Nat.ne_of_lt (Nat.lt_of_lt_of_le (by have := World.block_lt_of_cell? _ _ hx123_0; first | rwa [add_block] at this | exact this) GW120.out); replace hx123_0 := (HB.out.cell (World.block_lt_of_cell? w _ hx123_0)).trans hx123_0; replace hx123_1 := (HB.out.cell (World.block_lt_of_cell? w _ hx123_1)).trans hx123_1; replace hx123_0 := (cell_far (p := ⟨gb120, 0, none⟩) (by first | (rw [add_block]; exact hn123_0) | (show (Addr.add _ _).block ≠ _; rw [add_block]; exact hn123_0) | exact hn123_0) (.int .i64 ((rd_T105 l0 x7_1).f0))).trans hx123_0; replace hx123_1 := (cell_far (p := ⟨gb120, 0, none⟩) (by first | (rw [add_block]; exact hn123_0) | (show (Addr.add _ _).block ≠ _; rw [add_block]; exact hn123_0) | exact hn123_0) (.int .i64 ((rd_T105 l0 x7_1).f0))).trans hx123_1; replace hx123_0 := (cell_far (p := ⟨gb120, 1, none⟩) (by first | (rw [add_block]; exact hn123_1) | (show (Addr.add _ _).block ≠ _; rw [add_block]; exact hn123_1) | exact hn123_1) (.int .i64 ((rd_T105 l0 x7_1).f1))).trans hx123_0; replace hx123_1 := (cell_far (p := ⟨gb120, 1, none⟩) (by first | (rw [add_block]; exact hn123_1) | (show (Addr.add _ _).block ≠ _; rw [add_block]; exact hn123_1) | exact hn123_1) (.int .i64 ((rd_T105 l0 x7_1).f1))).trans hx123_1; (try have hy123_0 := fun (n_ : Nat) => (show ((((w6.drewN n_).setCell ⟨gb120, 0, none⟩ (.int .i64 ((rd_T105 l0 x7_1).f0))).setCell ⟨gb120, 1, none⟩ (.int .i64 ((rd_T105 l0 x7_1).f1)))).cell? _ = some _ from hx123_0)); (try have hy123_1 := fun (n_ : Nat) => (show ((((w6.drewN n_).setCell ⟨gb120, 0, none⟩ (.int .i64 ((rd_T105 l0 x7_1).f0))).setCell ⟨gb120, 1, none⟩ (.int .i64 ((rd_T105 l0 x7_1).f1)))).cell? _ = some _ from hx123_1)); clear hn123_0; clear hn123_1; replace p123 := eq_true p123; replace q123 := eq_true q123)))
            go_meet
            case rel => exact ⟨_, (decide (((rd_T105 l0 x7_1).f1) > (wrap64 (((rd_T105 l0 (ji13)).f0) - 2)))), (by first | rfl | (simp; done) | (simp only [← hji13] <;> (first | rfl | (simp; done))) | (simp only [← hji13, i64_w] <;> (first | rfl | (simp; done))) | (simp [*]; done)), H', ⟨by have := HK1.out; first | omega | exact Nat.le_refl _⟩, ⟨by (with_reducible repeat (first | refine bN ?_ _ | refine bD ?_ | refine bA ?_ _)); refine blk_put (cs := #[.int .i64 ((rd_T105 l0 x7_1).f0), .int .i64 0]) ?_ 1 _ rfl; (with_reducible repeat (first | refine bN ?_ _ | refine bD ?_ | refine bA ?_ _)); refine blk_put (cs := #[.int .i64 0, .int .i64 0]) ?_ 0 _ rfl; (with_reducible repeat (first | refine bN ?_ _ | refine bD ?_ | refine bA ?_ _)); exact BK120.out⟩, ⟨by repeat (first | (with_reducible first | exact HB.out | apply below_alloc | apply pw_below_drewN | apply below_drew1 | refine below_set ?_ GE120.out) | exact HB.out)⟩⟩
           ·rw [if_neg c15] at H
            exact absurd H (by simp)
          ·rw [if_neg c14] at H
           exact absurd H (by simp)
         ·rw [if_neg c12] at H
          have c12b0 : decide (0 < x7_1) = false := decide_eq_false c12
          clear c12
          (first | rw [c12b0] | (simp only [i64_w, i32_w]; rw [c12b0]) | skip)
          have H' := Aside0.mk H
          clear H
          obtain ⟨hcz17_0, hcz17_1⟩ := cz2 BK120
          obtain ⟨hfz17_0, hfz17_1⟩ := fz2 BK120
          go_wp2_with (first | (go_at_call 106; (with_reducible refine (spec_l1In.calls ((rd_T105 l0 x7_1).f0) 0 ((rd_T105 l0 x7_1).f1) true _ A8.out).mono ?_); rintro e w' ⟨rfl, ⟨nd, rfl⟩⟩; (try first | exact ⟨rfl, _, World.drewN_drewN _ _ _⟩ | exact ⟨rfl, _, Eq.trans (World.drewN_drewN _ _ _) (congrArg (World.drewN _) (Nat.add_assoc _ _ _))⟩)) | (go_at_call 113; (with_reducible refine (spec_l1Known.calls ((rd_T105 l0 x7_1).f1) true _ A10.out).mono ?_); rintro e w' ⟨rfl, ⟨nd, rfl⟩⟩; (try first | exact ⟨rfl, _, World.drewN_drewN _ _ _⟩ | exact ⟨rfl, _, Eq.trans (World.drewN_drewN _ _ _) (congrArg (World.drewN _) (Nat.add_assoc _ _ _))⟩)))
          repeat (go_quiet (first | (go_at_call 106; (with_reducible refine (spec_l1In.calls ((rd_T105 l0 x7_1).f0) 0 ((rd_T105 l0 x7_1).f1) true _ A8.out).mono ?_); rintro e w' ⟨rfl, ⟨nd, rfl⟩⟩; (try first | exact ⟨rfl, _, World.drewN_drewN _ _ _⟩ | exact ⟨rfl, _, Eq.trans (World.drewN_drewN _ _ _) (congrArg (World.drewN _) (Nat.add_assoc _ _ _))⟩)) | (go_at_call 113; (with_reducible refine (spec_l1Known.calls ((rd_T105 l0 x7_1).f1) true _ A10.out).mono ?_); rintro e w' ⟨rfl, ⟨nd, rfl⟩⟩; (try first | exact ⟨rfl, _, World.drewN_drewN _ _ _⟩ | exact ⟨rfl, _, Eq.trans (World.drewN_drewN _ _ _) (congrArg (World.drewN _) (Nat.add_assoc _ _ _))⟩))); try go_wp2_with (first | (go_at_call 106; (with_reducible refine (spec_l1In.calls ((rd_T105 l0 x7_1).f0) 0 ((rd_T105 l0 x7_1).f1) true _ A8.out).mono ?_); rintro e w' ⟨rfl, ⟨nd, rfl⟩⟩; (try first | exact ⟨rfl, _, World.drewN_drewN _ _ _⟩ | exact ⟨rfl, _, Eq.trans (World.drewN_drewN _ _ _) (congrArg (World.drewN _) (Nat.add_assoc _ _ _))⟩)) | (go_at_call 113; (with_reducible refine (spec_l1Known.calls ((rd_T105 l0 x7_1).f1) true _ A10.out).mono ?_); rintro e w' ⟨rfl, ⟨nd, rfl⟩⟩; (try first | exact ⟨rfl, _, World.drewN_drewN _ _ _⟩ | exact ⟨rfl, _, Eq.trans (World.drewN_drewN _ _ _) (congrArg (World.drewN _) (Nat.add_assoc _ _ _))⟩))))
          go_meet
          case rel => exact ⟨_, (false), (by first | rfl | (simp; done) | (simp [*]; done)), H', ⟨by have := HK1.out; first | omega | exact Nat.le_refl _⟩, ⟨by (with_reducible repeat (first | refine bN ?_ _ | refine bD ?_ | refine bA ?_ _)); refine blk_put (cs := #[.int .i64 ((rd_T105 l0 x7_1).f0), .int .i64 0]) ?_ 1 _ rfl; (with_reducible repeat (first | refine bN ?_ _ | refine bD ?_ | refine bA ?_ _)); refine blk_put (cs := #[.int .i64 0, .int .i64 0]) ?_ 0 _ rfl; (with_reducible repeat (first | refine bN ?_ _ | refine bD ?_ | refine bA ?_ _)); exact BK120.out⟩, ⟨by repeat (first | (with_reducible first | exact HB.out | apply below_alloc | apply pw_below_drewN | apply below_drew1 | refine below_set ?_ GE120.out) | exact HB.out)⟩⟩
        ·replace c11 := Bool.eq_false_iff.mpr c11
         subst c11
         have H1 : (spec_l1Ranges.j1 k1 l0 l0 (l0.length : Int) x7_1 true) = some r := by rw [if_neg (show ¬ (false = true) by decide)] at H; exact H
         clear H
         have H := H1
         clear H1
         have H' := Aside0.mk H
         clear H
         obtain ⟨hcz18_0, hcz18_1⟩ := cz2 BK120
         obtain ⟨hfz18_0, hfz18_1⟩ := fz2 BK120
         go_wp2_with (first | (go_at_call 106; (with_reducible refine (spec_l1In.calls ((rd_T105 l0 x7_1).f0) 0 ((rd_T105 l0 x7_1).f1) true _ A8.out).mono ?_); rintro e w' ⟨rfl, ⟨nd, rfl⟩⟩; (try first | exact ⟨rfl, _, World.drewN_drewN _ _ _⟩ | exact ⟨rfl, _, Eq.trans (World.drewN_drewN _ _ _) (congrArg (World.drewN _) (Nat.add_assoc _ _ _))⟩)) | (go_at_call 113; (with_reducible refine (spec_l1Known.calls ((rd_T105 l0 x7_1).f1) false _ A10.out).mono ?_); rintro e w' ⟨rfl, ⟨nd, rfl⟩⟩; (try first | exact ⟨rfl, _, World.drewN_drewN _ _ _⟩ | exact ⟨rfl, _, Eq.trans (World.drewN_drewN _ _ _) (congrArg (World.drewN _) (Nat.add_assoc _ _ _))⟩)))
         repeat (go_quiet (first | (go_at_call 106; (with_reducible refine (spec_l1In.calls ((rd_T105 l0 x7_1).f0) 0 ((rd_T105 l0 x7_1).f1) true _ A8.out).mono ?_); rintro e w' ⟨rfl, ⟨nd, rfl⟩⟩; (try first | exact ⟨rfl, _, World.drewN_drewN _ _ _⟩ | exact ⟨rfl, _, Eq.trans (World.drewN_drewN _ _ _) (congrArg (World.drewN _) (Nat.add_assoc _ _ _))⟩)) | (go_at_call 113; (with_reducible refine (spec_l1Known.calls ((rd_T105 l0 x7_1).f1) false _ A10.out).mono ?_); rintro e w' ⟨rfl, ⟨nd, rfl⟩⟩; (try first | exact ⟨rfl, _, World.drewN_drewN _ _ _⟩ | exact ⟨rfl, _, Eq.trans (World.drewN_drewN _ _ _) (congrArg (World.drewN _) (Nat.add_assoc _ _ _))⟩))); try go_wp2_with (first | (go_at_call 106; (with_reducible refine (spec_l1In.calls ((rd_T105 l0 x7_1).f0) 0 ((rd_T105 l0 x7_1).f1) true _ A8.out).mono ?_); rintro e w' ⟨rfl, ⟨nd, rfl⟩⟩; (try first | exact ⟨rfl, _, World.drewN_drewN _ _ _⟩ | exact ⟨rfl, _, Eq.trans (World.drewN_drewN _ _ _) (congrArg (World.drewN _) (Nat.add_assoc _ _ _))⟩)) | (go_at_call 113; (with_reducible refine (spec_l1Known.calls ((rd_T105 l0 x7_1).f1) false _ A10.out).mono ?_); rintro e w' ⟨rfl, ⟨nd, rfl⟩⟩; (try first | exact ⟨rfl, _, World.drewN_drewN _ _ _⟩ | exact ⟨rfl, _, Eq.trans (World.drewN_drewN _ _ _) (congrArg (World.drewN _) (Nat.add_assoc _ _ _))⟩))))
         go_meet
         case rel => exact ⟨_, (true), (by first | rfl | (simp; done) | (simp [*]; done)), H', ⟨by have := HK1.out; first | omega | exact Nat.le_refl _⟩, ⟨by (with_reducible repeat (first | refine bN ?_ _ | refine bD ?_ | refine bA ?_ _)); refine blk_put (cs := #[.int .i64 ((rd_T105 l0 x7_1).f0), .int .i64 0]) ?_ 1 _ rfl; (with_reducible repeat (first | refine bN ?_ _ | refine bD ?_ | refine bA ?_ _)); refine blk_put (cs := #[.int .i64 0, .int .i64 0]) ?_ 0 _ rfl; (with_reducible repeat (first | refine bN ?_ _ | refine bD ?_ | refine bA ?_ _)); exact BK120.out⟩, ⟨by repeat (first | (with_reducible first | exact HB.out | apply below_alloc | apply pw_below_drewN | apply below_drew1 | refine below_set ?_ GE120.out) | exact HB.out)⟩⟩
       ·replace c9 := Bool.eq_false_iff.mpr c9
        subst c9
        have H1 : (spec_l1Ranges.j1 k1 l0 l0 (l0.length : Int) x7_1 true) = some r := by rw [if_neg (show ¬ (false = true) by decide)] at H; exact H
        clear H
        have H := H1
        clear H1
        have H' := Aside0.mk H
        clear H
        obtain ⟨hcz19_0, hcz19_1⟩ := cz2 BK120
        obtain ⟨hfz19_0, hfz19_1⟩ := fz2 BK120
        go_wp2_with (first | (go_at_call 106; (with_reducible refine (spec_l1In.calls ((rd_T105 l0 x7_1).f0) 0 ((rd_T105 l0 x7_1).f1) false _ A8.out).mono ?_); rintro e w' ⟨rfl, ⟨nd, rfl⟩⟩; (try first | exact ⟨rfl, _, World.drewN_drewN _ _ _⟩ | exact ⟨rfl, _, Eq.trans (World.drewN_drewN _ _ _) (congrArg (World.drewN _) (Nat.add_assoc _ _ _))⟩)))
        repeat (go_quiet (first | (go_at_call 106; (with_reducible refine (spec_l1In.calls ((rd_T105 l0 x7_1).f0) 0 ((rd_T105 l0 x7_1).f1) false _ A8.out).mono ?_); rintro e w' ⟨rfl, ⟨nd, rfl⟩⟩; (try first | exact ⟨rfl, _, World.drewN_drewN _ _ _⟩ | exact ⟨rfl, _, Eq.trans (World.drewN_drewN _ _ _) (congrArg (World.drewN _) (Nat.add_assoc _ _ _))⟩))); try go_wp2_with (first | (go_at_call 106; (with_reducible refine (spec_l1In.calls ((rd_T105 l0 x7_1).f0) 0 ((rd_T105 l0 x7_1).f1) false _ A8.out).mono ?_); rintro e w' ⟨rfl, ⟨nd, rfl⟩⟩; (try first | exact ⟨rfl, _, World.drewN_drewN _ _ _⟩ | exact ⟨rfl, _, Eq.trans (World.drewN_drewN _ _ _) (congrArg (World.drewN _) (Nat.add_assoc _ _ _))⟩))))
        go_meet
        case rel => exact ⟨_, (true), (by first | rfl | (simp; done) | (simp [*]; done)), H', ⟨by have := HK1.out; first | omega | exact Nat.le_refl _⟩, ⟨by (with_reducible repeat (first | refine bN ?_ _ | refine bD ?_ | refine bA ?_ _)); refine blk_put (cs := #[.int .i64 ((rd_T105 l0 x7_1).f0), .int .i64 0]) ?_ 1 _ rfl; (with_reducible repeat (first | refine bN ?_ _ | refine bD ?_ | refine bA ?_ _)); refine blk_put (cs := #[.int .i64 0, .int .i64 0]) ?_ 0 _ rfl; (with_reducible repeat (first | refine bN ?_ _ | refine bD ?_ | refine bA ?_ _)); exact BK120.out⟩, ⟨by repeat (first | (with_reducible first | exact HB.out | apply below_alloc | apply pw_below_drewN | apply below_drew1 | refine below_set ?_ GE120.out) | exact HB.out)⟩⟩
      case rest =>
       clear HC5
       try clear c1
       try clear p1
       try clear q1
       try clear hx1
       try clear c2
       try clear c2b0
       try clear p2
       try clear c3
       try clear c3b0
       try clear c4
       try clear c4b0
       try clear p6
       try clear c9
       try clear c11
       try clear p11
       try clear q11
       try clear hx11
       try clear c12
       try clear c12b0
       try clear p12
       try clear q12
       try clear hx12
       try clear c13
       try clear c14
       try clear c14b0
       try clear c15
       try clear c15b0
       try clear hcz16_0
       try clear hcz16_1
       try clear hcz17_0
       try clear hcz17_1
       try clear hcz18_0
       try clear hcz18_1
       try clear hcz19_0
       try clear hcz19_1
       try clear hcz7_0
       try clear hcz7_1
       try clear hfz16_0
       try clear hfz16_1
       try clear hfz17_0
       try clear hfz17_1
       try clear hfz18_0
       try clear hfz18_1
       try clear hfz19_0
       try clear hfz19_1
       try clear hfz7_0
       try clear hfz7_1
       try clear hx119_0
       try clear hx119_1
       try clear hx123_0
       try clear hx123_1
       try clear p119
       try clear p123
       try clear q119
       try clear q123
       obtain ⟨kq, x39_4, rfl, HA, HJ4, BK120, HB⟩ := hcut
       cases kq with
       | zero => exact absurd HA.out (by simp [spec_l1Ranges.j1])
       | succ kj4 =>
        have H := HA.out
        clear HA
        simp only [spec_l1Ranges.j1] at H
        by_cases c20 : x39_4 = true
        ·subst c20
         have H1 : (some false) = some r := by rw [if_pos rfl] at H; exact H
         clear H
         have H := H1
         clear H1
         obtain rfl := Option.some.inj H
         go_wp2
         repeat (go_quiet (fail); try go_wp2)
         go_ret
         exact ⟨by first | rfl | (simp [errW_none, errW_some] <;> rfl) | (simp [*, errW_none, errW_some] <;> rfl), by repeat (first | (with_reducible first | exact HB.out | apply below_alloc | apply pw_below_drewN | apply below_drew1 | refine below_set ?_ GE120.out) | exact HB.out)⟩
        ·replace c20 := Bool.eq_false_iff.mpr c20
         subst c20
         have H1 : (spec_l1Ranges.l0 kj4 l0 l0 (l0.length : Int) (wrap64 (x7_1 + 1))) = some r := by rw [if_neg (show ¬ (false = true) by decide)] at H; exact H
         clear H
         have H := H1
         clear H1
         have H' := Aside0.mk H
         clear H
         go_wp2
         repeat (go_quiet (fail); try go_wp2)
         go_roundg kj4
         case measure => have := HK1.out; have := HJ4.out; omega
         case rel => exact ⟨(wrap64 (x7_1 + 1)), (by first | rfl | (simp; done) | (simp [*]; done)), H', ⟨by have := HK1.out; have := HJ4.out; omega⟩, ⟨by repeat (first | (with_reducible first | exact HB.out | apply below_alloc | apply pw_below_drewN | apply below_drew1 | refine below_set ?_ GE120.out) | exact HB.out)⟩⟩
     ·rw [if_neg c4] at H
      exact absurd H (by simp)
    ·rw [if_neg c3] at H
     exact absurd H (by simp)
   ·rw [if_neg c2] at H
    have c2b0 : decide (x7_1 < (l0.length : Int)) = false := decide_eq_false c2
    clear c2
    replace H := Option.bind_eq_some_iff.mp H
    obtain ⟨t124, A210, H⟩ := H
    replace H : (some t124) = some r := H
    have A21 := Aside0.mk A210
    clear A210
    obtain rfl := Option.some.inj H
    go_wp2_with (first | (go_at_call 106; (with_reducible refine (spec_l1In.calls (l0.length : Int) 1 20 t124 _ A21.out).mono ?_); rintro e w' ⟨rfl, ⟨nd, rfl⟩⟩; (try first | exact ⟨rfl, _, World.drewN_drewN _ _ _⟩ | exact ⟨rfl, _, Eq.trans (World.drewN_drewN _ _ _) (congrArg (World.drewN _) (Nat.add_assoc _ _ _))⟩)))
    repeat (go_quiet (first | (go_at_call 106; (with_reducible refine (spec_l1In.calls (l0.length : Int) 1 20 t124 _ A21.out).mono ?_); rintro e w' ⟨rfl, ⟨nd, rfl⟩⟩; (try first | exact ⟨rfl, _, World.drewN_drewN _ _ _⟩ | exact ⟨rfl, _, Eq.trans (World.drewN_drewN _ _ _) (congrArg (World.drewN _) (Nat.add_assoc _ _ _))⟩))); try go_wp2_with (first | (go_at_call 106; (with_reducible refine (spec_l1In.calls (l0.length : Int) 1 20 t124 _ A21.out).mono ?_); rintro e w' ⟨rfl, ⟨nd, rfl⟩⟩; (try first | exact ⟨rfl, _, World.drewN_drewN _ _ _⟩ | exact ⟨rfl, _, Eq.trans (World.drewN_drewN _ _ _) (congrArg (World.drewN _) (Nat.add_assoc _ _ _))⟩))))
    go_ret
    exact ⟨by first | rfl | (simp [errW_none, errW_some] <;> rfl) | (simp [*, errW_none, errW_some] <;> rfl), by repeat (first | (with_reducible first | exact HB.out | apply below_alloc | apply pw_below_drewN | apply below_drew1) | exact HB.out)⟩

/-! ### spec_l12Ranges: function 59 -/
def spec_l12Ranges.f (k : Nat) (l0 : List (S105)) : Option (Bool) := if (l0.length : Int) = 0 then (some true) else (if (l0.length : Int) ≤ 20 then ((spec_l1Ranges.f k l0).bind fun t125 => (some t125)) else (some false))
theorem spec_l12Ranges.mono : ∀ a0 k, LeO (spec_l12Ranges.f k a0) (spec_l12Ranges.f (k + 1) a0) := by
 intro a0 k
 unfold spec_l12Ranges.f
 repeat' first
   | (with_reducible exact spec_l1Ranges.mono _ _)
   | (with_reducible exact LeO.refl _)
   | (with_reducible exact LeO.none _)
   | (with_reducible refine LeO.ite ?_ ?_)
   | (with_reducible refine LeO.bind ?_ (fun _ => ?_))
   | exact spec_l1Ranges.mono _ _
   | exact LeO.none _
   | refine LeO.ite ?_ ?_
   | refine LeO.bind ?_ (fun _ => ?_)
set_option maxHeartbeats 64000000 in
set_option maxRecDepth 100000 in
theorem spec_l12Ranges.calls (k : Nat) (A0 : Option Addr) (c0 : Nat) (l0 : List (S105)) (r : Bool) (w : World) (hr0 : Kd.C k105 w A0 l0.length l0) (hc0 : l0.length ≤ c0) (h : spec_l12Ranges.f k l0 = some r) :
  Calls Try.prog 59 #[.slice A0 l0.length c0] w fun e w' => e = .returned (.bool r) ∧ Below w.heap.size w w' := by
 have HR0 := Aside0.mk hr0
 have HC0 := Aside0.mk hc0
 clear hr0 hc0
 have HB := Aside0.mk (Below.refl w.heap.size w)
 have H : (if (l0.length : Int) = 0 then (some true) else (if (l0.length : Int) ≤ 20 then ((spec_l1Ranges.f k l0).bind fun t125 => (some t125)) else (some false))) = some r := h
 clear h
 by_cases c2 : (l0.length : Int) = 0
 ·rw [if_pos c2] at H
  have c2b0 : ((l0.length : Int) == 0) = true := beq_iff_eq.mpr c2
  have c2b1 : ((l0.length : Int) != 0) = false := bne_eq_false_iff_eq.mpr c2
  clear c2
  obtain rfl := Option.some.inj H
  go_enter Try.func59, Try.ntmps59
  go_wp2
  go_ret
  exact ⟨by first | rfl | (simp [errW_none, errW_some] <;> rfl) | (simp [*, errW_none, errW_some] <;> rfl), by repeat (first | (with_reducible first | exact HB.out | apply below_alloc | apply pw_below_drewN | apply below_drew1) | exact HB.out)⟩
 ·rw [if_neg c2] at H
  have c2b0 : ((l0.length : Int) == 0) = false := beq_eq_false_iff_ne.mpr c2
  have c2b1 : ((l0.length : Int) != 0) = true := bne_iff_ne.mpr c2
  have c2b2 : ¬ (l0 = []) := fun h_ => c2 (by rw [h_]; rfl)
  by_cases c3 : (l0.length : Int) ≤ 20
  ·rw [if_pos c3] at H
   have c3b0 : decide ((l0.length : Int) ≤ 20) = true := decide_eq_true c3
   have c3b1 : decide (l0.length ≤ 20) = true := decide_eq_true (by omega)
   clear c3
   replace H := Option.bind_eq_some_iff.mp H
   obtain ⟨t125, A40, H⟩ := H
   replace H : (some t125) = some r := H
   have A4 := Aside0.mk A40
   clear A40
   obtain rfl := Option.some.inj H
   go_enter Try.func59, Try.ntmps59
   go_wp2_with (first | (go_at_call 134; (with_reducible refine (spec_l1Ranges.calls k _ _ l0 t125 _ ?side1 ?side2 A4.out).mono ?_); (case side1 => repeat (first | exact HR0.out | (with_reducible refine Kd.C_alloc ?_ _) | (with_reducible refine Kd.C_drewN ?_ _) | (with_reducible refine Kd.C_drew ?_))); (case side2 => exact HC0.out); rintro e w5 ⟨rfl, hb⟩; have n0_ := Aside0.mk (below_step (by repeat (first | (with_reducible first | exact HB.out | apply below_alloc | apply pw_below_drewN | apply below_drew1) | exact HB.out)) hb); clear HB; have HB := n0_; clear n0_; (try clear hb); (try clear hb2); (try clear hk); (try clear hi)))
   go_ret
   exact ⟨by first | rfl | (simp [errW_none, errW_some] <;> rfl) | (simp [*, errW_none, errW_some] <;> rfl), by repeat (first | (with_reducible first | exact HB.out | apply below_alloc | apply pw_below_drewN | apply below_drew1) | exact HB.out)⟩
  ·rw [if_neg c3] at H
   have c3b0 : decide ((l0.length : Int) ≤ 20) = false := decide_eq_false c3
   have c3b1 : decide (l0.length ≤ 20) = false := decide_eq_false (by omega)
   clear c3
   obtain rfl := Option.some.inj H
   go_enter Try.func59, Try.ntmps59
   go_wp2
   go_ret
   exact ⟨by first | rfl | (simp [errW_none, errW_some] <;> rfl) | (simp [*, errW_none, errW_some] <;> rfl), by repeat (first | (with_reducible first | exact HB.out | apply below_alloc | apply pw_below_drewN | apply below_drew1) | exact HB.out)⟩

/-! ### spec_l12Put: function 129 -/
mutual
def spec_l12Put.l0 : Nat → List (S105) → Bool → List (S105) → Int → Int → Int → Int → Option ((List (S105)))
 | 0, _, _, _, _, _, _, _ => none
 | k + 1, x5, x6, x9, x10, x11, x127000, x127001 => if x11 < x10 then (if 0 ≤ x11 then (if x11 < (x9.length : Int) then (if ((rd_T105 x9 x11).f0) > (wrap64 (x127001 + 1)) then (if x5.length < 8796093022208 then (spec_l12Put.l0 k (x5 ++ [(⟨(rd_T105 x9 x11).f0, (rd_T105 x9 x11).f1⟩ : S105)]) x6 x9 x10 (wrap64 (x11 + 1)) x127000 x127001) else (none)) else (if ((rd_T105 x9 x11).f1) < (wrap64 (x127000 - 1)) then (if x6 = true then (if x5.length < 8796093022208 then (spec_l12Put.l0 k (x5 ++ [(⟨(rd_T105 x9 x11).f0, (rd_T105 x9 x11).f1⟩ : S105)]) x6 x9 x10 (wrap64 (x11 + 1)) x127000 x127001) else (none)) else (if x5.length < 8796093022208 then ((some (x5 ++ [(⟨x127000, x127001⟩ : S105)] : List (S105))).bind fun y135 => (if y135.length < 8796093022208 then (spec_l12Put.l0 k (y135 ++ [(⟨(rd_T105 x9 x11).f0, (rd_T105 x9 x11).f1⟩ : S105)]) true x9 x10 (wrap64 (x11 + 1)) x127000 x127001) else (none))) else (none))) else (if ((rd_T105 x9 x11).f0) < x127000 then (spec_l12Put.j1 k x5 x6 x9 x10 x11 ((rd_T105 x9 x11).f0) x127001 ((rd_T105 x9 x11).f0) ((rd_T105 x9 x11).f1)) else (spec_l12Put.j1 k x5 x6 x9 x10 x11 x127000 x127001 ((rd_T105 x9 x11).f0) ((rd_T105 x9 x11).f1))))) else (none)) else (none)) else (if x6 = true then (some x5) else (if x5.length < 8796093022208 then (some (x5 ++ [(⟨x127000, x127001⟩ : S105)])) else (none)))
def spec_l12Put.j1 : Nat → List (S105) → Bool → List (S105) → Int → Int → Int → Int → Int → Int → Option ((List (S105)))
 | 0, _, _, _, _, _, _, _, _, _ => none
 | k + 1, x5, x6, x9, x10, x11, x127000, x127001, x129000, x129001 => if x129001 > x127001 then (spec_l12Put.l0 k x5 x6 x9 x10 (wrap64 (x11 + 1)) x127000 x129001) else (spec_l12Put.l0 k x5 x6 x9 x10 (wrap64 (x11 + 1)) x127000 x127001)
end
def spec_l12Put.f (k : Nat) (l0 : List (S105)) (a1_0 : Int) (a1_1 : Int) : Option ((List (S105))) := spec_l12Put.l0 k ([] : List (S105)) false l0 (l0.length : Int) 0 a1_0 a1_1
theorem spec_l12Put.mono_l : ∀ k, (∀ y0 y1 y2 y3 y4 y5 y6, LeO (spec_l12Put.l0 k y0 y1 y2 y3 y4 y5 y6) (spec_l12Put.l0 (k + 1) y0 y1 y2 y3 y4 y5 y6)) ∧ (∀ y0 y1 y2 y3 y4 y5 y6 y7 y8, LeO (spec_l12Put.j1 k y0 y1 y2 y3 y4 y5 y6 y7 y8) (spec_l12Put.j1 (k + 1) y0 y1 y2 y3 y4 y5 y6 y7 y8))
 | 0 => ⟨fun _ _ _ _ _ _ _ r h => by simp [spec_l12Put.l0] at h, fun _ _ _ _ _ _ _ _ _ r h => by simp [spec_l12Put.j1] at h⟩
 | k + 1 => by
  obtain ⟨ih0, ih1⟩ := spec_l12Put.mono_l k
  refine ⟨?_, ?_⟩
  ·intro y0 y1 y2 y3 y4 y5 y6
   unfold spec_l12Put.l0
   repeat' first
   | (with_reducible exact ih0 _ _ _ _ _ _ _)
   | (with_reducible exact ih1 _ _ _ _ _ _ _ _ _)
   | (with_reducible exact LeO.refl _)
   | (with_reducible exact LeO.none _)
   | (with_reducible refine LeO.ite ?_ ?_)
   | (with_reducible refine LeO.bind ?_ (fun _ => ?_))
   | exact ih0 _ _ _ _ _ _ _
   | exact ih1 _ _ _ _ _ _ _ _ _
   | exact LeO.none _
   | refine LeO.ite ?_ ?_
   | refine LeO.bind ?_ (fun _ => ?_)
  ·intro y0 y1 y2 y3 y4 y5 y6 y7 y8
   unfold spec_l12Put.j1
   repeat' first
   | (with_reducible exact ih0 _ _ _ _ _ _ _)
   | (with_reducible exact ih1 _ _ _ _ _ _ _ _ _)
   | (with_reducible exact LeO.refl _)
   | (with_reducible exact LeO.none _)
   | (with_reducible refine LeO.ite ?_ ?_)
   | (with_reducible refine LeO.bind ?_ (fun _ => ?_))
   | exact ih0 _ _ _ _ _ _ _
   | exact ih1 _ _ _ _ _ _ _ _ _
   | exact LeO.none _
   | refine LeO.ite ?_ ?_
   | refine LeO.bind ?_ (fun _ => ?_)
theorem spec_l12Put.mono : ∀ a0 a1 a2 k, LeO (spec_l12Put.f k a0 a1 a2) (spec_l12Put.f (k + 1) a0 a1 a2) := by
 intro a0 a1 a2 k
 obtain ⟨ih0, ih1⟩ := spec_l12Put.mono_l k
 unfold spec_l12Put.f
 repeat' first
   | (with_reducible exact ih0 _ _ _ _ _ _ _)
   | (with_reducible exact ih1 _ _ _ _ _ _ _ _ _)
   | (with_reducible exact LeO.refl _)
   | (with_reducible exact LeO.none _)
   | (with_reducible refine LeO.ite ?_ ?_)
   | (with_reducible refine LeO.bind ?_ (fun _ => ?_))
   | exact ih0 _ _ _ _ _ _ _
   | exact ih1 _ _ _ _ _ _ _ _ _
   | exact LeO.none _
   | refine LeO.ite ?_ ?_
   | refine LeO.bind ?_ (fun _ => ?_)
set_option maxHeartbeats 64000000 in
set_option maxRecDepth 100000 in
theorem spec_l12Put.calls (k : Nat) (A0 : Option Addr) (c0 : Nat) (l0 : List (S105)) (a1_0 : Int) (a1_1 : Int) (r : List (S105)) (w : World) (hr0 : Kd.C k105 w A0 l0.length l0) (hc0 : l0.length ≤ c0) (h : spec_l12Put.f k l0 a1_0 a1_1 = some r) :
  Calls Try.prog 129 #[.slice A0 l0.length c0, .agg #[.int .i64 a1_0, .int .i64 a1_1]] w fun e w' => ∃ v0_ : Value, e = .returned (v0_) ∧ Kd.R k105 105 w' w.heap.size (fun _ => True) v0_ r ∧ Below w.heap.size w w' := by
 have hu105 := Try.underlying105
 have HR0 := Aside0.mk hr0
 have HC0 := Aside0.mk hc0
 clear hr0 hc0
 have HB := Aside0.mk (Below.refl w.heap.size w)
 have H : (spec_l12Put.l0 k ([] : List (S105)) false l0 (l0.length : Int) 0 a1_0 a1_1) = some r := h
 clear h
 have H' := Aside0.mk H
 clear H
 go_enter Try.func129, Try.ntmps129
 go_wp2_with (first | ((with_reducible refine gate_dst (N := 3) rfl ?_); refine box_event ?hg (N := 3) ?hd (cs := #[.int .i64 a1_0, .int .i64 a1_1]) (t := 105) ?hr ?_; (case hd => rfl); (case hg => rfl); (case hr => first | (go_simp; done) | (go_simp; rfl)); intro gb126 hg w3 hbox hb; have n0_ := Aside0.mk (below_step (by repeat (first | (with_reducible first | exact HB.out | apply below_alloc | apply pw_below_drewN | apply below_drew1) | exact HB.out)) hb); have n1_ := Aside0.mk (hbox); have n2_ := Aside0.mk ((by rw [hg]; exact (below_size (by repeat (first | (with_reducible first | exact HB.out | apply below_alloc | apply pw_below_drewN | apply below_drew1) | exact HB.out))) : w.heap.size ≤ gb126)); have n3_ := n2_; clear HB; have HB := n0_; have BK126 := n1_; have GW126 := n2_; have GE126 := n3_; clear n0_ n1_ n2_ n3_; clear hb hbox hg))
 go_loopg [5, 6, 11] k (fun kq v5 v6 v11 w' => ∃ (x5_1 : List (S105)) (x6_1 : Bool) (x11_1 : Int) (x127000_1 : Int) (x127001_1 : Int), v6 = .bool x6_1 ∧ v11 = .int .i64 x11_1 ∧ Aside0 (spec_l12Put.l0 kq x5_1 x6_1 l0 (l0.length : Int) x11_1 x127000_1 x127001_1 = some r) ∧ Aside0 (kq ≤ k) ∧ Aside0 (Kd.R k105 105 w' w.heap.size (fun k_ => k_ ≠ gb126) v5 x5_1) ∧ Aside0 (w'.heap[gb126]? = some (.cells #[.int .i64 x127000_1, .int .i64 x127001_1] 105 (0, 0))) ∧ Aside0 (Below w.heap.size w w'))
 case atStart => exact ⟨(([] : List (S105))), (false), (0), (a1_0), (a1_1), (by first | rfl | (simp; done) | (simp [*]; done)), (by first | rfl | (simp; done) | (simp [*]; done)), H', ⟨Nat.le_refl _⟩, ⟨by first | exact Kd.R_nil _ _ _ _ _ | exact Kd.N_nil _ _ _ _ _ | exact Kd.V_nil _ _ _ _ _ | exact Kd.Q_nil _ _ _ _ _ | exact Kd.S_nil _ _ _ _ _⟩, ⟨by (with_reducible repeat (first | refine bN ?_ _ | refine bD ?_ | refine bA ?_ _)); exact BK126.out⟩, ⟨by repeat (first | (with_reducible first | exact HB.out | apply below_alloc | apply pw_below_drewN | apply below_drew1 | refine below_set ?_ GE126.out) | exact HB.out)⟩⟩
 case round =>
  clear H'
  try clear c1
  try clear p2
  obtain ⟨x5_1, x6_1, x11_1, x127000_1, x127001_1, rfl, rfl, HA, HK1, HO_5, BK126, HB⟩ := hrel
  cases gk with
  | zero => exact absurd HA.out (by simp [spec_l12Put.l0])
  | succ k1 =>
   have H := HA.out
   clear HA
   simp only [spec_l12Put.l0] at H
   by_cases c4 : x11_1 < (l0.length : Int)
   ·rw [if_pos c4] at H
    have c4b0 : decide (x11_1 < (l0.length : Int)) = true := decide_eq_true c4
    clear c4
    by_cases c5 : 0 ≤ x11_1
    ·rw [if_pos c5] at H
     have c5b0 : decide (0 ≤ x11_1) = true := decide_eq_true c5
     clear c5
     by_cases c6 : x11_1 < (l0.length : Int)
     ·rw [if_pos c6] at H
      have c6b0 : decide (x11_1 < (l0.length : Int)) = true := decide_eq_true c6
      clear c6
      by_cases c7 : ((rd_T105 l0 x11_1).f0) > (wrap64 (x127001_1 + 1))
      ·rw [if_pos c7] at H
       have c7b0 : decide ((wrap64 (x127001_1 + 1)) < ((rd_T105 l0 x11_1).f0)) = true := decide_eq_true c7
       (try (have c7b1 : decide ((IntKind.i64.wrap (x127001_1 + 1)) < ((rd_T105 l0 x11_1).f0)) = true := by simp only [i64_w]; exact (decide_eq_true c7)))
       clear c7
       by_cases c8 : x5_1.length < 8796093022208
       ·rw [if_pos c8] at H
        have LMc8 := Aside0.mk c8
        clear c8
        obtain ⟨y129, hy129⟩ : ∃ y_ : List (S105), y_ = (x5_1 ++ [(⟨(rd_T105 l0 x11_1).f0, (rd_T105 l0 x11_1).f1⟩ : S105)]) := ⟨_, rfl⟩
        replace H : (spec_l12Put.l0 k1 y129 x6_1 l0 (l0.length : Int) (wrap64 (x11_1 + 1)) x127000_1 x127001_1) = some r := by first | (rw [hy129]; with_reducible exact H) | (have H2_ := (Option.bind_some _ _).symm.trans H; rw [hy129]; with_reducible exact H2_) | (have H2_ := (Option.bind_some _ _).symm.trans H; with_reducible exact H2_) | with_reducible exact H | (rw [hy129]; exact H) | exact H
        have Ny129 := Aside0.mk hy129
        clear hy129
        have H' := Aside0.mk H
        clear H
        have p127 : 0 ≤ (x11_1 : Int) := of_decide_eq_true (by first | (with_reducible assumption) | assumption)
        have q127 : x11_1 < (l0.length : Int) := of_decide_eq_true (by first | (with_reducible assumption) | assumption)
        obtain ⟨ad127, e127, hx127_0, hx127_1⟩ := at_T105 HR0.out x11_1 p127 q127
        cases e127
        replace hx127_0 := (HB.out.cell (World.block_lt_of_cell? w _ hx127_0)).trans hx127_0
        replace hx127_1 := (HB.out.cell (World.block_lt_of_cell? w _ hx127_1)).trans hx127_1
        replace p127 := eq_true p127
        replace q127 := eq_true q127
        go_wp2_with (first | ((with_reducible refine gate_dst (N := 8) rfl ?_); refine box_event ?hg (N := 8) ?hd (cs := #[.int .i64 0, .int .i64 0]) (t := 105) ?hr ?_; (case hd => rfl); (case hg => rfl); (case hr => first | (go_simp; done) | (go_simp; rfl)); intro gb128 hg w9 hbox hb; have n0_ := Aside0.mk (Kd.R_below (Kd.R_elderB (by (with_reducible repeat (first | apply Kd.R_alloc | apply Kd.R_drewN | apply Kd.R_drew)); exact HO_5.out) gb128 (Nat.le_of_eq hg.symm)) hb); have n1_ := Aside0.mk (blk_below (g := gb126) (o := .cells #[.int .i64 x127000_1, .int .i64 x127001_1] 105 (0, 0)) (by (with_reducible repeat (first | refine bN ?_ _ | refine bD ?_ | refine bA ?_ _)); exact BK126.out) hb); have n2_ := Aside0.mk (below_step (by repeat (first | (with_reducible first | exact HB.out | apply below_alloc | apply pw_below_drewN | apply below_drew1 | refine below_set ?_ GE126.out) | exact HB.out)) hb); have n3_ := Aside0.mk (hbox); have n4_ := Aside0.mk ((by rw [hg]; exact (below_size (by repeat (first | (with_reducible first | exact HB.out | apply below_alloc | apply pw_below_drewN | apply below_drew1 | refine below_set ?_ GE126.out) | exact HB.out))) : w.heap.size ≤ gb128)); have n5_ := n4_; have n6_ := Aside0.mk ((by rw [hg]; exact Nat.ne_of_lt (blk_lt (g := gb126) (o := .cells #[.int .i64 x127000_1, .int .i64 x127001_1] 105 (0, 0)) (by (with_reducible repeat (first | refine bN ?_ _ | refine bD ?_ | refine bA ?_ _)); exact BK126.out)) : gb126 ≠ gb128)); have n7_ := Aside0.mk (Ne.symm n6_.out); clear HO_5; clear BK126; clear HB; have HO_5 := n0_; have BK126 := n1_; have HB := n2_; have BK128 := n3_; have GW128 := n4_; have GE128 := n5_; have NB126_128 := n6_; have NB128_126 := n7_; clear n0_ n1_ n2_ n3_ n4_ n5_ n6_ n7_; clear hb hbox hg; have hnb10 := NB128_126.out; have hnc10 := NB126_128.out; obtain ⟨hcz11_0, hcz11_1⟩ := cz2 BK128; obtain ⟨hfz11_0, hfz11_1⟩ := fz2 BK128; obtain ⟨hcz12_0, hcz12_1⟩ := cz2 BK126; obtain ⟨hfz12_0, hfz12_1⟩ := fz2 BK126) | ((with_reducible refine gate_builtin (b := .append) (xs := #[.tmp 21, .tmp 23]) rfl ?_); at_builtin; refine Kd.R_append k105 (w0 := w) w.heap.size rfl (.tmp 21) (.tmp 23) 38 105 (.agg #[(.int .i64 0), (.int .i64 0)]) 16 rfl Try.underlying38 info105 rfl (by decide) (by omega) u5 x5_1 (⟨(rd_T105 l0 x11_1).f0, (rd_T105 l0 x11_1).f1⟩ : S105) [.int .i64 ((rd_T105 l0 x11_1).f0), .int .i64 ((rd_T105 l0 x11_1).f1)] (fun k_ => k_ ≠ gb126 ∧ k_ ≠ gb128) (fun _ => False) rfl (by first | (go_simp; done) | (go_simp; rfl)) ?aP (fun _ hk => hk.elim) ?aF ?aO ?aB ?aS ?aL ?_; (case aP => exact k105_mkM _ _ _ (⟨(rd_T105 l0 x11_1).f0, (rd_T105 l0 x11_1).f1⟩ : S105)); (case aB => exact (by repeat (first | (with_reducible first | exact HB.out | apply below_alloc | apply pw_below_drewN | apply below_drew1 | refine below_set ?_ GE126.out | refine below_set ?_ GE128.out) | exact HB.out))); (case aF => exact (fun k_ hk => ⟨Kd.freshB (g := gb126) (o := .cells #[.int .i64 x127000_1, .int .i64 x127001_1] 105 (0, 0)) (by (with_reducible repeat (first | refine bN ?_ _ | refine bD ?_ | refine bA ?_ _)); refine blk_far ?_ NB126_128.out _; (with_reducible repeat (first | refine bN ?_ _ | refine bD ?_ | refine bA ?_ _)); refine blk_far ?_ NB126_128.out _; (with_reducible repeat (first | refine bN ?_ _ | refine bD ?_ | refine bA ?_ _)); exact BK126.out) k_ hk, Kd.freshB (g := gb128) (o := .cells #[.int .i64 ((rd_T105 l0 x11_1).f0), .int .i64 ((rd_T105 l0 x11_1).f1)] 105 (0, 0)) (by (with_reducible repeat (first | refine bN ?_ _ | refine bD ?_ | refine bA ?_ _)); refine blk_put (cs := #[.int .i64 ((rd_T105 l0 x11_1).f0), .int .i64 0]) ?_ 1 _ rfl; (with_reducible repeat (first | refine bN ?_ _ | refine bD ?_ | refine bA ?_ _)); refine blk_put (cs := #[.int .i64 0, .int .i64 0]) ?_ 0 _ rfl; (with_reducible repeat (first | refine bN ?_ _ | refine bD ?_ | refine bA ?_ _)); exact BK128.out) k_ hk⟩)); (case aO => exact (by (with_reducible repeat (first | apply Kd.R_alloc | apply Kd.R_drewN | apply Kd.R_drew)); exact Kd.R_mono (Kd.R_far (p := ⟨gb128, 1, none⟩) (Kd.R_far (p := ⟨gb128, 0, none⟩) (Kd.R_mono HO_5.out (fun k_ hk => (⟨hk, hk.2⟩ : _ ∧ k_ ≠ gb128))) (fun _ hk => hk.2) (.int .i64 ((rd_T105 l0 x11_1).f0))) (fun _ hk => hk.2) (.int .i64 ((rd_T105 l0 x11_1).f1))) (fun _ hk => ⟨hk.1.1, hk.1.2⟩))); (case aS => exact (below_size (by repeat (first | (with_reducible first | exact HB.out | apply below_alloc | apply pw_below_drewN | apply below_drew1 | refine below_set ?_ GE126.out | refine below_set ?_ GE128.out) | exact HB.out)))); (case aL => have := LMc8.out; omega); intro v130 w13 ho hb hg hat; rw [← Ny129.out] at ho; have n0_ := Aside0.mk (blk_grown (g := gb126) (o := .cells #[.int .i64 x127000_1, .int .i64 x127001_1] 105 (0, 0)) (by (with_reducible repeat (first | refine bN ?_ _ | refine bD ?_ | refine bA ?_ _)); refine blk_far ?_ NB126_128.out _; (with_reducible repeat (first | refine bN ?_ _ | refine bD ?_ | refine bA ?_ _)); refine blk_far ?_ NB126_128.out _; (with_reducible repeat (first | refine bN ?_ _ | refine bD ?_ | refine bA ?_ _)); exact BK126.out) hg (Kd.R_away HO_5.out (fun _ hk => hk.1))); have n1_ := Aside0.mk (blk_grown (g := gb128) (o := .cells #[.int .i64 ((rd_T105 l0 x11_1).f0), .int .i64 ((rd_T105 l0 x11_1).f1)] 105 (0, 0)) (by (with_reducible repeat (first | refine bN ?_ _ | refine bD ?_ | refine bA ?_ _)); refine blk_put (cs := #[.int .i64 ((rd_T105 l0 x11_1).f0), .int .i64 0]) ?_ 1 _ rfl; (with_reducible repeat (first | refine bN ?_ _ | refine bD ?_ | refine bA ?_ _)); refine blk_put (cs := #[.int .i64 0, .int .i64 0]) ?_ 0 _ rfl; (with_reducible repeat (first | refine bN ?_ _ | refine bD ?_ | refine bA ?_ _)); exact BK128.out) hg (Kd.R_away HO_5.out (fun _ hk => hk.2))); have n2_ := Aside0.mk (hb); have n3_ := Aside0.mk (ho); clear BK126; clear BK128; clear HB; clear HO_5; have BK126 := n0_; have BK128 := n1_; have HB := n2_; have HO131 := n3_; clear n0_ n1_ n2_ n3_; clear ho hb hg hat))
        go_roundg k1
        case measure => have := HK1.out; omega
        case rel => exact ⟨(y129), (x6_1), (wrap64 (x11_1 + 1)), (x127000_1), (x127001_1), (by first | rfl | (simp; done) | (simp [*]; done)), (by first | rfl | (simp; done) | (simp [*]; done)), H', ⟨by have := HK1.out; omega⟩, ⟨by (with_reducible repeat (first | apply Kd.R_alloc | apply Kd.R_drewN | apply Kd.R_drew)); exact Kd.R_mono HO131.out (fun _ hk => hk.1)⟩, ⟨by (with_reducible repeat (first | refine bN ?_ _ | refine bD ?_ | refine bA ?_ _)); exact BK126.out⟩, ⟨by repeat (first | (with_reducible first | exact HB.out | apply below_alloc | apply pw_below_drewN | apply below_drew1 | refine below_set ?_ GE126.out | refine below_set ?_ GE128.out) | exact HB.out)⟩⟩
       ·rw [if_neg c8] at H
        exact absurd H (by simp)
      ·rw [if_neg c7] at H
       have c7b0 : decide ((wrap64 (x127001_1 + 1)) < ((rd_T105 l0 x11_1).f0)) = false := decide_eq_false c7
       (try (have c7b1 : decide ((IntKind.i64.wrap (x127001_1 + 1)) < ((rd_T105 l0 x11_1).f0)) = false := by simp only [i64_w]; exact (decide_eq_false c7)))
       clear c7
       by_cases c14 : ((rd_T105 l0 x11_1).f1) < (wrap64 (x127000_1 - 1))
       ·rw [if_pos c14] at H
        have c14b0 : decide (((rd_T105 l0 x11_1).f1) < (wrap64 (x127000_1 - 1))) = true := decide_eq_true c14
        (try (have c14b1 : decide (((rd_T105 l0 x11_1).f1) < (IntKind.i64.wrap (x127000_1 - 1))) = true := by simp only [i64_w]; exact (decide_eq_true c14)))
        clear c14
        by_cases c15 : x6_1 = true
        ·subst c15
         have H1 : (if x5_1.length < 8796093022208 then (spec_l12Put.l0 k1 (x5_1 ++ [(⟨(rd_T105 l0 x11_1).f0, (rd_T105 l0 x11_1).f1⟩ : S105)]) true l0 (l0.length : Int) (wrap64 (x11_1 + 1)) x127000_1 x127001_1) else (none)) = some r := by rw [if_pos rfl] at H; exact H
         clear H
         have H := H1
         clear H1
         by_cases c16 : x5_1.length < 8796093022208
         ·rw [if_pos c16] at H
          have LMc16 := Aside0.mk c16
          clear c16
          obtain ⟨y132, hy132⟩ : ∃ y_ : List (S105), y_ = (x5_1 ++ [(⟨(rd_T105 l0 x11_1).f0, (rd_T105 l0 x11_1).f1⟩ : S105)]) := ⟨_, rfl⟩
          replace H : (spec_l12Put.l0 k1 y132 true l0 (l0.length : Int) (wrap64 (x11_1 + 1)) x127000_1 x127001_1) = some r := by first | (rw [hy132]; with_reducible exact H) | (have H2_ := (Option.bind_some _ _).symm.trans H; rw [hy132]; with_reducible exact H2_) | (have H2_ := (Option.bind_some _ _).symm.trans H; with_reducible exact H2_) | with_reducible exact H | (rw [hy132]; exact H) | exact H
          have Ny132 := Aside0.mk hy132
          clear hy132
          have H' := Aside0.mk H
          clear H
          have p127 : 0 ≤ (x11_1 : Int) := of_decide_eq_true (by first | (with_reducible assumption) | assumption)
          have q127 : x11_1 < (l0.length : Int) := of_decide_eq_true (by first | (with_reducible assumption) | assumption)
          obtain ⟨ad127, e127, hx127_0, hx127_1⟩ := at_T105 HR0.out x11_1 p127 q127
          cases e127
          replace hx127_0 := (HB.out.cell (World.block_lt_of_cell? w _ hx127_0)).trans hx127_0
          replace hx127_1 := (HB.out.cell (World.block_lt_of_cell? w _ hx127_1)).trans hx127_1
          replace p127 := eq_true p127
          replace q127 := eq_true q127
          go_wp2_with (first | ((with_reducible refine gate_dst (N := 8) rfl ?_); refine box_event ?hg (N := 8) ?hd (cs := #[.int .i64 0, .int .i64 0]) (t := 105) ?hr ?_; (case hd => rfl); (case hg => rfl); (case hr => first | (go_simp; done) | (go_simp; rfl)); intro gb128 hg w17 hbox hb; have n0_ := Aside0.mk (Kd.R_below (Kd.R_elderB (by (with_reducible repeat (first | apply Kd.R_alloc | apply Kd.R_drewN | apply Kd.R_drew)); exact HO_5.out) gb128 (Nat.le_of_eq hg.symm)) hb); have n1_ := Aside0.mk (blk_below (g := gb126) (o := .cells #[.int .i64 x127000_1, .int .i64 x127001_1] 105 (0, 0)) (by (with_reducible repeat (first | refine bN ?_ _ | refine bD ?_ | refine bA ?_ _)); exact BK126.out) hb); have n2_ := Aside0.mk (below_step (by repeat (first | (with_reducible first | exact HB.out | apply below_alloc | apply pw_below_drewN | apply below_drew1 | refine below_set ?_ GE126.out) | exact HB.out)) hb); have n3_ := Aside0.mk (hbox); have n4_ := Aside0.mk ((by rw [hg]; exact (below_size (by repeat (first | (with_reducible first | exact HB.out | apply below_alloc | apply pw_below_drewN | apply below_drew1 | refine below_set ?_ GE126.out) | exact HB.out))) : w.heap.size ≤ gb128)); have n5_ := n4_; have n6_ := Aside0.mk ((by rw [hg]; exact Nat.ne_of_lt (blk_lt (g := gb126) (o := .cells #[.int .i64 x127000_1, .int .i64 x127001_1] 105 (0, 0)) (by (with_reducible repeat (first | refine bN ?_ _ | refine bD ?_ | refine bA ?_ _)); exact BK126.out)) : gb126 ≠ gb128)); have n7_ := Aside0.mk (Ne.symm n6_.out); clear HO_5; clear BK126; clear HB; have HO_5 := n0_; have BK126 := n1_; have HB := n2_; have BK128 := n3_; have GW128 := n4_; have GE128 := n5_; have NB126_128 := n6_; have NB128_126 := n7_; clear n0_ n1_ n2_ n3_ n4_ n5_ n6_ n7_; clear hb hbox hg; have hnb18 := NB128_126.out; have hnc18 := NB126_128.out; obtain ⟨hcz19_0, hcz19_1⟩ := cz2 BK128; obtain ⟨hfz19_0, hfz19_1⟩ := fz2 BK128; obtain ⟨hcz20_0, hcz20_1⟩ := cz2 BK126; obtain ⟨hfz20_0, hfz20_1⟩ := fz2 BK126) | ((with_reducible refine gate_builtin (b := .append) (xs := #[.tmp 37, .tmp 39]) rfl ?_); at_builtin; refine Kd.R_append k105 (w0 := w) w.heap.size rfl (.tmp 37) (.tmp 39) 38 105 (.agg #[(.int .i64 0), (.int .i64 0)]) 16 rfl Try.underlying38 info105 rfl (by decide) (by omega) u5 x5_1 (⟨(rd_T105 l0 x11_1).f0, (rd_T105 l0 x11_1).f1⟩ : S105) [.int .i64 ((rd_T105 l0 x11_1).f0), .int .i64 ((rd_T105 l0 x11_1).f1)] (fun k_ => k_ ≠ gb126 ∧ k_ ≠ gb128) (fun _ => False) rfl (by first | (go_simp; done) | (go_simp; rfl)) ?aP (fun _ hk => hk.elim) ?aF ?aO ?aB ?aS ?aL ?_; (case aP => exact k105_mkM _ _ _ (⟨(rd_T105 l0 x11_1).f0, (rd_T105 l0 x11_1).f1⟩ : S105)); (case aB => exact (by repeat (first | (with_reducible first | exact HB.out | apply below_alloc | apply pw_below_drewN | apply below_drew1 | refine below_set ?_ GE126.out | refine below_set ?_ GE128.out) | exact HB.out))); (case aF => exact (fun k_ hk => ⟨Kd.freshB (g := gb126) (o := .cells #[.int .i64 x127000_1, .int .i64 x127001_1] 105 (0, 0)) (by (with_reducible repeat (first | refine bN ?_ _ | refine bD ?_ | refine bA ?_ _)); refine blk_far ?_ NB126_128.out _; (with_reducible repeat (first | refine bN ?_ _ | refine bD ?_ | refine bA ?_ _)); refine blk_far ?_ NB126_128.out _; (with_reducible repeat (first | refine bN ?_ _ | refine bD ?_ | refine bA ?_ _)); exact BK126.out) k_ hk, Kd.freshB (g := gb128) (o := .cells #[.int .i64 ((rd_T105 l0 x11_1).f0), .int .i64 ((rd_T105 l0 x11_1).f1)] 105 (0, 0)) (by (with_reducible repeat (first | refine bN ?_ _ | refine bD ?_ | refine bA ?_ _)); refine blk_put (cs := #[.int .i64 ((rd_T105 l0 x11_1).f0), .int .i64 0]) ?_ 1 _ rfl; (with_reducible repeat (first | refine bN ?_ _ | refine bD ?_ | refine bA ?_ _)); refine blk_put (cs := #[.int .i64 0, .int .i64 0]) ?_ 0 _ rfl; (with_reducible repeat (first | refine bN ?_ _ | refine bD ?_ | refine bA ?_ _)); exact BK128.out) k_ hk⟩)); (case aO => exact (by (with_reducible repeat (first | apply Kd.R_alloc | apply Kd.R_drewN | apply Kd.R_drew)); exact Kd.R_mono (Kd.R_far (p := ⟨gb128, 1, none⟩) (Kd.R_far (p := ⟨gb128, 0, none⟩) (Kd.R_mono HO_5.out (fun k_ hk => (⟨hk, hk.2⟩ : _ ∧ k_ ≠ gb128))) (fun _ hk => hk.2) (.int .i64 ((rd_T105 l0 x11_1).f0))) (fun _ hk => hk.2) (.int .i64 ((rd_T105 l0 x11_1).f1))) (fun _ hk => ⟨hk.1.1, hk.1.2⟩))); (case aS => exact (below_size (by repeat (first | (with_reducible first | exact HB.out | apply below_alloc | apply pw_below_drewN | apply below_drew1 | refine below_set ?_ GE126.out | refine below_set ?_ GE128.out) | exact HB.out)))); (case aL => have := LMc16.out; omega); intro v133 w21 ho hb hg hat; rw [← Ny132.out] at ho; have n0_ := Aside0.mk (blk_grown (g := gb126) (o := .cells #[.int .i64 x127000_1, .int .i64 x127001_1] 105 (0, 0)) (by (with_reducible repeat (first | refine bN ?_ _ | refine bD ?_ | refine bA ?_ _)); refine blk_far ?_ NB126_128.out _; (with_reducible repeat (first | refine bN ?_ _ | refine bD ?_ | refine bA ?_ _)); refine blk_far ?_ NB126_128.out _; (with_reducible repeat (first | refine bN ?_ _ | refine bD ?_ | refine bA ?_ _)); exact BK126.out) hg (Kd.R_away HO_5.out (fun _ hk => hk.1))); have n1_ := Aside0.mk (blk_grown (g := gb128) (o := .cells #[.int .i64 ((rd_T105 l0 x11_1).f0), .int .i64 ((rd_T105 l0 x11_1).f1)] 105 (0, 0)) (by (with_reducible repeat (first | refine bN ?_ _ | refine bD ?_ | refine bA ?_ _)); refine blk_put (cs := #[.int .i64 ((rd_T105 l0 x11_1).f0), .int .i64 0]) ?_ 1 _ rfl; (with_reducible repeat (first | refine bN ?_ _ | refine bD ?_ | refine bA ?_ _)); refine blk_put (cs := #[.int .i64 0, .int .i64 0]) ?_ 0 _ rfl; (with_reducible repeat (first | refine bN ?_ _ | refine bD ?_ | refine bA ?_ _)); exact BK128.out) hg (Kd.R_away HO_5.out (fun _ hk => hk.2))); have n2_ := Aside0.mk (hb); have n3_ := Aside0.mk (ho); clear BK126; clear BK128; clear HB; clear HO_5; have BK126 := n0_; have BK128 := n1_; have HB := n2_; have HO134 := n3_; clear n0_ n1_ n2_ n3_; clear ho hb hg hat))
          go_roundg k1
          case measure => have := HK1.out; omega
          case rel => exact ⟨(y132), (true), (wrap64 (x11_1 + 1)), (x127000_1), (x127001_1), (by first | rfl | (simp; done) | (simp [*]; done)), (by first | rfl | (simp; done) | (simp [*]; done)), H', ⟨by have := HK1.out; omega⟩, ⟨by (with_reducible repeat (first | apply Kd.R_alloc | apply Kd.R_drewN | apply Kd.R_drew)); exact Kd.R_mono HO134.out (fun _ hk => hk.1)⟩, ⟨by (with_reducible repeat (first | refine bN ?_ _ | refine bD ?_ | refine bA ?_ _)); exact BK126.out⟩, ⟨by repeat (first | (with_reducible first | exact HB.out | apply below_alloc | apply pw_below_drewN | apply below_drew1 | refine below_set ?_ GE126.out | refine below_set ?_ GE128.out) | exact HB.out)⟩⟩
         ·rw [if_neg c16] at H
          exact absurd H (by simp)
        ·replace c15 := Bool.eq_false_iff.mpr c15
         subst c15
         have H1 : (if x5_1.length < 8796093022208 then ((some (x5_1 ++ [(⟨x127000_1, x127001_1⟩ : S105)] : List (S105))).bind fun y135 => (if y135.length < 8796093022208 then (spec_l12Put.l0 k1 (y135 ++ [(⟨(rd_T105 l0 x11_1).f0, (rd_T105 l0 x11_1).f1⟩ : S105)]) true l0 (l0.length : Int) (wrap64 (x11_1 + 1)) x127000_1 x127001_1) else (none))) else (none)) = some r := by rw [if_neg (show ¬ (false = true) by decide)] at H; exact H
         clear H
         have H := H1
         clear H1
         by_cases c22 : x5_1.length < 8796093022208
         ·rw [if_pos c22] at H
          have LMc22 := Aside0.mk c22
          clear c22
          obtain ⟨y135, hy135⟩ : ∃ y_ : List (S105), y_ = (x5_1 ++ [(⟨x127000_1, x127001_1⟩ : S105)]) := ⟨_, rfl⟩
          replace H : (if y135.length < 8796093022208 then (spec_l12Put.l0 k1 (y135 ++ [(⟨(rd_T105 l0 x11_1).f0, (rd_T105 l0 x11_1).f1⟩ : S105)]) true l0 (l0.length : Int) (wrap64 (x11_1 + 1)) x127000_1 x127001_1) else (none)) = some r := by first | (rw [hy135]; with_reducible exact H) | (have H2_ := (Option.bind_some _ _).symm.trans H; rw [hy135]; with_reducible exact H2_) | (have H2_ := (Option.bind_some _ _).symm.trans H; with_reducible exact H2_) | with_reducible exact H | (rw [hy135]; exact H) | exact H
          have Ny135 := Aside0.mk hy135
          clear hy135
          by_cases c23 : y135.length < 8796093022208
          ·rw [if_pos c23] at H
           have LMc23 := Aside0.mk c23
           clear c23
           obtain ⟨y138, hy138⟩ : ∃ y_ : List (S105), y_ = (y135 ++ [(⟨(rd_T105 l0 x11_1).f0, (rd_T105 l0 x11_1).f1⟩ : S105)]) := ⟨_, rfl⟩
           replace H : (spec_l12Put.l0 k1 y138 true l0 (l0.length : Int) (wrap64 (x11_1 + 1)) x127000_1 x127001_1) = some r := by first | (rw [hy138]; with_reducible exact H) | (have H2_ := (Option.bind_some _ _).symm.trans H; rw [hy138]; with_reducible exact H2_) | (have H2_ := (Option.bind_some _ _).symm.trans H; with_reducible exact H2_) | with_reducible exact H | (rw [hy138]; exact H) | exact H
           have Ny138 := Aside0.mk hy138
           clear hy138
           have H' := Aside0.mk H
           clear H
           have p127 : 0 ≤ (x11_1 : Int) := of_decide_eq_true (by first | (with_reducible assumption) | assumption)
           have q127 : x11_1 < (l0.length : Int) := of_decide_eq_true (by first | (with_reducible assumption) | assumption)
           obtain ⟨ad127, e127, hx127_0, hx127_1⟩ := at_T105 HR0.out x11_1 p127 q127
           cases e127
           replace hx127_0 := (HB.out.cell (World.block_lt_of_cell? w _ hx127_0)).trans hx127_0
           replace hx127_1 := (HB.out.cell (World.block_lt_of_cell? w _ hx127_1)).trans hx127_1
           replace p127 := eq_true p127
           replace q127 := eq_true q127
           go_wp2_with (first | ((with_reducible refine gate_dst (N := 8) rfl ?_); refine box_event ?hg (N := 8) ?hd (cs := #[.int .i64 0, .int .i64 0]) (t := 105) ?hr ?_; (case hd => rfl); (case hg => rfl); (case hr => first | (go_simp; done) | (go_simp; rfl)); intro gb128 hg w24 hbox hb; have n0_ := Aside0.mk (Kd.R_below (Kd.R_elderB (by (with_reducible repeat (first | apply Kd.R_alloc | apply Kd.R_drewN | apply Kd.R_drew)); exact HO_5.out) gb128 (Nat.le_of_eq hg.symm)) hb); have n1_ := Aside0.mk (blk_below (g := gb126) (o := .cells #[.int .i64 x127000_1, .int .i64 x127001_1] 105 (0, 0)) (by (with_reducible repeat (first | refine bN ?_ _ | refine bD ?_ | refine bA ?_ _)); exact BK126.out) hb); have n2_ := Aside0.mk (below_step (by repeat (first | (with_reducible first | exact HB.out | apply below_alloc | apply pw_below_drewN | apply below_drew1 | refine below_set ?_ GE126.out) | exact HB.out)) hb); have n3_ := Aside0.mk (hbox); have n4_ := Aside0.mk ((by rw [hg]; exact (below_size (by repeat (first | (with_reducible first | exact HB.out | apply below_alloc | apply pw_below_drewN | apply below_drew1 | refine below_set ?_ GE126.out) | exact HB.out))) : w.heap.size ≤ gb128)); have n5_ := n4_; have n6_ := Aside0.mk ((by rw [hg]; exact Nat.ne_of_lt (blk_lt (g := gb126) (o := .cells #[.int .i64 x127000_1, .int .i64 x127001_1] 105 (0, 0)) (by (with_reducible repeat (first | refine bN ?_ _ | refine bD ?_ | refine bA ?_ _)); exact BK126.out)) : gb126 ≠ gb128)); have n7_ := Aside0.mk (Ne.symm n6_.out); clear HO_5; clear BK126; clear HB; have HO_5 := n0_; have BK126 := n1_; have HB := n2_; have BK128 := n3_; have GW128 := n4_; have GE128 := n5_; have NB126_128 := n6_; have NB128_126 := n7_; clear n0_ n1_ n2_ n3_ n4_ n5_ n6_ n7_; clear hb hbox hg; have hnb25 := NB128_126.out; have hnc25 := NB126_128.out; obtain ⟨hcz26_0, hcz26_1⟩ := cz2 BK128; obtain ⟨hfz26_0, hfz26_1⟩ := fz2 BK128; obtain ⟨hcz27_0, hcz27_1⟩ := cz2 BK126; obtain ⟨hfz27_0, hfz27_1⟩ := fz2 BK126) | ((with_reducible refine gate_builtin (b := .append) (xs := #[.tmp 33, .tmp 35]) rfl ?_); at_builtin; refine Kd.R_append k105 (w0 := w) w.heap.size rfl (.tmp 33) (.tmp 35) 38 105 (.agg #[(.int .i64 0), (.int .i64 0)]) 16 rfl Try.underlying38 info105 rfl (by decide) (by omega) u5 x5_1 (⟨x127000_1, x127001_1⟩ : S105) [.int .i64 x127000_1, .int .i64 x127001_1] (fun k_ => k_ ≠ gb126 ∧ k_ ≠ gb128) (fun _ => False) rfl (by first | (go_simp; done) | (go_simp; rfl)) ?aP (fun _ hk => hk.elim) ?aF ?aO ?aB ?aS ?aL ?_; (case aP => exact k105_mkM _ _ _ (⟨x127000_1, x127001_1⟩ : S105)); (case aB => exact (by repeat (first | (with_reducible first | exact HB.out | apply below_alloc | apply pw_below_drewN | apply below_drew1 | refine below_set ?_ GE126.out | refine below_set ?_ GE128.out) | exact HB.out))); (case aF => exact (fun k_ hk => ⟨Kd.freshB (g := gb126) (o := .cells #[.int .i64 x127000_1, .int .i64 x127001_1] 105 (0, 0)) (by (with_reducible repeat (first | refine bN ?_ _ | refine bD ?_ | refine bA ?_ _)); refine blk_far ?_ NB126_128.out _; (with_reducible repeat (first | refine bN ?_ _ | refine bD ?_ | refine bA ?_ _)); refine blk_far ?_ NB126_128.out _; (with_reducible repeat (first | refine bN ?_ _ | refine bD ?_ | refine bA ?_ _)); exact BK126.out) k_ hk, Kd.freshB (g := gb128) (o := .cells #[.int .i64 ((rd_T105 l0 x11_1).f0), .int .i64 ((rd_T105 l0 x11_1).f1)] 105 (0, 0)) (by (with_reducible repeat (first | refine bN ?_ _ | refine bD ?_ | refine bA ?_ _)); refine blk_put (cs := #[.int .i64 ((rd_T105 l0 x11_1).f0), .int .i64 0]) ?_ 1 _ rfl; (with_reducible repeat (first | refine bN ?_ _ | refine bD ?_ | refine bA ?_ _)); refine blk_put (cs := #[.int .i64 0, .int .i64 0]) ?_ 0 _ rfl; (with_reducible repeat (first | refine bN ?_ _ | refine bD ?_ | refine bA ?_ _)); exact BK128.out) k_ hk⟩)); (case aO => exact (by (with_reducible repeat (first | apply Kd.R_alloc | apply Kd.R_drewN | apply Kd.R_drew)); exact Kd.R_mono (Kd.R_far (p := ⟨gb128, 1, none⟩) (Kd.R_far (p := ⟨gb128, 0, none⟩) (Kd.R_mono HO_5.out (fun k_ hk => (⟨hk, hk.2⟩ : _ ∧ k_ ≠ gb128))) (fun _ hk => hk.2) (.int .i64 ((rd_T105 l0 x11_1).f0))) (fun _ hk => hk.2) (.int .i64 ((rd_T105 l0 x11_1).f1))) (fun _ hk => ⟨hk.1.1, hk.1.2⟩))); (case aS => exact (below_size (by repeat (first | (with_reducible first | exact HB.out | apply below_alloc | apply pw_below_drewN | apply below_drew1 | refine below_set ?_ GE126.out | refine below_set ?_ GE128.out) | exact HB.out)))); (case aL => have := LMc22.out; omega); intro v136 w28 ho hb hg hat; rw [← Ny135.out] at ho; have n0_ := Aside0.mk (blk_grown (g := gb126) (o := .cells #[.int .i64 x127000_1, .int .i64 x127001_1] 105 (0, 0)) (by (with_reducible repeat (first | refine bN ?_ _ | refine bD ?_ | refine bA ?_ _)); refine blk_far ?_ NB126_128.out _; (with_reducible repeat (first | refine bN ?_ _ | refine bD ?_ | refine bA ?_ _)); refine blk_far ?_ NB126_128.out _; (with_reducible repeat (first | refine bN ?_ _ | refine bD ?_ | refine bA ?_ _)); exact BK126.out) hg (Kd.R_away HO_5.out (fun _ hk => hk.1))); have n1_ := Aside0.mk (blk_grown (g := gb128) (o := .cells #[.int .i64 ((rd_T105 l0 x11_1).f0), .int .i64 ((rd_T105 l0 x11_1).f1)] 105 (0, 0)) (by (with_reducible repeat (first | refine bN ?_ _ | refine bD ?_ | refine bA ?_ _)); refine blk_put (cs := #[.int .i64 ((rd_T105 l0 x11_1).f0), .int .i64 0]) ?_ 1 _ rfl; (with_reducible repeat (first | refine bN ?_ _ | refine bD ?_ | refine bA ?_ _)); refine blk_put (cs := #[.int .i64 0, .int .i64 0]) ?_ 0 _ rfl; (with_reducible repeat (first | refine bN ?_ _ | refine bD ?_ | refine bA ?_ _)); exact BK128.out) hg (Kd.R_away HO_5.out (fun _ hk => hk.2))); have n2_ := Aside0.mk (hb); have n3_ := Aside0.mk (ho); clear BK126; clear BK128; clear HB; clear HO_5; have BK126 := n0_; have BK128 := n1_; have HB := n2_; have HO137 := n3_; clear n0_ n1_ n2_ n3_; clear ho hb hg hat; obtain ⟨hcz29_0, hcz29_1⟩ := cz2 BK128; obtain ⟨hfz29_0, hfz29_1⟩ := fz2 BK128) | ((with_reducible refine gate_builtin (b := .append) (xs := #[.tmp 37, .tmp 39]) rfl ?_); at_builtin; refine Kd.R_append k105 (w0 := w) w.heap.size rfl (.tmp 37) (.tmp 39) 38 105 (.agg #[(.int .i64 0), (.int .i64 0)]) 16 rfl Try.underlying38 info105 rfl (by decide) (by omega) v136 y135 (⟨(rd_T105 l0 x11_1).f0, (rd_T105 l0 x11_1).f1⟩ : S105) [.int .i64 ((rd_T105 l0 x11_1).f0), .int .i64 ((rd_T105 l0 x11_1).f1)] (fun k_ => k_ ≠ gb126 ∧ k_ ≠ gb128) (fun _ => False) rfl rfl ?aP (fun _ hk => hk.elim) ?aF ?aO ?aB ?aS ?aL ?_; (case aP => exact k105_mkM _ _ _ (⟨(rd_T105 l0 x11_1).f0, (rd_T105 l0 x11_1).f1⟩ : S105)); (case aB => exact (by repeat (first | (with_reducible first | exact HB.out | apply below_alloc | apply pw_below_drewN | apply below_drew1 | refine below_set ?_ GE126.out | refine below_set ?_ GE128.out) | exact HB.out))); (case aF => exact (fun k_ hk => ⟨Kd.freshB (g := gb126) (o := .cells #[.int .i64 x127000_1, .int .i64 x127001_1] 105 (0, 0)) (by (with_reducible repeat (first | refine bN ?_ _ | refine bD ?_ | refine bA ?_ _)); exact BK126.out) k_ hk, Kd.freshB (g := gb128) (o := .cells #[.int .i64 ((rd_T105 l0 x11_1).f0), .int .i64 ((rd_T105 l0 x11_1).f1)] 105 (0, 0)) (by (with_reducible repeat (first | refine bN ?_ _ | refine bD ?_ | refine bA ?_ _)); exact BK128.out) k_ hk⟩)); (case aO => exact (by (with_reducible repeat (first | apply Kd.R_alloc | apply Kd.R_drewN | apply Kd.R_drew)); exact HO137.out)); (case aS => exact (below_size (by repeat (first | (with_reducible first | exact HB.out | apply below_alloc | apply pw_below_drewN | apply below_drew1 | refine below_set ?_ GE126.out | refine below_set ?_ GE128.out) | exact HB.out)))); (case aL => have := LMc23.out; omega); intro v139 w30 ho hb hg hat; rw [← Ny138.out] at ho; have n0_ := Aside0.mk (blk_grown (g := gb126) (o := .cells #[.int .i64 x127000_1, .int .i64 x127001_1] 105 (0, 0)) (by (with_reducible repeat (first | refine bN ?_ _ | refine bD ?_ | refine bA ?_ _)); exact BK126.out) hg (Kd.R_away HO137.out (fun _ hk => hk.1))); have n1_ := Aside0.mk (blk_grown (g := gb128) (o := .cells #[.int .i64 ((rd_T105 l0 x11_1).f0), .int .i64 ((rd_T105 l0 x11_1).f1)] 105 (0, 0)) (by (with_reducible repeat (first | refine bN ?_ _ | refine bD ?_ | refine bA ?_ _)); exact BK128.out) hg (Kd.R_away HO137.out (fun _ hk => hk.2))); have n2_ := Aside0.mk (hb); have n3_ := Aside0.mk (ho); clear BK126; clear BK128; clear HB; clear HO137; have BK126 := n0_; have BK128 := n1_; have HB := n2_; have HO140 := n3_; clear n0_ n1_ n2_ n3_; clear ho hb hg hat))
           go_roundg k1
           case measure => have := HK1.out; omega
           case rel => exact ⟨(y138), (true), (wrap64 (x11_1 + 1)), (x127000_1), (x127001_1), (by first | rfl | (simp; done) | (simp [*]; done)), (by first | rfl | (simp; done) | (simp [*]; done)), H', ⟨by have := HK1.out; omega⟩, ⟨by (with_reducible repeat (first | apply Kd.R_alloc | apply Kd.R_drewN | apply Kd.R_drew)); exact Kd.R_mono HO140.out (fun _ hk => hk.1)⟩, ⟨by (with_reducible repeat (first | refine bN ?_ _ | refine bD ?_ | refine bA ?_ _)); exact BK126.out⟩, ⟨by repeat (first | (with_reducible first | exact HB.out | apply below_alloc | apply pw_below_drewN | apply below_drew1 | refine below_set ?_ GE126.out | refine below_set ?_ GE128.out) | exact HB.out)⟩⟩
          ·rw [if_neg c23] at H
           exact absurd H (by simp)
         ·rw [if_neg c22] at H
          exact absurd H (by simp)
       ·rw [if_neg c14] at H
        have c14b0 : decide (((rd_T105 l0 x11_1).f1) < (wrap64 (x127000_1 - 1))) = false := decide_eq_false c14
        (try (have c14b1 : decide (((rd_T105 l0 x11_1).f1) < (IntKind.i64.wrap (x127000_1 - 1))) = false := by simp only [i64_w]; exact (decide_eq_false c14)))
        clear c14
        have HC31 := Aside0.mk H
        clear H
        have p127 : 0 ≤ (x11_1 : Int) := of_decide_eq_true (by first | (with_reducible assumption) | assumption)
        have q127 : x11_1 < (l0.length : Int) := of_decide_eq_true (by first | (with_reducible assumption) | assumption)
        obtain ⟨ad127, e127, hx127_0, hx127_1⟩ := at_T105 HR0.out x11_1 p127 q127
        cases e127
        replace hx127_0 := (HB.out.cell (World.block_lt_of_cell? w _ hx127_0)).trans hx127_0
        replace hx127_1 := (HB.out.cell (World.block_lt_of_cell? w _ hx127_1)).trans hx127_1
        replace p127 := eq_true p127
        replace q127 := eq_true q127
        go_upto_if 45 with (first | ((with_reducible refine gate_dst (N := 8) rfl ?_); refine box_event ?hg (N := 8) ?hd (cs := #[.int .i64 0, .int .i64 0]) (t := 105) ?hr ?_; (case hd => rfl); (case hg => rfl); (case hr => first | (go_simp; done) | (go_simp; rfl)); intro gb128 hg w32 hbox hb; have n0_ := Aside0.mk (Kd.R_below (Kd.R_elderB (by (with_reducible repeat (first | apply Kd.R_alloc | apply Kd.R_drewN | apply Kd.R_drew)); exact HO_5.out) gb128 (Nat.le_of_eq hg.symm)) hb); have n1_ := Aside0.mk (blk_below (g := gb126) (o := .cells #[.int .i64 x127000_1, .int .i64 x127001_1] 105 (0, 0)) (by (with_reducible repeat (first | refine bN ?_ _ | refine bD ?_ | refine bA ?_ _)); exact BK126.out) hb); have n2_ := Aside0.mk (below_step (by repeat (first | (with_reducible first | exact HB.out | apply below_alloc | apply pw_below_drewN | apply below_drew1 | refine below_set ?_ GE126.out) | exact HB.out)) hb); have n3_ := Aside0.mk (hbox); have n4_ := Aside0.mk ((by rw [hg]; exact (below_size (by repeat (first | (with_reducible first | exact HB.out | apply below_alloc | apply pw_below_drewN | apply below_drew1 | refine below_set ?_ GE126.out) | exact HB.out))) : w.heap.size ≤ gb128)); have n5_ := n4_; have n6_ := Aside0.mk ((by rw [hg]; exact Nat.ne_of_lt (blk_lt (g := gb126) (o := .cells #[.int .i64 x127000_1, .int .i64 x127001_1] 105 (0, 0)) (by (with_reducible repeat (first | refine bN ?_ _ | refine bD ?_ | refine bA ?_ _)); exact BK126.out)) : gb126 ≠ gb128)); have n7_ := Aside0.mk (Ne.symm n6_.out); clear HO_5; clear BK126; clear HB; have HO_5 := n0_; have BK126 := n1_; have HB := n2_; have BK128 := n3_; have GW128 := n4_; have GE128 := n5_; have NB126_128 := n6_; have NB128_126 := n7_; clear n0_ n1_ n2_ n3_ n4_ n5_ n6_ n7_; clear hb hbox hg; have hnb33 := NB128_126.out; have hnc33 := NB126_128.out; obtain ⟨hcz34_0, hcz34_1⟩ := cz2 BK128; obtain ⟨hfz34_0, hfz34_1⟩ := fz2 BK128; obtain ⟨hcz35_0, hcz35_1⟩ := cz2 BK126; obtain ⟨hfz35_0, hfz35_1⟩ := fz2 BK126))
        (try simp only [Act.put, sA, sZ, sS])
        go_cut [] (fun wc => ∃ (kq : Nat) (x127000_30 : Int), Aside0 (spec_l12Put.j1 kq x5_1 x6_1 l0 (l0.length : Int) x11_1 x127000_30 x127001_1 ((rd_T105 l0 x11_1).f0) ((rd_T105 l0 x11_1).f1) = some r) ∧ Aside0 (kq ≤ k1) ∧ Aside0 (Kd.R k105 105 wc w.heap.size (fun k_ => k_ ≠ gb126 ∧ k_ ≠ gb128) u5 x5_1) ∧ Aside0 (wc.heap[gb126]? = some (.cells #[.int .i64 x127000_30, .int .i64 x127001_1] 105 (0, 0))) ∧ Aside0 (wc.heap[gb128]? = some (.cells #[.int .i64 ((rd_T105 l0 x11_1).f0), .int .i64 ((rd_T105 l0 x11_1).f1)] 105 (0, 0))) ∧ Aside0 (Below w.heap.size w wc))
        case first =>
         have H := HC31.out
         clear HC31
         by_cases c36 : ((rd_T105 l0 x11_1).f0) < x127000_1
         ·rw [if_pos c36] at H
          have c36b0 : decide (((rd_T105 l0 x11_1).f0) < x127000_1) = true := decide_eq_true c36
          clear c36
          (first | rw [c36b0] | (simp only [i64_w, i32_w]; rw [c36b0]) | skip)
          have H' := Aside0.mk H
          clear H
          have hnb37 := NB128_126.out
          have hnc37 := NB126_128.out
          obtain ⟨hcz38_0, hcz38_1⟩ := cz2 BK128
          obtain ⟨hfz38_0, hfz38_1⟩ := fz2 BK128
          obtain ⟨hcz39_0, hcz39_1⟩ := cz2 BK126
          obtain ⟨hfz39_0, hfz39_1⟩ := fz2 BK126
          go_wp2
          go_meet
          case rel => exact ⟨_, ((rd_T105 l0 x11_1).f0), H', ⟨by have := HK1.out; first | omega | exact Nat.le_refl _⟩, ⟨by (with_reducible repeat (first | apply Kd.R_alloc | apply Kd.R_drewN | apply Kd.R_drew)); exact Kd.R_mono (Kd.R_far (p := ⟨gb126, 0, none⟩) (Kd.R_far (p := ⟨gb128, 1, none⟩) (Kd.R_far (p := ⟨gb128, 0, none⟩) (Kd.R_mono (Kd.R_mono HO_5.out (fun k_ hk => (⟨hk, hk.2⟩ : _ ∧ k_ ≠ gb128))) (fun k_ hk => (⟨hk, hk.1.1⟩ : _ ∧ k_ ≠ gb126))) (fun _ hk => hk.1.2) (.int .i64 ((rd_T105 l0 x11_1).f0))) (fun _ hk => hk.1.2) (.int .i64 ((rd_T105 l0 x11_1).f1))) (fun _ hk => hk.2) (.int .i64 ((rd_T105 l0 x11_1).f0))) (fun _ hk => ⟨hk.1.1.1, hk.1.1.2⟩)⟩, ⟨by (with_reducible repeat (first | refine bN ?_ _ | refine bD ?_ | refine bA ?_ _)); refine blk_put (cs := #[.int .i64 x127000_1, .int .i64 x127001_1]) ?_ 0 _ rfl; (with_reducible repeat (first | refine bN ?_ _ | refine bD ?_ | refine bA ?_ _)); refine blk_far ?_ NB126_128.out _; (with_reducible repeat (first | refine bN ?_ _ | refine bD ?_ | refine bA ?_ _)); refine blk_far ?_ NB126_128.out _; (with_reducible repeat (first | refine bN ?_ _ | refine bD ?_ | refine bA ?_ _)); exact BK126.out⟩, ⟨by (with_reducible repeat (first | refine bN ?_ _ | refine bD ?_ | refine bA ?_ _)); refine blk_far ?_ NB128_126.out _; (with_reducible repeat (first | refine bN ?_ _ | refine bD ?_ | refine bA ?_ _)); refine blk_put (cs := #[.int .i64 ((rd_T105 l0 x11_1).f0), .int .i64 0]) ?_ 1 _ rfl; (with_reducible repeat (first | refine bN ?_ _ | refine bD ?_ | refine bA ?_ _)); refine blk_put (cs := #[.int .i64 0, .int .i64 0]) ?_ 0 _ rfl; (with_reducible repeat (first | refine bN ?_ _ | refine bD ?_ | refine bA ?_ _)); exact BK128.out⟩, ⟨by repeat (first | (with_reducible first | exact HB.out | apply below_alloc | apply pw_below_drewN | apply below_drew1 | refine below_set ?_ GE126.out | refine below_set ?_ GE128.out) | exact HB.out)⟩⟩
         ·rw [if_neg c36] at H
          have c36b0 : decide (((rd_T105 l0 x11_1).f0) < x127000_1) = false := decide_eq_false c36
          clear c36
          (first | rw [c36b0] | (simp only [i64_w, i32_w]; rw [c36b0]) | skip)
          have H' := Aside0.mk H
          clear H
          go_wp2
          go_meet
          case rel => exact ⟨_, (x127000_1), H', ⟨by have := HK1.out; first | omega | exact Nat.le_refl _⟩, ⟨by (with_reducible repeat (first | apply Kd.R_alloc | apply Kd.R_drewN | apply Kd.R_drew)); exact Kd.R_mono (Kd.R_far (p := ⟨gb128, 1, none⟩) (Kd.R_far (p := ⟨gb128, 0, none⟩) (Kd.R_mono HO_5.out (fun k_ hk => (⟨hk, hk.2⟩ : _ ∧ k_ ≠ gb128))) (fun _ hk => hk.2) (.int .i64 ((rd_T105 l0 x11_1).f0))) (fun _ hk => hk.2) (.int .i64 ((rd_T105 l0 x11_1).f1))) (fun _ hk => ⟨hk.1.1, hk.1.2⟩)⟩, ⟨by (with_reducible repeat (first | refine bN ?_ _ | refine bD ?_ | refine bA ?_ _)); refine blk_far ?_ NB126_128.out _; (with_reducible repeat (first | refine bN ?_ _ | refine bD ?_ | refine bA ?_ _)); refine blk_far ?_ NB126_128.out _; (with_reducible repeat (first | refine bN ?_ _ | refine bD ?_ | refine bA ?_ _)); exact BK126.out⟩, ⟨by (with_reducible repeat (first | refine bN ?_ _ | refine bD ?_ | refine bA ?_ _)); refine blk_put (cs := #[.int .i64 ((rd_T105 l0 x11_1).f0), .int .i64 0]) ?_ 1 _ rfl; (with_reducible repeat (first | refine bN ?_ _ | refine bD ?_ | refine bA ?_ _)); refine blk_put (cs := #[.int .i64 0, .int .i64 0]) ?_ 0 _ rfl; (with_reducible repeat (first | refine bN ?_ _ | refine bD ?_ | refine bA ?_ _)); exact BK128.out⟩, ⟨by repeat (first | (with_reducible first | exact HB.out | apply below_alloc | apply pw_below_drewN | apply below_drew1 | refine below_set ?_ GE126.out | refine below_set ?_ GE128.out) | exact HB.out)⟩⟩
        case rest =>
         clear HC31
         try clear c1
         try clear p1
         try clear q1
         try clear hx1
         try clear c2
         try clear p2
         try clear c3
         try clear c4
         try clear c4b0
         try clear c5
         try clear c5b0
         try clear c6
         try clear c6b0
         try clear p6
         try clear c7
         try clear c7b0
         try clear c7b1
         try clear c8
         try clear c10
         try clear c12
         try clear p12
         try clear q12
         try clear hx12
         try clear c14
         try clear c14b0
         try clear c14b1
         try clear c15
         try clear c16
         try clear c18
         try clear c22
         try clear c23
         try clear c25
         try clear c33
         try clear c36
         try clear c36b0
         try clear c37
         try clear hcz11_0
         try clear hcz11_1
         try clear hcz12_0
         try clear hcz12_1
         try clear hcz19_0
         try clear hcz19_1
         try clear hcz20_0
         try clear hcz20_1
         try clear hcz26_0
         try clear hcz26_1
         try clear hcz27_0
         try clear hcz27_1
         try clear hcz29_0
         try clear hcz29_1
         try clear hcz34_0
         try clear hcz34_1
         try clear hcz35_0
         try clear hcz35_1
         try clear hcz38_0
         try clear hcz38_1
         try clear hcz39_0
         try clear hcz39_1
         try clear hfz11_0
         try clear hfz11_1
         try clear hfz12_0
         try clear hfz12_1
         try clear hfz19_0
         try clear hfz19_1
         try clear hfz20_0
         try clear hfz20_1
         try clear hfz26_0
         try clear hfz26_1
         try clear hfz27_0
         try clear hfz27_1
         try clear hfz29_0
         try clear hfz29_1
         try clear hfz34_0
         try clear hfz34_1
         try clear hfz35_0
         try clear hfz35_1
         try clear hfz38_0
         try clear hfz38_1
         try clear hfz39_0
         try clear hfz39_1
         try clear hx127_0
         try clear hx127_1
         try clear p127
         try clear p2
         try clear q127
         obtain ⟨kq, x127000_30, HA, HJ30, HO_5, BK126, BK128, HB⟩ := hcut
         cases kq with
         | zero => exact absurd HA.out (by simp [spec_l12Put.j1])
         | succ kj30 =>
          have H := HA.out
          clear HA
          simp only [spec_l12Put.j1] at H
          by_cases c40 : ((rd_T105 l0 x11_1).f1) > x127001_1
          ·rw [if_pos c40] at H
           have c40b0 : decide (x127001_1 < ((rd_T105 l0 x11_1).f1)) = true := decide_eq_true c40
           clear c40
           have H' := Aside0.mk H
           clear H
           have hnb41 := NB128_126.out
           have hnc41 := NB126_128.out
           obtain ⟨hcz42_0, hcz42_1⟩ := cz2 BK128
           obtain ⟨hfz42_0, hfz42_1⟩ := fz2 BK128
           obtain ⟨hcz43_0, hcz43_1⟩ := cz2 BK126
           obtain ⟨hfz43_0, hfz43_1⟩ := fz2 BK126
           go_wp2
           go_roundg kj30
           case measure => have := HK1.out; have := HJ30.out; omega
           case rel => exact ⟨(x5_1), (x6_1), (wrap64 (x11_1 + 1)), (x127000_30), (((rd_T105 l0 x11_1).f1)), (by first | rfl | (simp; done) | (simp [*]; done)), (by first | rfl | (simp; done) | (simp [*]; done)), H', ⟨by have := HK1.out; have := HJ30.out; omega⟩, ⟨by (with_reducible repeat (first | apply Kd.R_alloc | apply Kd.R_drewN | apply Kd.R_drew)); exact Kd.R_mono (Kd.R_far (p := ⟨gb126, 1, none⟩) (Kd.R_mono HO_5.out (fun k_ hk => (⟨hk, hk.1⟩ : _ ∧ k_ ≠ gb126))) (fun _ hk => hk.2) (.int .i64 ((rd_T105 l0 x11_1).f1))) (fun _ hk => hk.1.1)⟩, ⟨by (with_reducible repeat (first | refine bN ?_ _ | refine bD ?_ | refine bA ?_ _)); refine blk_put (cs := #[.int .i64 x127000_30, .int .i64 x127001_1]) ?_ 1 _ rfl; (with_reducible repeat (first | refine bN ?_ _ | refine bD ?_ | refine bA ?_ _)); exact BK126.out⟩, ⟨by repeat (first | (with_reducible first | exact HB.out | apply below_alloc | apply pw_below_drewN | apply below_drew1 | refine below_set ?_ GE126.out | refine below_set ?_ GE128.out) | exact HB.out)⟩⟩
          ·rw [if_neg c40] at H
           have c40b0 : decide (x127001_1 < ((rd_T105 l0 x11_1).f1)) = false := decide_eq_false c40
           clear c40
           have H' := Aside0.mk H
           clear H
           have hnb44 := NB128_126.out
           have hnc44 := NB126_128.out
           obtain ⟨hcz45_0, hcz45_1⟩ := cz2 BK128
           obtain ⟨hfz45_0, hfz45_1⟩ := fz2 BK128
           obtain ⟨hcz46_0, hcz46_1⟩ := cz2 BK126
           obtain ⟨hfz46_0, hfz46_1⟩ := fz2 BK126
           go_wp2
           go_roundg kj30
           case measure => have := HK1.out; have := HJ30.out; omega
           case rel => exact ⟨(x5_1), (x6_1), (wrap64 (x11_1 + 1)), (x127000_30), (x127001_1), (by first | rfl | (simp; done) | (simp [*]; done)), (by first | rfl | (simp; done) | (simp [*]; done)), H', ⟨by have := HK1.out; have := HJ30.out; omega⟩, ⟨by (with_reducible repeat (first | apply Kd.R_alloc | apply Kd.R_drewN | apply Kd.R_drew)); exact Kd.R_mono HO_5.out (fun _ hk => hk.1)⟩, ⟨by (with_reducible repeat (first | refine bN ?_ _ | refine bD ?_ | refine bA ?_ _)); exact BK126.out⟩, ⟨by repeat (first | (with_reducible first | exact HB.out | apply below_alloc | apply pw_below_drewN | apply below_drew1 | refine below_set ?_ GE126.out | refine below_set ?_ GE128.out) | exact HB.out)⟩⟩
     ·rw [if_neg c6] at H
      exact absurd H (by simp)
    ·rw [if_neg c5] at H
     exact absurd H (by simp)
   ·rw [if_neg c4] at H
    have c4b0 : decide (x11_1 < (l0.length : Int)) = false := decide_eq_false c4
    clear c4
    by_cases c47 : x6_1 = true
    ·subst c47
     have H1 : (some x5_1) = some r := by rw [if_pos rfl] at H; exact H
     clear H
     have H := H1
     clear H1
     obtain rfl := Option.some.inj H
     go_wp2
     go_ret
     exact ⟨_, by first | rfl | (simp [errW_none, errW_some] <;> rfl) | (simp [*, errW_none, errW_some] <;> rfl), by (with_reducible repeat (first | apply Kd.R_alloc | apply Kd.R_drewN | apply Kd.R_drew)); exact Kd.R_mono HO_5.out (fun _ hk => trivial), by repeat (first | (with_reducible first | exact HB.out | apply below_alloc | apply pw_below_drewN | apply below_drew1 | refine below_set ?_ GE126.out) | exact HB.out)⟩
    ·replace c47 := Bool.eq_false_iff.mpr c47
     subst c47
     have H1 : (if x5_1.length < 8796093022208 then (some (x5_1 ++ [(⟨x127000_1, x127001_1⟩ : S105)])) else (none)) = some r := by rw [if_neg (show ¬ (false = true) by decide)] at H; exact H
     clear H
     have H := H1
     clear H1
     by_cases c48 : x5_1.length < 8796093022208
     ·rw [if_pos c48] at H
      have LMc48 := Aside0.mk c48
      clear c48
      obtain ⟨y141, hy141⟩ : ∃ y_ : List (S105), y_ = (x5_1 ++ [(⟨x127000_1, x127001_1⟩ : S105)]) := ⟨_, rfl⟩
      replace H : (some y141) = some r := by first | (rw [hy141]; with_reducible exact H) | (have H2_ := (Option.bind_some _ _).symm.trans H; rw [hy141]; with_reducible exact H2_) | (have H2_ := (Option.bind_some _ _).symm.trans H; with_reducible exact H2_) | with_reducible exact H | (rw [hy141]; exact H) | exact H
      have Ny141 := Aside0.mk hy141
      clear hy141
      obtain rfl := Option.some.inj H
      obtain ⟨hcz49_0, hcz49_1⟩ := cz2 BK126
      obtain ⟨hfz49_0, hfz49_1⟩ := fz2 BK126
      go_wp2_with (first | ((with_reducible refine gate_builtin (b := .append) (xs := #[.tmp 60, .tmp 62]) rfl ?_); at_builtin; refine Kd.R_append k105 (w0 := w) w.heap.size rfl (.tmp 60) (.tmp 62) 38 105 (.agg #[(.int .i64 0), (.int .i64 0)]) 16 rfl Try.underlying38 info105 rfl (by decide) (by omega) u5 x5_1 (⟨x127000_1, x127001_1⟩ : S105) [.int .i64 x127000_1, .int .i64 x127001_1] (fun k_ => k_ ≠ gb126) (fun _ => False) rfl rfl ?aP (fun _ hk => hk.elim) ?aF ?aO ?aB ?aS ?aL ?_; (case aP => exact k105_mkM _ _ _ (⟨x127000_1, x127001_1⟩ : S105)); (case aB => exact (by repeat (first | (with_reducible first | exact HB.out | apply below_alloc | apply pw_below_drewN | apply below_drew1 | refine below_set ?_ GE126.out) | exact HB.out))); (case aF => exact (fun k_ hk => Kd.freshB (g := gb126) (o := .cells #[.int .i64 x127000_1, .int .i64 x127001_1] 105 (0, 0)) (by (with_reducible repeat (first | refine bN ?_ _ | refine bD ?_ | refine bA ?_ _)); exact BK126.out) k_ hk)); (case aO => exact (by (with_reducible repeat (first | apply Kd.R_alloc | apply Kd.R_drewN | apply Kd.R_drew)); exact HO_5.out)); (case aS => exact (below_size (by repeat (first | (with_reducible first | exact HB.out | apply below_alloc | apply pw_below_drewN | apply below_drew1 | refine below_set ?_ GE126.out) | exact HB.out)))); (case aL => have := LMc48.out; omega); intro v142 w50 ho hb hg hat; rw [← Ny141.out] at ho; have n0_ := Aside0.mk (blk_grown (g := gb126) (o := .cells #[.int .i64 x127000_1, .int .i64 x127001_1] 105 (0, 0)) (by (with_reducible repeat (first | refine bN ?_ _ | refine bD ?_ | refine bA ?_ _)); exact BK126.out) hg (Kd.R_away HO_5.out (fun _ hk => hk))); have n1_ := Aside0.mk (hb); have n2_ := Aside0.mk (ho); clear BK126; clear HB; clear HO_5; have BK126 := n0_; have HB := n1_; have HO143 := n2_; clear n0_ n1_ n2_; clear ho hb hg hat))
      go_ret
      exact ⟨_, by first | rfl | (simp [errW_none, errW_some] <;> rfl) | (simp [*, errW_none, errW_some] <;> rfl), by (with_reducible repeat (first | apply Kd.R_alloc | apply Kd.R_drewN | apply Kd.R_drew)); exact Kd.R_mono HO143.out (fun _ hk => trivial), by repeat (first | (with_reducible first | exact HB.out | apply below_alloc | apply pw_below_drewN | apply below_drew1 | refine below_set ?_ GE126.out) | exact HB.out)⟩
     ·rw [if_neg c48] at H
      exact absurd H (by simp)

end Go.Proofs.Ytjmakjddhbdocaa.PFnExactPutNumber
