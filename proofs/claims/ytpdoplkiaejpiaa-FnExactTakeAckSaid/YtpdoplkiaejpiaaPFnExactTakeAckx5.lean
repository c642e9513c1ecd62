-- Written by a program of this session (wip/xprint.py).
import Derived.Test.YtpdoplkiaejpiaaPFnExactTakeAckx0
import Derived.Test.YtpdoplkiaejpiaaPFnExactTakeAckx2
import Derived.Test.YtpdoplkiaejpiaaPFnExactTakeAckx3
import Derived.Test.YtpdoplkiaejpiaaPFnExactTakeAckx4
namespace Go.Proofs.Ytpdoplkiaejpiaa.PFnExactTakeAck
open Go.RowKit Go.Proofs.YtpdoplkiaejpiaaW.PrintWords Go.Proofs.YtpdoplkiaejpiaaW.PrintLast Go.Proofs.YtpdoplkiaejpiaaW.PrintMore
open Go.Proofs.Ytpdoplkiaejpiaa.ShortK (bN bD bA sA sZ sS mR mB bX bLt bS cz2 fz2 cx2 cz3 fz3 cx3 cz4 fz4 cx4 cz5 fz5 cx5 cz6 fz6 cx6 cz7 fz7 cx7 cz8 fz8 cx8 cz9 fz9 cx9 cz10 fz10 cx10 cz11 fz11 cx11 cz12 fz12 cx12)
attribute [local go_sem] Go.Proofs.Ytpdoplkiaejpiaa.StoreK.isSome_setCell max2_int min2_int max_two min_two max_three min_three max_four min_four   -- for this text's walks alone
set_option linter.unusedVariables false
set_option linter.unusedSimpArgs false

/-! ### spec_l12Wait: function 53 -/
def spec_l12Wait.j0 : Nat → Int → Option (Int)
 | 0, _ => none
 | k + 1, x3 => if (wrap64 (Int.tdiv (wrap64 (x3 * 9)) 8)) < 1 then (some 1) else (some (wrap64 (Int.tdiv (wrap64 (x3 * 9)) 8)))
def spec_l12Wait.f (k : Nat) (a0_0 : Bool) (a0_1 : Int) (a0_2 : Int) (a0_3 : Int) (a0_4 : Int) : Option (Int) := if a0_0 = true then (if a0_1 > a0_3 then (spec_l12Wait.j0 k a0_1) else (spec_l12Wait.j0 k a0_3)) else (some (-1))
theorem spec_l12Wait.mono_l : ∀ k, (∀ y0, LeO (spec_l12Wait.j0 k y0) (spec_l12Wait.j0 (k + 1) y0))
 | 0 => fun _ r h => by simp [spec_l12Wait.j0] at h
 | k + 1 => by
  have ih0 := spec_l12Wait.mono_l k
  ·intro y0
   unfold spec_l12Wait.j0
   repeat' first
   | (with_reducible exact ih0 _)
   | (with_reducible exact LeO.refl _)
   | (with_reducible exact LeO.none _)
   | (with_reducible refine LeO.ite ?_ ?_)
   | (with_reducible refine LeO.bind ?_ (fun _ => ?_))
   | exact ih0 _
   | exact LeO.none _
   | refine LeO.ite ?_ ?_
   | refine LeO.bind ?_ (fun _ => ?_)
theorem spec_l12Wait.mono : ∀ a0 a1 a2 a3 a4 k, LeO (spec_l12Wait.f k a0 a1 a2 a3 a4) (spec_l12Wait.f (k + 1) a0 a1 a2 a3 a4) := by
 intro a0 a1 a2 a3 a4 k
 have ih0 := spec_l12Wait.mono_l k
 unfold spec_l12Wait.f
 repeat' first
   | (with_reducible exact ih0 _)
   | (with_reducible exact LeO.refl _)
   | (with_reducible exact LeO.none _)
   | (with_reducible refine LeO.ite ?_ ?_)
   | (with_reducible refine LeO.bind ?_ (fun _ => ?_))
   | exact ih0 _
   | exact LeO.none _
   | refine LeO.ite ?_ ?_
   | refine LeO.bind ?_ (fun _ => ?_)
set_option maxHeartbeats 64000000 in
set_option maxRecDepth 100000 in
theorem spec_l12Wait.calls (k : Nat) (a0_0 : Bool) (a0_1 : Int) (a0_2 : Int) (a0_3 : Int) (a0_4 : Int) (r : Int) (w : World) (h : spec_l12Wait.f k a0_0 a0_1 a0_2 a0_3 a0_4 = some r) :
  Calls Try.prog 53 #[.agg #[.bool a0_0, .int .i64 a0_1, .int .i64 a0_2, .int .i64 a0_3, .int .i64 a0_4]] w fun e w' => e = .returned (.int .i64 r) ∧ Below w.heap.size w w' := by
 have hu42 := Try.underlying42
 have HB := Aside0.mk (Below.refl w.heap.size w)
 have H : (if a0_0 = true then (if a0_1 > a0_3 then (spec_l12Wait.j0 k a0_1) else (spec_l12Wait.j0 k a0_3)) else (some (-1))) = some r := h
 clear h
 by_cases c2 : a0_0 = true
 ·subst c2
  have H1 : (if a0_1 > a0_3 then (spec_l12Wait.j0 k a0_1) else (spec_l12Wait.j0 k a0_3)) = some r := by rw [if_pos rfl] at H; exact H
  clear H
  have H := H1
  clear H1
  have HC3 := Aside0.mk H
  clear H
  go_enter Try.func53, Try.ntmps53
  go_upto_if 12 with (first | ((with_reducible refine gate_dst (N := 1) rfl ?_); refine box_event ?hg (N := 1) ?hd (cs := #[.bool true, .int .i64 a0_1, .int .i64 a0_2, .int .i64 a0_3, .int .i64 a0_4]) (t := 42) ?hr ?_; (case hd => rfl); (case hg => rfl); (case hr => first | (go_simp; done) | (go_simp; rfl)); intro gb135 hg w4 hbox hb; have n0_ := bS HB hb; have n1_ := Aside0.mk (hbox); have n2_ := Aside0.mk ((by rw [hg]; exact (below_size (by repeat (first | (with_reducible first | exact HB.out | apply below_alloc | apply pw_below_drewN | apply below_drew1) | exact HB.out))) : w.heap.size ≤ gb135)); have n3_ := n2_; clear HB; have HB := n0_; have BK135 := n1_; have GW135 := n2_; have GE135 := n3_; clear n0_ n1_ n2_ n3_; clear hb hbox hg; obtain ⟨hcz5_0, hcz5_1, hcz5_2, hcz5_3, hcz5_4⟩ := cz5 BK135; obtain ⟨hfz5_0, hfz5_1, hfz5_2, hfz5_3, hfz5_4⟩ := fz5 BK135))
  (try simp only [Act.put, sA, sZ, sS])
  go_cut [3] (fun v3 wc => ∃ (kq : Nat) (x3_2 : Int), v3 = .int .i64 x3_2 ∧ Aside0 (spec_l12Wait.j0 kq x3_2 = some r) ∧ Aside0 (kq ≤ k) ∧ Aside0 (wc.heap[gb135]? = some (.cells #[.bool true, .int .i64 a0_1, .int .i64 a0_2, .int .i64 a0_3, .int .i64 a0_4] 42 (0, 0))) ∧ Aside0 (Below w.heap.size w wc))
  case first =>
   have H := HC3.out
   clear HC3
   by_cases c6 : a0_1 > a0_3
   ·rw [if_pos c6] at H
    have c6b0 : decide (a0_3 < a0_1) = true := decide_eq_true c6
    clear c6
    (first | rw [c6b0] | (simp only [i64_w, i32_w]; rw [c6b0]) | skip)
    have H' := Aside0.mk H
    clear H
    obtain ⟨hcz7_0, hcz7_1, hcz7_2, hcz7_3, hcz7_4⟩ := cz5 BK135
    obtain ⟨hfz7_0, hfz7_1, hfz7_2, hfz7_3, hfz7_4⟩ := fz5 BK135
    go_wp2
    go_meet
    case rel => exact ⟨_, (a0_1), (by first | rfl | (simp; done) | (simp [*]; done)), H', ⟨by first | omega | exact Nat.le_refl _⟩, ⟨by (with_reducible repeat (first | refine bN ?_ _ | refine bD ?_ | refine bA ?_ _)); exact BK135.out⟩, ⟨by repeat (first | (with_reducible first | exact HB.out | apply below_alloc | apply pw_below_drewN | apply below_drew1 | refine below_set ?_ GE135.out) | exact HB.out)⟩⟩
   ·rw [if_neg c6] at H
    have c6b0 : decide (a0_3 < a0_1) = false := decide_eq_false c6
    clear c6
    (first | rw [c6b0] | (simp only [i64_w, i32_w]; rw [c6b0]) | skip)
    have H' := Aside0.mk H
    clear H
    go_wp2
    go_meet
    case rel => exact ⟨_, (a0_3), (by first | rfl | (simp; done) | (simp [*]; done)), H', ⟨by first | omega | exact Nat.le_refl _⟩, ⟨by (with_reducible repeat (first | refine bN ?_ _ | refine bD ?_ | refine bA ?_ _)); exact BK135.out⟩, ⟨by repeat (first | (with_reducible first | exact HB.out | apply below_alloc | apply pw_below_drewN | apply below_drew1 | refine below_set ?_ GE135.out) | exact HB.out)⟩⟩
  case rest =>
   clear HC3
   try clear c2
   try clear p2
   try clear c5
   try clear c6
   try clear c6b0
   try clear hcz5_0
   try clear hcz5_1
   try clear hcz5_2
   try clear hcz5_3
   try clear hcz5_4
   try clear hcz7_0
   try clear hcz7_1
   try clear hcz7_2
   try clear hcz7_3
   try clear hcz7_4
   try clear hfz5_0
   try clear hfz5_1
   try clear hfz5_2
   try clear hfz5_3
   try clear hfz5_4
   try clear hfz7_0
   try clear hfz7_1
   try clear hfz7_2
   try clear hfz7_3
   try clear hfz7_4
   obtain ⟨kq, x3_2, rfl, HA, HJ2, BK135, HB⟩ := hcut
   cases kq with
   | zero => exact absurd HA.out (by simp [spec_l12Wait.j0])
   | succ kj2 =>
    have H := HA.out
    clear HA
    simp only [spec_l12Wait.j0] at H
    by_cases c8 : (wrap64 (Int.tdiv (wrap64 (x3_2 * 9)) 8)) < 1
    ·rw [if_pos c8] at H
     have c8b0 : decide ((wrap64 (Int.tdiv (wrap64 (x3_2 * 9)) 8)) < 1) = true := decide_eq_true c8
     (try (have c8b1 : decide ((IntKind.i64.wrap (Int.tdiv (IntKind.i64.wrap (x3_2 * 9)) 8)) < 1) = true := by simp only [i64_w]; exact (decide_eq_true c8)))
     clear c8
     obtain rfl := Option.some.inj H
     go_wp2
     go_ret
     exact ⟨by first | rfl | (simp [errW_none, errW_some] <;> rfl) | (simp [*, errW_none, errW_some] <;> rfl), by repeat (first | (with_reducible first | exact HB.out | apply below_alloc | apply pw_below_drewN | apply below_drew1 | refine below_set ?_ GE135.out) | exact HB.out)⟩
    ·rw [if_neg c8] at H
     have c8b0 : decide ((wrap64 (Int.tdiv (wrap64 (x3_2 * 9)) 8)) < 1) = false := decide_eq_false c8
     (try (have c8b1 : decide ((IntKind.i64.wrap (Int.tdiv (IntKind.i64.wrap (x3_2 * 9)) 8)) < 1) = false := by simp only [i64_w]; exact (decide_eq_false c8)))
     clear c8
     obtain rfl := Option.some.inj H
     go_wp2
     go_ret
     exact ⟨by first | rfl | (simp [errW_none, errW_some] <;> rfl) | (simp [*, errW_none, errW_some] <;> rfl), by repeat (first | (with_reducible first | exact HB.out | apply below_alloc | apply pw_below_drewN | apply below_drew1 | refine below_set ?_ GE135.out) | exact HB.out)⟩
 ·replace c2 := Bool.eq_false_iff.mpr c2
  subst c2
  have H1 : (some (-1)) = some r := by rw [if_neg (show ¬ (false = true) by decide)] at H; exact H
  clear H
  have H := H1
  clear H1
  obtain rfl := Option.some.inj H
  go_enter Try.func53, Try.ntmps53
  go_wp2_with (first | ((with_reducible refine gate_dst (N := 1) rfl ?_); refine box_event ?hg (N := 1) ?hd (cs := #[.bool false, .int .i64 a0_1, .int .i64 a0_2, .int .i64 a0_3, .int .i64 a0_4]) (t := 42) ?hr ?_; (case hd => rfl); (case hg => rfl); (case hr => first | (go_simp; done) | (go_simp; rfl)); intro gb135 hg w9 hbox hb; have n0_ := bS HB hb; have n1_ := Aside0.mk (hbox); have n2_ := Aside0.mk ((by rw [hg]; exact (below_size (by repeat (first | (with_reducible first | exact HB.out | apply below_alloc | apply pw_below_drewN | apply below_drew1) | exact HB.out))) : w.heap.size ≤ gb135)); have n3_ := n2_; clear HB; have HB := n0_; have BK135 := n1_; have GW135 := n2_; have GE135 := n3_; clear n0_ n1_ n2_ n3_; clear hb hbox hg; obtain ⟨hcz10_0, hcz10_1, hcz10_2, hcz10_3, hcz10_4⟩ := cz5 BK135; obtain ⟨hfz10_0, hfz10_1, hfz10_2, hfz10_3, hfz10_4⟩ := fz5 BK135))
  go_ret
  exact ⟨by first | rfl | (simp [errW_none, errW_some] <;> rfl) | (simp [*, errW_none, errW_some] <;> rfl), by repeat (first | (with_reducible first | exact HB.out | apply below_alloc | apply pw_below_drewN | apply below_drew1 | refine below_set ?_ GE135.out) | exact HB.out)⟩

/-! ### spec_TakeAck: function 15 -/
open Go.Proofs.Ytpdoplkiaejpiaa.QuietK
/-- A Space of zeros. -/
def zsp : Array Value := #[.int .i64 0, .slice none 0 0, .bool false, .int .i64 0, .int .i64 0, .int .i64 0, .int .i64 0]
/-- What TakeAck holds: three Spaces, two rows of numbers, two rows of packets. -/
structure St (w0 w : World) (g4 g8 g13 : Nat) (c4 c13 : Array Value) (v14 v15 v16 vk : Value) (ak lo : List Int) (lf ks : List S89) : Prop where
  hb : Below w0.heap.size w0 w
  b4 : w.heap[g4]? = some (.cells c4 44 (0, 0))
  b8 : w.heap[g8]? = some (.cells zsp 44 (0, 0))
  b13 : w.heap[g13]? = some (.cells c13 44 (0, 0))
  r14 : Kd.R (Kd.int .i64) 3 w w0.heap.size (fun k => some k ≠ v15.ownBlock) v14 ak
  r15 : Kd.R (Kd.int .i64) 3 w w0.heap.size (fun k => some k ≠ v14.ownBlock) v15 lo
  r16 : Kd.R k89 89 w w0.heap.size (fun k => some k ≠ vk.ownBlock) v16 lf
  rk : Kd.R k89 89 w w0.heap.size (fun k => some k ≠ v16.ownBlock) vk ks
  n13 : w0.heap.size ≤ g13
  n8 : w0.heap.size ≤ g8
  d4 : g4 ≠ g13
  d8 : g8 ≠ g13
section
variable {w0 w w1 : World} {g4 g8 g13 : Nat} {c4 c13 : Array Value} {v14 v15 v16 vk v1 : Value} {ak lo : List Int} {lf ks : List S89} {x : Int} {y : S89}
theorem St.below (h : St w0 w g4 g8 g13 c4 c13 v14 v15 v16 vk ak lo lf ks) (hb : Below w.heap.size w w1) : St w0 w1 g4 g8 g13 c4 c13 v14 v15 v16 vk ak lo lf ks :=
  ⟨h.hb.trans (hb.mono h.hb.size), blk_below h.b4 hb, blk_below h.b8 hb, blk_below h.b13 hb, Kd.R_below h.r14 hb, Kd.R_below h.r15 hb, Kd.R_below h.r16 hb, Kd.R_below h.rk hb, h.n13, h.n8, h.d4, h.d8⟩
theorem St.put13 (h : St w0 w g4 g8 g13 c4 c13 v14 v15 v16 vk ak lo lf ks) (i : Nat) (u : Value) {c : Array Value} (e : c13.setIfInBounds i u = c) : St w0 (w.setCell ⟨g13, i, none⟩ u) g4 g8 g13 c4 c v14 v15 v16 vk ak lo lf ks :=
  ⟨below_set h.hb h.n13, blk_far h.b4 h.d4 _, blk_far h.b8 h.d8 _, blk_put h.b13 i u e,
   Kd.R_mono (Kd.R_far (p := ⟨g13, i, none⟩) (Kd.R_types h.r14 h.b13 (by decide)) (fun _ hk => hk.2) u) (fun _ hk => hk.1), Kd.R_mono (Kd.R_far (p := ⟨g13, i, none⟩) (Kd.R_types h.r15 h.b13 (by decide)) (fun _ hk => hk.2) u) (fun _ hk => hk.1),
   Kd.R_mono (Kd.R_far (p := ⟨g13, i, none⟩) (Kd.R_types h.r16 h.b13 (by decide)) (fun _ hk => hk.2) u) (fun _ hk => hk.1), Kd.R_mono (Kd.R_far (p := ⟨g13, i, none⟩) (Kd.R_types h.rk h.b13 (by decide)) (fun _ hk => hk.2) u) (fun _ hk => hk.1), h.n13, h.n8, h.d4, h.d8⟩
theorem St.grow14 (h : St w0 w g4 g8 g13 c4 c13 v14 v15 v16 vk ak lo lf ks) (ho : Kd.R (Kd.int .i64) 3 w1 w0.heap.size (fun k => some k ≠ v15.ownBlock) v1 (ak ++ [x])) (hb : Below w0.heap.size w0 w1) (hg : w.grownBy w1 v14.ownBlock) (hat : v1.ownBlock = v14.ownBlock ∨ ∃ b, v1.ownBlock = some b ∧ w.heap.size ≤ b) : St w0 w1 g4 g8 g13 c4 c13 v1 v15 v16 vk (ak ++ [x]) lo lf ks :=
  ⟨hb, blk_grown h.b4 hg (Kd.R_ne h.r14 h.b4 (by decide)), blk_grown h.b8 hg (Kd.R_ne h.r14 h.b8 (by decide)), blk_grown h.b13 hg (Kd.R_ne h.r14 h.b13 (by decide)), ho,
   Kd.R_mono (Kd.R_after (ok := fun _ => True) (Kd.R_mono h.r15 (fun _ hk => ⟨trivial, hk⟩)) hg hat) (fun _ hk => hk.2), Kd.R_over' h.r16 (Kd.R_typed h.r14) (by decide) hg, Kd.R_over' h.rk (Kd.R_typed h.r14) (by decide) hg, h.n13, h.n8, h.d4, h.d8⟩
theorem St.grow15 (h : St w0 w g4 g8 g13 c4 c13 v14 v15 v16 vk ak lo lf ks) (ho : Kd.R (Kd.int .i64) 3 w1 w0.heap.size (fun k => some k ≠ v14.ownBlock) v1 (lo ++ [x])) (hb : Below w0.heap.size w0 w1) (hg : w.grownBy w1 v15.ownBlock) (hat : v1.ownBlock = v15.ownBlock ∨ ∃ b, v1.ownBlock = some b ∧ w.heap.size ≤ b) : St w0 w1 g4 g8 g13 c4 c13 v14 v1 v16 vk ak (lo ++ [x]) lf ks :=
  ⟨hb, blk_grown h.b4 hg (Kd.R_ne h.r15 h.b4 (by decide)), blk_grown h.b8 hg (Kd.R_ne h.r15 h.b8 (by decide)), blk_grown h.b13 hg (Kd.R_ne h.r15 h.b13 (by decide)),
   Kd.R_mono (Kd.R_after (ok := fun _ => True) (Kd.R_mono h.r14 (fun _ hk => ⟨trivial, hk⟩)) hg hat) (fun _ hk => hk.2), ho, Kd.R_over' h.r16 (Kd.R_typed h.r15) (by decide) hg, Kd.R_over' h.rk (Kd.R_typed h.r15) (by decide) hg, h.n13, h.n8, h.d4, h.d8⟩
theorem St.grow16 (h : St w0 w g4 g8 g13 c4 c13 v14 v15 v16 vk ak lo lf ks) (ho : Kd.R k89 89 w1 w0.heap.size (fun k => some k ≠ vk.ownBlock) v1 (lf ++ [y])) (hb : Below w0.heap.size w0 w1) (hg : w.grownBy w1 v16.ownBlock) (hat : v1.ownBlock = v16.ownBlock ∨ ∃ b, v1.ownBlock = some b ∧ w.heap.size ≤ b) : St w0 w1 g4 g8 g13 c4 c13 v14 v15 v1 vk ak lo (lf ++ [y]) ks :=
  ⟨hb, blk_grown h.b4 hg (Kd.R_ne h.r16 h.b4 (by decide)), blk_grown h.b8 hg (Kd.R_ne h.r16 h.b8 (by decide)), blk_grown h.b13 hg (Kd.R_ne h.r16 h.b13 (by decide)),
   Kd.R_over' h.r14 (Kd.R_typed h.r16) (by decide) hg, Kd.R_over' h.r15 (Kd.R_typed h.r16) (by decide) hg, ho, Kd.R_mono (Kd.R_after (ok := fun _ => True) (Kd.R_mono h.rk (fun _ hk => ⟨trivial, hk⟩)) hg hat) (fun _ hk => hk.2), h.n13, h.n8, h.d4, h.d8⟩
theorem St.growk (h : St w0 w g4 g8 g13 c4 c13 v14 v15 v16 vk ak lo lf ks) (ho : Kd.R k89 89 w1 w0.heap.size (fun k => some k ≠ v16.ownBlock) v1 (ks ++ [y])) (hb : Below w0.heap.size w0 w1) (hg : w.grownBy w1 vk.ownBlock) (hat : v1.ownBlock = vk.ownBlock ∨ ∃ b, v1.ownBlock = some b ∧ w.heap.size ≤ b) : St w0 w1 g4 g8 g13 c4 c13 v14 v15 v16 v1 ak lo lf (ks ++ [y]) :=
  ⟨hb, blk_grown h.b4 hg (Kd.R_ne h.rk h.b4 (by decide)), blk_grown h.b8 hg (Kd.R_ne h.rk h.b8 (by decide)), blk_grown h.b13 hg (Kd.R_ne h.rk h.b13 (by decide)),
   Kd.R_over' h.r14 (Kd.R_typed h.rk) (by decide) hg, Kd.R_over' h.r15 (Kd.R_typed h.rk) (by decide) hg, Kd.R_mono (Kd.R_after (ok := fun _ => True) (Kd.R_mono h.r16 (fun _ hk => ⟨trivial, hk⟩)) hg hat) (fun _ hk => hk.2), ho, h.n13, h.n8, h.d4, h.d8⟩
end
/-- The first rounds: what is acknowledged, what is left. -/
def tk1 (has : Int → Option Bool) (samp : (Bool × Int × Int × Int × Int) → Int → Option (Bool × Int × Int × Int × Int)) (top now : Int) (sn : List S89) : Nat → Int → List Int → List S89 → (Bool × Int × Int × Int × Int) → Option (List Int × List S89 × (Bool × Int × Int × Int × Int))
  | 0, _, ak, lf, rt => some (ak, lf, rt)
  | n + 1, i, ak, lf, rt => (has (rd_T89 sn i).f0).bind fun b => if b = true then (if (rd_T89 sn i).f0 = top then (samp rt (wrap64 (now - (rd_T89 sn i).f1))).bind fun rt' => tk1 has samp top now sn n (i + 1) (ak ++ [(rd_T89 sn i).f0]) lf rt' else tk1 has samp top now sn n (i + 1) (ak ++ [(rd_T89 sn i).f0]) lf rt) else tk1 has samp top now sn n (i + 1) ak (lf ++ [rd_T89 sn i]) rt
/-- The second rounds: what is lost, what is kept. -/
def tk2 (lost : S89 → Option Bool) (lf : List S89) : Nat → Int → List Int → List S89 → Option (List Int × List S89)
  | 0, _, lo, ks => some (lo, ks)
  | n + 1, j, lo, ks => (lost (rd_T89 lf j)).bind fun b => if b = true then tk2 lost lf n (j + 1) (lo ++ [(rd_T89 lf j).f0]) ks else tk2 lost lf n (j + 1) lo (ks ++ [rd_T89 lf j])
theorem zsp_eq : zsp = #[.int .i64 0, .slice none 0 0, .bool false, .int .i64 0, .int .i64 0, .int .i64 0, .int .i64 0] := rfl
def tkFail : Int × List S89 × Bool × Int × Int × Int × Int × List Int × List Int × Bool := (0, [], false, 0, 0, 0, 0, [], [], false)
/-- Seven cells of a block stored. -/
def set7 (w : World) (g : Nat) (u0 u1 u2 u3 u4 u5 u6 : Value) : World := ((((((w.setCell ⟨g, 0, none⟩ u0).setCell ⟨g, 1, none⟩ u1).setCell ⟨g, 2, none⟩ u2).setCell ⟨g, 3, none⟩ u3).setCell ⟨g, 4, none⟩ u4).setCell ⟨g, 5, none⟩ u5).setCell ⟨g, 6, none⟩ u6
theorem set7_blk {w : World} {g : Nat} (h : w.heap[g]? = some (.cells zsp 44 (0, 0))) (u0 u1 u2 u3 u4 u5 u6 : Value) : (set7 w g u0 u1 u2 u3 u4 u5 u6).heap[g]? = some (.cells #[u0, u1, u2, u3, u4, u5, u6] 44 (0, 0)) :=
  blk_put (blk_put (blk_put (blk_put (blk_put (blk_put (blk_put h 0 u0 rfl) 1 u1 rfl) 2 u2 rfl) 3 u3 rfl) 4 u4 rfl) 5 u5 rfl) 6 u6 rfl
theorem set7_below {w0 w : World} {g : Nat} (h : Below w0.heap.size w0 w) (hg : w0.heap.size ≤ g) (u0 u1 u2 u3 u4 u5 u6 : Value) : Below w0.heap.size w0 (set7 w g u0 u1 u2 u3 u4 u5 u6) :=
  below_set (below_set (below_set (below_set (below_set (below_set (below_set h hg) hg) hg) hg) hg) hg) hg
theorem set7_R {α : Type} {d : Kd α} {e base : Nat} {w : World} {g : Nat} {ok : Nat → Prop} {v : Value} {xs : List α} (h : d.R e w base ok v xs) {cs : Array Value} (hb : w.heap[g]? = some (.cells cs 44 (0, 0))) (ht : ∀ q, q ∈ e :: d.E → q ≠ 44) (u0 u1 u2 u3 u4 u5 u6 : Value) : d.R e (set7 w g u0 u1 u2 u3 u4 u5 u6) base ok v xs := by
  have h0 := Kd.R_types h hb ht
  exact Kd.R_mono (Kd.R_far (p := ⟨g, 6, none⟩) (Kd.R_far (p := ⟨g, 5, none⟩) (Kd.R_far (p := ⟨g, 4, none⟩) (Kd.R_far (p := ⟨g, 3, none⟩) (Kd.R_far (p := ⟨g, 2, none⟩) (Kd.R_far (p := ⟨g, 1, none⟩) (Kd.R_far (p := ⟨g, 0, none⟩) h0 (fun _ hk => hk.2) u0) (fun _ hk => hk.2) u1) (fun _ hk => hk.2) u2) (fun _ hk => hk.2) u3) (fun _ hk => hk.2) u4) (fun _ hk => hk.2) u5) (fun _ hk => hk.2) u6) (fun _ hk => hk.1)
set_option maxRecDepth 100000 in
theorem fld89 (t1 t2 t3 : Int) (W : World) : Sem.run Try.prog (Instr.field 89 (.agg #[.int .i64 t1, .int .i64 t2, .int .i64 t3]) 1) W = .ok (.int .i64 t2) W := by
  have hu89 := Try.underlying89
  unfold Instr.field
  go_simp
  first | rfl | (simp [asAgg]; done) | (simp [asAgg]; rfl) | (unfold asAgg; go_simp; rfl) | (unfold asAgg; go_simp; done)
attribute [local go_sem] fld89
/-- Is a call of the reference refused? -/
def tsChk (k : Nat) (lg : Int) (sn : List S89) (kn : Bool) (la mi sm va : Int) (l : List S92) (now dl : Int) : Option Bool :=
  (spec_GoodSpace.f k lg sn kn la mi sm va).bind fun b1 => if b1 = true then (spec_l12Ranges.f k l).bind fun b2 => if b2 = true then (if (l.length : Int) = 0 then some true else (spec_l12Tick.f now).bind fun b3 => if b3 = true then (spec_l12Last.f lg sn kn la mi sm va).bind fun t => if now < t.2.1 then some true else (spec_l12Tick.f dl).bind fun b4 => some (!b4) else some true) else some true else some true
/-- Is a packet lost, by the reference? -/
def lostS (lg wt now : Int) (x : S89) : Bool := decide (x.f0 < lg) && (decide (x.f0 ≤ wrap64 (lg - 3)) || (decide (0 ≤ wt) && decide (x.f1 ≤ wrap64 (now - wt))))
def tsMain (k : Nat) (lg : Int) (sn : List S89) (kn : Bool) (la mi sm va : Int) (l : List S92) (now dl : Int) : Option (Int × List S89 × Bool × Int × Int × Int × Int × List Int × List Int × Bool) :=
  (tk1 (fun x => spec_l12Has.f k l x) (fun rt d => spec_l12Sample.f k rt.1 rt.2.1 rt.2.2.1 rt.2.2.2.1 rt.2.2.2.2 d dl) (rd_T92 l 0).f1 now sn sn.length 0 [] [] (kn, la, mi, sm, va)).bind fun t => (spec_l12Wait.f k t.2.2.1 t.2.2.2.1 t.2.2.2.2.1 t.2.2.2.2.2.1 t.2.2.2.2.2.2).bind fun wt => (tk2 (fun x => some (lostS (mx lg (rd_T92 l 0).f1) wt now x)) t.2.1 t.2.1.length 0 [] []).bind fun u => some (mx lg (rd_T92 l 0).f1, u.2, t.2.2.1, t.2.2.2.1, t.2.2.2.2.1, t.2.2.2.2.2.1, t.2.2.2.2.2.2, t.1, u.1, true)
def spec_TakeAck.f (k : Nat) (lg : Int) (sn : List S89) (kn : Bool) (la mi sm va : Int) (l : List S92) (now dl : Int) : Option (Int × List S89 × Bool × Int × Int × Int × Int × List Int × List Int × Bool) :=
  if sn.length ≤ 4000000 ∧ l.length ≤ 4611686018427387904 then (tsChk k lg sn kn la mi sm va l now dl).bind fun c => if c = true then some tkFail else tsMain k lg sn kn la mi sm va l now dl else none
theorem tk1_mono {h h' : Int → Option Bool} {s s' : (Bool × Int × Int × Int × Int) → Int → Option (Bool × Int × Int × Int × Int)} (hh : ∀ x, LeO (h x) (h' x)) (hs : ∀ r d, LeO (s r d) (s' r d)) (top now : Int) (sn : List S89) : ∀ n i ak lf rt, LeO (tk1 h s top now sn n i ak lf rt) (tk1 h' s' top now sn n i ak lf rt)
  | 0, _, _, _, _ => LeO.refl _
  | n + 1, i, ak, lf, rt => by
    unfold tk1
    exact LeO.bind (hh _) (fun _ => LeO.ite (LeO.ite (LeO.bind (hs _ _) (fun _ => tk1_mono hh hs top now sn n _ _ _ _)) (tk1_mono hh hs top now sn n _ _ _ _)) (tk1_mono hh hs top now sn n _ _ _ _))
theorem spec_TakeAck.mono : ∀ (lg : Int) (sn : List S89) (kn : Bool) (la mi sm va : Int) (l : List S92) (now dl : Int) (k : Nat), LeO (spec_TakeAck.f k lg sn kn la mi sm va l now dl) (spec_TakeAck.f (k + 1) lg sn kn la mi sm va l now dl) := by
  intro lg sn kn la mi sm va l now dl k
  unfold spec_TakeAck.f tsChk tsMain
  refine LeO.ite (LeO.bind (LeO.bind (spec_GoodSpace.mono _ _ _ _ _ _ _ _) (fun _ => LeO.ite (LeO.bind (spec_l12Ranges.mono _ _) (fun _ => LeO.refl _)) (LeO.refl _))) (fun _ => LeO.ite (LeO.refl _) ?_)) (LeO.refl _)
  exact LeO.bind (tk1_mono (fun _ => spec_l12Has.mono _ _ _) (fun _ _ => spec_l12Sample.mono _ _ _ _ _ _ _ _) _ _ _ _ _ _ _ _) (fun _ => LeO.bind (spec_l12Wait.mono _ _ _ _ _ _) (fun _ => LeO.refl _))
set_option maxHeartbeats 64000000 in
set_option maxRecDepth 100000 in
theorem spec_TakeAck.calls (k : Nat) (lg : Int) (As : Option Addr) (cs : Nat) (sn : List S89) (kn : Bool) (la mi sm va : Int) (Al : Option Addr) (cl : Nat) (l : List S92) (now dl : Int) (r1 : Int) (r2 : List S89) (r3 : Bool) (r4 r5 r6 r7 : Int) (r8 r9 : List Int) (r10 : Bool) (w : World) (hs : Kd.C k89 w As sn.length sn) (hcs : sn.length ≤ cs) (hl : Kd.C k92 w Al l.length l) (hcl : l.length ≤ cl) (h : spec_TakeAck.f k lg sn kn la mi sm va l now dl = some (r1, r2, r3, r4, r5, r6, r7, r8, r9, r10)) :
    Calls Try.prog 15 #[.agg #[.int .i64 lg, .slice As sn.length cs, .bool kn, .int .i64 la, .int .i64 mi, .int .i64 sm, .int .i64 va], .slice Al l.length cl, .int .i64 now, .int .i64 dl] w fun e w' => ∃ v1_ v7_ v8_ : Value, e = .returned (.tuple #[.agg #[.int .i64 r1, v1_, .bool r3, .int .i64 r4, .int .i64 r5, .int .i64 r6, .int .i64 r7], v7_, v8_, .bool r10]) ∧ Kd.R k89 89 w' w.heap.size (fun _ => True) v1_ r2 ∧ Kd.R (Kd.int .i64) 3 w' w.heap.size (fun k_ => some k_ ≠ (v8_ : Value).ownBlock) v7_ r8 ∧ Kd.R (Kd.int .i64) 3 w' w.heap.size (fun k_ => some k_ ≠ (v7_ : Value).ownBlock) v8_ r9 ∧ Below w.heap.size w w' := by
  unfold spec_TakeAck.f at h
  split at h
  case isFalse => cases h
  case isTrue hlen =>
  obtain ⟨c, hck, hT⟩ := Option.bind_eq_some_iff.mp h
  clear h
  unfold tsChk at hck
  have HCK := Aside0.mk hck
  have HT := Aside0.mk hT
  have HS := Aside0.mk hs
  have HCS := Aside0.mk hcs
  have HLR := Aside0.mk hl
  have HCL := Aside0.mk hcl
  have HLN := Aside0.mk hlen
  have HB := Aside0.mk (Below.refl w.heap.size w)
  clear hck hT hs hcs hl hcl hlen
  have hu44 := Try.underlying44
  have hu42 := Try.underlying42
  have hu89 := Try.underlying89
  have hu92 := Try.underlying92
  have HCK0 := HCK
  go_enter Try.func15, Try.ntmps15
  go_upto_region 1 with (first
    | ((with_reducible refine gate_dst (N := 4) rfl ?_); (try (refine gate_guard (by rfl) ?_; dsimp only)); refine box_event ?hg (N := 4) ?hd (cs := #[.int .i64 lg, .slice As sn.length cs, .bool kn, .int .i64 la, .int .i64 mi, .int .i64 sm, .int .i64 va]) (t := 44) ?hr ?_; (case hd => rfl); (case hg => rfl); (case hr => first | (go_simp; done) | (go_simp; rfl)); intro g4 hgq w1 hbox hb; have Q4 := Aside0.mk hbox; have N4 := Aside0.mk (show w.heap.size ≤ g4 from by rw [hgq]; exact HB.out.size); have HB1 := Aside0.mk (HB.out.trans (hb.mono HB.out.size)); clear hbox hb hgq HB)
    | ((with_reducible refine gate_dst (N := 8) rfl ?_); (try (refine gate_guard (by rfl) ?_; dsimp only)); refine box_event ?hg (N := 8) ?hd (cs := zsp) (t := 44) ?hr ?_; (case hd => rfl); (case hg => rfl); (case hr => first | (go_simp; done) | (go_simp; rfl)); intro g8 hgq w2 hbox hb; have Q8 := Aside0.mk hbox; have N8 := Aside0.mk (show w.heap.size ≤ g8 from by rw [hgq]; exact HB1.out.size); have D84 := Aside0.mk (show g8 ≠ g4 from by rw [hgq]; exact Nat.ne_of_gt (blk_lt Q4.out)); have D48 := Aside0.mk (show g4 ≠ g8 from by rw [hgq]; exact Nat.ne_of_lt (blk_lt Q4.out)); have Q4b := Aside0.mk (blk_below Q4.out hb); have HB := Aside0.mk (HB1.out.trans (hb.mono HB1.out.size)); clear hbox hb hgq HB1 Q4; obtain ⟨z0, z1, z2, z3, z4, z5, z6⟩ := Go.Proofs.Ytpdoplkiaejpiaa.ShortK.cz7 Q4b))
  go_cut [50] (fun v50 wc => v50 = .bool c ∧ Aside0 (wc.heap[g4]? = some (.cells #[.int .i64 lg, .slice As sn.length cs, .bool kn, .int .i64 la, .int .i64 mi, .int .i64 sm, .int .i64 va] 44 (0, 0))) ∧ Aside0 (wc.heap[g8]? = some (.cells zsp 44 (0, 0))) ∧ Aside0 (Below w.heap.size w wc))
  case first =>
    obtain ⟨b1, g1, HC1⟩ := Option.bind_eq_some_iff.mp HCK.out
    have G1 := Aside0.mk g1
    clear g1 HCK
    cases b1 with
    | false =>
      obtain rfl : c = true := (Option.some.inj ((if_neg (by decide)).symm.trans HC1)).symm
      clear HC1
      go_wp2_with (first
        | (go_at_call 47; refine (spec_GoodSpace.calls k lg As cs sn kn la mi sm va false _ (Kd.C_below HS.out HB.out) HCS.out G1.out).mono ?_; rintro e w3 ⟨rfl, hb⟩; have HB3 := Aside0.mk (HB.out.trans (hb.mono HB.out.size)); have Q43 := Aside0.mk (blk_below Q4b.out hb); have Q83 := Aside0.mk (blk_below Q8.out hb); clear hb HB Q4b Q8 z0 z1 z2 z3 z4 z5 z6; obtain ⟨z0, z1, z2, z3, z4, z5, z6⟩ := Go.Proofs.Ytpdoplkiaejpiaa.ShortK.cz7 Q43))
      go_meet
      case rel => exact ⟨rfl, ⟨by repeat (first | exact Q43.out | refine blk_below ?_ (pw_below_drewN (Below.refl _ _) _))⟩, ⟨by repeat (first | exact Q83.out | refine blk_below ?_ (pw_below_drewN (Below.refl _ _) _))⟩, ⟨by repeat (first | exact HB3.out | refine pw_below_drewN ?_ _)⟩⟩
    | true =>
      obtain ⟨b2, g2, HC1⟩ := Option.bind_eq_some_iff.mp ((if_pos rfl).symm.trans HC1)
      have G2 := Aside0.mk g2
      clear g2
      cases b2 with
      | false =>
        obtain rfl : c = true := (Option.some.inj ((if_neg (by decide)).symm.trans HC1)).symm
        clear HC1
        go_wp2_with (first
          | (go_at_call 47; refine (spec_GoodSpace.calls k lg As cs sn kn la mi sm va true _ (Kd.C_below HS.out HB.out) HCS.out G1.out).mono ?_; rintro e w3 ⟨rfl, hb⟩; have HB3 := Aside0.mk (HB.out.trans (hb.mono HB.out.size)); have Q43 := Aside0.mk (blk_below Q4b.out hb); have Q83 := Aside0.mk (blk_below Q8.out hb); clear hb HB Q4b Q8 z0 z1 z2 z3 z4 z5 z6; obtain ⟨z0, z1, z2, z3, z4, z5, z6⟩ := Go.Proofs.Ytpdoplkiaejpiaa.ShortK.cz7 Q43)
          | (go_at_call 48; refine (spec_l12Ranges.calls k Al cl l false _ (Kd.C_below HLR.out HB3.out) HCL.out G2.out).mono ?_; rintro e w4 ⟨rfl, hb⟩; have HB4 := Aside0.mk (HB3.out.trans (hb.mono HB3.out.size)); have Q44 := Aside0.mk (blk_below Q43.out hb); have Q84 := Aside0.mk (blk_below Q83.out hb); clear hb HB3 Q43 Q83 z0 z1 z2 z3 z4 z5 z6; obtain ⟨z0, z1, z2, z3, z4, z5, z6⟩ := Go.Proofs.Ytpdoplkiaejpiaa.ShortK.cz7 Q44))
        go_meet
        case rel => exact ⟨rfl, ⟨by repeat (first | exact Q44.out | refine blk_below ?_ (pw_below_drewN (Below.refl _ _) _))⟩, ⟨by repeat (first | exact Q84.out | refine blk_below ?_ (pw_below_drewN (Below.refl _ _) _))⟩, ⟨by repeat (first | exact HB4.out | refine pw_below_drewN ?_ _)⟩⟩
      | true =>
        have HC1 := (if_pos rfl).symm.trans HC1
        by_cases hl0 : (l.length : Int) = 0
        · have HC1 := (if_pos hl0).symm.trans HC1
          obtain rfl : c = true := (Option.some.inj HC1).symm
          have hl1 : ((l.length : Int) == 0) = true := beq_iff_eq.mpr hl0
          have hl2 : decide ((l.length : Int) = 0) = true := decide_eq_true hl0
          clear HC1
          go_wp2_with (first
            | (go_at_call 47; refine (spec_GoodSpace.calls k lg As cs sn kn la mi sm va true _ (Kd.C_below HS.out HB.out) HCS.out G1.out).mono ?_; rintro e w3 ⟨rfl, hb⟩; have HB3 := Aside0.mk (HB.out.trans (hb.mono HB.out.size)); have Q43 := Aside0.mk (blk_below Q4b.out hb); have Q83 := Aside0.mk (blk_below Q8.out hb); clear hb HB Q4b Q8 z0 z1 z2 z3 z4 z5 z6; obtain ⟨z0, z1, z2, z3, z4, z5, z6⟩ := Go.Proofs.Ytpdoplkiaejpiaa.ShortK.cz7 Q43)
            | (go_at_call 48; refine (spec_l12Ranges.calls k Al cl l true _ (Kd.C_below HLR.out HB3.out) HCL.out G2.out).mono ?_; rintro e w4 ⟨rfl, hb⟩; have HB4 := Aside0.mk (HB3.out.trans (hb.mono HB3.out.size)); have Q44 := Aside0.mk (blk_below Q43.out hb); have Q84 := Aside0.mk (blk_below Q83.out hb); clear hb HB3 Q43 Q83 z0 z1 z2 z3 z4 z5 z6; obtain ⟨z0, z1, z2, z3, z4, z5, z6⟩ := Go.Proofs.Ytpdoplkiaejpiaa.ShortK.cz7 Q44))
          go_meet
          case rel => exact ⟨rfl, ⟨by repeat (first | exact Q44.out | refine blk_below ?_ (pw_below_drewN (Below.refl _ _) _))⟩, ⟨by repeat (first | exact Q84.out | refine blk_below ?_ (pw_below_drewN (Below.refl _ _) _))⟩, ⟨by repeat (first | exact HB4.out | refine pw_below_drewN ?_ _)⟩⟩
        · have HC1 := (if_neg hl0).symm.trans HC1
          have hl1 : ((l.length : Int) == 0) = false := beq_eq_false_iff_ne.mpr hl0
          have hl2 : decide ((l.length : Int) = 0) = false := decide_eq_false hl0
          obtain ⟨b3, g3, HC1⟩ := Option.bind_eq_some_iff.mp HC1
          have G3 := Aside0.mk g3
          clear g3
          cases b3 with
          | false =>
            obtain rfl : c = true := (Option.some.inj ((if_neg (by decide)).symm.trans HC1)).symm
            clear HC1
            go_wp2_with (first
              | (go_at_call 47; refine (spec_GoodSpace.calls k lg As cs sn kn la mi sm va true _ (Kd.C_below HS.out HB.out) HCS.out G1.out).mono ?_; rintro e w3 ⟨rfl, hb⟩; have HB3 := Aside0.mk (HB.out.trans (hb.mono HB.out.size)); have Q43 := Aside0.mk (blk_below Q4b.out hb); have Q83 := Aside0.mk (blk_below Q8.out hb); clear hb HB Q4b Q8 z0 z1 z2 z3 z4 z5 z6; obtain ⟨z0, z1, z2, z3, z4, z5, z6⟩ := Go.Proofs.Ytpdoplkiaejpiaa.ShortK.cz7 Q43)
              | (go_at_call 48; refine (spec_l12Ranges.calls k Al cl l true _ (Kd.C_below HLR.out HB3.out) HCL.out G2.out).mono ?_; rintro e w4 ⟨rfl, hb⟩; have HB4 := Aside0.mk (HB3.out.trans (hb.mono HB3.out.size)); have Q44 := Aside0.mk (blk_below Q43.out hb); have Q84 := Aside0.mk (blk_below Q83.out hb); clear hb HB3 Q43 Q83 z0 z1 z2 z3 z4 z5 z6; obtain ⟨z0, z1, z2, z3, z4, z5, z6⟩ := Go.Proofs.Ytpdoplkiaejpiaa.ShortK.cz7 Q44)
              | (go_at_call 49; refine (spec_l12Tick.calls now false _ G3.out).mono ?_; rintro e w5 ⟨rfl, ⟨nd1, rfl⟩⟩; clear G3))
            go_meet
            case rel => exact ⟨rfl, ⟨by repeat (first | exact Q44.out | refine blk_below ?_ (pw_below_drewN (Below.refl _ _) _))⟩, ⟨by repeat (first | exact Q84.out | refine blk_below ?_ (pw_below_drewN (Below.refl _ _) _))⟩, ⟨by repeat (first | exact HB4.out | refine pw_below_drewN ?_ _)⟩⟩
          | true =>
            obtain ⟨⟨t1, t2, t3⟩, gl, HC1⟩ := Option.bind_eq_some_iff.mp ((if_pos rfl).symm.trans HC1)
            have GL := Aside0.mk gl
            clear gl
            by_cases hlt : now < t2
            · obtain rfl : c = true := (Option.some.inj ((if_pos hlt).symm.trans HC1)).symm
              have hltd : decide (now < t2) = true := decide_eq_true hlt
              clear HC1
              go_wp2_with (first
                | (go_at_call 47; refine (spec_GoodSpace.calls k lg As cs sn kn la mi sm va true _ (Kd.C_below HS.out HB.out) HCS.out G1.out).mono ?_; rintro e w3 ⟨rfl, hb⟩; have HB3 := Aside0.mk (HB.out.trans (hb.mono HB.out.size)); have Q43 := Aside0.mk (blk_below Q4b.out hb); have Q83 := Aside0.mk (blk_below Q8.out hb); clear hb HB Q4b Q8 z0 z1 z2 z3 z4 z5 z6; obtain ⟨z0, z1, z2, z3, z4, z5, z6⟩ := Go.Proofs.Ytpdoplkiaejpiaa.ShortK.cz7 Q43)
                | (go_at_call 48; refine (spec_l12Ranges.calls k Al cl l true _ (Kd.C_below HLR.out HB3.out) HCL.out G2.out).mono ?_; rintro e w4 ⟨rfl, hb⟩; have HB4 := Aside0.mk (HB3.out.trans (hb.mono HB3.out.size)); have Q44 := Aside0.mk (blk_below Q43.out hb); have Q84 := Aside0.mk (blk_below Q83.out hb); clear hb HB3 Q43 Q83 z0 z1 z2 z3 z4 z5 z6; obtain ⟨z0, z1, z2, z3, z4, z5, z6⟩ := Go.Proofs.Ytpdoplkiaejpiaa.ShortK.cz7 Q44)
                | (go_at_call 49; refine (spec_l12Tick.calls now true _ G3.out).mono ?_; rintro e w5 ⟨rfl, ⟨nd1, rfl⟩⟩; clear G3)
                | (go_at_call 50; refine (spec_l12Last.calls lg As cs sn kn la mi sm va t1 t2 t3 _ (by first | exact Kd.C_below HS.out HB4.out | exact Kd.C_below HS.out (pw_below_drewN HB4.out _)) HCS.out GL.out).mono ?_; rintro e w6 ⟨rfl, hb⟩; have HB6 := Aside0.mk (show Below w.heap.size w w6 from by first | exact HB4.out.trans (hb.mono HB4.out.size) | exact (pw_below_drewN HB4.out nd1).trans (hb.mono (pw_below_drewN HB4.out nd1).size)); have Q46 := Aside0.mk (show w6.heap[g4]? = some (.cells #[.int .i64 lg, .slice As sn.length cs, .bool kn, .int .i64 la, .int .i64 mi, .int .i64 sm, .int .i64 va] 44 (0, 0)) from by first | exact blk_below Q44.out hb | exact blk_below (blk_below Q44.out (pw_below_drewN (Below.refl _ _) nd1)) hb); have Q86 := Aside0.mk (show w6.heap[g8]? = some (.cells zsp 44 (0, 0)) from by first | exact blk_below Q84.out hb | exact blk_below (blk_below Q84.out (pw_below_drewN (Below.refl _ _) nd1)) hb); clear hb GL HB4 Q44 Q84))
              go_meet
              case rel => exact ⟨rfl, ⟨by repeat (first | exact Q46.out | refine blk_below ?_ (pw_below_drewN (Below.refl _ _) _))⟩, ⟨by repeat (first | exact Q86.out | refine blk_below ?_ (pw_below_drewN (Below.refl _ _) _))⟩, ⟨by repeat (first | exact HB6.out | refine pw_below_drewN ?_ _)⟩⟩
            · obtain ⟨b4, g4', HC1⟩ := Option.bind_eq_some_iff.mp ((if_neg hlt).symm.trans HC1)
              have hltd : decide (now < t2) = false := decide_eq_false hlt
              have G4 := Aside0.mk g4'
              clear g4'
              obtain rfl := Option.some.inj HC1
              clear HC1
              go_wp2_with (first
                | (go_at_call 47; refine (spec_GoodSpace.calls k lg As cs sn kn la mi sm va true _ (Kd.C_below HS.out HB.out) HCS.out G1.out).mono ?_; rintro e w3 ⟨rfl, hb⟩; have HB3 := Aside0.mk (HB.out.trans (hb.mono HB.out.size)); have Q43 := Aside0.mk (blk_below Q4b.out hb); have Q83 := Aside0.mk (blk_below Q8.out hb); clear hb HB Q4b Q8 z0 z1 z2 z3 z4 z5 z6; obtain ⟨z0, z1, z2, z3, z4, z5, z6⟩ := Go.Proofs.Ytpdoplkiaejpiaa.ShortK.cz7 Q43)
                | (go_at_call 48; refine (spec_l12Ranges.calls k Al cl l true _ (Kd.C_below HLR.out HB3.out) HCL.out G2.out).mono ?_; rintro e w4 ⟨rfl, hb⟩; have HB4 := Aside0.mk (HB3.out.trans (hb.mono HB3.out.size)); have Q44 := Aside0.mk (blk_below Q43.out hb); have Q84 := Aside0.mk (blk_below Q83.out hb); clear hb HB3 Q43 Q83 z0 z1 z2 z3 z4 z5 z6; obtain ⟨z0, z1, z2, z3, z4, z5, z6⟩ := Go.Proofs.Ytpdoplkiaejpiaa.ShortK.cz7 Q44)
                | (go_at_call 49; refine (spec_l12Tick.calls now true _ G3.out).mono ?_; rintro e w5 ⟨rfl, ⟨nd1, rfl⟩⟩; clear G3)
                | (go_at_call 50; refine (spec_l12Last.calls lg As cs sn kn la mi sm va t1 t2 t3 _ (by first | exact Kd.C_below HS.out HB4.out | exact Kd.C_below HS.out (pw_below_drewN HB4.out _)) HCS.out GL.out).mono ?_; rintro e w6 ⟨rfl, hb⟩; have HB6 := Aside0.mk (show Below w.heap.size w w6 from by first | exact HB4.out.trans (hb.mono HB4.out.size) | exact (pw_below_drewN HB4.out nd1).trans (hb.mono (pw_below_drewN HB4.out nd1).size)); have Q46 := Aside0.mk (show w6.heap[g4]? = some (.cells #[.int .i64 lg, .slice As sn.length cs, .bool kn, .int .i64 la, .int .i64 mi, .int .i64 sm, .int .i64 va] 44 (0, 0)) from by first | exact blk_below Q44.out hb | exact blk_below (blk_below Q44.out (pw_below_drewN (Below.refl _ _) nd1)) hb); have Q86 := Aside0.mk (show w6.heap[g8]? = some (.cells zsp 44 (0, 0)) from by first | exact blk_below Q84.out hb | exact blk_below (blk_below Q84.out (pw_below_drewN (Below.refl _ _) nd1)) hb); clear hb GL HB4 Q44 Q84)
                | (go_at_call 49; refine (spec_l12Tick.calls dl b4 _ G4.out).mono ?_; rintro e w7 ⟨rfl, ⟨nd2, rfl⟩⟩; clear G4))
              go_meet
              case rel => exact ⟨rfl, ⟨by repeat (first | exact Q46.out | refine blk_below ?_ (pw_below_drewN (Below.refl _ _) _))⟩, ⟨by repeat (first | exact Q86.out | refine blk_below ?_ (pw_below_drewN (Below.refl _ _) _))⟩, ⟨by repeat (first | exact HB6.out | refine pw_below_drewN ?_ _)⟩⟩

  case rest =>
    clear HB Q4b Q8 z0 z1 z2 z3 z4 z5 z6 HCK
    obtain ⟨rfl, Q4, Q8, HB⟩ := hcut
    cases c with
    | true =>
      have H := (if_pos rfl).symm.trans HT.out
      clear HT
      have hE := Option.some.inj H
      obtain rfl := congrArg (fun t => t.1) hE
      obtain rfl := congrArg (fun t => t.2.1) hE
      obtain rfl := congrArg (fun t => t.2.2.1) hE
      obtain rfl := congrArg (fun t => t.2.2.2.1) hE
      obtain rfl := congrArg (fun t => t.2.2.2.2.1) hE
      obtain rfl := congrArg (fun t => t.2.2.2.2.2.1) hE
      obtain rfl := congrArg (fun t => t.2.2.2.2.2.2.1) hE
      obtain rfl := congrArg (fun t => t.2.2.2.2.2.2.2.1) hE
      obtain rfl := congrArg (fun t => t.2.2.2.2.2.2.2.2.1) hE
      obtain rfl := congrArg (fun t => t.2.2.2.2.2.2.2.2.2) hE
      clear H hE

      obtain ⟨f0, f1, f2, f3, f4, f5, f6⟩ := Go.Proofs.Ytpdoplkiaejpiaa.ShortK.fz7 Q8
      obtain ⟨y0, y1, y2, y3, y4, y5, y6⟩ := Go.Proofs.Ytpdoplkiaejpiaa.ShortK.cz7 Q8
      go_wp2
      refine bodyPost_ret (results_list (rs := [.cell 8 44, .tmp 9, .tmp 10, .tmp 11]) rfl (by simp) (.cell g8 44 zsp (0, 0) _ rfl (set7_blk Q8.out _ _ _ _ _ _ _) Try.underlying44 rfl (by kernel_rfl) (.tmp (.tmp (.tmp .nil))))) rfl ?_
      exact ⟨_, _, _, rfl, Kd.R_nil _ _ _ _ _, Kd.R_nil _ _ _ _ _, Kd.R_nil _ _ _ _ _, set7_below HB.out N8.out _ _ _ _ _ _ _⟩

    | false =>
      have HT2 := Aside0.mk ((if_neg (by decide)).symm.trans HT.out)
      clear HT
      have p0 : 0 < l.length := by
        have h_ := HCK0.out
        by_cases h0 : (l.length : Int) = 0
        · exfalso
          revert h_
          cases spec_GoodSpace.f k lg sn kn la mi sm va with
          | none => simp
          | some b1 => cases b1 <;> cases spec_l12Ranges.f k l with
            | none => simp
            | some b2 => cases b2 <;> simp [h0]
        · omega
      clear HCK0
      obtain ⟨z0, z1, z2, z3, z4, z5, z6⟩ := Go.Proofs.Ytpdoplkiaejpiaa.ShortK.cz7 Q4
      have p0i : (0 : Int) < (l.length : Int) := by omega
      obtain ⟨al, e0, hx0, hx1⟩ := at_T92 HLR.out 0 (by omega) p0i
      cases e0
      have hy0 : w.cell? ⟨al.block, al.off + 1, none⟩ = some (.int .i64 (rd_T92 l 0).f1) := hx1
      have hy1 := cb_ hy0 HB.out
      clear hx0 hx1
      have p1 := eq_true p0i
      have p2 := eq_true p0
      have p3 : decide ((0 : Int) < (l.length : Int)) = true := decide_eq_true p0i
      have hM := HT2.out
      unfold tsMain at hM
      obtain ⟨⟨ak1, lf1, kn1, la1, mi1, sm1, va1⟩, hk1, hM⟩ := Option.bind_eq_some_iff.mp hM
      have HK1 := Aside0.mk hk1
      have HM2 := Aside0.mk hM
      clear hk1 hM HT2
      by_cases hm : lg < (rd_T92 l 0).f1
      · have hmx : mx lg (rd_T92 l 0).f1 = (rd_T92 l 0).f1 := if_pos hm
        have hm2 := decide_eq_true hm
        go_wp2_with fail
        refine region_quiet (C := fun w' => w'.cell? ⟨al.block, al.off + 1, none⟩ = some (.int .i64 (rd_T92 l 0).f1) ∧ w'.cell? ⟨g4, 0, none⟩ = some (.int .i64 lg) ∧ Aside0 (w'.heap[g4]? = some (.cells #[.int .i64 lg, .slice As sn.length cs, .bool kn, .int .i64 la, .int .i64 mi, .int .i64 sm, .int .i64 va] 44 (0, 0))) ∧ Aside0 (w'.heap[g8]? = some (.cells zsp 44 (0, 0))) ∧ Aside0 (Below w.heap.size w w')) (by kernel_rfl) (by kernel_rfl) ?hC ?_
        case hC => exact ⟨cb_ hy1 (below_drew (Below.refl _ wc)), cb_ z0 (below_drew (Below.refl _ wc)), ⟨blk_below Q4.out (below_drew (Below.refl _ wc))⟩, ⟨blk_below Q8.out (below_drew (Below.refl _ wc))⟩, ⟨below_drew HB.out⟩⟩
        repeat (first
          | go_big_quiet_skip
          | (go_big_quiet_want; refine quiet_op (v := ?_) ?_ ?_; rotate_left 1; (· (rintro w' ⟨x0, x1, -, -, -⟩; go_simp; with_reducible rfl)); simp only [Act.put, List.setIfInBounds_toArray, List.set_cons_zero, List.set_cons_succ, i64_w, i32_w]; go_big_quiet_on))
        refine wpQuiet_nil ?_
        clear z0 z1 z2 z3 z4 z5 z6 hy1 Q4 Q8 HB
        rintro W ⟨hy1, -, Q4, Q8, HB⟩
        obtain ⟨f0, f1, f2, f3, f4, f5, f6⟩ := Go.Proofs.Ytpdoplkiaejpiaa.ShortK.fz7 Q4
        obtain ⟨m0, m1, m2, m3, m4, m5, m6⟩ := Go.Proofs.Ytpdoplkiaejpiaa.ShortK.cz7 Q4
        go_upto_region 5 with (fail)
        have ST := Aside0.mk (show St w (W.setCell ⟨g4, 0, none⟩ (.int .i64 (rd_T92 l 0).f1)) g8 g8 g4 zsp #[.int .i64 (mx lg (rd_T92 l 0).f1), .slice As sn.length cs, .bool kn, .int .i64 la, .int .i64 mi, .int .i64 sm, .int .i64 va] (.slice none 0 0) (.slice none 0 0) (.slice none 0 0) (.slice none 0 0) [] [] [] [] from
          ⟨below_set HB.out N4.out, blk_far Q8.out D84.out _, blk_far Q8.out D84.out _, blk_put Q4.out 0 _ (by rw [hmx]; rfl), Kd.R_nil _ _ _ _ _, Kd.R_nil _ _ _ _ _, Kd.R_nil _ _ _ _ _, Kd.R_nil _ _ _ _ _, N4.out, N8.out, D84.out, D84.out⟩)
        revert ST
        clear m0 m1 m2 m3 m4 m5 m6 f0 f1 f2 f3 f4 f5 f6 hy1 Q4 Q8 HB
        generalize W.setCell ⟨g4, 0, none⟩ (.int .i64 (rd_T92 l 0).f1) = W2
        intro ST
        clear hmx hm hm2
        obtain ⟨m0, m1, m2, m3, m4, m5, m6⟩ := Go.Proofs.Ytpdoplkiaejpiaa.ShortK.cz7 ⟨ST.out.b13⟩
        go_wp2_with fail
        go_loopg [12, 14, 67] sn.length (fun kq v12 v14 v67 w' => ∃ (i : Int) (ak : List Int) (lf : List S89) (kn2 : Bool) (la2 mi2 sm2 va2 : Int) (s14 s16 : Value), s14 = v12 ∧ s16 = v14 ∧ v67 = .int .i64 i ∧ Aside0 (tk1 (fun x => spec_l12Has.f k l x) (fun rt d => spec_l12Sample.f k rt.1 rt.2.1 rt.2.2.1 rt.2.2.2.1 rt.2.2.2.2 d dl) (rd_T92 l 0).f1 now sn kq i ak lf (kn2, la2, mi2, sm2, va2) = some (ak1, lf1, kn1, la1, mi1, sm1, va1)) ∧ Aside0 (i + kq = (sn.length : Int) ∧ 0 ≤ i ∧ ak.length + lf.length = i.toNat) ∧ Aside0 (St w w' g8 g8 g4 zsp #[.int .i64 (mx lg (rd_T92 l 0).f1), .slice As sn.length cs, .bool kn2, .int .i64 la2, .int .i64 mi2, .int .i64 sm2, .int .i64 va2] s14 (.slice none 0 0) s16 (.slice none 0 0) ak [] lf []))
        case atStart => exact ⟨0, [], [], kn, la, mi, sm, va, _, _, rfl, rfl, rfl, HK1, ⟨⟨by omega, by omega, rfl⟩⟩, ST⟩
        case round =>
          clear HK1 ST m0 m1 m2 m3 m4 m5 m6
          obtain ⟨i, ak, lf, kn2, la2, mi2, sm2, va2, s14, s16, rfl, rfl, rfl, HA, HI, ST⟩ := hrel
          obtain ⟨hi1, hi0, hi3⟩ := HI.out
          clear HI
          cases gk with
          | zero =>
            have hd2 : decide (i < (sn.length : Int)) = false := decide_eq_false (by omega)
            have H := (Option.some.inj HA.out).symm
            have hlen := HLN.out.1
            clear HA
            injection H with e1 H
            injection H with e2 H
            injection H with e3 H
            injection H with e4 H
            injection H with e5 H
            injection H with e6 e7
            subst e1 e2 e3 e4 e5 e6 e7
            have hlf : lf1.length ≤ 4000000 := by omega
            clear hi1 hi0 hi3 hlen
            obtain ⟨A16, c16, e16⟩ := Kd.R_slice ST.out.r16
            subst e16
            have HLF := Aside0.mk (show lf1.length ≤ 4000000 from hlf)
            obtain ⟨wt, hwt, hM⟩ := Option.bind_eq_some_iff.mp HM2.out
            have HW := Aside0.mk hwt
            obtain ⟨⟨lo1, ks1⟩, hk2, hM⟩ := Option.bind_eq_some_iff.mp hM
            have HK2 := Aside0.mk hk2
            have HE := Aside0.mk hM
            clear hk2 hM hwt HM2
            obtain ⟨m0, m1, m2, m3, m4, m5, m6⟩ := Go.Proofs.Ytpdoplkiaejpiaa.ShortK.cz7 ⟨ST.out.b13⟩
            go_wp2_with (go_at_call 53; refine (spec_l12Wait.calls k kn1 la1 mi1 sm1 va1 wt _ HW.out).mono ?_; rintro e w10 ⟨rfl, hb⟩; have ST10 := Aside0.mk (ST.out.below hb); clear hb ST m0 m1 m2 m3 m4 m5 m6 HW)
            go_loopg [13, 15, 107] lf1.length (fun kq v13 v15 v107 w' => ∃ (j : Int) (lo : List Int) (ks : List S89) (s15 sk : Value), s15 = v13 ∧ sk = v15 ∧ v107 = .int .i64 j ∧ Aside0 (tk2 (fun x => some (lostS (mx lg (rd_T92 l 0).f1) wt now x)) lf1 kq j lo ks = some (lo1, ks1)) ∧ Aside0 (j + kq = (lf1.length : Int) ∧ 0 ≤ j ∧ lo.length + ks.length = j.toNat) ∧ Aside0 (St w w' g8 g8 g4 zsp #[.int .i64 (mx lg (rd_T92 l 0).f1), .slice As sn.length cs, .bool kn1, .int .i64 la1, .int .i64 mi1, .int .i64 sm1, .int .i64 va1] s14 (s15) (.slice A16 lf1.length c16) (sk) ak1 lo lf1 ks))
            case atStart => exact ⟨0, [], [], _, _, rfl, rfl, rfl, HK2, ⟨⟨by omega, by omega, rfl⟩⟩, ST10⟩
            case round =>
              clear ST10 HK2
              obtain ⟨j, lo, ks, s15, sk, rfl, rfl, rfl, HA, HJ, ST⟩ := hrel
              obtain ⟨hj1, hj0, hj3⟩ := HJ.out
              clear HJ
              cases gk with
              | zero =>
                have hd2 : decide (j < (lf1.length : Int)) = false := decide_eq_false (by omega)
                have H2 := (Option.some.inj HA.out).symm
                clear HA hj1 hj0 hj3
                injection H2 with e1 e2
                subst e1 e2
                have H := HE.out
                have hE := Option.some.inj H
                obtain rfl := congrArg (fun t => t.1) hE
                obtain rfl := congrArg (fun t => t.2.1) hE
                obtain rfl := congrArg (fun t => t.2.2.1) hE
                obtain rfl := congrArg (fun t => t.2.2.2.1) hE
                obtain rfl := congrArg (fun t => t.2.2.2.2.1) hE
                obtain rfl := congrArg (fun t => t.2.2.2.2.2.1) hE
                obtain rfl := congrArg (fun t => t.2.2.2.2.2.2.1) hE
                obtain rfl := congrArg (fun t => t.2.2.2.2.2.2.2.1) hE
                obtain rfl := congrArg (fun t => t.2.2.2.2.2.2.2.2.1) hE
                obtain rfl := congrArg (fun t => t.2.2.2.2.2.2.2.2.2) hE
                clear H hE
                obtain ⟨Ak, ck, ek⟩ := Kd.R_slice ST.out.rk
                subst ek
                obtain ⟨m0, m1, m2, m3, m4, m5, m6⟩ := Go.Proofs.Ytpdoplkiaejpiaa.ShortK.cz7 ⟨ST.out.b13⟩
                obtain ⟨h0, h1, h2, h3, h4, h5, h6⟩ := Go.Proofs.Ytpdoplkiaejpiaa.ShortK.fz7 ⟨ST.out.b13⟩
                have b8 : Aside0 (wr.heap[g8]? = some (.cells #[.int .i64 0, .slice none 0 0, .bool false, .int .i64 0, .int .i64 0, .int .i64 0, .int .i64 0] 44 (0, 0))) := ⟨ST.out.b8⟩
                obtain ⟨y0, y1, y2, y3, y4, y5, y6⟩ := Go.Proofs.Ytpdoplkiaejpiaa.ShortK.cz7 b8
                obtain ⟨f0, f1, f2, f3, f4, f5, f6⟩ := Go.Proofs.Ytpdoplkiaejpiaa.ShortK.fz7 b8
                have n1 := D84.out
                have n2 := Ne.symm D84.out
                have STF := Aside0.mk (ST.out.put13 1 (.slice Ak ks1.length ck) (c := #[.int .i64 (mx lg (rd_T92 l 0).f1), .slice Ak ks1.length ck, .bool kn1, .int .i64 la1, .int .i64 mi1, .int .i64 sm1, .int .i64 va1]) rfl)
                go_wp2
                refine bodyPost_ret (results_list (rs := [.cell 8 44, .tmp 9, .tmp 10, .tmp 11]) rfl (by simp) (.cell g8 44 #[.int .i64 (mx lg (rd_T92 l 0).f1), .slice Ak ks1.length ck, .bool kn1, .int .i64 la1, .int .i64 mi1, .int .i64 sm1, .int .i64 va1] (0, 0) _ rfl (set7_blk STF.out.b8 _ _ _ _ _ _ _) Try.underlying44 rfl (by kernel_rfl) (.tmp (.tmp (.tmp .nil))))) rfl ?_
                exact ⟨_, _, _, rfl, Kd.R_mono (set7_R STF.out.rk STF.out.b8 (by decide) _ _ _ _ _ _ _) (fun _ _ => trivial), set7_R STF.out.r14 STF.out.b8 (by decide) _ _ _ _ _ _ _, set7_R STF.out.r15 STF.out.b8 (by decide) _ _ _ _ _ _ _, set7_below STF.out.hb STF.out.n8 _ _ _ _ _ _ _⟩
              | succ n =>
                have HA1 := HA.out
                unfold tk2 at HA1
                clear HA
                have hj2 : j < (lf1.length : Int) := by omega
                have hd2 : decide (j < (lf1.length : Int)) = true := decide_eq_true hj2
                have HJJ := Aside0.mk (And.intro hj1 (And.intro hj0 hj3))
                obtain ⟨adt, eA, q0, q1, q2⟩ := at_T89 (Kd.R_reads' ST.out.r16).2.2 j hj0 hj2
                subst eA
                clear hj1 hj3
                have s0 := eq_true hj0
                have s1 := eq_true hj2
                have HWJ := Aside0.mk (show wrap64 (j + 1) = j + 1 from by unfold wrap64; have := HLF.out; have := HJJ.out; omega)
                generalize rd_T89 lf1 j = x at q0 q1 q2 HA1
                have hbn : Below wr.heap.size wr (wr.alloc (.cells #[.int .i64 x.f0, .int .i64 x.f1, .int .i64 x.f2] 89 (0, 0))) := below_alloc (Below.refl _ wr) _
                have hbox : (wr.alloc (.cells #[.int .i64 x.f0, .int .i64 x.f1, .int .i64 x.f2] 89 (0, 0))).heap[wr.heap.size]? = some (.cells #[.int .i64 x.f0, .int .i64 x.f1, .int .i64 x.f2] 89 (0, 0)) := blk_new wr _
                have HA1 := HA1
                simp only [Option.bind_some] at HA1
                go_upto_region 20 with (fail)
                have HBOX := Aside0.mk hbox
                have HBN := Aside0.mk hbn
                clear hbox hbn
                revert HBOX HBN
                generalize wr.alloc (.cells #[.int .i64 x.f0, .int .i64 x.f1, .int .i64 x.f2] 89 (0, 0)) = w6
                intro HBOX HBN
                have ST6 := Aside0.mk (ST.out.below HBN.out)
                obtain ⟨y0, y1, y2⟩ := Go.Proofs.Ytpdoplkiaejpiaa.ShortK.cz3 HBOX
                clear q0 q1 q2
                obtain ⟨m0, m1, m2, m3, m4, m5, m6⟩ := Go.Proofs.Ytpdoplkiaejpiaa.ShortK.cz7 ⟨ST6.out.b13⟩
                have hcases : (lostS (mx lg (rd_T92 l 0).f1) wt now x = false ∧ (decide (x.f0 < (mx lg (rd_T92 l 0).f1)) = false ∨ (decide (x.f0 < (mx lg (rd_T92 l 0).f1)) = true ∧ decide (x.f0 ≤ wrap64 ((mx lg (rd_T92 l 0).f1) - 3)) = false ∧ (decide (0 ≤ wt) = false ∨ (decide (0 ≤ wt) = true ∧ decide (x.f1 ≤ wrap64 (now - wt)) = false))))) ∨ (lostS (mx lg (rd_T92 l 0).f1) wt now x = true ∧ decide (x.f0 < (mx lg (rd_T92 l 0).f1)) = true ∧ (decide (x.f0 ≤ wrap64 ((mx lg (rd_T92 l 0).f1) - 3)) = true ∨ (decide (x.f0 ≤ wrap64 ((mx lg (rd_T92 l 0).f1) - 3)) = false ∧ decide (0 ≤ wt) = true ∧ decide (x.f1 ≤ wrap64 (now - wt)) = true))) := by
                  unfold lostS
                  cases decide (x.f0 < (mx lg (rd_T92 l 0).f1)) <;> cases decide (x.f0 ≤ wrap64 ((mx lg (rd_T92 l 0).f1) - 3)) <;> cases decide (0 ≤ wt) <;> cases decide (x.f1 ≤ wrap64 (now - wt)) <;> simp
                rcases hcases with ⟨hL, h1 | ⟨h1, h2, h3 | ⟨h3, h4⟩⟩⟩ | ⟨hL, h1, h2 | ⟨h2, h3, h4⟩⟩
                · skip
                  have HN := Aside0.mk ((if_neg (by rw [hL]; decide)).symm.trans HA1)
                  clear HA1 hL
                  go_wp2_with ((with_reducible refine gate_builtin (b := .append) (xs := #[.tmp 141, .tmp 143]) rfl ?_); (try (refine gate_guard (by rfl) ?_; dsimp only)); at_builtin; refine Kd.R_append k89 (w0 := w) w.heap.size rfl (.tmp 141) (.tmp 143) 41 89 (.agg #[(.int .i64 0), (.int .i64 0), (.int .i64 0)]) 24 rfl Try.underlying41 info89 rfl (by decide) (by omega) sk ks x [.int .i64 x.f0, .int .i64 x.f1, .int .i64 x.f2] (fun k_ => some k_ ≠ (.slice (some adt) lf1.length c16 : Value).ownBlock) (fun _ => False) rfl rfl ?aP (fun _ hk => hk.elim) ?aF ?aO ?aB ?aS ?aL ?_; (case aP => exact k89_mkM _ _ _ x); (case aF => exact (fun k_ hk => Kd.fresh' (Kd.R_lt ST6.out.r16) k_ hk)); (case aO => exact ST6.out.rk); (case aB => exact ST6.out.hb); (case aS => exact ST6.out.hb.size); (case aL => have := HJJ.out; have := HLF.out; omega); intro v1 w8 ho hb hg hat; have ST8 := Aside0.mk (ST6.out.growk ho hb hg hat); clear ho hb hg hat)
                  go_roundg n
                  case measure => omega
                  case rel => exact ⟨j + 1, lo, (ks ++ [x]), _, _, rfl, rfl, by first | rfl | (simp; done) | (rw [HWJ.out]), HN, ⟨⟨by have := HJJ.out; omega, by have := HJJ.out; omega, by have := HJJ.out; simp only [List.length_append, List.length_cons, List.length_nil]; omega⟩⟩, ST8⟩
                · skip
                  have HN := Aside0.mk ((if_neg (by rw [hL]; decide)).symm.trans HA1)
                  clear HA1 hL
                  go_wp2_with ((with_reducible refine gate_builtin (b := .append) (xs := #[.tmp 141, .tmp 143]) rfl ?_); (try (refine gate_guard (by rfl) ?_; dsimp only)); at_builtin; refine Kd.R_append k89 (w0 := w) w.heap.size rfl (.tmp 141) (.tmp 143) 41 89 (.agg #[(.int .i64 0), (.int .i64 0), (.int .i64 0)]) 24 rfl Try.underlying41 info89 rfl (by decide) (by omega) sk ks x [.int .i64 x.f0, .int .i64 x.f1, .int .i64 x.f2] (fun k_ => some k_ ≠ (.slice (some adt) lf1.length c16 : Value).ownBlock) (fun _ => False) rfl rfl ?aP (fun _ hk => hk.elim) ?aF ?aO ?aB ?aS ?aL ?_; (case aP => exact k89_mkM _ _ _ x); (case aF => exact (fun k_ hk => Kd.fresh' (Kd.R_lt ST6.out.r16) k_ hk)); (case aO => exact ST6.out.rk); (case aB => exact ST6.out.hb); (case aS => exact ST6.out.hb.size); (case aL => have := HJJ.out; have := HLF.out; omega); intro v1 w8 ho hb hg hat; have ST8 := Aside0.mk (ST6.out.growk ho hb hg hat); clear ho hb hg hat)
                  go_roundg n
                  case measure => omega
                  case rel => exact ⟨j + 1, lo, (ks ++ [x]), _, _, rfl, rfl, by first | rfl | (simp; done) | (rw [HWJ.out]), HN, ⟨⟨by have := HJJ.out; omega, by have := HJJ.out; omega, by have := HJJ.out; simp only [List.length_append, List.length_cons, List.length_nil]; omega⟩⟩, ST8⟩
                · skip
                  have HN := Aside0.mk ((if_neg (by rw [hL]; decide)).symm.trans HA1)
                  clear HA1 hL
                  go_wp2_with ((with_reducible refine gate_builtin (b := .append) (xs := #[.tmp 141, .tmp 143]) rfl ?_); (try (refine gate_guard (by rfl) ?_; dsimp only)); at_builtin; refine Kd.R_append k89 (w0 := w) w.heap.size rfl (.tmp 141) (.tmp 143) 41 89 (.agg #[(.int .i64 0), (.int .i64 0), (.int .i64 0)]) 24 rfl Try.underlying41 info89 rfl (by decide) (by omega) sk ks x [.int .i64 x.f0, .int .i64 x.f1, .int .i64 x.f2] (fun k_ => some k_ ≠ (.slice (some adt) lf1.length c16 : Value).ownBlock) (fun _ => False) rfl rfl ?aP (fun _ hk => hk.elim) ?aF ?aO ?aB ?aS ?aL ?_; (case aP => exact k89_mkM _ _ _ x); (case aF => exact (fun k_ hk => Kd.fresh' (Kd.R_lt ST6.out.r16) k_ hk)); (case aO => exact ST6.out.rk); (case aB => exact ST6.out.hb); (case aS => exact ST6.out.hb.size); (case aL => have := HJJ.out; have := HLF.out; omega); intro v1 w8 ho hb hg hat; have ST8 := Aside0.mk (ST6.out.growk ho hb hg hat); clear ho hb hg hat)
                  go_roundg n
                  case measure => omega
                  case rel => exact ⟨j + 1, lo, (ks ++ [x]), _, _, rfl, rfl, by first | rfl | (simp; done) | (rw [HWJ.out]), HN, ⟨⟨by have := HJJ.out; omega, by have := HJJ.out; omega, by have := HJJ.out; simp only [List.length_append, List.length_cons, List.length_nil]; omega⟩⟩, ST8⟩
                · skip
                  have HN := Aside0.mk ((if_pos hL).symm.trans HA1)
                  clear HA1 hL
                  go_wp2_with ((with_reducible refine gate_builtin (b := .append) (xs := #[.tmp 136, .tmp 139]) rfl ?_); (try (refine gate_guard (by rfl) ?_; dsimp only)); at_builtin; refine Kd.R_append (Kd.int .i64) (w0 := w) w.heap.size rfl (.tmp 136) (.tmp 139) 45 3 (.int .i64 0) 8 rfl Try.underlying45 info3 rfl (by decide) (by omega) s15 lo x.f0 [.int .i64 x.f0] (fun k_ => some k_ ≠ (s14 : Value).ownBlock) (fun _ => False) rfl rfl ?aP (fun _ hk => hk.elim) ?aF ?aO ?aB ?aS ?aL ?_; (case aP => exact rfl); (case aF => exact (fun k_ hk => Kd.fresh' (Kd.R_lt ST6.out.r14) k_ hk)); (case aO => exact ST6.out.r15); (case aB => exact ST6.out.hb); (case aS => exact ST6.out.hb.size); (case aL => have := HJJ.out; have := HLF.out; omega); intro v1 w8 ho hb hg hat; have ST8 := Aside0.mk (ST6.out.grow15 ho hb hg hat); clear ho hb hg hat)
                  go_roundg n
                  case measure => omega
                  case rel => exact ⟨j + 1, (lo ++ [x.f0]), ks, _, _, rfl, rfl, by first | rfl | (simp; done) | (rw [HWJ.out]), HN, ⟨⟨by have := HJJ.out; omega, by have := HJJ.out; omega, by have := HJJ.out; simp only [List.length_append, List.length_cons, List.length_nil]; omega⟩⟩, ST8⟩
                · skip
                  have HN := Aside0.mk ((if_pos hL).symm.trans HA1)
                  clear HA1 hL
                  go_wp2_with ((with_reducible refine gate_builtin (b := .append) (xs := #[.tmp 136, .tmp 139]) rfl ?_); (try (refine gate_guard (by rfl) ?_; dsimp only)); at_builtin; refine Kd.R_append (Kd.int .i64) (w0 := w) w.heap.size rfl (.tmp 136) (.tmp 139) 45 3 (.int .i64 0) 8 rfl Try.underlying45 info3 rfl (by decide) (by omega) s15 lo x.f0 [.int .i64 x.f0] (fun k_ => some k_ ≠ (s14 : Value).ownBlock) (fun _ => False) rfl rfl ?aP (fun _ hk => hk.elim) ?aF ?aO ?aB ?aS ?aL ?_; (case aP => exact rfl); (case aF => exact (fun k_ hk => Kd.fresh' (Kd.R_lt ST6.out.r14) k_ hk)); (case aO => exact ST6.out.r15); (case aB => exact ST6.out.hb); (case aS => exact ST6.out.hb.size); (case aL => have := HJJ.out; have := HLF.out; omega); intro v1 w8 ho hb hg hat; have ST8 := Aside0.mk (ST6.out.grow15 ho hb hg hat); clear ho hb hg hat)
                  go_roundg n
                  case measure => omega
                  case rel => exact ⟨j + 1, (lo ++ [x.f0]), ks, _, _, rfl, rfl, by first | rfl | (simp; done) | (rw [HWJ.out]), HN, ⟨⟨by have := HJJ.out; omega, by have := HJJ.out; omega, by have := HJJ.out; simp only [List.length_append, List.length_cons, List.length_nil]; omega⟩⟩, ST8⟩
          | succ n =>
            have HA1 := HA.out
            unfold tk1 at HA1
            clear HA
            have hi2 : i < (sn.length : Int) := by omega
            have hd2 : decide (i < (sn.length : Int)) = true := decide_eq_true hi2
            have HII := Aside0.mk (And.intro hi1 (And.intro hi0 hi3))
            obtain ⟨ads, eA, q0, q1, q2⟩ := at_T89 (Kd.C_below HS.out ST.out.hb) i hi0 hi2
            subst eA
            clear hi1 hi3
            have s0 := eq_true hi0
            have s1 := eq_true hi2
            have HWI := Aside0.mk (show wrap64 (i + 1) = i + 1 from by have := HLN.out; have := HII.out; unfold wrap64; omega)
            generalize rd_T89 sn i = x at q0 q1 q2 HA1
            have hbn : Below wr.heap.size wr (wr.alloc (.cells #[.int .i64 x.f0, .int .i64 x.f1, .int .i64 x.f2] 89 (0, 0))) := below_alloc (Below.refl _ wr) _
            have hbox : (wr.alloc (.cells #[.int .i64 x.f0, .int .i64 x.f1, .int .i64 x.f2] 89 (0, 0))).heap[wr.heap.size]? = some (.cells #[.int .i64 x.f0, .int .i64 x.f1, .int .i64 x.f2] 89 (0, 0)) := blk_new wr _
            obtain ⟨b, hh, HA1⟩ := Option.bind_eq_some_iff.mp HA1
            have HH := Aside0.mk hh
            clear hh
            go_upto_region 10 with (fail)
            have HBOX := Aside0.mk hbox
            have HBN := Aside0.mk hbn
            clear hbox hbn
            revert HBOX HBN
            generalize wr.alloc (.cells #[.int .i64 x.f0, .int .i64 x.f1, .int .i64 x.f2] 89 (0, 0)) = w6
            intro HBOX HBN
            have ST6 := Aside0.mk (ST.out.below HBN.out)
            obtain ⟨y0, y1, y2⟩ := Go.Proofs.Ytpdoplkiaejpiaa.ShortK.cz3 HBOX
            clear q0 q1 q2
            cases b with
            | false =>
              have HN := Aside0.mk ((if_neg (by decide)).symm.trans HA1)
              clear HA1
              go_wp2_with (first
                | (go_at_call 51; refine (spec_l12Has.calls k (some al) cl l x.f0 false _ (Kd.C_below HLR.out ST6.out.hb) HCL.out HH.out).mono ?_; rintro e w7 ⟨rfl, hb⟩; have ST7 := Aside0.mk (ST6.out.below hb); have HBOX7 := Aside0.mk (blk_below HBOX.out hb); clear hb ST6 HBOX HBN y0 y1 y2 HH ST; obtain ⟨y0, y1, y2⟩ := Go.Proofs.Ytpdoplkiaejpiaa.ShortK.cz3 HBOX7)
                | ((with_reducible refine gate_builtin (b := .append) (xs := #[.tmp 76, .tmp 78]) rfl ?_); (try (refine gate_guard (by rfl) ?_; dsimp only)); at_builtin; refine Kd.R_append k89 (w0 := w) w.heap.size rfl (.tmp 76) (.tmp 78) 41 89 (.agg #[(.int .i64 0), (.int .i64 0), (.int .i64 0)]) 24 rfl Try.underlying41 info89 rfl (by decide) (by omega) s16 lf x [.int .i64 x.f0, .int .i64 x.f1, .int .i64 x.f2] (fun k_ => some k_ ≠ (.slice none 0 0 : Value).ownBlock) (fun _ => False) rfl rfl ?aP (fun _ hk => hk.elim) ?aF ?aO ?aB ?aS ?aL ?_; (case aP => exact k89_mkM _ _ _ x); (case aF => exact (fun k_ hk => Kd.fresh' (Kd.R_lt ST7.out.rk) k_ hk)); (case aO => exact ST7.out.r16); (case aB => exact ST7.out.hb); (case aS => exact ST7.out.hb.size); (case aL => have := HII.out; have := HLN.out; omega); intro v1 w8 ho hb hg hat; have ST8 := Aside0.mk (ST7.out.grow16 ho hb hg hat); clear ho hb hg hat))
              go_roundg n
              case measure => omega
              case rel => exact ⟨i + 1, ak, (lf ++ [x]), kn2, la2, mi2, sm2, va2, _, _, rfl, rfl, by first | rfl | (simp; done) | (rw [HWI.out]), HN, ⟨⟨by have := HII.out; omega, by have := HII.out; omega, by have := HII.out; simp only [List.length_append, List.length_cons, List.length_nil]; omega⟩⟩, ST8⟩
            | true =>
              have HA2 := (if_pos rfl).symm.trans HA1
              clear HA1
              go_wp2_with (first
                | (go_at_call 51; refine (spec_l12Has.calls k (some al) cl l x.f0 true _ (Kd.C_below HLR.out ST6.out.hb) HCL.out HH.out).mono ?_; rintro e w7 ⟨rfl, hb⟩; have ST7 := Aside0.mk (ST6.out.below hb); have HBOX7 := Aside0.mk (blk_below HBOX.out hb); clear hb ST6 HBOX HBN y0 y1 y2 HH ST; obtain ⟨y0, y1, y2⟩ := Go.Proofs.Ytpdoplkiaejpiaa.ShortK.cz3 HBOX7)
                | ((with_reducible refine gate_builtin (b := .append) (xs := #[.tmp 80, .tmp 83]) rfl ?_); (try (refine gate_guard (by rfl) ?_; dsimp only)); at_builtin; refine Kd.R_append (Kd.int .i64) (w0 := w) w.heap.size rfl (.tmp 80) (.tmp 83) 45 3 (.int .i64 0) 8 rfl Try.underlying45 info3 rfl (by decide) (by omega) s14 ak x.f0 [.int .i64 x.f0] (fun k_ => some k_ ≠ (.slice none 0 0 : Value).ownBlock) (fun _ => False) rfl rfl ?aP (fun _ hk => hk.elim) ?aF ?aO ?aB ?aS ?aL ?_; (case aP => exact rfl); (case aF => exact (fun k_ hk => Kd.fresh' (Kd.R_lt ST7.out.r15) k_ hk)); (case aO => exact ST7.out.r14); (case aB => exact ST7.out.hb); (case aS => exact ST7.out.hb.size); (case aL => have := HII.out; have := HLN.out; omega); intro v1 w8 ho hb hg hat; have ST8 := Aside0.mk (ST7.out.grow14 ho hb hg hat); have HBOX8 := Aside0.mk (blk_grown HBOX7.out hg (Kd.R_ne ST7.out.r14 HBOX7.out (by decide))); clear ho hb hg hat ST7 HBOX7 y0 y1 y2; obtain ⟨y0, y1, y2⟩ := Go.Proofs.Ytpdoplkiaejpiaa.ShortK.cz3 HBOX8))
              have t1 : w8.cell? ⟨al.block, al.off + 1, none⟩ = some (.int .i64 (rd_T92 l 0).f1) := cb_ hy0 ST8.out.hb
              refine region_quiet (C := fun w' => w'.cell? ⟨wr.heap.size, 0, none⟩ = some (.int .i64 x.f0) ∧ w'.cell? ⟨al.block, al.off + 1, none⟩ = some (.int .i64 (rd_T92 l 0).f1) ∧ Aside0 (w'.heap[wr.heap.size]? = some (.cells #[.int .i64 x.f0, .int .i64 x.f1, .int .i64 x.f2] 89 (0, 0))) ∧ Aside0 (St w w' g8 g8 g4 zsp #[.int .i64 (mx lg (rd_T92 l 0).f1), .slice (some ads) sn.length cs, .bool kn2, .int .i64 la2, .int .i64 mi2, .int .i64 sm2, .int .i64 va2] v1 (.slice none 0 0) s16 (.slice none 0 0) (ak ++ [x.f0]) [] lf [])) (by kernel_rfl) (by kernel_rfl) ?hC ?_
              case hC => exact ⟨cb_ y0 (below_drew (Below.refl _ w8)), cb_ t1 (below_drew (Below.refl _ w8)), ⟨blk_below HBOX8.out (below_drew (Below.refl _ w8))⟩, ⟨ST8.out.below (below_drew (Below.refl _ w8))⟩⟩
              repeat (first
                | go_big_quiet_skip
                | (go_big_quiet_want; refine quiet_op (v := ?_) ?_ ?_; rotate_left 1; (· (rintro w' ⟨x0, x1, -, -⟩; go_simp; with_reducible rfl)); simp only [Act.put, List.setIfInBounds_toArray, List.set_cons_zero, List.set_cons_succ, i64_w, i32_w]; go_big_quiet_on))
              refine wpQuiet_nil ?_
              clear y0 y1 y2 t1 ST8 HBOX8
              rintro w9 ⟨-, -, HBOX9, ST9⟩
              obtain ⟨y0, y1, y2⟩ := Go.Proofs.Ytpdoplkiaejpiaa.ShortK.cz3 HBOX9
              by_cases ht : x.f0 = (rd_T92 l 0).f1
              · skip
                have htd : (x.f0 == (rd_T92 l 0).f1) = true := beq_iff_eq.mpr ht
                obtain ⟨⟨kn3, la3, mi3, sm3, va3⟩, hs1, HA2⟩ := Option.bind_eq_some_iff.mp ((if_pos ht).symm.trans HA2)
                have HSA := Aside0.mk hs1
                have HN := Aside0.mk HA2
                clear hs1 HA2
                obtain ⟨m0, m1, m2, m3, m4, m5, m6⟩ := Go.Proofs.Ytpdoplkiaejpiaa.ShortK.cz7 ⟨ST9.out.b13⟩
                go_wp2_with (go_at_call 52; refine (spec_l12Sample.calls k kn2 la2 mi2 sm2 va2 _ dl kn3 la3 mi3 sm3 va3 _ HSA.out).mono ?_; rintro e w10 ⟨rfl, hb⟩; have ST10 := Aside0.mk (ST9.out.below hb); clear hb ST9 HBOX9 y0 y1 y2 m0 m1 m2 m3 m4 m5 m6; obtain ⟨m0, m1, m2, m3, m4, m5, m6⟩ := Go.Proofs.Ytpdoplkiaejpiaa.ShortK.cz7 ⟨ST10.out.b13⟩; obtain ⟨f0, f1, f2, f3, f4, f5, f6⟩ := Go.Proofs.Ytpdoplkiaejpiaa.ShortK.fz7 ⟨ST10.out.b13⟩)
                go_roundg n
                case measure => omega
                case rel => exact ⟨i + 1, (ak ++ [x.f0]), lf, kn3, la3, mi3, sm3, va3, _, _, rfl, rfl, by first | rfl | (simp; done) | (rw [HWI.out]), HN, ⟨⟨by have := HII.out; omega, by have := HII.out; omega, by have := HII.out; simp only [List.length_append, List.length_cons, List.length_nil]; omega⟩⟩, ⟨((((ST10.out.put13 2 _ rfl).put13 3 _ rfl).put13 4 _ rfl).put13 5 _ rfl).put13 6 _ rfl⟩⟩
              · skip
                have htd : (x.f0 == (rd_T92 l 0).f1) = false := beq_eq_false_iff_ne.mpr ht
                have HN := Aside0.mk ((if_neg ht).symm.trans HA2)
                clear HA2
                go_wp2
                go_roundg n
                case measure => omega
                case rel => exact ⟨i + 1, (ak ++ [x.f0]), lf, kn2, la2, mi2, sm2, va2, _, _, rfl, rfl, by first | rfl | (simp; done) | (rw [HWI.out]), HN, ⟨⟨by have := HII.out; omega, by have := HII.out; omega, by have := HII.out; simp only [List.length_append, List.length_cons, List.length_nil]; omega⟩⟩, ST9⟩

      · have hmx : mx lg (rd_T92 l 0).f1 = lg := if_neg hm
        have hm2 := decide_eq_false hm
        go_wp2_with fail
        refine region_quiet (C := fun w' => w'.cell? ⟨al.block, al.off + 1, none⟩ = some (.int .i64 (rd_T92 l 0).f1) ∧ w'.cell? ⟨g4, 0, none⟩ = some (.int .i64 lg) ∧ Aside0 (w'.heap[g4]? = some (.cells #[.int .i64 lg, .slice As sn.length cs, .bool kn, .int .i64 la, .int .i64 mi, .int .i64 sm, .int .i64 va] 44 (0, 0))) ∧ Aside0 (w'.heap[g8]? = some (.cells zsp 44 (0, 0))) ∧ Aside0 (Below w.heap.size w w')) (by kernel_rfl) (by kernel_rfl) ?hC ?_
        case hC => exact ⟨cb_ hy1 (below_drew (Below.refl _ wc)), cb_ z0 (below_drew (Below.refl _ wc)), ⟨blk_below Q4.out (below_drew (Below.refl _ wc))⟩, ⟨blk_below Q8.out (below_drew (Below.refl _ wc))⟩, ⟨below_drew HB.out⟩⟩
        repeat (first
          | go_big_quiet_skip
          | (go_big_quiet_want; refine quiet_op (v := ?_) ?_ ?_; rotate_left 1; (· (rintro w' ⟨x0, x1, -, -, -⟩; go_simp; with_reducible rfl)); simp only [Act.put, List.setIfInBounds_toArray, List.set_cons_zero, List.set_cons_succ, i64_w, i32_w]; go_big_quiet_on))
        refine wpQuiet_nil ?_
        clear z0 z1 z2 z3 z4 z5 z6 hy1 Q4 Q8 HB
        rintro W ⟨hy1, -, Q4, Q8, HB⟩
        go_upto_region 5 with (fail)
        have ST := Aside0.mk (show St w W g8 g8 g4 zsp #[.int .i64 (mx lg (rd_T92 l 0).f1), .slice As sn.length cs, .bool kn, .int .i64 la, .int .i64 mi, .int .i64 sm, .int .i64 va] (.slice none 0 0) (.slice none 0 0) (.slice none 0 0) (.slice none 0 0) [] [] [] [] from
          ⟨HB.out, Q8.out, Q8.out, (by rw [hmx]; exact Q4.out), Kd.R_nil _ _ _ _ _, Kd.R_nil _ _ _ _ _, Kd.R_nil _ _ _ _ _, Kd.R_nil _ _ _ _ _, N4.out, N8.out, D84.out, D84.out⟩)
        clear hy1 Q4 Q8 HB hmx hm hm2
        obtain ⟨m0, m1, m2, m3, m4, m5, m6⟩ := Go.Proofs.Ytpdoplkiaejpiaa.ShortK.cz7 ⟨ST.out.b13⟩
        go_wp2_with fail
        go_loopg [12, 14, 67] sn.length (fun kq v12 v14 v67 w' => ∃ (i : Int) (ak : List Int) (lf : List S89) (kn2 : Bool) (la2 mi2 sm2 va2 : Int) (s14 s16 : Value), s14 = v12 ∧ s16 = v14 ∧ v67 = .int .i64 i ∧ Aside0 (tk1 (fun x => spec_l12Has.f k l x) (fun rt d => spec_l12Sample.f k rt.1 rt.2.1 rt.2.2.1 rt.2.2.2.1 rt.2.2.2.2 d dl) (rd_T92 l 0).f1 now sn kq i ak lf (kn2, la2, mi2, sm2, va2) = some (ak1, lf1, kn1, la1, mi1, sm1, va1)) ∧ Aside0 (i + kq = (sn.length : Int) ∧ 0 ≤ i ∧ ak.length + lf.length = i.toNat) ∧ Aside0 (St w w' g8 g8 g4 zsp #[.int .i64 (mx lg (rd_T92 l 0).f1), .slice As sn.length cs, .bool kn2, .int .i64 la2, .int .i64 mi2, .int .i64 sm2, .int .i64 va2] s14 (.slice none 0 0) s16 (.slice none 0 0) ak [] lf []))
        case atStart => exact ⟨0, [], [], kn, la, mi, sm, va, _, _, rfl, rfl, rfl, HK1, ⟨⟨by omega, by omega, rfl⟩⟩, ST⟩
        case round =>
          clear HK1 ST m0 m1 m2 m3 m4 m5 m6
          obtain ⟨i, ak, lf, kn2, la2, mi2, sm2, va2, s14, s16, rfl, rfl, rfl, HA, HI, ST⟩ := hrel
          obtain ⟨hi1, hi0, hi3⟩ := HI.out
          clear HI
          cases gk with
          | zero =>
            have hd2 : decide (i < (sn.length : Int)) = false := decide_eq_false (by omega)
            have H := (Option.some.inj HA.out).symm
            have hlen := HLN.out.1
            clear HA
            injection H with e1 H
            injection H with e2 H
            injection H with e3 H
            injection H with e4 H
            injection H with e5 H
            injection H with e6 e7
            subst e1 e2 e3 e4 e5 e6 e7
            have hlf : lf1.length ≤ 4000000 := by omega
            clear hi1 hi0 hi3 hlen
            obtain ⟨A16, c16, e16⟩ := Kd.R_slice ST.out.r16
            subst e16
            have HLF := Aside0.mk (show lf1.length ≤ 4000000 from hlf)
            obtain ⟨wt, hwt, hM⟩ := Option.bind_eq_some_iff.mp HM2.out
            have HW := Aside0.mk hwt
            obtain ⟨⟨lo1, ks1⟩, hk2, hM⟩ := Option.bind_eq_some_iff.mp hM
            have HK2 := Aside0.mk hk2
            have HE := Aside0.mk hM
            clear hk2 hM hwt HM2
            obtain ⟨m0, m1, m2, m3, m4, m5, m6⟩ := Go.Proofs.Ytpdoplkiaejpiaa.ShortK.cz7 ⟨ST.out.b13⟩
            go_wp2_with (go_at_call 53; refine (spec_l12Wait.calls k kn1 la1 mi1 sm1 va1 wt _ HW.out).mono ?_; rintro e w10 ⟨rfl, hb⟩; have ST10 := Aside0.mk (ST.out.below hb); clear hb ST m0 m1 m2 m3 m4 m5 m6 HW)
            go_loopg [13, 15, 107] lf1.length (fun kq v13 v15 v107 w' => ∃ (j : Int) (lo : List Int) (ks : List S89) (s15 sk : Value), s15 = v13 ∧ sk = v15 ∧ v107 = .int .i64 j ∧ Aside0 (tk2 (fun x => some (lostS (mx lg (rd_T92 l 0).f1) wt now x)) lf1 kq j lo ks = some (lo1, ks1)) ∧ Aside0 (j + kq = (lf1.length : Int) ∧ 0 ≤ j ∧ lo.length + ks.length = j.toNat) ∧ Aside0 (St w w' g8 g8 g4 zsp #[.int .i64 (mx lg (rd_T92 l 0).f1), .slice As sn.length cs, .bool kn1, .int .i64 la1, .int .i64 mi1, .int .i64 sm1, .int .i64 va1] s14 (s15) (.slice A16 lf1.length c16) (sk) ak1 lo lf1 ks))
            case atStart => exact ⟨0, [], [], _, _, rfl, rfl, rfl, HK2, ⟨⟨by omega, by omega, rfl⟩⟩, ST10⟩
            case round =>
              clear ST10 HK2
              obtain ⟨j, lo, ks, s15, sk, rfl, rfl, rfl, HA, HJ, ST⟩ := hrel
              obtain ⟨hj1, hj0, hj3⟩ := HJ.out
              clear HJ
              cases gk with
              | zero =>
                have hd2 : decide (j < (lf1.length : Int)) = false := decide_eq_false (by omega)
                have H2 := (Option.some.inj HA.out).symm
                clear HA hj1 hj0 hj3
                injection H2 with e1 e2
                subst e1 e2
                have H := HE.out
                have hE := Option.some.inj H
                obtain rfl := congrArg (fun t => t.1) hE
                obtain rfl := congrArg (fun t => t.2.1) hE
                obtain rfl := congrArg (fun t => t.2.2.1) hE
                obtain rfl := congrArg (fun t => t.2.2.2.1) hE
                obtain rfl := congrArg (fun t => t.2.2.2.2.1) hE
                obtain rfl := congrArg (fun t => t.2.2.2.2.2.1) hE
                obtain rfl := congrArg (fun t => t.2.2.2.2.2.2.1) hE
                obtain rfl := congrArg (fun t => t.2.2.2.2.2.2.2.1) hE
                obtain rfl := congrArg (fun t => t.2.2.2.2.2.2.2.2.1) hE
                obtain rfl := congrArg (fun t => t.2.2.2.2.2.2.2.2.2) hE
                clear H hE
                obtain ⟨Ak, ck, ek⟩ := Kd.R_slice ST.out.rk
                subst ek
                obtain ⟨m0, m1, m2, m3, m4, m5, m6⟩ := Go.Proofs.Ytpdoplkiaejpiaa.ShortK.cz7 ⟨ST.out.b13⟩
                obtain ⟨h0, h1, h2, h3, h4, h5, h6⟩ := Go.Proofs.Ytpdoplkiaejpiaa.ShortK.fz7 ⟨ST.out.b13⟩
                have b8 : Aside0 (wr.heap[g8]? = some (.cells #[.int .i64 0, .slice none 0 0, .bool false, .int .i64 0, .int .i64 0, .int .i64 0, .int .i64 0] 44 (0, 0))) := ⟨ST.out.b8⟩
                obtain ⟨y0, y1, y2, y3, y4, y5, y6⟩ := Go.Proofs.Ytpdoplkiaejpiaa.ShortK.cz7 b8
                obtain ⟨f0, f1, f2, f3, f4, f5, f6⟩ := Go.Proofs.Ytpdoplkiaejpiaa.ShortK.fz7 b8
                have n1 := D84.out
                have n2 := Ne.symm D84.out
                have STF := Aside0.mk (ST.out.put13 1 (.slice Ak ks1.length ck) (c := #[.int .i64 (mx lg (rd_T92 l 0).f1), .slice Ak ks1.length ck, .bool kn1, .int .i64 la1, .int .i64 mi1, .int .i64 sm1, .int .i64 va1]) rfl)
                go_wp2
                refine bodyPost_ret (results_list (rs := [.cell 8 44, .tmp 9, .tmp 10, .tmp 11]) rfl (by simp) (.cell g8 44 #[.int .i64 (mx lg (rd_T92 l 0).f1), .slice Ak ks1.length ck, .bool kn1, .int .i64 la1, .int .i64 mi1, .int .i64 sm1, .int .i64 va1] (0, 0) _ rfl (set7_blk STF.out.b8 _ _ _ _ _ _ _) Try.underlying44 rfl (by kernel_rfl) (.tmp (.tmp (.tmp .nil))))) rfl ?_
                exact ⟨_, _, _, rfl, Kd.R_mono (set7_R STF.out.rk STF.out.b8 (by decide) _ _ _ _ _ _ _) (fun _ _ => trivial), set7_R STF.out.r14 STF.out.b8 (by decide) _ _ _ _ _ _ _, set7_R STF.out.r15 STF.out.b8 (by decide) _ _ _ _ _ _ _, set7_below STF.out.hb STF.out.n8 _ _ _ _ _ _ _⟩
              | succ n =>
                have HA1 := HA.out
                unfold tk2 at HA1
                clear HA
                have hj2 : j < (lf1.length : Int) := by omega
                have hd2 : decide (j < (lf1.length : Int)) = true := decide_eq_true hj2
                have HJJ := Aside0.mk (And.intro hj1 (And.intro hj0 hj3))
                obtain ⟨adt, eA, q0, q1, q2⟩ := at_T89 (Kd.R_reads' ST.out.r16).2.2 j hj0 hj2
                subst eA
                clear hj1 hj3
                have s0 := eq_true hj0
                have s1 := eq_true hj2
                have HWJ := Aside0.mk (show wrap64 (j + 1) = j + 1 from by unfold wrap64; have := HLF.out; have := HJJ.out; omega)
                generalize rd_T89 lf1 j = x at q0 q1 q2 HA1
                have hbn : Below wr.heap.size wr (wr.alloc (.cells #[.int .i64 x.f0, .int .i64 x.f1, .int .i64 x.f2] 89 (0, 0))) := below_alloc (Below.refl _ wr) _
                have hbox : (wr.alloc (.cells #[.int .i64 x.f0, .int .i64 x.f1, .int .i64 x.f2] 89 (0, 0))).heap[wr.heap.size]? = some (.cells #[.int .i64 x.f0, .int .i64 x.f1, .int .i64 x.f2] 89 (0, 0)) := blk_new wr _
                have HA1 := HA1
                simp only [Option.bind_some] at HA1
                go_upto_region 20 with (fail)
                have HBOX := Aside0.mk hbox
                have HBN := Aside0.mk hbn
                clear hbox hbn
                revert HBOX HBN
                generalize wr.alloc (.cells #[.int .i64 x.f0, .int .i64 x.f1, .int .i64 x.f2] 89 (0, 0)) = w6
                intro HBOX HBN
                have ST6 := Aside0.mk (ST.out.below HBN.out)
                obtain ⟨y0, y1, y2⟩ := Go.Proofs.Ytpdoplkiaejpiaa.ShortK.cz3 HBOX
                clear q0 q1 q2
                obtain ⟨m0, m1, m2, m3, m4, m5, m6⟩ := Go.Proofs.Ytpdoplkiaejpiaa.ShortK.cz7 ⟨ST6.out.b13⟩
                have hcases : (lostS (mx lg (rd_T92 l 0).f1) wt now x = false ∧ (decide (x.f0 < (mx lg (rd_T92 l 0).f1)) = false ∨ (decide (x.f0 < (mx lg (rd_T92 l 0).f1)) = true ∧ decide (x.f0 ≤ wrap64 ((mx lg (rd_T92 l 0).f1) - 3)) = false ∧ (decide (0 ≤ wt) = false ∨ (decide (0 ≤ wt) = true ∧ decide (x.f1 ≤ wrap64 (now - wt)) = false))))) ∨ (lostS (mx lg (rd_T92 l 0).f1) wt now x = true ∧ decide (x.f0 < (mx lg (rd_T92 l 0).f1)) = true ∧ (decide (x.f0 ≤ wrap64 ((mx lg (rd_T92 l 0).f1) - 3)) = true ∨ (decide (x.f0 ≤ wrap64 ((mx lg (rd_T92 l 0).f1) - 3)) = false ∧ decide (0 ≤ wt) = true ∧ decide (x.f1 ≤ wrap64 (now - wt)) = true))) := by
                  unfold lostS
                  cases decide (x.f0 < (mx lg (rd_T92 l 0).f1)) <;> cases decide (x.f0 ≤ wrap64 ((mx lg (rd_T92 l 0).f1) - 3)) <;> cases decide (0 ≤ wt) <;> cases decide (x.f1 ≤ wrap64 (now - wt)) <;> simp
                rcases hcases with ⟨hL, h1 | ⟨h1, h2, h3 | ⟨h3, h4⟩⟩⟩ | ⟨hL, h1, h2 | ⟨h2, h3, h4⟩⟩
                · skip
                  have HN := Aside0.mk ((if_neg (by rw [hL]; decide)).symm.trans HA1)
                  clear HA1 hL
                  go_wp2_with ((with_reducible refine gate_builtin (b := .append) (xs := #[.tmp 141, .tmp 143]) rfl ?_); (try (refine gate_guard (by rfl) ?_; dsimp only)); at_builtin; refine Kd.R_append k89 (w0 := w) w.heap.size rfl (.tmp 141) (.tmp 143) 41 89 (.agg #[(.int .i64 0), (.int .i64 0), (.int .i64 0)]) 24 rfl Try.underlying41 info89 rfl (by decide) (by omega) sk ks x [.int .i64 x.f0, .int .i64 x.f1, .int .i64 x.f2] (fun k_ => some k_ ≠ (.slice (some adt) lf1.length c16 : Value).ownBlock) (fun _ => False) rfl rfl ?aP (fun _ hk => hk.elim) ?aF ?aO ?aB ?aS ?aL ?_; (case aP => exact k89_mkM _ _ _ x); (case aF => exact (fun k_ hk => Kd.fresh' (Kd.R_lt ST6.out.r16) k_ hk)); (case aO => exact ST6.out.rk); (case aB => exact ST6.out.hb); (case aS => exact ST6.out.hb.size); (case aL => have := HJJ.out; have := HLF.out; omega); intro v1 w8 ho hb hg hat; have ST8 := Aside0.mk (ST6.out.growk ho hb hg hat); clear ho hb hg hat)
                  go_roundg n
                  case measure => omega
                  case rel => exact ⟨j + 1, lo, (ks ++ [x]), _, _, rfl, rfl, by first | rfl | (simp; done) | (rw [HWJ.out]), HN, ⟨⟨by have := HJJ.out; omega, by have := HJJ.out; omega, by have := HJJ.out; simp only [List.length_append, List.length_cons, List.length_nil]; omega⟩⟩, ST8⟩
                · skip
                  have HN := Aside0.mk ((if_neg (by rw [hL]; decide)).symm.trans HA1)
                  clear HA1 hL
                  go_wp2_with ((with_reducible refine gate_builtin (b := .append) (xs := #[.tmp 141, .tmp 143]) rfl ?_); (try (refine gate_guard (by rfl) ?_; dsimp only)); at_builtin; refine Kd.R_append k89 (w0 := w) w.heap.size rfl (.tmp 141) (.tmp 143) 41 89 (.agg #[(.int .i64 0), (.int .i64 0), (.int .i64 0)]) 24 rfl Try.underlying41 info89 rfl (by decide) (by omega) sk ks x [.int .i64 x.f0, .int .i64 x.f1, .int .i64 x.f2] (fun k_ => some k_ ≠ (.slice (some adt) lf1.length c16 : Value).ownBlock) (fun _ => False) rfl rfl ?aP (fun _ hk => hk.elim) ?aF ?aO ?aB ?aS ?aL ?_; (case aP => exact k89_mkM _ _ _ x); (case aF => exact (fun k_ hk => Kd.fresh' (Kd.R_lt ST6.out.r16) k_ hk)); (case aO => exact ST6.out.rk); (case aB => exact ST6.out.hb); (case aS => exact ST6.out.hb.size); (case aL => have := HJJ.out; have := HLF.out; omega); intro v1 w8 ho hb hg hat; have ST8 := Aside0.mk (ST6.out.growk ho hb hg hat); clear ho hb hg hat)
                  go_roundg n
                  case measure => omega
                  case rel => exact ⟨j + 1, lo, (ks ++ [x]), _, _, rfl, rfl, by first | rfl | (simp; done) | (rw [HWJ.out]), HN, ⟨⟨by have := HJJ.out; omega, by have := HJJ.out; omega, by have := HJJ.out; simp only [List.length_append, List.length_cons, List.length_nil]; omega⟩⟩, ST8⟩
                · skip
                  have HN := Aside0.mk ((if_neg (by rw [hL]; decide)).symm.trans HA1)
                  clear HA1 hL
                  go_wp2_with ((with_reducible refine gate_builtin (b := .append) (xs := #[.tmp 141, .tmp 143]) rfl ?_); (try (refine gate_guard (by rfl) ?_; dsimp only)); at_builtin; refine Kd.R_append k89 (w0 := w) w.heap.size rfl (.tmp 141) (.tmp 143) 41 89 (.agg #[(.int .i64 0), (.int .i64 0), (.int .i64 0)]) 24 rfl Try.underlying41 info89 rfl (by decide) (by omega) sk ks x [.int .i64 x.f0, .int .i64 x.f1, .int .i64 x.f2] (fun k_ => some k_ ≠ (.slice (some adt) lf1.length c16 : Value).ownBlock) (fun _ => False) rfl rfl ?aP (fun _ hk => hk.elim) ?aF ?aO ?aB ?aS ?aL ?_; (case aP => exact k89_mkM _ _ _ x); (case aF => exact (fun k_ hk => Kd.fresh' (Kd.R_lt ST6.out.r16) k_ hk)); (case aO => exact ST6.out.rk); (case aB => exact ST6.out.hb); (case aS => exact ST6.out.hb.size); (case aL => have := HJJ.out; have := HLF.out; omega); intro v1 w8 ho hb hg hat; have ST8 := Aside0.mk (ST6.out.growk ho hb hg hat); clear ho hb hg hat)
                  go_roundg n
                  case measure => omega
                  case rel => exact ⟨j + 1, lo, (ks ++ [x]), _, _, rfl, rfl, by first | rfl | (simp; done) | (rw [HWJ.out]), HN, ⟨⟨by have := HJJ.out; omega, by have := HJJ.out; omega, by have := HJJ.out; simp only [List.length_append, List.length_cons, List.length_nil]; omega⟩⟩, ST8⟩
                · skip
                  have HN := Aside0.mk ((if_pos hL).symm.trans HA1)
                  clear HA1 hL
                  go_wp2_with ((with_reducible refine gate_builtin (b := .append) (xs := #[.tmp 136, .tmp 139]) rfl ?_); (try (refine gate_guard (by rfl) ?_; dsimp only)); at_builtin; refine Kd.R_append (Kd.int .i64) (w0 := w) w.heap.size rfl (.tmp 136) (.tmp 139) 45 3 (.int .i64 0) 8 rfl Try.underlying45 info3 rfl (by decide) (by omega) s15 lo x.f0 [.int .i64 x.f0] (fun k_ => some k_ ≠ (s14 : Value).ownBlock) (fun _ => False) rfl rfl ?aP (fun _ hk => hk.elim) ?aF ?aO ?aB ?aS ?aL ?_; (case aP => exact rfl); (case aF => exact (fun k_ hk => Kd.fresh' (Kd.R_lt ST6.out.r14) k_ hk)); (case aO => exact ST6.out.r15); (case aB => exact ST6.out.hb); (case aS => exact ST6.out.hb.size); (case aL => have := HJJ.out; have := HLF.out; omega); intro v1 w8 ho hb hg hat; have ST8 := Aside0.mk (ST6.out.grow15 ho hb hg hat); clear ho hb hg hat)
                  go_roundg n
                  case measure => omega
                  case rel => exact ⟨j + 1, (lo ++ [x.f0]), ks, _, _, rfl, rfl, by first | rfl | (simp; done) | (rw [HWJ.out]), HN, ⟨⟨by have := HJJ.out; omega, by have := HJJ.out; omega, by have := HJJ.out; simp only [List.length_append, List.length_cons, List.length_nil]; omega⟩⟩, ST8⟩
                · skip
                  have HN := Aside0.mk ((if_pos hL).symm.trans HA1)
                  clear HA1 hL
                  go_wp2_with ((with_reducible refine gate_builtin (b := .append) (xs := #[.tmp 136, .tmp 139]) rfl ?_); (try (refine gate_guard (by rfl) ?_; dsimp only)); at_builtin; refine Kd.R_append (Kd.int .i64) (w0 := w) w.heap.size rfl (.tmp 136) (.tmp 139) 45 3 (.int .i64 0) 8 rfl Try.underlying45 info3 rfl (by decide) (by omega) s15 lo x.f0 [.int .i64 x.f0] (fun k_ => some k_ ≠ (s14 : Value).ownBlock) (fun _ => False) rfl rfl ?aP (fun _ hk => hk.elim) ?aF ?aO ?aB ?aS ?aL ?_; (case aP => exact rfl); (case aF => exact (fun k_ hk => Kd.fresh' (Kd.R_lt ST6.out.r14) k_ hk)); (case aO => exact ST6.out.r15); (case aB => exact ST6.out.hb); (case aS => exact ST6.out.hb.size); (case aL => have := HJJ.out; have := HLF.out; omega); intro v1 w8 ho hb hg hat; have ST8 := Aside0.mk (ST6.out.grow15 ho hb hg hat); clear ho hb hg hat)
                  go_roundg n
                  case measure => omega
                  case rel => exact ⟨j + 1, (lo ++ [x.f0]), ks, _, _, rfl, rfl, by first | rfl | (simp; done) | (rw [HWJ.out]), HN, ⟨⟨by have := HJJ.out; omega, by have := HJJ.out; omega, by have := HJJ.out; simp only [List.length_append, List.length_cons, List.length_nil]; omega⟩⟩, ST8⟩
          | succ n =>
            have HA1 := HA.out
            unfold tk1 at HA1
            clear HA
            have hi2 : i < (sn.length : Int) := by omega
            have hd2 : decide (i < (sn.length : Int)) = true := decide_eq_true hi2
            have HII := Aside0.mk (And.intro hi1 (And.intro hi0 hi3))
            obtain ⟨ads, eA, q0, q1, q2⟩ := at_T89 (Kd.C_below HS.out ST.out.hb) i hi0 hi2
            subst eA
            clear hi1 hi3
            have s0 := eq_true hi0
            have s1 := eq_true hi2
            have HWI := Aside0.mk (show wrap64 (i + 1) = i + 1 from by have := HLN.out; have := HII.out; unfold wrap64; omega)
            generalize rd_T89 sn i = x at q0 q1 q2 HA1
            have hbn : Below wr.heap.size wr (wr.alloc (.cells #[.int .i64 x.f0, .int .i64 x.f1, .int .i64 x.f2] 89 (0, 0))) := below_alloc (Below.refl _ wr) _
            have hbox : (wr.alloc (.cells #[.int .i64 x.f0, .int .i64 x.f1, .int .i64 x.f2] 89 (0, 0))).heap[wr.heap.size]? = some (.cells #[.int .i64 x.f0, .int .i64 x.f1, .int .i64 x.f2] 89 (0, 0)) := blk_new wr _
            obtain ⟨b, hh, HA1⟩ := Option.bind_eq_some_iff.mp HA1
            have HH := Aside0.mk hh
            clear hh
            go_upto_region 10 with (fail)
            have HBOX := Aside0.mk hbox
            have HBN := Aside0.mk hbn
            clear hbox hbn
            revert HBOX HBN
            generalize wr.alloc (.cells #[.int .i64 x.f0, .int .i64 x.f1, .int .i64 x.f2] 89 (0, 0)) = w6
            intro HBOX HBN
            have ST6 := Aside0.mk (ST.out.below HBN.out)
            obtain ⟨y0, y1, y2⟩ := Go.Proofs.Ytpdoplkiaejpiaa.ShortK.cz3 HBOX
            clear q0 q1 q2
            cases b with
            | false =>
              have HN := Aside0.mk ((if_neg (by decide)).symm.trans HA1)
              clear HA1
              go_wp2_with (first
                | (go_at_call 51; refine (spec_l12Has.calls k (some al) cl l x.f0 false _ (Kd.C_below HLR.out ST6.out.hb) HCL.out HH.out).mono ?_; rintro e w7 ⟨rfl, hb⟩; have ST7 := Aside0.mk (ST6.out.below hb); have HBOX7 := Aside0.mk (blk_below HBOX.out hb); clear hb ST6 HBOX HBN y0 y1 y2 HH ST; obtain ⟨y0, y1, y2⟩ := Go.Proofs.Ytpdoplkiaejpiaa.ShortK.cz3 HBOX7)
                | ((with_reducible refine gate_builtin (b := .append) (xs := #[.tmp 76, .tmp 78]) rfl ?_); (try (refine gate_guard (by rfl) ?_; dsimp only)); at_builtin; refine Kd.R_append k89 (w0 := w) w.heap.size rfl (.tmp 76) (.tmp 78) 41 89 (.agg #[(.int .i64 0), (.int .i64 0), (.int .i64 0)]) 24 rfl Try.underlying41 info89 rfl (by decide) (by omega) s16 lf x [.int .i64 x.f0, .int .i64 x.f1, .int .i64 x.f2] (fun k_ => some k_ ≠ (.slice none 0 0 : Value).ownBlock) (fun _ => False) rfl rfl ?aP (fun _ hk => hk.elim) ?aF ?aO ?aB ?aS ?aL ?_; (case aP => exact k89_mkM _ _ _ x); (case aF => exact (fun k_ hk => Kd.fresh' (Kd.R_lt ST7.out.rk) k_ hk)); (case aO => exact ST7.out.r16); (case aB => exact ST7.out.hb); (case aS => exact ST7.out.hb.size); (case aL => have := HII.out; have := HLN.out; omega); intro v1 w8 ho hb hg hat; have ST8 := Aside0.mk (ST7.out.grow16 ho hb hg hat); clear ho hb hg hat))
              go_roundg n
              case measure => omega
              case rel => exact ⟨i + 1, ak, (lf ++ [x]), kn2, la2, mi2, sm2, va2, _, _, rfl, rfl, by first | rfl | (simp; done) | (rw [HWI.out]), HN, ⟨⟨by have := HII.out; omega, by have := HII.out; omega, by have := HII.out; simp only [List.length_append, List.length_cons, List.length_nil]; omega⟩⟩, ST8⟩
            | true =>
              have HA2 := (if_pos rfl).symm.trans HA1
              clear HA1
              go_wp2_with (first
                | (go_at_call 51; refine (spec_l12Has.calls k (some al) cl l x.f0 true _ (Kd.C_below HLR.out ST6.out.hb) HCL.out HH.out).mono ?_; rintro e w7 ⟨rfl, hb⟩; have ST7 := Aside0.mk (ST6.out.below hb); have HBOX7 := Aside0.mk (blk_below HBOX.out hb); clear hb ST6 HBOX HBN y0 y1 y2 HH ST; obtain ⟨y0, y1, y2⟩ := Go.Proofs.Ytpdoplkiaejpiaa.ShortK.cz3 HBOX7)
                | ((with_reducible refine gate_builtin (b := .append) (xs := #[.tmp 80, .tmp 83]) rfl ?_); (try (refine gate_guard (by rfl) ?_; dsimp only)); at_builtin; refine Kd.R_append (Kd.int .i64) (w0 := w) w.heap.size rfl (.tmp 80) (.tmp 83) 45 3 (.int .i64 0) 8 rfl Try.underlying45 info3 rfl (by decide) (by omega) s14 ak x.f0 [.int .i64 x.f0] (fun k_ => some k_ ≠ (.slice none 0 0 : Value).ownBlock) (fun _ => False) rfl rfl ?aP (fun _ hk => hk.elim) ?aF ?aO ?aB ?aS ?aL ?_; (case aP => exact rfl); (case aF => exact (fun k_ hk => Kd.fresh' (Kd.R_lt ST7.out.r15) k_ hk)); (case aO => exact ST7.out.r14); (case aB => exact ST7.out.hb); (case aS => exact ST7.out.hb.size); (case aL => have := HII.out; have := HLN.out; omega); intro v1 w8 ho hb hg hat; have ST8 := Aside0.mk (ST7.out.grow14 ho hb hg hat); have HBOX8 := Aside0.mk (blk_grown HBOX7.out hg (Kd.R_ne ST7.out.r14 HBOX7.out (by decide))); clear ho hb hg hat ST7 HBOX7 y0 y1 y2; obtain ⟨y0, y1, y2⟩ := Go.Proofs.Ytpdoplkiaejpiaa.ShortK.cz3 HBOX8))
              have t1 : w8.cell? ⟨al.block, al.off + 1, none⟩ = some (.int .i64 (rd_T92 l 0).f1) := cb_ hy0 ST8.out.hb
              refine region_quiet (C := fun w' => w'.cell? ⟨wr.heap.size, 0, none⟩ = some (.int .i64 x.f0) ∧ w'.cell? ⟨al.block, al.off + 1, none⟩ = some (.int .i64 (rd_T92 l 0).f1) ∧ Aside0 (w'.heap[wr.heap.size]? = some (.cells #[.int .i64 x.f0, .int .i64 x.f1, .int .i64 x.f2] 89 (0, 0))) ∧ Aside0 (St w w' g8 g8 g4 zsp #[.int .i64 (mx lg (rd_T92 l 0).f1), .slice (some ads) sn.length cs, .bool kn2, .int .i64 la2, .int .i64 mi2, .int .i64 sm2, .int .i64 va2] v1 (.slice none 0 0) s16 (.slice none 0 0) (ak ++ [x.f0]) [] lf [])) (by kernel_rfl) (by kernel_rfl) ?hC ?_
              case hC => exact ⟨cb_ y0 (below_drew (Below.refl _ w8)), cb_ t1 (below_drew (Below.refl _ w8)), ⟨blk_below HBOX8.out (below_drew (Below.refl _ w8))⟩, ⟨ST8.out.below (below_drew (Below.refl _ w8))⟩⟩
              repeat (first
                | go_big_quiet_skip
                | (go_big_quiet_want; refine quiet_op (v := ?_) ?_ ?_; rotate_left 1; (· (rintro w' ⟨x0, x1, -, -⟩; go_simp; with_reducible rfl)); simp only [Act.put, List.setIfInBounds_toArray, List.set_cons_zero, List.set_cons_succ, i64_w, i32_w]; go_big_quiet_on))
              refine wpQuiet_nil ?_
              clear y0 y1 y2 t1 ST8 HBOX8
              rintro w9 ⟨-, -, HBOX9, ST9⟩
              obtain ⟨y0, y1, y2⟩ := Go.Proofs.Ytpdoplkiaejpiaa.ShortK.cz3 HBOX9
              by_cases ht : x.f0 = (rd_T92 l 0).f1
              · skip
                have htd : (x.f0 == (rd_T92 l 0).f1) = true := beq_iff_eq.mpr ht
                obtain ⟨⟨kn3, la3, mi3, sm3, va3⟩, hs1, HA2⟩ := Option.bind_eq_some_iff.mp ((if_pos ht).symm.trans HA2)
                have HSA := Aside0.mk hs1
                have HN := Aside0.mk HA2
                clear hs1 HA2
                obtain ⟨m0, m1, m2, m3, m4, m5, m6⟩ := Go.Proofs.Ytpdoplkiaejpiaa.ShortK.cz7 ⟨ST9.out.b13⟩
                go_wp2_with (go_at_call 52; refine (spec_l12Sample.calls k kn2 la2 mi2 sm2 va2 _ dl kn3 la3 mi3 sm3 va3 _ HSA.out).mono ?_; rintro e w10 ⟨rfl, hb⟩; have ST10 := Aside0.mk (ST9.out.below hb); clear hb ST9 HBOX9 y0 y1 y2 m0 m1 m2 m3 m4 m5 m6; obtain ⟨m0, m1, m2, m3, m4, m5, m6⟩ := Go.Proofs.Ytpdoplkiaejpiaa.ShortK.cz7 ⟨ST10.out.b13⟩; obtain ⟨f0, f1, f2, f3, f4, f5, f6⟩ := Go.Proofs.Ytpdoplkiaejpiaa.ShortK.fz7 ⟨ST10.out.b13⟩)
                go_roundg n
                case measure => omega
                case rel => exact ⟨i + 1, (ak ++ [x.f0]), lf, kn3, la3, mi3, sm3, va3, _, _, rfl, rfl, by first | rfl | (simp; done) | (rw [HWI.out]), HN, ⟨⟨by have := HII.out; omega, by have := HII.out; omega, by have := HII.out; simp only [List.length_append, List.length_cons, List.length_nil]; omega⟩⟩, ⟨((((ST10.out.put13 2 _ rfl).put13 3 _ rfl).put13 4 _ rfl).put13 5 _ rfl).put13 6 _ rfl⟩⟩
              · skip
                have htd : (x.f0 == (rd_T92 l 0).f1) = false := beq_eq_false_iff_ne.mpr ht
                have HN := Aside0.mk ((if_neg ht).symm.trans HA2)
                clear HA2
                go_wp2
                go_roundg n
                case measure => omega
                case rel => exact ⟨i + 1, (ak ++ [x.f0]), lf, kn2, la2, mi2, sm2, va2, _, _, rfl, rfl, by first | rfl | (simp; done) | (rw [HWI.out]), HN, ⟨⟨by have := HII.out; omega, by have := HII.out; omega, by have := HII.out; simp only [List.length_append, List.length_cons, List.length_nil]; omega⟩⟩, ST9⟩


/-! ### laws_toSent: function 103 -/
def laws_toSent.f (a0_0 : Int) (a0_1 : Int) (a0_2 : Int) : Option (Int × Int × Int) := some (a0_0, a0_1, a0_2)
set_option maxHeartbeats 64000000 in
set_option maxRecDepth 100000 in
theorem laws_toSent.calls (a0_0 : Int) (a0_1 : Int) (a0_2 : Int) (r1 : Int) (r2 : Int) (r3 : Int) (w : World) (h : laws_toSent.f a0_0 a0_1 a0_2 = some (r1, r2, r3)) :
  Calls Try.prog 103 #[.agg #[.int .i64 a0_0, .int .i64 a0_1, .int .i64 a0_2]] w fun e w' => e = .returned (.agg #[.int .i64 r1, .int .i64 r2, .int .i64 r3]) ∧ Below w.heap.size w w' := by
 have hu136 := Try.underlying136
 have hu89 := Try.underlying89
 have HB := Aside0.mk (Below.refl w.heap.size w)
 have H : (some (a0_0, a0_1, a0_2)) = some (r1, r2, r3) := h
 clear h
 simp only [Option.some.injEq, Prod.mk.injEq] at H
 obtain ⟨rfl, rfl, rfl⟩ := H
 go_enter Try.func103, Try.ntmps103
 go_wp2_with (first | ((with_reducible refine gate_dst (N := 1) rfl ?_); refine box_event ?hg (N := 1) ?hd (cs := #[.int .i64 a0_0, .int .i64 a0_1, .int .i64 a0_2]) (t := 136) ?hr ?_; (case hd => rfl); (case hg => rfl); (case hr => first | (go_simp; done) | (go_simp; rfl)); intro gb136 hg w2 hbox hb; have n0_ := bS HB hb; have n1_ := Aside0.mk (hbox); have n2_ := Aside0.mk ((by rw [hg]; exact (below_size (by repeat (first | (with_reducible first | exact HB.out | apply below_alloc | apply pw_below_drewN | apply below_drew1) | exact HB.out))) : w.heap.size ≤ gb136)); have n3_ := n2_; clear HB; have HB := n0_; have BK136 := n1_; have GW136 := n2_; have GE136 := n3_; clear n0_ n1_ n2_ n3_; clear hb hbox hg) | ((with_reducible refine gate_dst (N := 2) rfl ?_); refine box_event ?hg (N := 2) ?hd (cs := #[.int .i64 0, .int .i64 0, .int .i64 0]) (t := 89) ?hr ?_; (case hd => rfl); (case hg => rfl); (case hr => first | (go_simp; done) | (go_simp; rfl)); intro gb137 hg w3 hbox hb; have n0_ := bX BK136 hb; have n1_ := bS HB hb; have n2_ := Aside0.mk (hbox); have n3_ := Aside0.mk ((by rw [hg]; exact (below_size (by repeat (first | (with_reducible first | exact HB.out | apply below_alloc | apply pw_below_drewN | apply below_drew1 | refine below_set ?_ GE136.out) | exact HB.out))) : w.heap.size ≤ gb137)); have n4_ := n3_; have n5_ := Aside0.mk ((by rw [hg]; exact Nat.ne_of_lt (bLt BK136) : gb136 ≠ gb137)); have n6_ := Aside0.mk ((by rw [hg]; exact Nat.ne_of_gt (bLt BK136) : gb137 ≠ gb136)); clear BK136; clear HB; have BK136 := n0_; have HB := n1_; have BK137 := n2_; have GW137 := n3_; have GE137 := n4_; have NB136_137 := n5_; have NB137_136 := n6_; clear n0_ n1_ n2_ n3_ n4_ n5_ n6_; clear hb hbox hg) | ((with_reducible refine gate_dst (N := 3) rfl ?_); refine box_event ?hg (N := 3) ?hd (cs := #[.int .i64 0, .int .i64 0, .int .i64 0]) (t := 89) ?hr ?_; (case hd => rfl); (case hg => rfl); (case hr => first | (go_simp; done) | (go_simp; rfl)); intro gb138 hg w4 hbox hb; have n0_ := bX BK136 hb; have n1_ := bX BK137 hb; have n2_ := bS HB hb; have n3_ := Aside0.mk (hbox); have n4_ := Aside0.mk ((by rw [hg]; exact (below_size (by repeat (first | (with_reducible first | exact HB.out | apply below_alloc | apply pw_below_drewN | apply below_drew1 | refine below_set ?_ GE136.out | refine below_set ?_ GE137.out) | exact HB.out))) : w.heap.size ≤ gb138)); have n5_ := n4_; have n6_ := Aside0.mk ((by rw [hg]; exact Nat.ne_of_lt (bLt BK136) : gb136 ≠ gb138)); have n7_ := Aside0.mk ((by rw [hg]; exact Nat.ne_of_gt (bLt BK136) : gb138 ≠ gb136)); have n8_ := Aside0.mk ((by rw [hg]; exact Nat.ne_of_lt (bLt BK137) : gb137 ≠ gb138)); have n9_ := Aside0.mk ((by rw [hg]; exact Nat.ne_of_gt (bLt BK137) : gb138 ≠ gb137)); clear BK136; clear BK137; clear HB; have BK136 := n0_; have BK137 := n1_; have HB := n2_; have BK138 := n3_; have GW138 := n4_; have GE138 := n5_; have NB136_138 := n6_; have NB138_136 := n7_; have NB137_138 := n8_; have NB138_137 := n9_; clear n0_ n1_ n2_ n3_ n4_ n5_ n6_ n7_ n8_ n9_; clear hb hbox hg; have hnb5 := NB136_137.out; have hnc5 := NB137_136.out; have hnb6 := NB136_138.out; have hnc6 := NB138_136.out; obtain ⟨hcz7_0, hcz7_1, hcz7_2⟩ := cz3 BK136; obtain ⟨hfz7_0, hfz7_1, hfz7_2⟩ := fz3 BK136; have hnb8 := NB138_137.out; have hnc8 := NB137_138.out; obtain ⟨hcz9_0, hcz9_1, hcz9_2⟩ := cz3 BK138; obtain ⟨hfz9_0, hfz9_1, hfz9_2⟩ := fz3 BK138; obtain ⟨hcz10_0, hcz10_1, hcz10_2⟩ := cz3 BK137; obtain ⟨hfz10_0, hfz10_1, hfz10_2⟩ := fz3 BK137))
 refine bodyPost_ret (results_cell_row rfl _ _ gb137 89 #[.int .i64 a0_0, .int .i64 a0_1, .int .i64 a0_2] (0, 0) _ rfl (by (with_reducible repeat (first | refine bN ?_ _ | refine bD ?_ | refine bA ?_ _)); refine blk_put (cs := #[.int .i64 a0_0, .int .i64 a0_1, .int .i64 0]) ?_ 2 _ rfl; (with_reducible repeat (first | refine bN ?_ _ | refine bD ?_ | refine bA ?_ _)); refine blk_put (cs := #[.int .i64 a0_0, .int .i64 0, .int .i64 0]) ?_ 1 _ rfl; (with_reducible repeat (first | refine bN ?_ _ | refine bD ?_ | refine bA ?_ _)); refine blk_put (cs := #[.int .i64 0, .int .i64 0, .int .i64 0]) ?_ 0 _ rfl; (with_reducible repeat (first | refine bN ?_ _ | refine bD ?_ | refine bA ?_ _)); refine blk_far ?_ NB137_138.out _; (with_reducible repeat (first | refine bN ?_ _ | refine bD ?_ | refine bA ?_ _)); refine blk_far ?_ NB137_138.out _; (with_reducible repeat (first | refine bN ?_ _ | refine bD ?_ | refine bA ?_ _)); refine blk_far ?_ NB137_138.out _; (with_reducible repeat (first | refine bN ?_ _ | refine bD ?_ | refine bA ?_ _)); exact BK137.out) Try.underlying89 rfl (by kernel_rfl)) rfl ?_
 exact ⟨by first | rfl | (simp [errW_none, errW_some] <;> rfl) | (simp [*, errW_none, errW_some] <;> rfl), by repeat (first | (with_reducible first | exact HB.out | apply below_alloc | apply pw_below_drewN | apply below_drew1 | refine below_set ?_ GE136.out | refine below_set ?_ GE137.out | refine below_set ?_ GE138.out) | exact HB.out)⟩

end Go.Proofs.Ytpdoplkiaejpiaa.PFnExactTakeAck
