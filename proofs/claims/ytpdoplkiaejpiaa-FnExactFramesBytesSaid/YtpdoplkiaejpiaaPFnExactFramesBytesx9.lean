-- Written by a program of this session (wip/xprint.py).
import Derived.Test.YtpdoplkiaejpiaaPFnExactFramesBytesx0
import Derived.Test.YtpdoplkiaejpiaaPFnExactFramesBytesx1
import Derived.Test.YtpdoplkiaejpiaaPFnExactFramesBytesx3
import Derived.Test.YtpdoplkiaejpiaaPFnExactFramesBytesx4
import Derived.Test.YtpdoplkiaejpiaaPFnExactFramesBytesx7
import Derived.Test.YtpdoplkiaejpiaaPFnExactFramesBytesx8
namespace Go.Proofs.Ytpdoplkiaejpiaa.PFnExactFramesBytes
open Go.RowKit Go.Proofs.YtpdoplkiaejpiaaW.PrintWords Go.Proofs.YtpdoplkiaejpiaaW.PrintLast Go.Proofs.YtpdoplkiaejpiaaW.PrintMore
open Go.Proofs.Ytpdoplkiaejpiaa.ShortK (bN bD bA sA sZ sS mR mB bX bLt bS cz2 fz2 cx2 cz3 fz3 cx3 cz4 fz4 cx4 cz5 fz5 cx5 cz6 fz6 cx6 cz7 fz7 cx7 cz8 fz8 cx8 cz9 fz9 cx9 cz10 fz10 cx10 cz11 fz11 cx11 cz12 fz12 cx12)
open Go.Proofs.Ytpdoplkiaejpiaa.StoreK (bm)
attribute [local go_sem] Go.Proofs.Ytpdoplkiaejpiaa.StoreK.isSome_setCell max2_int min2_int max_two min_two max_three min_three max_four min_four   -- for this text's walks alone
set_option linter.unusedVariables false
set_option linter.unusedSimpArgs false

/-! ### laws_eqFrameS: function 31 -/
def laws_eqFrameS.l0 : Nat → List (S30) → List (S30) → Int → Option (Bool)
 | 0, _, _, _ => none
 | k + 1, x0, x1, x5 => if x5 < (x0.length : Int) then (if 0 ≤ x5 then (if x5 < (x1.length : Int) then ((laws_eqFrame.f k ((rd_T30 x0 x5).f0) ((rd_T30 x0 x5).f1) ((rd_T30 x0 x5).f2) ((rd_T30 x0 x5).f3) ((rd_T30 x0 x5).f4) ((rd_T30 x0 x5).f5) ((rd_T30 x0 x5).f6) ((rd_T30 x1 x5).f0) ((rd_T30 x1 x5).f1) ((rd_T30 x1 x5).f2) ((rd_T30 x1 x5).f3) ((rd_T30 x1 x5).f4) ((rd_T30 x1 x5).f5) ((rd_T30 x1 x5).f6)).bind fun t177 => (if t177 = true then (laws_eqFrameS.l0 k x0 x1 (wrap64 (x5 + 1))) else (some false))) else (none)) else (none)) else (some true)
def laws_eqFrameS.f (k : Nat) (l0 : List (S30)) (l1 : List (S30)) : Option (Bool) := if (l0.length : Int) = (l1.length : Int) then (laws_eqFrameS.l0 k l0 l1 0) else (some false)
theorem laws_eqFrameS.mono_l : ∀ k, (∀ y0 y1 y2, LeO (laws_eqFrameS.l0 k y0 y1 y2) (laws_eqFrameS.l0 (k + 1) y0 y1 y2))
 | 0 => fun _ _ _ r h => by simp [laws_eqFrameS.l0] at h
 | k + 1 => by
  have ih0 := laws_eqFrameS.mono_l k
  ·intro y0 y1 y2
   unfold laws_eqFrameS.l0
   repeat' first
   | (with_reducible exact ih0 _ _ _)
   | (with_reducible exact laws_eqFrame.mono _ _ _ _ _ _ _ _ _ _ _ _ _ _ _)
   | (with_reducible exact LeO.refl _)
   | (with_reducible exact LeO.none _)
   | (with_reducible refine LeO.ite ?_ ?_)
   | (with_reducible refine LeO.bind ?_ (fun _ => ?_))
   | exact ih0 _ _ _
   | exact laws_eqFrame.mono _ _ _ _ _ _ _ _ _ _ _ _ _ _ _
   | exact LeO.none _
   | refine LeO.ite ?_ ?_
   | refine LeO.bind ?_ (fun _ => ?_)
theorem laws_eqFrameS.mono : ∀ a0 a1 k, LeO (laws_eqFrameS.f k a0 a1) (laws_eqFrameS.f (k + 1) a0 a1) := by
 intro a0 a1 k
 have ih0 := laws_eqFrameS.mono_l k
 unfold laws_eqFrameS.f
 repeat' first
   | (with_reducible exact ih0 _ _ _)
   | (with_reducible exact laws_eqFrame.mono _ _ _ _ _ _ _ _ _ _ _ _ _ _ _)
   | (with_reducible exact LeO.refl _)
   | (with_reducible exact LeO.none _)
   | (with_reducible refine LeO.ite ?_ ?_)
   | (with_reducible refine LeO.bind ?_ (fun _ => ?_))
   | exact ih0 _ _ _
   | exact laws_eqFrame.mono _ _ _ _ _ _ _ _ _ _ _ _ _ _ _
   | exact LeO.none _
   | refine LeO.ite ?_ ?_
   | refine LeO.bind ?_ (fun _ => ?_)
def laws_eqFrameS.T6 : Bool × List (List Nat × List Nat) := (true, [([], []), ([], []), ([0, 1], [0, 1]), ([2], [2]), ([], []), ([], []), ([4, 5], [4, 5]), ([6], [6]), ([3, 7], [3, 7]), ([8], [8])])
def laws_eqFrameS.B6 : List Nat := [0, 0, 3, 7, 0, 0, 48, 112, 255, 511]
theorem laws_eqFrameS.tab6 : rtab .any (opsOf Try.f31 6) = laws_eqFrameS.T6 := by kernel_rfl
theorem laws_eqFrameS.bits6 : waitsOk laws_eqFrameS.T6.2 laws_eqFrameS.B6 = true := by kernel_rfl
set_option maxHeartbeats 64000000 in
set_option maxRecDepth 100000 in
theorem laws_eqFrameS.calls (k : Nat) (A0 : Option Addr) (c0 : Nat) (l0 : List (S30)) (A1 : Option Addr) (c1 : Nat) (l1 : List (S30)) (r : Bool) (w : World) (hr0 : Kd.C k30 w A0 l0.length l0) (hc0 : l0.length ≤ c0) (hr1 : Kd.C k30 w A1 l1.length l1) (hc1 : l1.length ≤ c1) (h : laws_eqFrameS.f k l0 l1 = some r) :
  Calls Try.prog 31 #[.slice A0 l0.length c0, .slice A1 l1.length c1] w fun e w' => e = .returned (.bool r) ∧ Below w.heap.size w w' := by
 have hu30 := Try.underlying30
 have HR0 := Aside0.mk hr0
 have HC0 := Aside0.mk hc0
 clear hr0 hc0
 have HR1 := Aside0.mk hr1
 have HC1 := Aside0.mk hc1
 clear hr1 hc1
 have HB := Aside0.mk (Below.refl w.heap.size w)
 have H : (if (l0.length : Int) = (l1.length : Int) then (laws_eqFrameS.l0 k l0 l1 0) else (some false)) = some r := h
 clear h
 by_cases c3 : (l0.length : Int) = (l1.length : Int)
 ·rw [if_pos c3] at H
  have c3b0 : ((l0.length : Int) == (l1.length : Int)) = true := beq_iff_eq.mpr c3
  have c3b1 : ((l0.length : Int) != (l1.length : Int)) = false := bne_eq_false_iff_eq.mpr c3
  have c3b2 : (l0.length == l1.length) = true := by first | simpa using c3 | (simp at c3 ⊢; omega)
  clear c3
  have H' := Aside0.mk H
  clear H
  go_enter Try.func31, Try.ntmps31
  go_wp2
  go_loopg [5] k (fun kq v5 w' => ∃ (x5_1 : Int), v5 = .int .i64 x5_1 ∧ Aside0 (laws_eqFrameS.l0 kq l0 l1 x5_1 = some r) ∧ Aside0 (kq ≤ k) ∧ Aside0 (Below w.heap.size w w'))
  case atStart => exact ⟨(0), (by first | rfl | (simp; done) | (simp [*]; done)), H', ⟨Nat.le_refl _⟩, ⟨by repeat (first | (with_reducible first | exact HB.out | apply below_alloc | apply pw_below_drewN | apply below_drew1) | exact HB.out)⟩⟩
  case round =>
   clear H'
   try clear c1
   try clear p2
   try clear c3
   try clear c3b0
   try clear c3b1
   try clear c3b2
   obtain ⟨x5_1, rfl, HA, HK1, HB⟩ := hrel
   cases gk with
   | zero => exact absurd HA.out (by simp [laws_eqFrameS.l0])
   | succ k1 =>
    have H := HA.out
    clear HA
    simp only [laws_eqFrameS.l0] at H
    by_cases c4 : x5_1 < (l0.length : Int)
    ·rw [if_pos c4] at H
     have c4b0 : decide (x5_1 < (l0.length : Int)) = true := decide_eq_true c4
     clear c4
     by_cases c5 : 0 ≤ x5_1
     ·rw [if_pos c5] at H
      have c5b0 : decide (0 ≤ x5_1) = true := decide_eq_true c5
      clear c5
      by_cases c6 : x5_1 < (l1.length : Int)
      ·rw [if_pos c6] at H
       have c6b0 : decide (x5_1 < (l1.length : Int)) = true := decide_eq_true c6
       clear c6
       replace H := Option.bind_eq_some_iff.mp H
       obtain ⟨t177, A70, H⟩ := H
       replace H : (if t177 = true then (laws_eqFrameS.l0 k1 l0 l1 (wrap64 (x5_1 + 1))) else (some false)) = some r := H
       have A7 := Aside0.mk A70
       clear A70
       by_cases c8 : t177 = true
       ·subst c8
        have H1 : (laws_eqFrameS.l0 k1 l0 l1 (wrap64 (x5_1 + 1))) = some r := by rw [if_pos rfl] at H; exact H
        clear H
        have H := H1
        clear H1
        have H' := Aside0.mk H
        clear H
        try go_wp2
        have n0_ := Aside0.mk (below_drew1 HB.out)
        clear HB
        have HB := n0_
        clear n0_
        have p175 : 0 ≤ (x5_1 : Int) := of_decide_eq_true (by first | (with_reducible assumption) | assumption)
        have q175 : x5_1 < (l0.length : Int) := of_decide_eq_true (by first | (with_reducible assumption) | assumption)
        obtain ⟨ad175, A175_6, c175_6, e175, hx175_0, hx175_1, hx175_2, hx175_3, hx175_4, hx175_5, hx175_6, hl175_6, hi175_6⟩ := at_T30 HR0.out x5_1 p175 q175
        have hw175_6 := hx175_6
        have hw175_5 := hx175_5
        have hw175_4 := hx175_4
        have hw175_3 := hx175_3
        have hw175_2 := hx175_2
        have hw175_1 := hx175_1
        have hw175_0 := hx175_0
        cases e175
        replace hx175_0 := (HB.out.cell (World.block_lt_of_cell? w _ hx175_0)).trans hx175_0
        replace hx175_1 := (HB.out.cell (World.block_lt_of_cell? w _ hx175_1)).trans hx175_1
        replace hx175_2 := (HB.out.cell (World.block_lt_of_cell? w _ hx175_2)).trans hx175_2
        replace hx175_3 := (HB.out.cell (World.block_lt_of_cell? w _ hx175_3)).trans hx175_3
        replace hx175_4 := (HB.out.cell (World.block_lt_of_cell? w _ hx175_4)).trans hx175_4
        replace hx175_5 := (HB.out.cell (World.block_lt_of_cell? w _ hx175_5)).trans hx175_5
        replace hx175_6 := (HB.out.cell (World.block_lt_of_cell? w _ hx175_6)).trans hx175_6
        have HR175_6 := Aside0.mk hi175_6
        have HC175_6 := Aside0.mk hl175_6
        clear hi175_6 hl175_6
        replace p175 := eq_true p175
        replace q175 := eq_true q175
        have p176 : 0 ≤ (x5_1 : Int) := of_decide_eq_true (by first | (with_reducible assumption) | assumption)
        have q176 : x5_1 < (l1.length : Int) := of_decide_eq_true (by first | (with_reducible assumption) | assumption)
        obtain ⟨ad176, A176_6, c176_6, e176, hx176_0, hx176_1, hx176_2, hx176_3, hx176_4, hx176_5, hx176_6, hl176_6, hi176_6⟩ := at_T30 HR1.out x5_1 p176 q176
        have hw176_6 := hx176_6
        have hw176_5 := hx176_5
        have hw176_4 := hx176_4
        have hw176_3 := hx176_3
        have hw176_2 := hx176_2
        have hw176_1 := hx176_1
        have hw176_0 := hx176_0
        cases e176
        replace hx176_0 := (HB.out.cell (World.block_lt_of_cell? w _ hx176_0)).trans hx176_0
        replace hx176_1 := (HB.out.cell (World.block_lt_of_cell? w _ hx176_1)).trans hx176_1
        replace hx176_2 := (HB.out.cell (World.block_lt_of_cell? w _ hx176_2)).trans hx176_2
        replace hx176_3 := (HB.out.cell (World.block_lt_of_cell? w _ hx176_3)).trans hx176_3
        replace hx176_4 := (HB.out.cell (World.block_lt_of_cell? w _ hx176_4)).trans hx176_4
        replace hx176_5 := (HB.out.cell (World.block_lt_of_cell? w _ hx176_5)).trans hx176_5
        replace hx176_6 := (HB.out.cell (World.block_lt_of_cell? w _ hx176_6)).trans hx176_6
        have HR176_6 := Aside0.mk hi176_6
        have HC176_6 := Aside0.mk hl176_6
        clear hi176_6 hl176_6
        replace p176 := eq_true p176
        replace q176 := eq_true q176
        refine start_ (n := 10) (S := fun w' => w'.cell? (ad175.add ((x5_1).toNat * 7)) = some (.int .i64 ((rd_T30 l0 x5_1).f0)) ∧ w'.cell? ⟨(ad175.add ((x5_1).toNat * 7)).block, (ad175.add ((x5_1).toNat * 7)).off + 1, none⟩ = some (.int .i64 ((rd_T30 l0 x5_1).f1)) ∧ w'.cell? ⟨(ad175.add ((x5_1).toNat * 7)).block, (ad175.add ((x5_1).toNat * 7)).off + 2, none⟩ = some (.int .i64 ((rd_T30 l0 x5_1).f2)) ∧ w'.cell? ⟨(ad175.add ((x5_1).toNat * 7)).block, (ad175.add ((x5_1).toNat * 7)).off + 3, none⟩ = some (.int .i64 ((rd_T30 l0 x5_1).f3)) ∧ w'.cell? ⟨(ad175.add ((x5_1).toNat * 7)).block, (ad175.add ((x5_1).toNat * 7)).off + 4, none⟩ = some (.bool ((rd_T30 l0 x5_1).f4)) ∧ w'.cell? ⟨(ad175.add ((x5_1).toNat * 7)).block, (ad175.add ((x5_1).toNat * 7)).off + 5, none⟩ = some (.string ((rd_T30 l0 x5_1).f5)) ∧ w'.cell? ⟨(ad175.add ((x5_1).toNat * 7)).block, (ad175.add ((x5_1).toNat * 7)).off + 6, none⟩ = some (.slice A175_6 ((rd_T30 l0 x5_1).f6).length c175_6) ∧ w'.cell? (ad176.add ((x5_1).toNat * 7)) = some (.int .i64 ((rd_T30 l1 x5_1).f0)) ∧ w'.cell? ⟨(ad176.add ((x5_1).toNat * 7)).block, (ad176.add ((x5_1).toNat * 7)).off + 1, none⟩ = some (.int .i64 ((rd_T30 l1 x5_1).f1)) ∧ w'.cell? ⟨(ad176.add ((x5_1).toNat * 7)).block, (ad176.add ((x5_1).toNat * 7)).off + 2, none⟩ = some (.int .i64 ((rd_T30 l1 x5_1).f2)) ∧ w'.cell? ⟨(ad176.add ((x5_1).toNat * 7)).block, (ad176.add ((x5_1).toNat * 7)).off + 3, none⟩ = some (.int .i64 ((rd_T30 l1 x5_1).f3)) ∧ w'.cell? ⟨(ad176.add ((x5_1).toNat * 7)).block, (ad176.add ((x5_1).toNat * 7)).off + 4, none⟩ = some (.bool ((rd_T30 l1 x5_1).f4)) ∧ w'.cell? ⟨(ad176.add ((x5_1).toNat * 7)).block, (ad176.add ((x5_1).toNat * 7)).off + 5, none⟩ = some (.string ((rd_T30 l1 x5_1).f5)) ∧ w'.cell? ⟨(ad176.add ((x5_1).toNat * 7)).block, (ad176.add ((x5_1).toNat * 7)).off + 6, none⟩ = some (.slice A176_6 ((rd_T30 l1 x5_1).f6).length c176_6)) (ds := []) (bm 10 0) (by kernel_rfl) rfl rfl ⟨((HB.out.cell (World.block_lt_of_cell? w _ hw175_0)).trans hw175_0), ((HB.out.cell (World.block_lt_of_cell? w _ hw175_1)).trans hw175_1), ((HB.out.cell (World.block_lt_of_cell? w _ hw175_2)).trans hw175_2), ((HB.out.cell (World.block_lt_of_cell? w _ hw175_3)).trans hw175_3), ((HB.out.cell (World.block_lt_of_cell? w _ hw175_4)).trans hw175_4), ((HB.out.cell (World.block_lt_of_cell? w _ hw175_5)).trans hw175_5), ((HB.out.cell (World.block_lt_of_cell? w _ hw175_6)).trans hw175_6), ((HB.out.cell (World.block_lt_of_cell? w _ hw176_0)).trans hw176_0), ((HB.out.cell (World.block_lt_of_cell? w _ hw176_1)).trans hw176_1), ((HB.out.cell (World.block_lt_of_cell? w _ hw176_2)).trans hw176_2), ((HB.out.cell (World.block_lt_of_cell? w _ hw176_3)).trans hw176_3), ((HB.out.cell (World.block_lt_of_cell? w _ hw176_4)).trans hw176_4), ((HB.out.cell (World.block_lt_of_cell? w _ hw176_5)).trans hw176_5), ((HB.out.cell (World.block_lt_of_cell? w _ hw176_6)).trans hw176_6)⟩ (fun hHeld => ?_); refine with_tabW laws_eqFrameS.tab6 laws_eqFrameS.bits6 (fun HT_ HW_ => ?_)
        generalize wr.drew = w9 at HB HR175_6 HR176_6 hx175_0 hx175_1 hx175_2 hx175_3 hx175_4 hx175_5 hx175_6 hx176_0 hx176_1 hx176_2 hx176_3 hx176_4 hx176_5 hx176_6 hHeld ⊢
        refine pure_ (i := 0) (N := some 17) (v := ?_) (a' := ?_) (bm 10 1) rfl rfl (any_of HT_.out (by kernel_rfl)) (fun _ _ _ h => h) (Or.inl ⟨by rfl, ?_⟩) ?_ ?_
        rotate_left
        ·intro w'
         go_simp
         with_reducible rfl
        rotate_left
        ·simp only [Act.put, sA, sZ, sS, i64_w, i32_w]
         rfl
        refine pure_ (i := 1) (N := some 18) (v := ?_) (a' := ?_) (bm 10 3) rfl rfl (any_of HT_.out (by kernel_rfl)) (fun _ _ _ h => h) (Or.inl ⟨by rfl, ?_⟩) ?_ ?_
        rotate_left
        ·intro w'
         go_simp
         with_reducible rfl
        rotate_left
        ·simp only [Act.put, sA, sZ, sS, i64_w, i32_w]
         rfl
        refine pure_ (i := 2) (N := some 19) (v := ?_) (a' := ?_) (bm 10 7) rfl rfl (any_of HT_.out (by kernel_rfl)) (fun _ _ _ h => h) (Or.inl ⟨by rfl, ?_⟩) ?_ ?_
        rotate_left
        ·intro w'
         go_simp
         with_reducible rfl
        rotate_left
        ·simp only [Act.put, sA, sZ, sS, i64_w, i32_w]
         rfl
        refine pure_ (i := 4) (N := some 21) (v := ?_) (a' := ?_) (bm 10 23) rfl rfl (any_of HT_.out (by kernel_rfl)) (fun _ _ _ h => h) (Or.inl ⟨by rfl, ?_⟩) ?_ ?_
        rotate_left
        ·intro w'
         go_simp
         with_reducible rfl
        rotate_left
        ·simp only [Act.put, sA, sZ, sS, i64_w, i32_w]
         rfl
        refine pure_ (i := 5) (N := some 22) (v := ?_) (a' := ?_) (bm 10 55) rfl rfl (any_of HT_.out (by kernel_rfl)) (fun _ _ _ h => h) (Or.inl ⟨by rfl, ?_⟩) ?_ ?_
        rotate_left
        ·intro w'
         go_simp
         with_reducible rfl
        rotate_left
        ·simp only [Act.put, sA, sZ, sS, i64_w, i32_w]
         rfl
        refine pure_ (i := 6) (N := some 23) (v := ?_) (a' := ?_) (bm 10 119) rfl rfl (any_of HT_.out (by kernel_rfl)) (fun _ _ _ h => h) (Or.inl ⟨by rfl, ?_⟩) ?_ ?_
        rotate_left
        ·intro w'
         go_simp
         with_reducible rfl
        rotate_left
        ·simp only [Act.put, sA, sZ, sS, i64_w, i32_w]
         rfl
        refine take_ (i := 3) (N := some 20) (v := ?_) (a' := ?_) (bm 10 127) rfl rfl (take_ofW HT_.out HW_.out (by kernel_rfl)) (fun _ _ _ h => h) (Or.inl ⟨by rfl, ?_⟩) hHeld ?_ ?_
        rotate_left
        ·rintro w' ⟨s0, s1, s2, s3, s4, s5, s6, s7, s8, s9, s10, s11, s12, s13⟩
         go_simp
         with_reducible rfl
        rotate_left
        ·simp only [Act.put, sA, sZ, sS, i64_w, i32_w]
         rfl
        refine take_ (i := 7) (N := some 24) (v := ?_) (a' := ?_) (bm 10 255) rfl rfl (take_ofW HT_.out HW_.out (by kernel_rfl)) (fun _ _ _ h => h) (Or.inl ⟨by rfl, ?_⟩) hHeld ?_ ?_
        rotate_left
        ·rintro w' ⟨s0, s1, s2, s3, s4, s5, s6, s7, s8, s9, s10, s11, s12, s13⟩
         go_simp
         with_reducible rfl
        rotate_left
        ·simp only [Act.put, sA, sZ, sS, i64_w, i32_w]
         rfl
        refine one_ (i := 8) (N := some 25) (bm 10 511) rfl rfl (one_of HT_.out (by kernel_rfl)) (by decide) (fun K hK => ?_)
        refine goes_ Try.func12 (by kernel_rfl) rfl #[.agg #[.int .i64 ((rd_T30 l0 x5_1).f0), .int .i64 ((rd_T30 l0 x5_1).f1), .int .i64 ((rd_T30 l0 x5_1).f2), .int .i64 ((rd_T30 l0 x5_1).f3), .bool ((rd_T30 l0 x5_1).f4), .string ((rd_T30 l0 x5_1).f5), .slice A175_6 ((rd_T30 l0 x5_1).f6).length c175_6], .agg #[.int .i64 ((rd_T30 l1 x5_1).f0), .int .i64 ((rd_T30 l1 x5_1).f1), .int .i64 ((rd_T30 l1 x5_1).f2), .int .i64 ((rd_T30 l1 x5_1).f3), .bool ((rd_T30 l1 x5_1).f4), .string ((rd_T30 l1 x5_1).f5), .slice A176_6 ((rd_T30 l1 x5_1).f6).length c176_6]] (by rfl) rfl rfl (by (try simp only [List.map_toArray, List.map_cons, List.map_nil]); first | done | rfl | (simp only [List.length_drop, List.length_take]; rfl)) ?_
        with_reducible refine (laws_eqFrame.calls k1 ((rd_T30 l0 x5_1).f0) ((rd_T30 l0 x5_1).f1) ((rd_T30 l0 x5_1).f2) ((rd_T30 l0 x5_1).f3) ((rd_T30 l0 x5_1).f4) ((rd_T30 l0 x5_1).f5) _ _ ((rd_T30 l0 x5_1).f6) ((rd_T30 l1 x5_1).f0) ((rd_T30 l1 x5_1).f1) ((rd_T30 l1 x5_1).f2) ((rd_T30 l1 x5_1).f3) ((rd_T30 l1 x5_1).f4) ((rd_T30 l1 x5_1).f5) _ _ ((rd_T30 l1 x5_1).f6) true _ ?side1 ?side2 ?side3 ?side4 A7.out).mono ?_
        (case side1 => repeat (first | exact (Kd.C_below HR175_6.out HB.out) | (with_reducible refine Kd.C_alloc ?_ _) | (with_reducible refine Kd.C_drewN ?_ _) | (with_reducible refine Kd.C_drew ?_)))
        (case side2 => exact HC175_6.out)
        (case side3 => repeat (first | exact (Kd.C_below HR176_6.out HB.out) | (with_reducible refine Kd.C_alloc ?_ _) | (with_reducible refine Kd.C_drewN ?_ _) | (with_reducible refine Kd.C_drew ?_)))
        (case side4 => exact HC176_6.out)
        rintro e w10 ⟨rfl, hb⟩
        refine ⟨_, rfl, ?_⟩
        have n0_ := bS HB hb
        clear HB
        have HB := n0_
        clear n0_
        (try clear hb)
        (try clear hb2)
        (try clear hk)
        (try clear hi)
        refine hK.out _ _ ⟨((HB.out.cell (World.block_lt_of_cell? w _ hw175_0)).trans hw175_0), ((HB.out.cell (World.block_lt_of_cell? w _ hw175_1)).trans hw175_1), ((HB.out.cell (World.block_lt_of_cell? w _ hw175_2)).trans hw175_2), ((HB.out.cell (World.block_lt_of_cell? w _ hw175_3)).trans hw175_3), ((HB.out.cell (World.block_lt_of_cell? w _ hw175_4)).trans hw175_4), ((HB.out.cell (World.block_lt_of_cell? w _ hw175_5)).trans hw175_5), ((HB.out.cell (World.block_lt_of_cell? w _ hw175_6)).trans hw175_6), ((HB.out.cell (World.block_lt_of_cell? w _ hw176_0)).trans hw176_0), ((HB.out.cell (World.block_lt_of_cell? w _ hw176_1)).trans hw176_1), ((HB.out.cell (World.block_lt_of_cell? w _ hw176_2)).trans hw176_2), ((HB.out.cell (World.block_lt_of_cell? w _ hw176_3)).trans hw176_3), ((HB.out.cell (World.block_lt_of_cell? w _ hw176_4)).trans hw176_4), ((HB.out.cell (World.block_lt_of_cell? w _ hw176_5)).trans hw176_5), ((HB.out.cell (World.block_lt_of_cell? w _ hw176_6)).trans hw176_6)⟩ (fun hHeld => ?_)
        clear hK K
        refine norm_ (a' := ?_) ?_ ?_
        rotate_left
        ·show Act.put _ (some 25) _ = _
         simp only [Act.put, sA, sZ, sS, i64_w, i32_w]
         rfl
        refine pure_ (i := 9) (N := some 26) (v := ?_) (a' := ?_) (bm 10 1023) rfl rfl (any_of HT_.out (by kernel_rfl)) (fun _ _ _ h => h) (Or.inl ⟨by rfl, ?_⟩) ?_ ?_
        rotate_left
        ·intro w'
         go_simp
         with_reducible rfl
        rotate_left
        ·simp only [Act.put, sA, sZ, sS, i64_w, i32_w]
         rfl
        refine done_ (done_of HT_.out (by kernel_rfl)) ?_
        try go_wp2
        go_roundg k1
        case measure => have := HK1.out; omega
        case rel => exact ⟨(wrap64 (x5_1 + 1)), (by first | rfl | (simp; done) | (simp [*]; done)), H', ⟨by have := HK1.out; omega⟩, ⟨by repeat (first | (with_reducible first | exact HB.out | apply below_alloc | apply pw_below_drewN | apply below_drew1) | exact HB.out)⟩⟩
       ·replace c8 := Bool.eq_false_iff.mpr c8
        subst c8
        have H1 : (some false) = some r := by rw [if_neg (show ¬ (false = true) by decide)] at H; exact H
        clear H
        have H := H1
        clear H1
        obtain rfl := Option.some.inj H
        try go_wp2
        have n0_ := Aside0.mk (below_drew1 HB.out)
        clear HB
        have HB := n0_
        clear n0_
        have p175 : 0 ≤ (x5_1 : Int) := of_decide_eq_true (by first | (with_reducible assumption) | assumption)
        have q175 : x5_1 < (l0.length : Int) := of_decide_eq_true (by first | (with_reducible assumption) | assumption)
        obtain ⟨ad175, A175_6, c175_6, e175, hx175_0, hx175_1, hx175_2, hx175_3, hx175_4, hx175_5, hx175_6, hl175_6, hi175_6⟩ := at_T30 HR0.out x5_1 p175 q175
        have hw175_6 := hx175_6
        have hw175_5 := hx175_5
        have hw175_4 := hx175_4
        have hw175_3 := hx175_3
        have hw175_2 := hx175_2
        have hw175_1 := hx175_1
        have hw175_0 := hx175_0
        cases e175
        replace hx175_0 := (HB.out.cell (World.block_lt_of_cell? w _ hx175_0)).trans hx175_0
        replace hx175_1 := (HB.out.cell (World.block_lt_of_cell? w _ hx175_1)).trans hx175_1
        replace hx175_2 := (HB.out.cell (World.block_lt_of_cell? w _ hx175_2)).trans hx175_2
        replace hx175_3 := (HB.out.cell (World.block_lt_of_cell? w _ hx175_3)).trans hx175_3
        replace hx175_4 := (HB.out.cell (World.block_lt_of_cell? w _ hx175_4)).trans hx175_4
        replace hx175_5 := (HB.out.cell (World.block_lt_of_cell? w _ hx175_5)).trans hx175_5
        replace hx175_6 := (HB.out.cell (World.block_lt_of_cell? w _ hx175_6)).trans hx175_6
        have HR175_6 := Aside0.mk hi175_6
        have HC175_6 := Aside0.mk hl175_6
        clear hi175_6 hl175_6
        replace p175 := eq_true p175
        replace q175 := eq_true q175
        have p176 : 0 ≤ (x5_1 : Int) := of_decide_eq_true (by first | (with_reducible assumption) | assumption)
        have q176 : x5_1 < (l1.length : Int) := of_decide_eq_true (by first | (with_reducible assumption) | assumption)
        obtain ⟨ad176, A176_6, c176_6, e176, hx176_0, hx176_1, hx176_2, hx176_3, hx176_4, hx176_5, hx176_6, hl176_6, hi176_6⟩ := at_T30 HR1.out x5_1 p176 q176
        have hw176_6 := hx176_6
        have hw176_5 := hx176_5
        have hw176_4 := hx176_4
        have hw176_3 := hx176_3
        have hw176_2 := hx176_2
        have hw176_1 := hx176_1
        have hw176_0 := hx176_0
        cases e176
        replace hx176_0 := (HB.out.cell (World.block_lt_of_cell? w _ hx176_0)).trans hx176_0
        replace hx176_1 := (HB.out.cell (World.block_lt_of_cell? w _ hx176_1)).trans hx176_1
        replace hx176_2 := (HB.out.cell (World.block_lt_of_cell? w _ hx176_2)).trans hx176_2
        replace hx176_3 := (HB.out.cell (World.block_lt_of_cell? w _ hx176_3)).trans hx176_3
        replace hx176_4 := (HB.out.cell (World.block_lt_of_cell? w _ hx176_4)).trans hx176_4
        replace hx176_5 := (HB.out.cell (World.block_lt_of_cell? w _ hx176_5)).trans hx176_5
        replace hx176_6 := (HB.out.cell (World.block_lt_of_cell? w _ hx176_6)).trans hx176_6
        have HR176_6 := Aside0.mk hi176_6
        have HC176_6 := Aside0.mk hl176_6
        clear hi176_6 hl176_6
        replace p176 := eq_true p176
        replace q176 := eq_true q176
        refine start_ (n := 10) (S := fun w' => w'.cell? (ad175.add ((x5_1).toNat * 7)) = some (.int .i64 ((rd_T30 l0 x5_1).f0)) ∧ w'.cell? ⟨(ad175.add ((x5_1).toNat * 7)).block, (ad175.add ((x5_1).toNat * 7)).off + 1, none⟩ = some (.int .i64 ((rd_T30 l0 x5_1).f1)) ∧ w'.cell? ⟨(ad175.add ((x5_1).toNat * 7)).block, (ad175.add ((x5_1).toNat * 7)).off + 2, none⟩ = some (.int .i64 ((rd_T30 l0 x5_1).f2)) ∧ w'.cell? ⟨(ad175.add ((x5_1).toNat * 7)).block, (ad175.add ((x5_1).toNat * 7)).off + 3, none⟩ = some (.int .i64 ((rd_T30 l0 x5_1).f3)) ∧ w'.cell? ⟨(ad175.add ((x5_1).toNat * 7)).block, (ad175.add ((x5_1).toNat * 7)).off + 4, none⟩ = some (.bool ((rd_T30 l0 x5_1).f4)) ∧ w'.cell? ⟨(ad175.add ((x5_1).toNat * 7)).block, (ad175.add ((x5_1).toNat * 7)).off + 5, none⟩ = some (.string ((rd_T30 l0 x5_1).f5)) ∧ w'.cell? ⟨(ad175.add ((x5_1).toNat * 7)).block, (ad175.add ((x5_1).toNat * 7)).off + 6, none⟩ = some (.slice A175_6 ((rd_T30 l0 x5_1).f6).length c175_6) ∧ w'.cell? (ad176.add ((x5_1).toNat * 7)) = some (.int .i64 ((rd_T30 l1 x5_1).f0)) ∧ w'.cell? ⟨(ad176.add ((x5_1).toNat * 7)).block, (ad176.add ((x5_1).toNat * 7)).off + 1, none⟩ = some (.int .i64 ((rd_T30 l1 x5_1).f1)) ∧ w'.cell? ⟨(ad176.add ((x5_1).toNat * 7)).block, (ad176.add ((x5_1).toNat * 7)).off + 2, none⟩ = some (.int .i64 ((rd_T30 l1 x5_1).f2)) ∧ w'.cell? ⟨(ad176.add ((x5_1).toNat * 7)).block, (ad176.add ((x5_1).toNat * 7)).off + 3, none⟩ = some (.int .i64 ((rd_T30 l1 x5_1).f3)) ∧ w'.cell? ⟨(ad176.add ((x5_1).toNat * 7)).block, (ad176.add ((x5_1).toNat * 7)).off + 4, none⟩ = some (.bool ((rd_T30 l1 x5_1).f4)) ∧ w'.cell? ⟨(ad176.add ((x5_1).toNat * 7)).block, (ad176.add ((x5_1).toNat * 7)).off + 5, none⟩ = some (.string ((rd_T30 l1 x5_1).f5)) ∧ w'.cell? ⟨(ad176.add ((x5_1).toNat * 7)).block, (ad176.add ((x5_1).toNat * 7)).off + 6, none⟩ = some (.slice A176_6 ((rd_T30 l1 x5_1).f6).length c176_6)) (ds := []) (bm 10 0) (by kernel_rfl) rfl rfl ⟨((HB.out.cell (World.block_lt_of_cell? w _ hw175_0)).trans hw175_0), ((HB.out.cell (World.block_lt_of_cell? w _ hw175_1)).trans hw175_1), ((HB.out.cell (World.block_lt_of_cell? w _ hw175_2)).trans hw175_2), ((HB.out.cell (World.block_lt_of_cell? w _ hw175_3)).trans hw175_3), ((HB.out.cell (World.block_lt_of_cell? w _ hw175_4)).trans hw175_4), ((HB.out.cell (World.block_lt_of_cell? w _ hw175_5)).trans hw175_5), ((HB.out.cell (World.block_lt_of_cell? w _ hw175_6)).trans hw175_6), ((HB.out.cell (World.block_lt_of_cell? w _ hw176_0)).trans hw176_0), ((HB.out.cell (World.block_lt_of_cell? w _ hw176_1)).trans hw176_1), ((HB.out.cell (World.block_lt_of_cell? w _ hw176_2)).trans hw176_2), ((HB.out.cell (World.block_lt_of_cell? w _ hw176_3)).trans hw176_3), ((HB.out.cell (World.block_lt_of_cell? w _ hw176_4)).trans hw176_4), ((HB.out.cell (World.block_lt_of_cell? w _ hw176_5)).trans hw176_5), ((HB.out.cell (World.block_lt_of_cell? w _ hw176_6)).trans hw176_6)⟩ (fun hHeld => ?_); refine with_tabW laws_eqFrameS.tab6 laws_eqFrameS.bits6 (fun HT_ HW_ => ?_)
        generalize wr.drew = w11 at HB HR175_6 HR176_6 hx175_0 hx175_1 hx175_2 hx175_3 hx175_4 hx175_5 hx175_6 hx176_0 hx176_1 hx176_2 hx176_3 hx176_4 hx176_5 hx176_6 hHeld ⊢
        refine pure_ (i := 0) (N := some 17) (v := ?_) (a' := ?_) (bm 10 1) rfl rfl (any_of HT_.out (by kernel_rfl)) (fun _ _ _ h => h) (Or.inl ⟨by rfl, ?_⟩) ?_ ?_
        rotate_left
        ·intro w'
         go_simp
         with_reducible rfl
        rotate_left
        ·simp only [Act.put, sA, sZ, sS, i64_w, i32_w]
         rfl
        refine pure_ (i := 1) (N := some 18) (v := ?_) (a' := ?_) (bm 10 3) rfl rfl (any_of HT_.out (by kernel_rfl)) (fun _ _ _ h => h) (Or.inl ⟨by rfl, ?_⟩) ?_ ?_
        rotate_left
        ·intro w'
         go_simp
         with_reducible rfl
        rotate_left
        ·simp only [Act.put, sA, sZ, sS, i64_w, i32_w]
         rfl
        refine pure_ (i := 2) (N := some 19) (v := ?_) (a' := ?_) (bm 10 7) rfl rfl (any_of HT_.out (by kernel_rfl)) (fun _ _ _ h => h) (Or.inl ⟨by rfl, ?_⟩) ?_ ?_
        rotate_left
        ·intro w'
         go_simp
         with_reducible rfl
        rotate_left
        ·simp only [Act.put, sA, sZ, sS, i64_w, i32_w]
         rfl
        refine pure_ (i := 4) (N := some 21) (v := ?_) (a' := ?_) (bm 10 23) rfl rfl (any_of HT_.out (by kernel_rfl)) (fun _ _ _ h => h) (Or.inl ⟨by rfl, ?_⟩) ?_ ?_
        rotate_left
        ·intro w'
         go_simp
         with_reducible rfl
        rotate_left
        ·simp only [Act.put, sA, sZ, sS, i64_w, i32_w]
         rfl
        refine pure_ (i := 5) (N := some 22) (v := ?_) (a' := ?_) (bm 10 55) rfl rfl (any_of HT_.out (by kernel_rfl)) (fun _ _ _ h => h) (Or.inl ⟨by rfl, ?_⟩) ?_ ?_
        rotate_left
        ·intro w'
         go_simp
         with_reducible rfl
        rotate_left
        ·simp only [Act.put, sA, sZ, sS, i64_w, i32_w]
         rfl
        refine pure_ (i := 6) (N := some 23) (v := ?_) (a' := ?_) (bm 10 119) rfl rfl (any_of HT_.out (by kernel_rfl)) (fun _ _ _ h => h) (Or.inl ⟨by rfl, ?_⟩) ?_ ?_
        rotate_left
        ·intro w'
         go_simp
         with_reducible rfl
        rotate_left
        ·simp only [Act.put, sA, sZ, sS, i64_w, i32_w]
         rfl
        refine take_ (i := 3) (N := some 20) (v := ?_) (a' := ?_) (bm 10 127) rfl rfl (take_ofW HT_.out HW_.out (by kernel_rfl)) (fun _ _ _ h => h) (Or.inl ⟨by rfl, ?_⟩) hHeld ?_ ?_
        rotate_left
        ·rintro w' ⟨s0, s1, s2, s3, s4, s5, s6, s7, s8, s9, s10, s11, s12, s13⟩
         go_simp
         with_reducible rfl
        rotate_left
        ·simp only [Act.put, sA, sZ, sS, i64_w, i32_w]
         rfl
        refine take_ (i := 7) (N := some 24) (v := ?_) (a' := ?_) (bm 10 255) rfl rfl (take_ofW HT_.out HW_.out (by kernel_rfl)) (fun _ _ _ h => h) (Or.inl ⟨by rfl, ?_⟩) hHeld ?_ ?_
        rotate_left
        ·rintro w' ⟨s0, s1, s2, s3, s4, s5, s6, s7, s8, s9, s10, s11, s12, s13⟩
         go_simp
         with_reducible rfl
        rotate_left
        ·simp only [Act.put, sA, sZ, sS, i64_w, i32_w]
         rfl
        refine one_ (i := 8) (N := some 25) (bm 10 511) rfl rfl (one_of HT_.out (by kernel_rfl)) (by decide) (fun K hK => ?_)
        refine goes_ Try.func12 (by kernel_rfl) rfl #[.agg #[.int .i64 ((rd_T30 l0 x5_1).f0), .int .i64 ((rd_T30 l0 x5_1).f1), .int .i64 ((rd_T30 l0 x5_1).f2), .int .i64 ((rd_T30 l0 x5_1).f3), .bool ((rd_T30 l0 x5_1).f4), .string ((rd_T30 l0 x5_1).f5), .slice A175_6 ((rd_T30 l0 x5_1).f6).length c175_6], .agg #[.int .i64 ((rd_T30 l1 x5_1).f0), .int .i64 ((rd_T30 l1 x5_1).f1), .int .i64 ((rd_T30 l1 x5_1).f2), .int .i64 ((rd_T30 l1 x5_1).f3), .bool ((rd_T30 l1 x5_1).f4), .string ((rd_T30 l1 x5_1).f5), .slice A176_6 ((rd_T30 l1 x5_1).f6).length c176_6]] (by rfl) rfl rfl (by (try simp only [List.map_toArray, List.map_cons, List.map_nil]); first | done | rfl | (simp only [List.length_drop, List.length_take]; rfl)) ?_
        with_reducible refine (laws_eqFrame.calls k1 ((rd_T30 l0 x5_1).f0) ((rd_T30 l0 x5_1).f1) ((rd_T30 l0 x5_1).f2) ((rd_T30 l0 x5_1).f3) ((rd_T30 l0 x5_1).f4) ((rd_T30 l0 x5_1).f5) _ _ ((rd_T30 l0 x5_1).f6) ((rd_T30 l1 x5_1).f0) ((rd_T30 l1 x5_1).f1) ((rd_T30 l1 x5_1).f2) ((rd_T30 l1 x5_1).f3) ((rd_T30 l1 x5_1).f4) ((rd_T30 l1 x5_1).f5) _ _ ((rd_T30 l1 x5_1).f6) false _ ?side1 ?side2 ?side3 ?side4 A7.out).mono ?_
        (case side1 => repeat (first | exact (Kd.C_below HR175_6.out HB.out) | (with_reducible refine Kd.C_alloc ?_ _) | (with_reducible refine Kd.C_drewN ?_ _) | (with_reducible refine Kd.C_drew ?_)))
        (case side2 => exact HC175_6.out)
        (case side3 => repeat (first | exact (Kd.C_below HR176_6.out HB.out) | (with_reducible refine Kd.C_alloc ?_ _) | (with_reducible refine Kd.C_drewN ?_ _) | (with_reducible refine Kd.C_drew ?_)))
        (case side4 => exact HC176_6.out)
        rintro e w12 ⟨rfl, hb⟩
        refine ⟨_, rfl, ?_⟩
        have n0_ := bS HB hb
        clear HB
        have HB := n0_
        clear n0_
        (try clear hb)
        (try clear hb2)
        (try clear hk)
        (try clear hi)
        refine hK.out _ _ ⟨((HB.out.cell (World.block_lt_of_cell? w _ hw175_0)).trans hw175_0), ((HB.out.cell (World.block_lt_of_cell? w _ hw175_1)).trans hw175_1), ((HB.out.cell (World.block_lt_of_cell? w _ hw175_2)).trans hw175_2), ((HB.out.cell (World.block_lt_of_cell? w _ hw175_3)).trans hw175_3), ((HB.out.cell (World.block_lt_of_cell? w _ hw175_4)).trans hw175_4), ((HB.out.cell (World.block_lt_of_cell? w _ hw175_5)).trans hw175_5), ((HB.out.cell (World.block_lt_of_cell? w _ hw175_6)).trans hw175_6), ((HB.out.cell (World.block_lt_of_cell? w _ hw176_0)).trans hw176_0), ((HB.out.cell (World.block_lt_of_cell? w _ hw176_1)).trans hw176_1), ((HB.out.cell (World.block_lt_of_cell? w _ hw176_2)).trans hw176_2), ((HB.out.cell (World.block_lt_of_cell? w _ hw176_3)).trans hw176_3), ((HB.out.cell (World.block_lt_of_cell? w _ hw176_4)).trans hw176_4), ((HB.out.cell (World.block_lt_of_cell? w _ hw176_5)).trans hw176_5), ((HB.out.cell (World.block_lt_of_cell? w _ hw176_6)).trans hw176_6)⟩ (fun hHeld => ?_)
        clear hK K
        refine norm_ (a' := ?_) ?_ ?_
        rotate_left
        ·show Act.put _ (some 25) _ = _
         simp only [Act.put, sA, sZ, sS, i64_w, i32_w]
         rfl
        refine pure_ (i := 9) (N := some 26) (v := ?_) (a' := ?_) (bm 10 1023) rfl rfl (any_of HT_.out (by kernel_rfl)) (fun _ _ _ h => h) (Or.inl ⟨by rfl, ?_⟩) ?_ ?_
        rotate_left
        ·intro w'
         go_simp
         with_reducible rfl
        rotate_left
        ·simp only [Act.put, sA, sZ, sS, i64_w, i32_w]
         rfl
        refine done_ (done_of HT_.out (by kernel_rfl)) ?_
        try go_wp2
        go_ret
        exact ⟨by first | rfl | (simp [errW_none, errW_some] <;> rfl) | (simp [*, errW_none, errW_some] <;> rfl), by repeat (first | (with_reducible first | exact HB.out | apply below_alloc | apply pw_below_drewN | apply below_drew1) | exact HB.out)⟩
      ·rw [if_neg c6] at H
       exact absurd H (by simp)
     ·rw [if_neg c5] at H
      exact absurd H (by simp)
    ·rw [if_neg c4] at H
     have c4b0 : decide (x5_1 < (l0.length : Int)) = false := decide_eq_false c4
     clear c4
     obtain rfl := Option.some.inj H
     go_wp2
     go_ret
     exact ⟨by first | rfl | (simp [errW_none, errW_some] <;> rfl) | (simp [*, errW_none, errW_some] <;> rfl), by repeat (first | (with_reducible first | exact HB.out | apply below_alloc | apply pw_below_drewN | apply below_drew1) | exact HB.out)⟩
 ·rw [if_neg c3] at H
  have c3b0 : ((l0.length : Int) == (l1.length : Int)) = false := beq_eq_false_iff_ne.mpr c3
  have c3b1 : ((l0.length : Int) != (l1.length : Int)) = true := bne_iff_ne.mpr c3
  have c3b2 : (l0.length == l1.length) = false := by first | simpa using c3 | (simp at c3 ⊢; omega)
  obtain rfl := Option.some.inj H
  go_enter Try.func31, Try.ntmps31
  go_wp2
  go_ret
  exact ⟨by first | rfl | (simp [errW_none, errW_some] <;> rfl) | (simp [*, errW_none, errW_some] <;> rfl), by repeat (first | (with_reducible first | exact HB.out | apply below_alloc | apply pw_below_drewN | apply below_drew1) | exact HB.out)⟩

/-! ### laws_FnExactFramesBytes: function 5 -/
def laws_FnExactFramesBytes.j0 : Nat → List (S24) → List (S30) → Bool → Option (Bool)
 | 0, _, _, _ => none
 | k + 1, x0, x6, x34 => if x34 = true then (some false) else ((laws_toFrameS.f k x0).bind fun t189 => ((laws_eqFrameS.f k x6 t189).bind fun t192 => (if t192 = true then (some true) else (some false))))
def laws_FnExactFramesBytes.f (k : Nat) (l0 : List (S24)) : Option (Bool) := (laws_szFrameS.f k l0 1048576).bind fun t178 => (if t178 < 0 then (some true) else ((laws_toFrameS.f k l0).bind fun t179 => ((spec_FramesBytes.f k t179).bind fun bt182 => ((laws_toFrameS.f k l0).bind fun t184 => ((impl_FramesBytes.f k t184).bind fun bt187 => (if bt187.1.toList = bt182.1.toList then (laws_FnExactFramesBytes.j0 k l0 t184 (bt187.2 != bt182.2)) else (laws_FnExactFramesBytes.j0 k l0 t184 true)))))))
theorem laws_FnExactFramesBytes.mono_l : ∀ k, (∀ y0 y1 y2, LeO (laws_FnExactFramesBytes.j0 k y0 y1 y2) (laws_FnExactFramesBytes.j0 (k + 1) y0 y1 y2))
 | 0 => fun _ _ _ r h => by simp [laws_FnExactFramesBytes.j0] at h
 | k + 1 => by
  have ih0 := laws_FnExactFramesBytes.mono_l k
  ·intro y0 y1 y2
   unfold laws_FnExactFramesBytes.j0
   repeat' first
   | (with_reducible exact ih0 _ _ _)
   | (with_reducible exact impl_FramesBytes.mono _ _)
   | (with_reducible exact laws_eqFrameS.mono _ _ _)
   | (with_reducible exact laws_szFrameS.mono _ _ _)
   | (with_reducible exact laws_toFrameS.mono _ _)
   | (with_reducible exact spec_FramesBytes.mono _ _)
   | (with_reducible exact LeO.refl _)
   | (with_reducible exact LeO.none _)
   | (with_reducible refine LeO.ite ?_ ?_)
   | (with_reducible refine LeO.bind ?_ (fun _ => ?_))
   | exact ih0 _ _ _
   | exact impl_FramesBytes.mono _ _
   | exact laws_eqFrameS.mono _ _ _
   | exact laws_szFrameS.mono _ _ _
   | exact laws_toFrameS.mono _ _
   | exact spec_FramesBytes.mono _ _
   | exact LeO.none _
   | refine LeO.ite ?_ ?_
   | refine LeO.bind ?_ (fun _ => ?_)
theorem laws_FnExactFramesBytes.mono : ∀ a0 k, LeO (laws_FnExactFramesBytes.f k a0) (laws_FnExactFramesBytes.f (k + 1) a0) := by
 intro a0 k
 have ih0 := laws_FnExactFramesBytes.mono_l k
 unfold laws_FnExactFramesBytes.f
 repeat' first
   | (with_reducible exact ih0 _ _ _)
   | (with_reducible exact impl_FramesBytes.mono _ _)
   | (with_reducible exact laws_eqFrameS.mono _ _ _)
   | (with_reducible exact laws_szFrameS.mono _ _ _)
   | (with_reducible exact laws_toFrameS.mono _ _)
   | (with_reducible exact spec_FramesBytes.mono _ _)
   | (with_reducible exact LeO.refl _)
   | (with_reducible exact LeO.none _)
   | (with_reducible refine LeO.ite ?_ ?_)
   | (with_reducible refine LeO.bind ?_ (fun _ => ?_))
   | exact ih0 _ _ _
   | exact impl_FramesBytes.mono _ _
   | exact laws_eqFrameS.mono _ _ _
   | exact laws_szFrameS.mono _ _ _
   | exact laws_toFrameS.mono _ _
   | exact spec_FramesBytes.mono _ _
   | exact LeO.none _
   | refine LeO.ite ?_ ?_
   | refine LeO.bind ?_ (fun _ => ?_)
set_option maxHeartbeats 64000000 in
set_option maxRecDepth 100000 in
theorem laws_FnExactFramesBytes.calls (k : Nat) (A0 : Option Addr) (c0 : Nat) (l0 : List (S24)) (r : Bool) (w : World) (hTR : r = true) (hr0 : Kd.C k24 w A0 l0.length l0) (hc0 : l0.length ≤ c0) (h : laws_FnExactFramesBytes.f k l0 = some r) :
  Calls Try.prog 5 #[.slice A0 l0.length c0] w fun e w' => e = .returned (.bool r) ∧ Below w.heap.size w w' := by
 have HTR := Aside0.mk hTR
 clear hTR
 have HR0 := Aside0.mk hr0
 have HC0 := Aside0.mk hc0
 clear hr0 hc0
 have HB := Aside0.mk (Below.refl w.heap.size w)
 have H : ((laws_szFrameS.f k l0 1048576).bind fun t178 => (if t178 < 0 then (some true) else ((laws_toFrameS.f k l0).bind fun t179 => ((spec_FramesBytes.f k t179).bind fun bt182 => ((laws_toFrameS.f k l0).bind fun t184 => ((impl_FramesBytes.f k t184).bind fun bt187 => (if bt187.1.toList = bt182.1.toList then (laws_FnExactFramesBytes.j0 k l0 t184 (bt187.2 != bt182.2)) else (laws_FnExactFramesBytes.j0 k l0 t184 true)))))))) = some r := h
 clear h
 replace H := Option.bind_eq_some_iff.mp H
 obtain ⟨t178, A20, H⟩ := H
 replace H : (if t178 < 0 then (some true) else ((laws_toFrameS.f k l0).bind fun t179 => ((spec_FramesBytes.f k t179).bind fun bt182 => ((laws_toFrameS.f k l0).bind fun t184 => ((impl_FramesBytes.f k t184).bind fun bt187 => (if bt187.1.toList = bt182.1.toList then (laws_FnExactFramesBytes.j0 k l0 t184 (bt187.2 != bt182.2)) else (laws_FnExactFramesBytes.j0 k l0 t184 true))))))) = some r := H
 have A2 := Aside0.mk A20
 clear A20
 by_cases c3 : t178 < 0
 ·rw [if_pos c3] at H
  have c3b0 : decide (t178 < 0) = true := decide_eq_true c3
  clear c3
  obtain rfl := Option.some.inj H
  go_enter Try.func5, Try.ntmps5
  go_wp2_with (first | ((with_reducible refine gate_callee (f := 27) rfl ?_); refine goesL_ (some 11) rfl rfl Try.func27 (by kernel_rfl) rfl #[.slice A0 l0.length c0, .int .i64 1048576] rfl (by (try simp only [List.map_toArray, List.map_cons, List.map_nil]); first | done | rfl | (simp only [List.length_drop, List.length_take]; rfl)) ?_; (with_reducible refine (laws_szFrameS.calls k _ _ l0 1048576 t178 _ ?side1 ?side2 A2.out).mono ?_); (case side1 => repeat (first | exact HR0.out | (with_reducible refine Kd.C_alloc ?_ _) | (with_reducible refine Kd.C_drewN ?_ _) | (with_reducible refine Kd.C_drew ?_))); (case side2 => exact HC0.out); rintro e w4 ⟨rfl, hb⟩; refine ⟨_, rfl, ?_⟩; have n0_ := bS HB hb; clear HB; have HB := n0_; clear n0_; (try clear hb); (try clear hb2); (try clear hk); (try clear hi)))
  go_ret
  exact ⟨by first | rfl | (simp [errW_none, errW_some] <;> rfl) | (simp [*, errW_none, errW_some] <;> rfl), by repeat (first | (with_reducible first | exact HB.out | apply below_alloc | apply pw_below_drewN | apply below_drew1) | exact HB.out)⟩
 ·rw [if_neg c3] at H
  have c3b0 : decide (t178 < 0) = false := decide_eq_false c3
  clear c3
  replace H := Option.bind_eq_some_iff.mp H
  obtain ⟨t179, A50, H⟩ := H
  replace H : ((spec_FramesBytes.f k t179).bind fun bt182 => ((laws_toFrameS.f k l0).bind fun t184 => ((impl_FramesBytes.f k t184).bind fun bt187 => (if bt187.1.toList = bt182.1.toList then (laws_FnExactFramesBytes.j0 k l0 t184 (bt187.2 != bt182.2)) else (laws_FnExactFramesBytes.j0 k l0 t184 true))))) = some r := H
  have A5 := Aside0.mk A50
  clear A50
  replace H := Option.bind_eq_some_iff.mp H
  obtain ⟨⟨t182, t183⟩, A60, H⟩ := H
  replace H : ((laws_toFrameS.f k l0).bind fun t184 => ((impl_FramesBytes.f k t184).bind fun bt187 => (if bt187.1.toList = t182.toList then (laws_FnExactFramesBytes.j0 k l0 t184 (bt187.2 != t183)) else (laws_FnExactFramesBytes.j0 k l0 t184 true)))) = some r := H
  have A6 := Aside0.mk A60
  clear A60
  replace H := Option.bind_eq_some_iff.mp H
  obtain ⟨t184, A70, H⟩ := H
  replace H : ((impl_FramesBytes.f k t184).bind fun bt187 => (if bt187.1.toList = t182.toList then (laws_FnExactFramesBytes.j0 k l0 t184 (bt187.2 != t183)) else (laws_FnExactFramesBytes.j0 k l0 t184 true))) = some r := H
  have A7 := Aside0.mk A70
  clear A70
  replace H := Option.bind_eq_some_iff.mp H
  obtain ⟨⟨t187, t188⟩, A80, H⟩ := H
  replace H : (if t187.toList = t182.toList then (laws_FnExactFramesBytes.j0 k l0 t184 (t188 != t183)) else (laws_FnExactFramesBytes.j0 k l0 t184 true)) = some r := H
  have A8 := Aside0.mk A80
  clear A80
  have HC9 := Aside0.mk H
  clear H
  go_enter Try.func5, Try.ntmps5
  go_upto_region 8 with (first | ((with_reducible refine gate_callee (f := 27) rfl ?_); refine goesL_ (some 11) rfl rfl Try.func27 (by kernel_rfl) rfl #[.slice A0 l0.length c0, .int .i64 1048576] rfl (by (try simp only [List.map_toArray, List.map_cons, List.map_nil]); first | done | rfl | (simp only [List.length_drop, List.length_take]; rfl)) ?_; (with_reducible refine (laws_szFrameS.calls k _ _ l0 1048576 t178 _ ?side1 ?side2 A2.out).mono ?_); (case side1 => repeat (first | exact HR0.out | (with_reducible refine Kd.C_alloc ?_ _) | (with_reducible refine Kd.C_drewN ?_ _) | (with_reducible refine Kd.C_drew ?_))); (case side2 => exact HC0.out); rintro e w10 ⟨rfl, hb⟩; refine ⟨_, rfl, ?_⟩; have n0_ := bS HB hb; clear HB; have HB := n0_; clear n0_; (try clear hb); (try clear hb2); (try clear hk); (try clear hi)) | ((with_reducible refine gate_callee (f := 29) rfl ?_); refine goesL_ (some 16) rfl rfl Try.func29 (by kernel_rfl) rfl #[.slice A0 l0.length c0] rfl (by (try simp only [List.map_toArray, List.map_cons, List.map_nil]); first | done | rfl | (simp only [List.length_drop, List.length_take]; rfl)) ?_; (with_reducible refine (laws_toFrameS.calls k _ _ l0 t179 _ ?side1 ?side2 A5.out).mono ?_); (case side1 => repeat (first | exact (Kd.C_below HR0.out HB.out) | (with_reducible refine Kd.C_alloc ?_ _) | (with_reducible refine Kd.C_drewN ?_ _) | (with_reducible refine Kd.C_drew ?_))); (case side2 => exact HC0.out); rintro e w11 ⟨v180, rfl, ho0, hb⟩; refine ⟨_, rfl, ?_⟩; have n0_ := Aside0.mk (Kd.S_lower ho0 (below_size (by repeat (first | (with_reducible first | exact HB.out | apply below_alloc | apply pw_below_drewN | apply below_drew1) | exact HB.out)))); have n1_ := bS HB hb; clear HB; have HO181 := n0_; have HB := n1_; clear n0_ n1_; (try clear hb); (try clear hb2); (try clear hk); (try clear hi); (try clear ho0); obtain ⟨Ao12, co12, eo12⟩ := Kd.S_slice HO181.out; subst eo12) | ((with_reducible refine gate_callee (f := 28) rfl ?_); refine goesL_ (some 17) rfl rfl Try.func28 (by kernel_rfl) rfl #[.slice Ao12 t179.length co12] rfl (by (try simp only [List.map_toArray, List.map_cons, List.map_nil]); first | done | rfl | (simp only [List.length_drop, List.length_take]; rfl)) ?_; (with_reducible refine (spec_FramesBytes.calls k _ _ t179 t182 t183 _ ?side1 ?side2 A6.out).mono ?_); (case side1 => repeat (first | exact (Kd.S_reads' HO181.out).2.2 | (with_reducible refine Kd.C_alloc ?_ _) | (with_reducible refine Kd.C_drewN ?_ _) | (with_reducible refine Kd.C_drew ?_))); (case side2 => exact (Kd.S_reads' HO181.out).2.1); rintro e w13 ⟨rfl, hb⟩; refine ⟨_, rfl, ?_⟩; have n0_ := Aside0.mk (Kd.S_below (by (with_reducible repeat (first | apply Kd.S_alloc | apply Kd.S_drewN | apply Kd.S_drew)); exact HO181.out) hb); have n1_ := bS HB hb; clear HO181; clear HB; have HO181 := n0_; have HB := n1_; clear n0_ n1_; (try clear hb); (try clear hb2); (try clear hk); (try clear hi)) | ((with_reducible refine gate_callee (f := 29) rfl ?_); refine goesL_ (some 21) rfl rfl Try.func29 (by kernel_rfl) rfl #[.slice A0 l0.length c0] rfl (by (try simp only [List.map_toArray, List.map_cons, List.map_nil]); first | done | rfl | (simp only [List.length_drop, List.length_take]; rfl)) ?_; (with_reducible refine (laws_toFrameS.calls k _ _ l0 t184 _ ?side1 ?side2 A7.out).mono ?_); (case side1 => repeat (first | exact (Kd.C_below HR0.out HB.out) | (with_reducible refine Kd.C_alloc ?_ _) | (with_reducible refine Kd.C_drewN ?_ _) | (with_reducible refine Kd.C_drew ?_))); (case side2 => exact HC0.out); rintro e w14 ⟨v185, rfl, ho0, hb⟩; refine ⟨_, rfl, ?_⟩; have n0_ := Aside0.mk (Kd.S_elder' (by (with_reducible repeat (first | apply Kd.S_alloc | apply Kd.S_drewN | apply Kd.S_drew)); exact HO181.out) (Kd.S_base ho0) hb); have n1_ := Aside0.mk (Kd.S_lower (Kd.S_new' ho0 (Kd.S_lt (by (with_reducible repeat (first | apply Kd.S_alloc | apply Kd.S_drewN | apply Kd.S_drew)); exact HO181.out))) (below_size (by repeat (first | (with_reducible first | exact HB.out | apply below_alloc | apply pw_below_drewN | apply below_drew1) | exact HB.out)))); have n2_ := bS HB hb; clear HO181; clear HB; have HO181 := n0_; have HO186 := n1_; have HB := n2_; clear n0_ n1_ n2_; (try clear hb); (try clear hb2); (try clear hk); (try clear hi); (try clear ho0); obtain ⟨Ao15, co15, eo15⟩ := Kd.S_slice HO186.out; subst eo15) | ((with_reducible refine gate_callee (f := 30) rfl ?_); refine goesL_ (some 24) rfl rfl Try.func30 (by kernel_rfl) rfl #[.slice Ao15 t184.length co15] rfl (by (try simp only [List.map_toArray, List.map_cons, List.map_nil]); first | done | rfl | (simp only [List.length_drop, List.length_take]; rfl)) ?_; (with_reducible refine (impl_FramesBytes.calls k _ _ t184 t187 t188 _ ?side1 ?side2 A8.out).mono ?_); (case side1 => repeat (first | exact (Kd.S_reads' HO186.out).2.2 | (with_reducible refine Kd.C_alloc ?_ _) | (with_reducible refine Kd.C_drewN ?_ _) | (with_reducible refine Kd.C_drew ?_))); (case side2 => exact (Kd.S_reads' HO186.out).2.1); rintro e w16 ⟨rfl, hb⟩; refine ⟨_, rfl, ?_⟩; have n0_ := Aside0.mk (Kd.S_below (by (with_reducible repeat (first | apply Kd.S_alloc | apply Kd.S_drewN | apply Kd.S_drew)); exact HO181.out) hb); have n1_ := Aside0.mk (Kd.S_below (by (with_reducible repeat (first | apply Kd.S_alloc | apply Kd.S_drewN | apply Kd.S_drew)); exact HO186.out) hb); have n2_ := bS HB hb; clear HO181; clear HO186; clear HB; have HO181 := n0_; have HO186 := n1_; have HB := n2_; clear n0_ n1_ n2_; (try clear hb); (try clear hb2); (try clear hk); (try clear hi)))
  (try simp only [Act.put, sA, sZ, sS])
  go_cut [34] (fun v34 wc => ∃ (kq : Nat) (x34_8 : Bool), v34 = .bool x34_8 ∧ Aside0 (laws_FnExactFramesBytes.j0 kq l0 t184 x34_8 = some r) ∧ Aside0 (kq ≤ k) ∧ Aside0 (Kd.S k30 30 wc w.heap.size (fun _ => True) (.slice Ao15 t184.length co15) t184) ∧ Aside0 (Below w.heap.size w wc))
  case first =>
   have H := HC9.out
   clear HC9
   by_cases c17 : t187.toList = t182.toList
   ·rw [if_pos c17] at H
    have c17b0 : (t187.toList == t182.toList) = true := beq_iff_eq.mpr c17
    have c17b1 : (t187.toList != t182.toList) = false := bne_eq_false_iff_eq.mpr c17
    clear c17
    (first | rw [c17b0] | (simp only [i64_w, i32_w]; rw [c17b0]) | skip)
    have H' := Aside0.mk H
    clear H
    go_wp2
    go_meet
    case rel => exact ⟨_, ((t188 != t183)), (by first | rfl | (simp; done) | (simp [*]; done)), H', ⟨by first | omega | exact Nat.le_refl _⟩, ⟨by (with_reducible repeat (first | apply Kd.S_alloc | apply Kd.S_drewN | apply Kd.S_drew)); exact Kd.S_mono HO186.out (fun _ hk => trivial)⟩, ⟨by repeat (first | (with_reducible first | exact HB.out | apply below_alloc | apply pw_below_drewN | apply below_drew1) | exact HB.out)⟩⟩
   ·rw [if_neg c17] at H
    have c17b0 : (t187.toList == t182.toList) = false := beq_eq_false_iff_ne.mpr c17
    have c17b1 : (t187.toList != t182.toList) = true := bne_iff_ne.mpr c17
    (first | rw [c17b0] | (simp only [i64_w, i32_w]; rw [c17b0]) | skip)
    have H' := Aside0.mk H
    clear H
    go_wp2
    go_meet
    case rel => exact ⟨_, (true), (by first | rfl | (simp; done) | (simp [*]; done)), H', ⟨by first | omega | exact Nat.le_refl _⟩, ⟨by (with_reducible repeat (first | apply Kd.S_alloc | apply Kd.S_drewN | apply Kd.S_drew)); exact Kd.S_mono HO186.out (fun _ hk => trivial)⟩, ⟨by repeat (first | (with_reducible first | exact HB.out | apply below_alloc | apply pw_below_drewN | apply below_drew1) | exact HB.out)⟩⟩
  case rest =>
   clear HC9
   try clear c1
   try clear c2
   try clear p2
   try clear c3
   try clear c3b0
   try clear c5
   try clear c17
   try clear c17b0
   try clear c17b1
   obtain ⟨kq, x34_8, rfl, HA, HJ8, HO_6, HB⟩ := hcut
   cases kq with
   | zero => exact absurd HA.out (by simp [laws_FnExactFramesBytes.j0])
   | succ kj8 =>
    have H := HA.out
    clear HA
    simp only [laws_FnExactFramesBytes.j0] at H
    by_cases c18 : x34_8 = true
    ·subst c18
     have H1 : (some false) = some r := by rw [if_pos rfl] at H; exact H
     clear H
     have H := H1
     clear H1
     exact absurd (Option.some.inj H) (by rw [HTR.out]; decide)
    ·replace c18 := Bool.eq_false_iff.mpr c18
     subst c18
     have H1 : ((laws_toFrameS.f kj8 l0).bind fun t189 => ((laws_eqFrameS.f kj8 t184 t189).bind fun t192 => (if t192 = true then (some true) else (some false)))) = some r := by rw [if_neg (show ¬ (false = true) by decide)] at H; exact H
     clear H
     have H := H1
     clear H1
     replace H := Option.bind_eq_some_iff.mp H
     obtain ⟨t189, A190, H⟩ := H
     replace H : ((laws_eqFrameS.f kj8 t184 t189).bind fun t192 => (if t192 = true then (some true) else (some false))) = some r := H
     have A19 := Aside0.mk A190
     clear A190
     replace H := Option.bind_eq_some_iff.mp H
     obtain ⟨t192, A200, H⟩ := H
     replace H : (if t192 = true then (some true) else (some false)) = some r := H
     have A20 := Aside0.mk A200
     clear A200
     by_cases c21 : t192 = true
     ·subst c21
      have H1 : (some true) = some r := by rw [if_pos rfl] at H; exact H
      clear H
      have H := H1
      clear H1
      obtain rfl := Option.some.inj H
      go_wp2_with (first | ((with_reducible refine gate_callee (f := 29) rfl ?_); refine goesL_ (some 37) rfl rfl Try.func29 (by kernel_rfl) rfl #[.slice A0 l0.length c0] rfl (by (try simp only [List.map_toArray, List.map_cons, List.map_nil]); first | done | rfl | (simp only [List.length_drop, List.length_take]; rfl)) ?_; (with_reducible refine (laws_toFrameS.calls kj8 _ _ l0 t189 _ ?side1 ?side2 A19.out).mono ?_); (case side1 => repeat (first | exact (Kd.C_below HR0.out HB.out) | (with_reducible refine Kd.C_alloc ?_ _) | (with_reducible refine Kd.C_drewN ?_ _) | (with_reducible refine Kd.C_drew ?_))); (case side2 => exact HC0.out); rintro e w22 ⟨v190, rfl, ho0, hb⟩; refine ⟨_, rfl, ?_⟩; have n0_ := Aside0.mk (Kd.S_elder' (by (with_reducible repeat (first | apply Kd.S_alloc | apply Kd.S_drewN | apply Kd.S_drew)); exact HO_6.out) (Kd.S_base ho0) hb); have n1_ := Aside0.mk (Kd.S_lower (Kd.S_new' ho0 (Kd.S_lt (by (with_reducible repeat (first | apply Kd.S_alloc | apply Kd.S_drewN | apply Kd.S_drew)); exact HO_6.out))) (below_size (by repeat (first | (with_reducible first | exact HB.out | apply below_alloc | apply pw_below_drewN | apply below_drew1) | exact HB.out)))); have n2_ := bS HB hb; clear HO_6; clear HB; have HO_6 := n0_; have HO191 := n1_; have HB := n2_; clear n0_ n1_ n2_; (try clear hb); (try clear hb2); (try clear hk); (try clear hi); (try clear ho0); obtain ⟨Ao23, co23, eo23⟩ := Kd.S_slice HO191.out; subst eo23) | ((with_reducible refine gate_callee (f := 31) rfl ?_); refine goesL_ (some 38) rfl rfl Try.func31 (by kernel_rfl) rfl #[.slice Ao15 t184.length co15, .slice Ao23 t189.length co23] rfl (by (try simp only [List.map_toArray, List.map_cons, List.map_nil]); first | done | rfl | (simp only [List.length_drop, List.length_take]; rfl)) ?_; (with_reducible refine (laws_eqFrameS.calls kj8 _ _ t184 _ _ t189 true _ ?side1 ?side2 ?side3 ?side4 A20.out).mono ?_); (case side1 => repeat (first | exact (Kd.S_reads' HO_6.out).2.2 | (with_reducible refine Kd.C_alloc ?_ _) | (with_reducible refine Kd.C_drewN ?_ _) | (with_reducible refine Kd.C_drew ?_))); (case side2 => exact (Kd.S_reads' HO_6.out).2.1); (case side3 => repeat (first | exact (Kd.S_reads' HO191.out).2.2 | (with_reducible refine Kd.C_alloc ?_ _) | (with_reducible refine Kd.C_drewN ?_ _) | (with_reducible refine Kd.C_drew ?_))); (case side4 => exact (Kd.S_reads' HO191.out).2.1); rintro e w24 ⟨rfl, hb⟩; refine ⟨_, rfl, ?_⟩; have n0_ := Aside0.mk (Kd.S_below (by (with_reducible repeat (first | apply Kd.S_alloc | apply Kd.S_drewN | apply Kd.S_drew)); exact HO_6.out) hb); have n1_ := Aside0.mk (Kd.S_below (by (with_reducible repeat (first | apply Kd.S_alloc | apply Kd.S_drewN | apply Kd.S_drew)); exact HO191.out) hb); have n2_ := bS HB hb; clear HO_6; clear HO191; clear HB; have HO_6 := n0_; have HO191 := n1_; have HB := n2_; clear n0_ n1_ n2_; (try clear hb); (try clear hb2); (try clear hk); (try clear hi)))
      go_ret
      exact ⟨by first | rfl | (simp [errW_none, errW_some] <;> rfl) | (simp [*, errW_none, errW_some] <;> rfl), by repeat (first | (with_reducible first | exact HB.out | apply below_alloc | apply pw_below_drewN | apply below_drew1) | exact HB.out)⟩
     ·replace c21 := Bool.eq_false_iff.mpr c21
      subst c21
      have H1 : (some false) = some r := by rw [if_neg (show ¬ (false = true) by decide)] at H; exact H
      clear H
      have H := H1
      clear H1
      exact absurd (Option.some.inj H) (by rw [HTR.out]; decide)

end Go.Proofs.Ytpdoplkiaejpiaa.PFnExactFramesBytes
