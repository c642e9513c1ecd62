-- Written by a program of this session (wip/xprint.py).
import Derived.Test.YthkmjfapljmmpaaPFnExactReadSomex0
import Derived.Test.YthkmjfapljmmpaaPFnExactReadSomex6
namespace Go.Proofs.Ythkmjfapljmmpaa.PFnExactReadSome
open Go.RowKit Go.Proofs.YthkmjfapljmmpaaW.PrintWords Go.Proofs.YthkmjfapljmmpaaW.PrintLast Go.Proofs.YthkmjfapljmmpaaW.PrintMore
open Go.Proofs.Ythkmjfapljmmpaa.ShortK (bN bD bA sA sZ sS mR mB bX bLt bS cz2 fz2 cx2 cz3 fz3 cx3 cz4 fz4 cx4 cz5 fz5 cx5 cz6 fz6 cx6 cz7 fz7 cx7 cz8 fz8 cx8 cz9 fz9 cx9 cz10 fz10 cx10 cz11 fz11 cx11 cz12 fz12 cx12)
open Go.Proofs.Ythkmjfapljmmpaa.StoreK (bm)
attribute [local go_sem] Go.Proofs.Ythkmjfapljmmpaa.StoreK.isSome_setCell max2_int min2_int max_two min_two max_three min_three max_four min_four   -- for this text's walks alone
set_option linter.unusedVariables false
set_option linter.unusedSimpArgs false

/-! ### impl_GoodInflow: function 111 -/
mutual
def impl_GoodInflow.j0 : Nat → Bool → Int → Int → Int → List (S177) → Option (Bool)
 | 0, _, _, _, _, _ => none
 | k + 1, x37, x187000, x187001, x187002, x187003 => if x37 = true then (some false) else (impl_GoodInflow.l0 k x187003 (x187003.length : Int) 0 x187000 x187001 x187002 x187003)
def impl_GoodInflow.l0 : Nat → List (S177) → Int → Int → Int → Int → Int → List (S177) → Option (Bool)
 | 0, _, _, _, _, _, _, _ => none
 | k + 1, x39, x40, x41, x187000, x187001, x187002, x187003 => if x41 < x40 then (if 0 ≤ x41 then (if x41 < (x39.length : Int) then ((impl_in.f ((rd_T177 x39 x41).f0) x187001 x187000).bind fun t192 => (if t192 = true then (if ((rd_T177 x39 x41).f1).toList = ([] : List UInt8) then (impl_GoodInflow.j2 k x39 x40 x41 true x187000 x187001 x187002 x187003) else ((impl_Piece_end.f ((rd_T177 x39 x41).f0) ((rd_T177 x39 x41).f1)).bind fun t193 => (if t193 > x187000 then (impl_GoodInflow.j2 k x39 x40 x41 true x187000 x187001 x187002 x187003) else (if x187002 = (-1) then (if x41 > 0 then (if 0 ≤ (wrap64 (x41 - 1)) then (if (wrap64 (x41 - 1)) < (x187003.length : Int) then ((impl_Piece_end.f ((rd_T177 x187003 (wrap64 (x41 - 1))).f0) ((rd_T177 x187003 (wrap64 (x41 - 1))).f1)).bind fun t195 => (impl_GoodInflow.j2 k x39 x40 x41 (decide (t195 ≥ ((rd_T177 x39 x41).f0))) x187000 x187001 x187002 x187003)) else (none)) else (none)) else (impl_GoodInflow.j2 k x39 x40 x41 false x187000 x187001 x187002 x187003)) else ((impl_Piece_end.f ((rd_T177 x39 x41).f0) ((rd_T177 x39 x41).f1)).bind fun t196 => (if t196 > x187002 then (impl_GoodInflow.j2 k x39 x40 x41 true x187000 x187001 x187002 x187003) else (if x41 > 0 then (if 0 ≤ (wrap64 (x41 - 1)) then (if (wrap64 (x41 - 1)) < (x187003.length : Int) then ((impl_Piece_end.f ((rd_T177 x187003 (wrap64 (x41 - 1))).f0) ((rd_T177 x187003 (wrap64 (x41 - 1))).f1)).bind fun t198 => (impl_GoodInflow.j2 k x39 x40 x41 (decide (t198 ≥ ((rd_T177 x39 x41).f0))) x187000 x187001 x187002 x187003)) else (none)) else (none)) else (impl_GoodInflow.j2 k x39 x40 x41 false x187000 x187001 x187002 x187003)))))))) else (impl_GoodInflow.j2 k x39 x40 x41 true x187000 x187001 x187002 x187003))) else (none)) else (none)) else (some true)
def impl_GoodInflow.j2 : Nat → List (S177) → Int → Int → Bool → Int → Int → Int → List (S177) → Option (Bool)
 | 0, _, _, _, _, _, _, _, _ => none
 | k + 1, x39, x40, x41, x93, x187000, x187001, x187002, x187003 => if x93 = true then (some false) else (impl_GoodInflow.l0 k x39 x40 (wrap64 (x41 + 1)) x187000 x187001 x187002 x187003)
end
def impl_GoodInflow.f (k : Nat) (a0_0 : Int) (a0_1 : Int) (a0_2 : Int) (l0_3 : List (S177)) : Option (Bool) := (impl_in.f a0_0 0 4000).bind fun t187 => (if t187 = true then ((impl_in.f a0_1 0 a0_0).bind fun t188 => (if t188 = true then (if a0_2 = (-1) then (impl_GoodInflow.j0 k (decide ((l0_3.length : Int) > 40)) a0_0 a0_1 a0_2 l0_3) else ((impl_in.f a0_2 a0_1 a0_0).bind fun t189 => (if t189 = true then (impl_GoodInflow.j0 k (decide ((l0_3.length : Int) > 40)) a0_0 a0_1 a0_2 l0_3) else (impl_GoodInflow.j0 k true a0_0 a0_1 a0_2 l0_3)))) else (impl_GoodInflow.j0 k true a0_0 a0_1 a0_2 l0_3))) else (impl_GoodInflow.j0 k true a0_0 a0_1 a0_2 l0_3))
theorem impl_GoodInflow.mono_l : ∀ k, (∀ y0 y1 y2 y3 y4, LeO (impl_GoodInflow.j0 k y0 y1 y2 y3 y4) (impl_GoodInflow.j0 (k + 1) y0 y1 y2 y3 y4)) ∧ (∀ y0 y1 y2 y3 y4 y5 y6, LeO (impl_GoodInflow.l0 k y0 y1 y2 y3 y4 y5 y6) (impl_GoodInflow.l0 (k + 1) y0 y1 y2 y3 y4 y5 y6)) ∧ (∀ y0 y1 y2 y3 y4 y5 y6 y7, LeO (impl_GoodInflow.j2 k y0 y1 y2 y3 y4 y5 y6 y7) (impl_GoodInflow.j2 (k + 1) y0 y1 y2 y3 y4 y5 y6 y7))
 | 0 => ⟨fun _ _ _ _ _ r h => by simp [impl_GoodInflow.j0] at h, fun _ _ _ _ _ _ _ r h => by simp [impl_GoodInflow.l0] at h, fun _ _ _ _ _ _ _ _ r h => by simp [impl_GoodInflow.j2] at h⟩
 | k + 1 => by
  obtain ⟨ih0, ih1, ih2⟩ := impl_GoodInflow.mono_l k
  refine ⟨?_, ?_, ?_⟩
  ·intro y0 y1 y2 y3 y4
   unfold impl_GoodInflow.j0
   repeat' first
   | (with_reducible exact ih0 _ _ _ _ _)
   | (with_reducible exact ih1 _ _ _ _ _ _ _)
   | (with_reducible exact ih2 _ _ _ _ _ _ _ _)
   | (with_reducible exact LeO.refl _)
   | (with_reducible exact LeO.none _)
   | (with_reducible refine LeO.ite ?_ ?_)
   | (with_reducible refine LeO.bind ?_ (fun _ => ?_))
   | exact ih0 _ _ _ _ _
   | exact ih1 _ _ _ _ _ _ _
   | exact ih2 _ _ _ _ _ _ _ _
   | exact LeO.none _
   | refine LeO.ite ?_ ?_
   | refine LeO.bind ?_ (fun _ => ?_)
  ·intro y0 y1 y2 y3 y4 y5 y6
   unfold impl_GoodInflow.l0
   repeat' first
   | (with_reducible exact ih0 _ _ _ _ _)
   | (with_reducible exact ih1 _ _ _ _ _ _ _)
   | (with_reducible exact ih2 _ _ _ _ _ _ _ _)
   | (with_reducible exact LeO.refl _)
   | (with_reducible exact LeO.none _)
   | (with_reducible refine LeO.ite ?_ ?_)
   | (with_reducible refine LeO.bind ?_ (fun _ => ?_))
   | exact ih0 _ _ _ _ _
   | exact ih1 _ _ _ _ _ _ _
   | exact ih2 _ _ _ _ _ _ _ _
   | exact LeO.none _
   | refine LeO.ite ?_ ?_
   | refine LeO.bind ?_ (fun _ => ?_)
  ·intro y0 y1 y2 y3 y4 y5 y6 y7
   unfold impl_GoodInflow.j2
   repeat' first
   | (with_reducible exact ih0 _ _ _ _ _)
   | (with_reducible exact ih1 _ _ _ _ _ _ _)
   | (with_reducible exact ih2 _ _ _ _ _ _ _ _)
   | (with_reducible exact LeO.refl _)
   | (with_reducible exact LeO.none _)
   | (with_reducible refine LeO.ite ?_ ?_)
   | (with_reducible refine LeO.bind ?_ (fun _ => ?_))
   | exact ih0 _ _ _ _ _
   | exact ih1 _ _ _ _ _ _ _
   | exact ih2 _ _ _ _ _ _ _ _
   | exact LeO.none _
   | refine LeO.ite ?_ ?_
   | refine LeO.bind ?_ (fun _ => ?_)
theorem impl_GoodInflow.mono : ∀ a0 a1 a2 a3 k, LeO (impl_GoodInflow.f k a0 a1 a2 a3) (impl_GoodInflow.f (k + 1) a0 a1 a2 a3) := by
 intro a0 a1 a2 a3 k
 obtain ⟨ih0, ih1, ih2⟩ := impl_GoodInflow.mono_l k
 unfold impl_GoodInflow.f
 repeat' first
   | (with_reducible exact ih0 _ _ _ _ _)
   | (with_reducible exact ih1 _ _ _ _ _ _ _)
   | (with_reducible exact ih2 _ _ _ _ _ _ _ _)
   | (with_reducible exact LeO.refl _)
   | (with_reducible exact LeO.none _)
   | (with_reducible refine LeO.ite ?_ ?_)
   | (with_reducible refine LeO.bind ?_ (fun _ => ?_))
   | exact ih0 _ _ _ _ _
   | exact ih1 _ _ _ _ _ _ _
   | exact ih2 _ _ _ _ _ _ _ _
   | exact LeO.none _
   | refine LeO.ite ?_ ?_
   | refine LeO.bind ?_ (fun _ => ?_)
def impl_GoodInflow.T6 : Bool × List (List Nat × List Nat) := (true, [([], []), ([0], [0]), ([], []), ([2], [2]), ([], []), ([4], [4]), ([1, 3, 5], [1, 3, 5]), ([6], [6]), ([7, 6], [7]), ([8], [8]), ([9, 8], [8, 9]), ([10, 8], [8, 10]), ([8, 11], [8, 11]), ([12, 8], [12]), ([13], [13]), ([14, 13, 13], [13, 14]), ([13], [13]), ([16, 13], [13, 16]), ([15, 17, 13], [13, 15, 17]), ([13, 18], [13, 18]), ([19, 15], [19]), ([20], [20]), ([21, 20], [20, 21]), ([22, 20], [20, 22]), ([23, 20, 20], [20, 23]), ([24], [24]), ([25, 24, 24], [24, 25]), ([24], [24]), ([27, 24], [24, 27]), ([26, 28, 24], [24, 26, 28]), ([24, 29, 20], [20, 24, 29]), ([20, 30], [20, 30]), ([31, 26], [31]), ([32], [32]), ([33, 32], [32, 33]), ([34, 32, 32], [32, 34]), ([35], [35]), ([36, 35], [35, 36]), ([35], [35]), ([38, 35], [35, 38]), ([37, 39, 35], [35, 37, 39]), ([40, 35], [35, 40]), ([41, 35, 35], [35, 41]), ([35], [35]), ([43, 35], [35, 43]), ([42, 44, 35], [35, 42, 44]), ([35, 45, 32], [32, 35, 45]), ([32, 46], [32, 46])])
def impl_GoodInflow.B6 : List Nat := [0, 1, 0, 4, 0, 16, 63, 127, 255, 511, 1023, 2047, 4095, 8191, 16383, 32767, 16383, 81919, 262143, 524287, 1048575, 2097151, 4194303, 8388607, 16777215, 33554431, 67108863, 33554431, 167772159, 536870911, 1073741823, 2147483647, 4294967295, 8589934591, 17179869183, 34359738367, 68719476735, 137438953471, 68719476735, 343597383679, 1099511627775, 2199023255551, 4398046511103, 68719476735, 8864812498943, 35184372088831, 70368744177663, 140737488355327]
theorem impl_GoodInflow.tab6 : rtab .any (opsOf Try.f111 6) = impl_GoodInflow.T6 := by kernel_rfl
theorem impl_GoodInflow.bits6 : waitsOk impl_GoodInflow.T6.2 impl_GoodInflow.B6 = true := by kernel_rfl
set_option maxHeartbeats 64000000 in
set_option maxRecDepth 100000 in
theorem impl_GoodInflow.calls (k : Nat) (a0_0 : Int) (a0_1 : Int) (a0_2 : Int) (A0_3 : Option Addr) (c0_3 : Nat) (l0_3 : List (S177)) (r : Bool) (w : World) (hr0_3 : Kd.C k177 w A0_3 l0_3.length l0_3) (hc0_3 : l0_3.length ≤ c0_3) (h : impl_GoodInflow.f k a0_0 a0_1 a0_2 l0_3 = some r) :
  Calls Try.prog 111 #[.agg #[.int .i64 a0_0, .int .i64 a0_1, .int .i64 a0_2, .slice A0_3 l0_3.length c0_3]] w fun e w' => e = .returned (.bool r) ∧ Below w.heap.size w w' := by
 have hu61 := Try.underlying61
 have hu177 := Try.underlying177
 have HR0_3 := Aside0.mk hr0_3
 have HC0_3 := Aside0.mk hc0_3
 clear hr0_3 hc0_3
 have HB := Aside0.mk (Below.refl w.heap.size w)
 have H : ((impl_in.f a0_0 0 4000).bind fun t187 => (if t187 = true then ((impl_in.f a0_1 0 a0_0).bind fun t188 => (if t188 = true then (if a0_2 = (-1) then (impl_GoodInflow.j0 k (decide ((l0_3.length : Int) > 40)) a0_0 a0_1 a0_2 l0_3) else ((impl_in.f a0_2 a0_1 a0_0).bind fun t189 => (if t189 = true then (impl_GoodInflow.j0 k (decide ((l0_3.length : Int) > 40)) a0_0 a0_1 a0_2 l0_3) else (impl_GoodInflow.j0 k true a0_0 a0_1 a0_2 l0_3)))) else (impl_GoodInflow.j0 k true a0_0 a0_1 a0_2 l0_3))) else (impl_GoodInflow.j0 k true a0_0 a0_1 a0_2 l0_3))) = some r := h
 clear h
 have HC2 := Aside0.mk H
 clear H
 go_enter Try.func111, Try.ntmps111
 go_upto_region 1 with (first | ((with_reducible refine gate_dst (N := 1) rfl ?_); (try (refine gate_guard (by rfl) ?_; dsimp only)); refine box_event ?hg (N := 1) ?hd (cs := #[.int .i64 a0_0, .int .i64 a0_1, .int .i64 a0_2, .slice A0_3 l0_3.length c0_3]) (t := 61) ?hr ?_; (case hd => rfl); (case hg => rfl); (case hr => first | (go_simp; done) | (go_simp; rfl)); intro gb186 hg w3 hbox hb; have n0_ := bS HB hb; have n1_ := Aside0.mk (hbox); have n2_ := Aside0.mk ((by rw [hg]; exact (below_size (by repeat (first | (with_reducible first | exact HB.out | apply below_alloc | apply pw_below_drewN | apply below_drew1) | exact HB.out))) : w.heap.size ≤ gb186)); have n3_ := n2_; clear HB; have HB := n0_; have BK186 := n1_; have GW186 := n2_; have GE186 := n3_; clear n0_ n1_ n2_ n3_; clear hb hbox hg))
 (try simp only [Act.put, sA, sZ, sS])
 go_cut [37] (fun v37 wc => ∃ (kq : Nat) (x37_1 : Bool), v37 = .bool x37_1 ∧ Aside0 (impl_GoodInflow.j0 kq x37_1 a0_0 a0_1 a0_2 l0_3 = some r) ∧ Aside0 (kq ≤ k) ∧ Aside0 (wc.heap[gb186]? = some (.cells #[.int .i64 a0_0, .int .i64 a0_1, .int .i64 a0_2, (.slice A0_3 l0_3.length c0_3)] 61 (0, 0))) ∧ Aside0 (Below w.heap.size w wc))
 case first =>
  have H := HC2.out
  clear HC2
  replace H := Option.bind_eq_some_iff.mp H
  obtain ⟨t187, A40, H⟩ := H
  replace H : (if t187 = true then ((impl_in.f a0_1 0 a0_0).bind fun t188 => (if t188 = true then (if a0_2 = (-1) then (impl_GoodInflow.j0 k (decide ((l0_3.length : Int) > 40)) a0_0 a0_1 a0_2 l0_3) else ((impl_in.f a0_2 a0_1 a0_0).bind fun t189 => (if t189 = true then (impl_GoodInflow.j0 k (decide ((l0_3.length : Int) > 40)) a0_0 a0_1 a0_2 l0_3) else (impl_GoodInflow.j0 k true a0_0 a0_1 a0_2 l0_3)))) else (impl_GoodInflow.j0 k true a0_0 a0_1 a0_2 l0_3))) else (impl_GoodInflow.j0 k true a0_0 a0_1 a0_2 l0_3)) = some r := H
  have A4 := Aside0.mk A40
  clear A40
  by_cases c5 : t187 = true
  ·subst c5
   have H1 : ((impl_in.f a0_1 0 a0_0).bind fun t188 => (if t188 = true then (if a0_2 = (-1) then (impl_GoodInflow.j0 k (decide ((l0_3.length : Int) > 40)) a0_0 a0_1 a0_2 l0_3) else ((impl_in.f a0_2 a0_1 a0_0).bind fun t189 => (if t189 = true then (impl_GoodInflow.j0 k (decide ((l0_3.length : Int) > 40)) a0_0 a0_1 a0_2 l0_3) else (impl_GoodInflow.j0 k true a0_0 a0_1 a0_2 l0_3)))) else (impl_GoodInflow.j0 k true a0_0 a0_1 a0_2 l0_3))) = some r := by rw [if_pos rfl] at H; exact H
   clear H
   have H := H1
   clear H1
   replace H := Option.bind_eq_some_iff.mp H
   obtain ⟨t188, A60, H⟩ := H
   replace H : (if t188 = true then (if a0_2 = (-1) then (impl_GoodInflow.j0 k (decide ((l0_3.length : Int) > 40)) a0_0 a0_1 a0_2 l0_3) else ((impl_in.f a0_2 a0_1 a0_0).bind fun t189 => (if t189 = true then (impl_GoodInflow.j0 k (decide ((l0_3.length : Int) > 40)) a0_0 a0_1 a0_2 l0_3) else (impl_GoodInflow.j0 k true a0_0 a0_1 a0_2 l0_3)))) else (impl_GoodInflow.j0 k true a0_0 a0_1 a0_2 l0_3)) = some r := H
   have A6 := Aside0.mk A60
   clear A60
   by_cases c7 : t188 = true
   ·subst c7
    have H1 : (if a0_2 = (-1) then (impl_GoodInflow.j0 k (decide ((l0_3.length : Int) > 40)) a0_0 a0_1 a0_2 l0_3) else ((impl_in.f a0_2 a0_1 a0_0).bind fun t189 => (if t189 = true then (impl_GoodInflow.j0 k (decide ((l0_3.length : Int) > 40)) a0_0 a0_1 a0_2 l0_3) else (impl_GoodInflow.j0 k true a0_0 a0_1 a0_2 l0_3)))) = some r := by rw [if_pos rfl] at H; exact H
    clear H
    have H := H1
    clear H1
    by_cases c8 : a0_2 = (-1)
    ·rw [if_pos c8] at H
     have c8b0 : (a0_2 == (-1)) = true := beq_iff_eq.mpr c8
     have c8b1 : (a0_2 != (-1)) = false := bne_eq_false_iff_eq.mpr c8
     clear c8
     (first | rw [c8b0] | (simp only [i64_w, i32_w]; rw [c8b0]) | skip)
     have H' := Aside0.mk H
     clear H
     obtain ⟨hcz9_0, hcz9_1, hcz9_2, hcz9_3⟩ := cz4 BK186
     obtain ⟨hfz9_0, hfz9_1, hfz9_2, hfz9_3⟩ := fz4 BK186
     go_wp2_with (first | ((with_reducible refine gate_callee (f := 80) rfl ?_); refine goesL_ (some 7) rfl rfl Try.func80 (by kernel_rfl) rfl #[.int .i64 a0_0, .int .i64 0, .int .i64 4000] rfl (by (try simp only [List.map_toArray, List.map_cons, List.map_nil]); first | done | rfl | (simp only [List.length_drop, List.length_take]; rfl)) ?_; (with_reducible refine (impl_in.calls a0_0 0 4000 true _ A4.out).mono ?_); rintro e w' ⟨rfl, ⟨nd, rfl⟩⟩; refine ⟨_, rfl, ?_⟩) | (go_at_call 80; (with_reducible refine (impl_in.calls a0_1 0 a0_0 true _ A6.out).mono ?_); rintro e w' ⟨rfl, ⟨nd, rfl⟩⟩))
     go_meet
     case rel => exact ⟨_, (decide ((l0_3.length : Int) > 40)), (by first | rfl | (simp; done) | (simp [*]; done)), H', ⟨by first | omega | exact Nat.le_refl _⟩, ⟨by (with_reducible repeat (first | refine bN ?_ _ | refine bD ?_ | refine bA ?_ _)); exact BK186.out⟩, ⟨by repeat (first | (with_reducible first | exact HB.out | apply below_alloc | apply pw_below_drewN | apply below_drew1 | refine below_set ?_ GE186.out) | exact HB.out)⟩⟩
    ·rw [if_neg c8] at H
     have c8b0 : (a0_2 == (-1)) = false := beq_eq_false_iff_ne.mpr c8
     have c8b1 : (a0_2 != (-1)) = true := bne_iff_ne.mpr c8
     (first | rw [c8b0] | (simp only [i64_w, i32_w]; rw [c8b0]) | skip)
     replace H := Option.bind_eq_some_iff.mp H
     obtain ⟨t189, A100, H⟩ := H
     replace H : (if t189 = true then (impl_GoodInflow.j0 k (decide ((l0_3.length : Int) > 40)) a0_0 a0_1 a0_2 l0_3) else (impl_GoodInflow.j0 k true a0_0 a0_1 a0_2 l0_3)) = some r := H
     have A10 := Aside0.mk A100
     clear A100
     by_cases c11 : t189 = true
     ·subst c11
      have H1 : (impl_GoodInflow.j0 k (decide ((l0_3.length : Int) > 40)) a0_0 a0_1 a0_2 l0_3) = some r := by rw [if_pos rfl] at H; exact H
      clear H
      have H := H1
      clear H1
      have H' := Aside0.mk H
      clear H
      obtain ⟨hcz12_0, hcz12_1, hcz12_2, hcz12_3⟩ := cz4 BK186
      obtain ⟨hfz12_0, hfz12_1, hfz12_2, hfz12_3⟩ := fz4 BK186
      go_wp2_with (first | ((with_reducible refine gate_callee (f := 80) rfl ?_); refine goesL_ (some 7) rfl rfl Try.func80 (by kernel_rfl) rfl #[.int .i64 a0_0, .int .i64 0, .int .i64 4000] rfl (by (try simp only [List.map_toArray, List.map_cons, List.map_nil]); first | done | rfl | (simp only [List.length_drop, List.length_take]; rfl)) ?_; (with_reducible refine (impl_in.calls a0_0 0 4000 true _ A4.out).mono ?_); rintro e w' ⟨rfl, ⟨nd, rfl⟩⟩; refine ⟨_, rfl, ?_⟩) | (go_at_call 80; (with_reducible refine (impl_in.calls a0_1 0 a0_0 true _ A6.out).mono ?_); rintro e w' ⟨rfl, ⟨nd, rfl⟩⟩) | (go_at_call 80; (with_reducible refine (impl_in.calls a0_2 a0_1 a0_0 true _ A10.out).mono ?_); rintro e w' ⟨rfl, ⟨nd, rfl⟩⟩))
      go_meet
      case rel => exact ⟨_, (decide ((l0_3.length : Int) > 40)), (by first | rfl | (simp; done) | (simp [*]; done)), H', ⟨by first | omega | exact Nat.le_refl _⟩, ⟨by (with_reducible repeat (first | refine bN ?_ _ | refine bD ?_ | refine bA ?_ _)); exact BK186.out⟩, ⟨by repeat (first | (with_reducible first | exact HB.out | apply below_alloc | apply pw_below_drewN | apply below_drew1 | refine below_set ?_ GE186.out) | exact HB.out)⟩⟩
     ·replace c11 := Bool.eq_false_iff.mpr c11
      subst c11
      have H1 : (impl_GoodInflow.j0 k true a0_0 a0_1 a0_2 l0_3) = some r := by rw [if_neg (show ¬ (false = true) by decide)] at H; exact H
      clear H
      have H := H1
      clear H1
      have H' := Aside0.mk H
      clear H
      obtain ⟨hcz13_0, hcz13_1, hcz13_2, hcz13_3⟩ := cz4 BK186
      obtain ⟨hfz13_0, hfz13_1, hfz13_2, hfz13_3⟩ := fz4 BK186
      go_wp2_with (first | ((with_reducible refine gate_callee (f := 80) rfl ?_); refine goesL_ (some 7) rfl rfl Try.func80 (by kernel_rfl) rfl #[.int .i64 a0_0, .int .i64 0, .int .i64 4000] rfl (by (try simp only [List.map_toArray, List.map_cons, List.map_nil]); first | done | rfl | (simp only [List.length_drop, List.length_take]; rfl)) ?_; (with_reducible refine (impl_in.calls a0_0 0 4000 true _ A4.out).mono ?_); rintro e w' ⟨rfl, ⟨nd, rfl⟩⟩; refine ⟨_, rfl, ?_⟩) | (go_at_call 80; (with_reducible refine (impl_in.calls a0_1 0 a0_0 true _ A6.out).mono ?_); rintro e w' ⟨rfl, ⟨nd, rfl⟩⟩) | (go_at_call 80; (with_reducible refine (impl_in.calls a0_2 a0_1 a0_0 false _ A10.out).mono ?_); rintro e w' ⟨rfl, ⟨nd, rfl⟩⟩))
      go_meet
      case rel => exact ⟨_, (true), (by first | rfl | (simp; done) | (simp [*]; done)), H', ⟨by first | omega | exact Nat.le_refl _⟩, ⟨by (with_reducible repeat (first | refine bN ?_ _ | refine bD ?_ | refine bA ?_ _)); exact BK186.out⟩, ⟨by repeat (first | (with_reducible first | exact HB.out | apply below_alloc | apply pw_below_drewN | apply below_drew1 | refine below_set ?_ GE186.out) | exact HB.out)⟩⟩
   ·replace c7 := Bool.eq_false_iff.mpr c7
    subst c7
    have H1 : (impl_GoodInflow.j0 k true a0_0 a0_1 a0_2 l0_3) = some r := by rw [if_neg (show ¬ (false = true) by decide)] at H; exact H
    clear H
    have H := H1
    clear H1
    have H' := Aside0.mk H
    clear H
    obtain ⟨hcz14_0, hcz14_1, hcz14_2, hcz14_3⟩ := cz4 BK186
    obtain ⟨hfz14_0, hfz14_1, hfz14_2, hfz14_3⟩ := fz4 BK186
    go_wp2_with (first | ((with_reducible refine gate_callee (f := 80) rfl ?_); refine goesL_ (some 7) rfl rfl Try.func80 (by kernel_rfl) rfl #[.int .i64 a0_0, .int .i64 0, .int .i64 4000] rfl (by (try simp only [List.map_toArray, List.map_cons, List.map_nil]); first | done | rfl | (simp only [List.length_drop, List.length_take]; rfl)) ?_; (with_reducible refine (impl_in.calls a0_0 0 4000 true _ A4.out).mono ?_); rintro e w' ⟨rfl, ⟨nd, rfl⟩⟩; refine ⟨_, rfl, ?_⟩) | (go_at_call 80; (with_reducible refine (impl_in.calls a0_1 0 a0_0 false _ A6.out).mono ?_); rintro e w' ⟨rfl, ⟨nd, rfl⟩⟩))
    go_meet
    case rel => exact ⟨_, (true), (by first | rfl | (simp; done) | (simp [*]; done)), H', ⟨by first | omega | exact Nat.le_refl _⟩, ⟨by (with_reducible repeat (first | refine bN ?_ _ | refine bD ?_ | refine bA ?_ _)); exact BK186.out⟩, ⟨by repeat (first | (with_reducible first | exact HB.out | apply below_alloc | apply pw_below_drewN | apply below_drew1 | refine below_set ?_ GE186.out) | exact HB.out)⟩⟩
  ·replace c5 := Bool.eq_false_iff.mpr c5
   subst c5
   have H1 : (impl_GoodInflow.j0 k true a0_0 a0_1 a0_2 l0_3) = some r := by rw [if_neg (show ¬ (false = true) by decide)] at H; exact H
   clear H
   have H := H1
   clear H1
   have H' := Aside0.mk H
   clear H
   obtain ⟨hcz15_0, hcz15_1, hcz15_2, hcz15_3⟩ := cz4 BK186
   obtain ⟨hfz15_0, hfz15_1, hfz15_2, hfz15_3⟩ := fz4 BK186
   go_wp2_with (first | ((with_reducible refine gate_callee (f := 80) rfl ?_); refine goesL_ (some 7) rfl rfl Try.func80 (by kernel_rfl) rfl #[.int .i64 a0_0, .int .i64 0, .int .i64 4000] rfl (by (try simp only [List.map_toArray, List.map_cons, List.map_nil]); first | done | rfl | (simp only [List.length_drop, List.length_take]; rfl)) ?_; (with_reducible refine (impl_in.calls a0_0 0 4000 false _ A4.out).mono ?_); rintro e w' ⟨rfl, ⟨nd, rfl⟩⟩; refine ⟨_, rfl, ?_⟩))
   go_meet
   case rel => exact ⟨_, (true), (by first | rfl | (simp; done) | (simp [*]; done)), H', ⟨by first | omega | exact Nat.le_refl _⟩, ⟨by (with_reducible repeat (first | refine bN ?_ _ | refine bD ?_ | refine bA ?_ _)); exact BK186.out⟩, ⟨by repeat (first | (with_reducible first | exact HB.out | apply below_alloc | apply pw_below_drewN | apply below_drew1 | refine below_set ?_ GE186.out) | exact HB.out)⟩⟩
 case rest =>
  clear HC2
  try clear c1
  try clear p2
  try clear c5
  try clear c7
  try clear c8
  try clear c8b0
  try clear c8b1
  try clear c11
  try clear hcz12_0
  try clear hcz12_1
  try clear hcz12_2
  try clear hcz12_3
  try clear hcz13_0
  try clear hcz13_1
  try clear hcz13_2
  try clear hcz13_3
  try clear hcz14_0
  try clear hcz14_1
  try clear hcz14_2
  try clear hcz14_3
  try clear hcz15_0
  try clear hcz15_1
  try clear hcz15_2
  try clear hcz15_3
  try clear hcz9_0
  try clear hcz9_1
  try clear hcz9_2
  try clear hcz9_3
  try clear hfz12_0
  try clear hfz12_1
  try clear hfz12_2
  try clear hfz12_3
  try clear hfz13_0
  try clear hfz13_1
  try clear hfz13_2
  try clear hfz13_3
  try clear hfz14_0
  try clear hfz14_1
  try clear hfz14_2
  try clear hfz14_3
  try clear hfz15_0
  try clear hfz15_1
  try clear hfz15_2
  try clear hfz15_3
  try clear hfz9_0
  try clear hfz9_1
  try clear hfz9_2
  try clear hfz9_3
  obtain ⟨kq, x37_1, rfl, HA, HJ1, BK186, HB⟩ := hcut
  cases kq with
  | zero => exact absurd HA.out (by simp [impl_GoodInflow.j0])
  | succ kj1 =>
   have H := HA.out
   clear HA
   simp only [impl_GoodInflow.j0] at H
   by_cases c16 : x37_1 = true
   ·subst c16
    have H1 : (some false) = some r := by rw [if_pos rfl] at H; exact H
    clear H
    have H := H1
    clear H1
    obtain rfl := Option.some.inj H
    go_wp2
    go_ret
    exact ⟨by first | rfl | (simp only [Go.Proofs.Ythkmjfapljmmpaa.StoreK.ne_nil_b]; first | done | rfl | (simp; done)) | (simp [errW_none, errW_some] <;> rfl) | (simp [*, errW_none, errW_some] <;> rfl), by repeat (first | (with_reducible first | exact HB.out | apply below_alloc | apply pw_below_drewN | apply below_drew1 | refine below_set ?_ GE186.out) | exact HB.out)⟩
   ·replace c16 := Bool.eq_false_iff.mpr c16
    subst c16
    have H1 : (impl_GoodInflow.l0 kj1 l0_3 (l0_3.length : Int) 0 a0_0 a0_1 a0_2 l0_3) = some r := by rw [if_neg (show ¬ (false = true) by decide)] at H; exact H
    clear H
    have H := H1
    clear H1
    have H' := Aside0.mk H
    clear H
    obtain ⟨hcz17_0, hcz17_1, hcz17_2, hcz17_3⟩ := cz4 BK186
    obtain ⟨hfz17_0, hfz17_1, hfz17_2, hfz17_3⟩ := fz4 BK186
    go_wp2
    go_loopg [41] kj1 (fun kq v41 w' => ∃ (x41_2 : Int), v41 = .int .i64 x41_2 ∧ Aside0 (impl_GoodInflow.l0 kq l0_3 (l0_3.length : Int) x41_2 a0_0 a0_1 a0_2 l0_3 = some r) ∧ Aside0 (kq ≤ kj1) ∧ Aside0 (w'.heap[gb186]? = some (.cells #[.int .i64 a0_0, .int .i64 a0_1, .int .i64 a0_2, (.slice A0_3 l0_3.length c0_3)] 61 (0, 0))) ∧ Aside0 (Below w.heap.size w w'))
    case atStart => exact ⟨(0), (by first | rfl | (simp; done) | (simp [*]; done)), H', ⟨Nat.le_refl _⟩, ⟨by (with_reducible repeat (first | refine bN ?_ _ | refine bD ?_ | refine bA ?_ _)); exact BK186.out⟩, ⟨by repeat (first | (with_reducible first | exact HB.out | apply below_alloc | apply pw_below_drewN | apply below_drew1 | refine below_set ?_ GE186.out) | exact HB.out)⟩⟩
    case round =>
     clear H'
     try clear c1
     try clear p2
     try clear c5
     try clear c7
     try clear c8
     try clear c8b0
     try clear c8b1
     try clear c11
     try clear c16
     try clear hcz12_0
     try clear hcz12_1
     try clear hcz12_2
     try clear hcz12_3
     try clear hcz13_0
     try clear hcz13_1
     try clear hcz13_2
     try clear hcz13_3
     try clear hcz14_0
     try clear hcz14_1
     try clear hcz14_2
     try clear hcz14_3
     try clear hcz15_0
     try clear hcz15_1
     try clear hcz15_2
     try clear hcz15_3
     try clear hcz17_0
     try clear hcz17_1
     try clear hcz17_2
     try clear hcz17_3
     try clear hcz9_0
     try clear hcz9_1
     try clear hcz9_2
     try clear hcz9_3
     try clear hfz12_0
     try clear hfz12_1
     try clear hfz12_2
     try clear hfz12_3
     try clear hfz13_0
     try clear hfz13_1
     try clear hfz13_2
     try clear hfz13_3
     try clear hfz14_0
     try clear hfz14_1
     try clear hfz14_2
     try clear hfz14_3
     try clear hfz15_0
     try clear hfz15_1
     try clear hfz15_2
     try clear hfz15_3
     try clear hfz17_0
     try clear hfz17_1
     try clear hfz17_2
     try clear hfz17_3
     try clear hfz9_0
     try clear hfz9_1
     try clear hfz9_2
     try clear hfz9_3
     try clear p2
     obtain ⟨x41_2, rfl, HA, HK2, BK186, HB⟩ := hrel
     cases gk with
     | zero => exact absurd HA.out (by simp [impl_GoodInflow.l0])
     | succ k2 =>
      have H := HA.out
      clear HA
      simp only [impl_GoodInflow.l0] at H
      by_cases c18 : x41_2 < (l0_3.length : Int)
      ·rw [if_pos c18] at H
       have c18b0 : decide (x41_2 < (l0_3.length : Int)) = true := decide_eq_true c18
       clear c18
       by_cases c19 : 0 ≤ x41_2
       ·rw [if_pos c19] at H
        have c19b0 : decide (0 ≤ x41_2) = true := decide_eq_true c19
        clear c19
        by_cases c20 : x41_2 < (l0_3.length : Int)
        ·rw [if_pos c20] at H
         have c20b0 : decide (x41_2 < (l0_3.length : Int)) = true := decide_eq_true c20
         clear c20
         have HC21 := Aside0.mk H
         clear H
         have p190 : 0 ≤ (x41_2 : Int) := of_decide_eq_true (by first | (with_reducible assumption) | assumption)
         have q190 : x41_2 < (l0_3.length : Int) := of_decide_eq_true (by first | (with_reducible assumption) | assumption)
         obtain ⟨ad190, e190, hx190_0, hx190_1⟩ := at_T177 HR0_3.out x41_2 p190 q190
         cases e190
         replace hx190_0 := (HB.out.cell (World.block_lt_of_cell? w _ hx190_0)).trans hx190_0
         replace hx190_1 := (HB.out.cell (World.block_lt_of_cell? w _ hx190_1)).trans hx190_1
         replace p190 := eq_true p190
         replace q190 := eq_true q190
         go_upto_region 6 with (first | ((with_reducible refine gate_dst (N := 4) rfl ?_); (try (refine gate_guard (by rfl) ?_; dsimp only)); refine box_event ?hg (N := 4) ?hd (cs := #[.int .i64 0, .string (⟨#[]⟩ : ByteArray)]) (t := 177) ?hr ?_; (case hd => rfl); (case hg => rfl); (case hr => first | (go_simp; done) | (go_simp; rfl)); intro gb191 hg w22 hbox hb; have n0_ := bX BK186 hb; have n1_ := bS HB hb; have n2_ := Aside0.mk (hbox); have n3_ := Aside0.mk ((by rw [hg]; exact (below_size (by repeat (first | (with_reducible first | exact HB.out | apply below_alloc | apply pw_below_drewN | apply below_drew1 | refine below_set ?_ GE186.out) | exact HB.out))) : w.heap.size ≤ gb191)); have n4_ := n3_; have n5_ := Aside0.mk ((by rw [hg]; exact Nat.ne_of_lt (bLt BK186) : gb186 ≠ gb191)); have n6_ := Aside0.mk ((by rw [hg]; exact Nat.ne_of_gt (bLt BK186) : gb191 ≠ gb186)); clear BK186; clear HB; have BK186 := n0_; have HB := n1_; have BK191 := n2_; have GW191 := n3_; have GE191 := n4_; have NB186_191 := n5_; have NB191_186 := n6_; clear n0_ n1_ n2_ n3_ n4_ n5_ n6_; clear hb hbox hg; have hnb23 := NB191_186.out; have hnc23 := NB186_191.out; obtain ⟨hcz24_0, hcz24_1⟩ := cz2 BK191; obtain ⟨hfz24_0, hfz24_1⟩ := fz2 BK191))
         (try simp only [Act.put, sA, sZ, sS])
         go_cut [93] (fun v93 wc => ∃ (kq : Nat) (x93_20 : Bool), v93 = .bool x93_20 ∧ Aside0 (impl_GoodInflow.j2 kq l0_3 (l0_3.length : Int) x41_2 x93_20 a0_0 a0_1 a0_2 l0_3 = some r) ∧ Aside0 (kq ≤ k2) ∧ Aside0 (wc.heap[gb186]? = some (.cells #[.int .i64 a0_0, .int .i64 a0_1, .int .i64 a0_2, (.slice (some ad190) l0_3.length c0_3)] 61 (0, 0))) ∧ Aside0 (wc.heap[gb191]? = some (.cells #[.int .i64 ((rd_T177 l0_3 x41_2).f0), .string ((rd_T177 l0_3 x41_2).f1)] 177 (0, 0))) ∧ Aside0 (Below w.heap.size w wc))
         case first =>
          have H := HC21.out
          clear HC21
          replace H := Option.bind_eq_some_iff.mp H
          obtain ⟨t192, A250, H⟩ := H
          replace H : (if t192 = true then (if ((rd_T177 l0_3 x41_2).f1).toList = ([] : List UInt8) then (impl_GoodInflow.j2 k2 l0_3 (l0_3.length : Int) x41_2 true a0_0 a0_1 a0_2 l0_3) else ((impl_Piece_end.f ((rd_T177 l0_3 x41_2).f0) ((rd_T177 l0_3 x41_2).f1)).bind fun t193 => (if t193 > a0_0 then (impl_GoodInflow.j2 k2 l0_3 (l0_3.length : Int) x41_2 true a0_0 a0_1 a0_2 l0_3) else (if a0_2 = (-1) then (if x41_2 > 0 then (if 0 ≤ (wrap64 (x41_2 - 1)) then (if (wrap64 (x41_2 - 1)) < (l0_3.length : Int) then ((impl_Piece_end.f ((rd_T177 l0_3 (wrap64 (x41_2 - 1))).f0) ((rd_T177 l0_3 (wrap64 (x41_2 - 1))).f1)).bind fun t195 => (impl_GoodInflow.j2 k2 l0_3 (l0_3.length : Int) x41_2 (decide (t195 ≥ ((rd_T177 l0_3 x41_2).f0))) a0_0 a0_1 a0_2 l0_3)) else (none)) else (none)) else (impl_GoodInflow.j2 k2 l0_3 (l0_3.length : Int) x41_2 false a0_0 a0_1 a0_2 l0_3)) else ((impl_Piece_end.f ((rd_T177 l0_3 x41_2).f0) ((rd_T177 l0_3 x41_2).f1)).bind fun t196 => (if t196 > a0_2 then (impl_GoodInflow.j2 k2 l0_3 (l0_3.length : Int) x41_2 true a0_0 a0_1 a0_2 l0_3) else (if x41_2 > 0 then (if 0 ≤ (wrap64 (x41_2 - 1)) then (if (wrap64 (x41_2 - 1)) < (l0_3.length : Int) then ((impl_Piece_end.f ((rd_T177 l0_3 (wrap64 (x41_2 - 1))).f0) ((rd_T177 l0_3 (wrap64 (x41_2 - 1))).f1)).bind fun t198 => (impl_GoodInflow.j2 k2 l0_3 (l0_3.length : Int) x41_2 (decide (t198 ≥ ((rd_T177 l0_3 x41_2).f0))) a0_0 a0_1 a0_2 l0_3)) else (none)) else (none)) else (impl_GoodInflow.j2 k2 l0_3 (l0_3.length : Int) x41_2 false a0_0 a0_1 a0_2 l0_3)))))))) else (impl_GoodInflow.j2 k2 l0_3 (l0_3.length : Int) x41_2 true a0_0 a0_1 a0_2 l0_3)) = some r := H
          have A25 := Aside0.mk A250
          clear A250
          by_cases c26 : t192 = true
          ·subst c26
           have H1 : (if ((rd_T177 l0_3 x41_2).f1).toList = ([] : List UInt8) then (impl_GoodInflow.j2 k2 l0_3 (l0_3.length : Int) x41_2 true a0_0 a0_1 a0_2 l0_3) else ((impl_Piece_end.f ((rd_T177 l0_3 x41_2).f0) ((rd_T177 l0_3 x41_2).f1)).bind fun t193 => (if t193 > a0_0 then (impl_GoodInflow.j2 k2 l0_3 (l0_3.length : Int) x41_2 true a0_0 a0_1 a0_2 l0_3) else (if a0_2 = (-1) then (if x41_2 > 0 then (if 0 ≤ (wrap64 (x41_2 - 1)) then (if (wrap64 (x41_2 - 1)) < (l0_3.length : Int) then ((impl_Piece_end.f ((rd_T177 l0_3 (wrap64 (x41_2 - 1))).f0) ((rd_T177 l0_3 (wrap64 (x41_2 - 1))).f1)).bind fun t195 => (impl_GoodInflow.j2 k2 l0_3 (l0_3.length : Int) x41_2 (decide (t195 ≥ ((rd_T177 l0_3 x41_2).f0))) a0_0 a0_1 a0_2 l0_3)) else (none)) else (none)) else (impl_GoodInflow.j2 k2 l0_3 (l0_3.length : Int) x41_2 false a0_0 a0_1 a0_2 l0_3)) else ((impl_Piece_end.f ((rd_T177 l0_3 x41_2).f0) ((rd_T177 l0_3 x41_2).f1)).bind fun t196 => (if t196 > a0_2 then (impl_GoodInflow.j2 k2 l0_3 (l0_3.length : Int) x41_2 true a0_0 a0_1 a0_2 l0_3) else (if x41_2 > 0 then (if 0 ≤ (wrap64 (x41_2 - 1)) then (if (wrap64 (x41_2 - 1)) < (l0_3.length : Int) then ((impl_Piece_end.f ((rd_T177 l0_3 (wrap64 (x41_2 - 1))).f0) ((rd_T177 l0_3 (wrap64 (x41_2 - 1))).f1)).bind fun t198 => (impl_GoodInflow.j2 k2 l0_3 (l0_3.length : Int) x41_2 (decide (t198 ≥ ((rd_T177 l0_3 x41_2).f0))) a0_0 a0_1 a0_2 l0_3)) else (none)) else (none)) else (impl_GoodInflow.j2 k2 l0_3 (l0_3.length : Int) x41_2 false a0_0 a0_1 a0_2 l0_3)))))))) = some r := by rw [if_pos rfl] at H; exact H
           clear H
           have H := H1
           clear H1
           by_cases c27 : ((rd_T177 l0_3 x41_2).f1).toList = ([] : List UInt8)
           ·rw [if_pos c27] at H
            have c27b0 : (((rd_T177 l0_3 x41_2).f1).toList == ([] : List UInt8)) = true := beq_iff_eq.mpr c27
            have c27b1 : (((rd_T177 l0_3 x41_2).f1).toList != ([] : List UInt8)) = false := bne_eq_false_iff_eq.mpr c27
            clear c27
            (first | rw [c27b0] | (simp only [i64_w, i32_w]; rw [c27b0]) | skip)
            have H' := Aside0.mk H
            clear H
            try go_wp2
            have n0_ : Aside0 (((w22.setCell ⟨gb191, 0, none⟩ (.int .i64 ((rd_T177 l0_3 x41_2).f0))).setCell ⟨gb191, 1, none⟩ (.string ((rd_T177 l0_3 x41_2).f1))).heap[gb186]? = some (.cells #[.int .i64 a0_0, .int .i64 a0_1, .int .i64 a0_2, .slice (some ad190) l0_3.length c0_3] 61 (0, 0))) := ⟨by (with_reducible repeat (first | refine bN ?_ _ | refine bD ?_ | refine bA ?_ _)); refine blk_far ?_ NB186_191.out _; (with_reducible repeat (first | refine bN ?_ _ | refine bD ?_ | refine bA ?_ _)); refine blk_far ?_ NB186_191.out _; (with_reducible repeat (first | refine bN ?_ _ | refine bD ?_ | refine bA ?_ _)); exact BK186.out⟩
            have n1_ : Aside0 (((w22.setCell ⟨gb191, 0, none⟩ (.int .i64 ((rd_T177 l0_3 x41_2).f0))).setCell ⟨gb191, 1, none⟩ (.string ((rd_T177 l0_3 x41_2).f1))).heap[gb191]? = some (.cells #[.int .i64 ((rd_T177 l0_3 x41_2).f0), .string ((rd_T177 l0_3 x41_2).f1)] 177 (0, 0))) := ⟨by (with_reducible repeat (first | refine bN ?_ _ | refine bD ?_ | refine bA ?_ _)); refine blk_put (cs := #[.int .i64 ((rd_T177 l0_3 x41_2).f0), .string (⟨#[]⟩ : ByteArray)]) ?_ 1 _ rfl; (with_reducible repeat (first | refine bN ?_ _ | refine bD ?_ | refine bA ?_ _)); refine blk_put (cs := #[.int .i64 0, .string (⟨#[]⟩ : ByteArray)]) ?_ 0 _ rfl; (with_reducible repeat (first | refine bN ?_ _ | refine bD ?_ | refine bA ?_ _)); exact BK191.out⟩
            have n2_ : Aside0 (Below w.heap.size w ((w22.setCell ⟨gb191, 0, none⟩ (.int .i64 ((rd_T177 l0_3 x41_2).f0))).setCell ⟨gb191, 1, none⟩ (.string ((rd_T177 l0_3 x41_2).f1)))) := ⟨by repeat (first | (with_reducible first | exact HB.out | apply below_alloc | apply pw_below_drewN | apply below_drew1 | refine below_set ?_ GE186.out | refine below_set ?_ GE191.out) | exact HB.out)⟩
            (try clear BK186)
            (try clear BK191)
            (try clear HB)
            generalize ((w22.setCell ⟨gb191, 0, none⟩ (.int .i64 ((rd_T177 l0_3 x41_2).f0))).setCell ⟨gb191, 1, none⟩ (.string ((rd_T177 l0_3 x41_2).f1))) = w28 at n0_ n1_ n2_ ⊢
            have BK186 := n0_
            have BK191 := n1_
            have HB := n2_
            clear n0_ n1_ n2_
            have n0_ := Aside0.mk (blk_drew BK186.out)
            have n1_ := Aside0.mk (blk_drew BK191.out)
            have n2_ := Aside0.mk (below_drew1 HB.out)
            clear BK186
            clear BK191
            clear HB
            have BK186 := n0_
            have BK191 := n1_
            have HB := n2_
            clear n0_ n1_ n2_
            refine start_ (n := 48) (S := fun w' => w'.cell? ⟨gb191, 0, none⟩ = some (.int .i64 ((rd_T177 l0_3 x41_2).f0)) ∧ w'.cell? ⟨gb191, 1, none⟩ = some (.string ((rd_T177 l0_3 x41_2).f1)) ∧ w'.cell? ⟨gb186, 0, none⟩ = some (.int .i64 a0_0) ∧ w'.cell? ⟨gb186, 1, none⟩ = some (.int .i64 a0_1) ∧ w'.cell? ⟨gb186, 2, none⟩ = some (.int .i64 a0_2) ∧ w'.cell? ⟨gb186, 3, none⟩ = some (.slice (some ad190) l0_3.length c0_3)) (ds := []) (bm 48 0) (by kernel_rfl) rfl rfl (cx2 BK191 (cz4 BK186)) (fun hHeld => ?_); refine with_tabW impl_GoodInflow.tab6 impl_GoodInflow.bits6 (fun HT_ HW_ => ?_)
            generalize w28.drew = w29 at BK186 BK191 HB hHeld ⊢
            refine pure_ (i := 0) (N := some 46) (v := ?_) (a' := ?_) (bm 48 1) rfl rfl (any_of HT_.out (by kernel_rfl)) (fun _ _ _ h => h) (Or.inl ⟨by rfl, ?_⟩) ?_ ?_
            rotate_left
            ·intro w'
             go_simp
             with_reducible rfl
            rotate_left
            ·simp only [Act.put, sA, sZ, sS, i64_w, i32_w]
             rfl
            refine pure_ (i := 2) (N := some 48) (v := ?_) (a' := ?_) (bm 48 5) rfl rfl (any_of HT_.out (by kernel_rfl)) (fun _ _ _ h => h) (Or.inl ⟨by rfl, ?_⟩) ?_ ?_
            rotate_left
            ·intro w'
             go_simp
             with_reducible rfl
            rotate_left
            ·simp only [Act.put, sA, sZ, sS, i64_w, i32_w]
             rfl
            refine pure_ (i := 4) (N := some 50) (v := ?_) (a' := ?_) (bm 48 21) rfl rfl (any_of HT_.out (by kernel_rfl)) (fun _ _ _ h => h) (Or.inl ⟨by rfl, ?_⟩) ?_ ?_
            rotate_left
            ·intro w'
             go_simp
             with_reducible rfl
            rotate_left
            ·simp only [Act.put, sA, sZ, sS, i64_w, i32_w]
             rfl
            refine take_ (i := 1) (N := some 47) (v := ?_) (a' := ?_) (bm 48 23) rfl rfl (take_ofW HT_.out HW_.out (by kernel_rfl)) (fun _ _ _ h => h) (Or.inl ⟨by rfl, ?_⟩) hHeld ?_ ?_
            rotate_left
            ·rintro w' ⟨s0, s1, s2, s3, s4, s5⟩
             go_simp
             with_reducible rfl
            rotate_left
            ·simp only [Act.put, sA, sZ, sS, i64_w, i32_w]
             rfl
            refine take_ (i := 3) (N := some 49) (v := ?_) (a' := ?_) (bm 48 31) rfl rfl (take_ofW HT_.out HW_.out (by kernel_rfl)) (fun _ _ _ h => h) (Or.inl ⟨by rfl, ?_⟩) hHeld ?_ ?_
            rotate_left
            ·rintro w' ⟨s0, s1, s2, s3, s4, s5⟩
             go_simp
             with_reducible rfl
            rotate_left
            ·simp only [Act.put, sA, sZ, sS, i64_w, i32_w]
             rfl
            refine take_ (i := 5) (N := some 51) (v := ?_) (a' := ?_) (bm 48 63) rfl rfl (take_ofW HT_.out HW_.out (by kernel_rfl)) (fun _ _ _ h => h) (Or.inl ⟨by rfl, ?_⟩) hHeld ?_ ?_
            rotate_left
            ·rintro w' ⟨s0, s1, s2, s3, s4, s5⟩
             go_simp
             with_reducible rfl
            rotate_left
            ·simp only [Act.put, sA, sZ, sS, i64_w, i32_w]
             rfl
            refine one_ (i := 6) (N := some 52) (bm 48 127) rfl rfl (one_of HT_.out (by kernel_rfl)) (by decide) (fun K hK => ?_)
            refine goes_ Try.func80 (by kernel_rfl) rfl #[.int .i64 ((rd_T177 l0_3 x41_2).f0), .int .i64 a0_1, .int .i64 a0_0] (by rfl) rfl rfl (by (try simp only [List.map_toArray, List.map_cons, List.map_nil]); first | done | rfl | (simp only [List.length_drop, List.length_take]; rfl)) ?_
            with_reducible refine (impl_in.calls ((rd_T177 l0_3 x41_2).f0) a0_1 a0_0 true _ A25.out).mono ?_
            rintro e w' ⟨rfl, ⟨nd, rfl⟩⟩
            refine ⟨_, rfl, ?_⟩
            refine hK.out _ _ (cx2 BK191 (cz4 BK186)) (fun hHeld => ?_)
            clear hK K
            refine norm_ (a' := ?_) ?_ ?_
            rotate_left
            ·show Act.put _ (some 52) _ = _
             simp only [Act.put, sA, sZ, sS, i64_w, i32_w]
             rfl
            refine pure_ (i := 7) (N := some 53) (v := ?_) (a' := ?_) (bm 48 255) rfl rfl (any_of HT_.out (by kernel_rfl)) (fun _ _ _ h => h) (Or.inl ⟨by rfl, ?_⟩) ?_ ?_
            rotate_left
            ·intro w'
             go_simp
             with_reducible rfl
            rotate_left
            ·simp only [Act.put, sA, sZ, sS, i64_w, i32_w]
             rfl
            refine pure_ (i := 8) (N := some 54) (v := ?_) (a' := ?_) (bm 48 511) rfl rfl (any_of HT_.out (by kernel_rfl)) (fun _ _ _ h => h) (Or.inl ⟨by rfl, ?_⟩) ?_ ?_
            rotate_left
            ·intro w'
             go_simp
             with_reducible rfl
            rotate_left
            ·simp only [Act.put, sA, sZ, sS, i64_w, i32_w]
             rfl
            refine pure_ (i := 9) (N := some 55) (v := ?_) (a' := ?_) (bm 48 1023) rfl rfl (any_of HT_.out (by kernel_rfl)) (fun _ _ _ h => h) (Or.inl ⟨by rfl, ?_⟩) ?_ ?_
            rotate_left
            ·intro w'
             go_simp
             with_reducible rfl
            rotate_left
            ·simp only [Act.put, sA, sZ, sS, i64_w, i32_w]
             rfl
            refine take_ (i := 10) (N := some 56) (v := ?_) (a' := ?_) (bm 48 2047) rfl rfl (take_ofW HT_.out HW_.out (by kernel_rfl)) (fun _ _ _ h => h) (Or.inl ⟨by rfl, ?_⟩) hHeld ?_ ?_
            rotate_left
            ·rintro w' ⟨s0, s1, s2, s3, s4, s5⟩
             go_simp
             with_reducible rfl
            rotate_left
            ·simp only [Act.put, sA, sZ, sS, i64_w, i32_w]
             rfl
            refine pure_ (i := 11) (N := some 57) (v := ?_) (a' := ?_) (bm 48 4095) rfl rfl (any_of HT_.out (by kernel_rfl)) (fun _ _ _ h => h) (Or.inl ⟨by rfl, ?_⟩) ?_ ?_
            rotate_left
            ·intro w'
             go_simp
             with_reducible rfl
            rotate_left
            ·simp only [Act.put, sA, sZ, sS, i64_w, i32_w]
             rfl
            refine pure_ (i := 12) (N := some 58) (v := ?_) (a' := ?_) (bm 48 8191) rfl rfl (any_of HT_.out (by kernel_rfl)) (fun _ _ _ h => h) (Or.inl ⟨by rfl, ?_⟩) ?_ ?_
            rotate_left
            ·intro w'
             go_simp
             with_reducible rfl
            rotate_left
            ·simp only [Act.put, sA, sZ, sS, i64_w, i32_w]
             rfl
            refine pure_ (i := 13) (N := some 59) (v := ?_) (a' := ?_) (bm 48 16383) rfl rfl (any_of HT_.out (by kernel_rfl)) (fun _ _ _ h => h) (Or.inl ⟨by rfl, ?_⟩) ?_ ?_
            rotate_left
            ·intro w'
             go_simp
             with_reducible rfl
            rotate_left
            ·simp only [Act.put, sA, sZ, sS, i64_w, i32_w]
             rfl
            refine pure_ (i := 14) (N := some 60) (v := undef) (a' := ?_) (bm 48 32767) rfl rfl (any_of HT_.out (by kernel_rfl)) (fun _ _ _ h => h) (Or.inr ⟨by rfl, rfl⟩) ?_ ?_
            rotate_left
            ·simp only [Act.put, sA, sZ, sS, i64_w, i32_w]
             rfl
            refine pure_ (i := 15) (N := some 61) (v := undef) (a' := ?_) (bm 48 65535) rfl rfl (any_of HT_.out (by kernel_rfl)) (fun _ _ _ h => h) (Or.inr ⟨by rfl, rfl⟩) ?_ ?_
            rotate_left
            ·simp only [Act.put, sA, sZ, sS, i64_w, i32_w]
             rfl
            refine pure_ (i := 16) (N := some 62) (v := undef) (a' := ?_) (bm 48 131071) rfl rfl (any_of HT_.out (by kernel_rfl)) (fun _ _ _ h => h) (Or.inr ⟨by rfl, rfl⟩) ?_ ?_
            rotate_left
            ·simp only [Act.put, sA, sZ, sS, i64_w, i32_w]
             rfl
            refine pure_ (i := 17) (N := some 63) (v := undef) (a' := ?_) (bm 48 262143) rfl rfl (any_of HT_.out (by kernel_rfl)) (fun _ _ _ h => h) (Or.inr ⟨by rfl, rfl⟩) ?_ ?_
            rotate_left
            ·simp only [Act.put, sA, sZ, sS, i64_w, i32_w]
             rfl
            refine pure_ (i := 18) (N := some 64) (v := undef) (a' := ?_) (bm 48 524287) rfl rfl (any_of HT_.out (by kernel_rfl)) (fun _ _ _ h => h) (Or.inr ⟨by rfl, rfl⟩) ?_ ?_
            rotate_left
            ·simp only [Act.put, sA, sZ, sS, i64_w, i32_w]
             rfl
            refine pure_ (i := 19) (N := some 65) (v := ?_) (a' := ?_) (bm 48 1048575) rfl rfl (any_of HT_.out (by kernel_rfl)) (fun _ _ _ h => h) (Or.inl ⟨by rfl, ?_⟩) ?_ ?_
            rotate_left
            ·intro w'
             go_simp
             with_reducible rfl
            rotate_left
            ·simp only [Act.put, sA, sZ, sS, i64_w, i32_w]
             rfl
            refine pure_ (i := 20) (N := some 66) (v := ?_) (a' := ?_) (bm 48 2097151) rfl rfl (any_of HT_.out (by kernel_rfl)) (fun _ _ _ h => h) (Or.inl ⟨by rfl, ?_⟩) ?_ ?_
            rotate_left
            ·intro w'
             go_simp
             with_reducible rfl
            rotate_left
            ·simp only [Act.put, sA, sZ, sS, i64_w, i32_w]
             rfl
            refine pure_ (i := 21) (N := some 67) (v := undef) (a' := ?_) (bm 48 4194303) rfl rfl (any_of HT_.out (by kernel_rfl)) (fun _ _ _ h => h) (Or.inr ⟨by rfl, rfl⟩) ?_ ?_
            rotate_left
            ·simp only [Act.put, sA, sZ, sS, i64_w, i32_w]
             rfl
            refine pure_ (i := 22) (N := some 68) (v := undef) (a' := ?_) (bm 48 8388607) rfl rfl (any_of HT_.out (by kernel_rfl)) (fun _ _ _ h => h) (Or.inr ⟨by rfl, rfl⟩) ?_ ?_
            rotate_left
            ·simp only [Act.put, sA, sZ, sS, i64_w, i32_w]
             rfl
            refine pure_ (i := 23) (N := some 69) (v := undef) (a' := ?_) (bm 48 16777215) rfl rfl (any_of HT_.out (by kernel_rfl)) (fun _ _ _ h => h) (Or.inr ⟨by rfl, rfl⟩) ?_ ?_
            rotate_left
            ·simp only [Act.put, sA, sZ, sS, i64_w, i32_w]
             rfl
            refine pure_ (i := 24) (N := some 70) (v := undef) (a' := ?_) (bm 48 33554431) rfl rfl (any_of HT_.out (by kernel_rfl)) (fun _ _ _ h => h) (Or.inr ⟨by rfl, rfl⟩) ?_ ?_
            rotate_left
            ·simp only [Act.put, sA, sZ, sS, i64_w, i32_w]
             rfl
            refine pure_ (i := 25) (N := some 71) (v := undef) (a' := ?_) (bm 48 67108863) rfl rfl (any_of HT_.out (by kernel_rfl)) (fun _ _ _ h => h) (Or.inr ⟨by rfl, rfl⟩) ?_ ?_
            rotate_left
            ·simp only [Act.put, sA, sZ, sS, i64_w, i32_w]
             rfl
            refine pure_ (i := 26) (N := some 72) (v := undef) (a' := ?_) (bm 48 134217727) rfl rfl (any_of HT_.out (by kernel_rfl)) (fun _ _ _ h => h) (Or.inr ⟨by rfl, rfl⟩) ?_ ?_
            rotate_left
            ·simp only [Act.put, sA, sZ, sS, i64_w, i32_w]
             rfl
            refine pure_ (i := 27) (N := some 73) (v := undef) (a' := ?_) (bm 48 268435455) rfl rfl (any_of HT_.out (by kernel_rfl)) (fun _ _ _ h => h) (Or.inr ⟨by rfl, rfl⟩) ?_ ?_
            rotate_left
            ·simp only [Act.put, sA, sZ, sS, i64_w, i32_w]
             rfl
            refine pure_ (i := 28) (N := some 74) (v := undef) (a' := ?_) (bm 48 536870911) rfl rfl (any_of HT_.out (by kernel_rfl)) (fun _ _ _ h => h) (Or.inr ⟨by rfl, rfl⟩) ?_ ?_
            rotate_left
            ·simp only [Act.put, sA, sZ, sS, i64_w, i32_w]
             rfl
            refine pure_ (i := 29) (N := some 75) (v := undef) (a' := ?_) (bm 48 1073741823) rfl rfl (any_of HT_.out (by kernel_rfl)) (fun _ _ _ h => h) (Or.inr ⟨by rfl, rfl⟩) ?_ ?_
            rotate_left
            ·simp only [Act.put, sA, sZ, sS, i64_w, i32_w]
             rfl
            refine pure_ (i := 30) (N := some 76) (v := undef) (a' := ?_) (bm 48 2147483647) rfl rfl (any_of HT_.out (by kernel_rfl)) (fun _ _ _ h => h) (Or.inr ⟨by rfl, rfl⟩) ?_ ?_
            rotate_left
            ·simp only [Act.put, sA, sZ, sS, i64_w, i32_w]
             rfl
            refine pure_ (i := 31) (N := some 77) (v := ?_) (a' := ?_) (bm 48 4294967295) rfl rfl (any_of HT_.out (by kernel_rfl)) (fun _ _ _ h => h) (Or.inl ⟨by rfl, ?_⟩) ?_ ?_
            rotate_left
            ·intro w'
             go_simp
             with_reducible rfl
            rotate_left
            ·simp only [Act.put, sA, sZ, sS, i64_w, i32_w]
             rfl
            refine pure_ (i := 32) (N := some 78) (v := ?_) (a' := ?_) (bm 48 8589934591) rfl rfl (any_of HT_.out (by kernel_rfl)) (fun _ _ _ h => h) (Or.inl ⟨by rfl, ?_⟩) ?_ ?_
            rotate_left
            ·intro w'
             go_simp
             with_reducible rfl
            rotate_left
            ·simp only [Act.put, sA, sZ, sS, i64_w, i32_w]
             rfl
            refine pure_ (i := 33) (N := some 79) (v := undef) (a' := ?_) (bm 48 17179869183) rfl rfl (any_of HT_.out (by kernel_rfl)) (fun _ _ _ h => h) (Or.inr ⟨by rfl, rfl⟩) ?_ ?_
            rotate_left
            ·simp only [Act.put, sA, sZ, sS, i64_w, i32_w]
             rfl
            refine pure_ (i := 34) (N := some 80) (v := undef) (a' := ?_) (bm 48 34359738367) rfl rfl (any_of HT_.out (by kernel_rfl)) (fun _ _ _ h => h) (Or.inr ⟨by rfl, rfl⟩) ?_ ?_
            rotate_left
            ·simp only [Act.put, sA, sZ, sS, i64_w, i32_w]
             rfl
            refine pure_ (i := 35) (N := some 81) (v := undef) (a' := ?_) (bm 48 68719476735) rfl rfl (any_of HT_.out (by kernel_rfl)) (fun _ _ _ h => h) (Or.inr ⟨by rfl, rfl⟩) ?_ ?_
            rotate_left
            ·simp only [Act.put, sA, sZ, sS, i64_w, i32_w]
             rfl
            refine pure_ (i := 36) (N := some 82) (v := undef) (a' := ?_) (bm 48 137438953471) rfl rfl (any_of HT_.out (by kernel_rfl)) (fun _ _ _ h => h) (Or.inr ⟨by rfl, rfl⟩) ?_ ?_
            rotate_left
            ·simp only [Act.put, sA, sZ, sS, i64_w, i32_w]
             rfl
            refine pure_ (i := 37) (N := some 83) (v := undef) (a' := ?_) (bm 48 274877906943) rfl rfl (any_of HT_.out (by kernel_rfl)) (fun _ _ _ h => h) (Or.inr ⟨by rfl, rfl⟩) ?_ ?_
            rotate_left
            ·simp only [Act.put, sA, sZ, sS, i64_w, i32_w]
             rfl
            refine pure_ (i := 38) (N := some 84) (v := undef) (a' := ?_) (bm 48 549755813887) rfl rfl (any_of HT_.out (by kernel_rfl)) (fun _ _ _ h => h) (Or.inr ⟨by rfl, rfl⟩) ?_ ?_
            rotate_left
            ·simp only [Act.put, sA, sZ, sS, i64_w, i32_w]
             rfl
            refine pure_ (i := 39) (N := some 85) (v := undef) (a' := ?_) (bm 48 1099511627775) rfl rfl (any_of HT_.out (by kernel_rfl)) (fun _ _ _ h => h) (Or.inr ⟨by rfl, rfl⟩) ?_ ?_
            rotate_left
            ·simp only [Act.put, sA, sZ, sS, i64_w, i32_w]
             rfl
            refine pure_ (i := 40) (N := some 86) (v := undef) (a' := ?_) (bm 48 2199023255551) rfl rfl (any_of HT_.out (by kernel_rfl)) (fun _ _ _ h => h) (Or.inr ⟨by rfl, rfl⟩) ?_ ?_
            rotate_left
            ·simp only [Act.put, sA, sZ, sS, i64_w, i32_w]
             rfl
            refine pure_ (i := 41) (N := some 87) (v := undef) (a' := ?_) (bm 48 4398046511103) rfl rfl (any_of HT_.out (by kernel_rfl)) (fun _ _ _ h => h) (Or.inr ⟨by rfl, rfl⟩) ?_ ?_
            rotate_left
            ·simp only [Act.put, sA, sZ, sS, i64_w, i32_w]
             rfl
            refine pure_ (i := 42) (N := some 88) (v := undef) (a' := ?_) (bm 48 8796093022207) rfl rfl (any_of HT_.out (by kernel_rfl)) (fun _ _ _ h => h) (Or.inr ⟨by rfl, rfl⟩) ?_ ?_
            rotate_left
            ·simp only [Act.put, sA, sZ, sS, i64_w, i32_w]
             rfl
            refine pure_ (i := 43) (N := some 89) (v := undef) (a' := ?_) (bm 48 17592186044415) rfl rfl (any_of HT_.out (by kernel_rfl)) (fun _ _ _ h => h) (Or.inr ⟨by rfl, rfl⟩) ?_ ?_
            rotate_left
            ·simp only [Act.put, sA, sZ, sS, i64_w, i32_w]
             rfl
            refine pure_ (i := 44) (N := some 90) (v := undef) (a' := ?_) (bm 48 35184372088831) rfl rfl (any_of HT_.out (by kernel_rfl)) (fun _ _ _ h => h) (Or.inr ⟨by rfl, rfl⟩) ?_ ?_
            rotate_left
            ·simp only [Act.put, sA, sZ, sS, i64_w, i32_w]
             rfl
            refine pure_ (i := 45) (N := some 91) (v := undef) (a' := ?_) (bm 48 70368744177663) rfl rfl (any_of HT_.out (by kernel_rfl)) (fun _ _ _ h => h) (Or.inr ⟨by rfl, rfl⟩) ?_ ?_
            rotate_left
            ·simp only [Act.put, sA, sZ, sS, i64_w, i32_w]
             rfl
            refine pure_ (i := 46) (N := some 92) (v := undef) (a' := ?_) (bm 48 140737488355327) rfl rfl (any_of HT_.out (by kernel_rfl)) (fun _ _ _ h => h) (Or.inr ⟨by rfl, rfl⟩) ?_ ?_
            rotate_left
            ·simp only [Act.put, sA, sZ, sS, i64_w, i32_w]
             rfl
            refine pure_ (i := 47) (N := some 93) (v := ?_) (a' := ?_) (bm 48 281474976710655) rfl rfl (any_of HT_.out (by kernel_rfl)) (fun _ _ _ h => h) (Or.inl ⟨by rfl, ?_⟩) ?_ ?_
            rotate_left
            ·intro w'
             go_simp
             with_reducible rfl
            rotate_left
            ·simp only [Act.put, sA, sZ, sS, i64_w, i32_w]
             rfl
            refine done_ (done_of HT_.out (by kernel_rfl)) ?_
            try go_wp2
            go_meet
            case rel => exact ⟨_, (true), (by first | rfl | (simp; done) | (simp [*]; done)), H', ⟨by have := HJ1.out; have := HK2.out; first | omega | exact Nat.le_refl _⟩, ⟨by (with_reducible repeat (first | refine bN ?_ _ | refine bD ?_ | refine bA ?_ _)); exact BK186.out⟩, ⟨by (with_reducible repeat (first | refine bN ?_ _ | refine bD ?_ | refine bA ?_ _)); exact BK191.out⟩, ⟨by repeat (first | (with_reducible first | exact HB.out | apply below_alloc | apply pw_below_drewN | apply below_drew1 | refine below_set ?_ GE186.out | refine below_set ?_ GE191.out) | exact HB.out)⟩⟩
           ·rw [if_neg c27] at H
            have c27b0 : (((rd_T177 l0_3 x41_2).f1).toList == ([] : List UInt8)) = false := beq_eq_false_iff_ne.mpr c27
            have c27b1 : (((rd_T177 l0_3 x41_2).f1).toList != ([] : List UInt8)) = true := bne_iff_ne.mpr c27
            (first | rw [c27b0] | (simp only [i64_w, i32_w]; rw [c27b0]) | skip)
            replace H := Option.bind_eq_some_iff.mp H
            obtain ⟨t193, A300, H⟩ := H
            replace H : (if t193 > a0_0 then (impl_GoodInflow.j2 k2 l0_3 (l0_3.length : Int) x41_2 true a0_0 a0_1 a0_2 l0_3) else (if a0_2 = (-1) then (if x41_2 > 0 then (if 0 ≤ (wrap64 (x41_2 - 1)) then (if (wrap64 (x41_2 - 1)) < (l0_3.length : Int) then ((impl_Piece_end.f ((rd_T177 l0_3 (wrap64 (x41_2 - 1))).f0) ((rd_T177 l0_3 (wrap64 (x41_2 - 1))).f1)).bind fun t195 => (impl_GoodInflow.j2 k2 l0_3 (l0_3.length : Int) x41_2 (decide (t195 ≥ ((rd_T177 l0_3 x41_2).f0))) a0_0 a0_1 a0_2 l0_3)) else (none)) else (none)) else (impl_GoodInflow.j2 k2 l0_3 (l0_3.length : Int) x41_2 false a0_0 a0_1 a0_2 l0_3)) else ((impl_Piece_end.f ((rd_T177 l0_3 x41_2).f0) ((rd_T177 l0_3 x41_2).f1)).bind fun t196 => (if t196 > a0_2 then (impl_GoodInflow.j2 k2 l0_3 (l0_3.length : Int) x41_2 true a0_0 a0_1 a0_2 l0_3) else (if x41_2 > 0 then (if 0 ≤ (wrap64 (x41_2 - 1)) then (if (wrap64 (x41_2 - 1)) < (l0_3.length : Int) then ((impl_Piece_end.f ((rd_T177 l0_3 (wrap64 (x41_2 - 1))).f0) ((rd_T177 l0_3 (wrap64 (x41_2 - 1))).f1)).bind fun t198 => (impl_GoodInflow.j2 k2 l0_3 (l0_3.length : Int) x41_2 (decide (t198 ≥ ((rd_T177 l0_3 x41_2).f0))) a0_0 a0_1 a0_2 l0_3)) else (none)) else (none)) else (impl_GoodInflow.j2 k2 l0_3 (l0_3.length : Int) x41_2 false a0_0 a0_1 a0_2 l0_3)))))) = some r := H
            have A30 := Aside0.mk A300
            clear A300
            by_cases c31 : t193 > a0_0
            ·rw [if_pos c31] at H
             have c31b0 : decide (a0_0 < t193) = true := decide_eq_true c31
             clear c31
             have H' := Aside0.mk H
             clear H
             try go_wp2
             have n0_ : Aside0 (((w22.setCell ⟨gb191, 0, none⟩ (.int .i64 ((rd_T177 l0_3 x41_2).f0))).setCell ⟨gb191, 1, none⟩ (.string ((rd_T177 l0_3 x41_2).f1))).heap[gb186]? = some (.cells #[.int .i64 a0_0, .int .i64 a0_1, .int .i64 a0_2, .slice (some ad190) l0_3.length c0_3] 61 (0, 0))) := ⟨by (with_reducible repeat (first | refine bN ?_ _ | refine bD ?_ | refine bA ?_ _)); refine blk_far ?_ NB186_191.out _; (with_reducible repeat (first | refine bN ?_ _ | refine bD ?_ | refine bA ?_ _)); refine blk_far ?_ NB186_191.out _; (with_reducible repeat (first | refine bN ?_ _ | refine bD ?_ | refine bA ?_ _)); exact BK186.out⟩
             have n1_ : Aside0 (((w22.setCell ⟨gb191, 0, none⟩ (.int .i64 ((rd_T177 l0_3 x41_2).f0))).setCell ⟨gb191, 1, none⟩ (.string ((rd_T177 l0_3 x41_2).f1))).heap[gb191]? = some (.cells #[.int .i64 ((rd_T177 l0_3 x41_2).f0), .string ((rd_T177 l0_3 x41_2).f1)] 177 (0, 0))) := ⟨by (with_reducible repeat (first | refine bN ?_ _ | refine bD ?_ | refine bA ?_ _)); refine blk_put (cs := #[.int .i64 ((rd_T177 l0_3 x41_2).f0), .string (⟨#[]⟩ : ByteArray)]) ?_ 1 _ rfl; (with_reducible repeat (first | refine bN ?_ _ | refine bD ?_ | refine bA ?_ _)); refine blk_put (cs := #[.int .i64 0, .string (⟨#[]⟩ : ByteArray)]) ?_ 0 _ rfl; (with_reducible repeat (first | refine bN ?_ _ | refine bD ?_ | refine bA ?_ _)); exact BK191.out⟩
             have n2_ : Aside0 (Below w.heap.size w ((w22.setCell ⟨gb191, 0, none⟩ (.int .i64 ((rd_T177 l0_3 x41_2).f0))).setCell ⟨gb191, 1, none⟩ (.string ((rd_T177 l0_3 x41_2).f1)))) := ⟨by repeat (first | (with_reducible first | exact HB.out | apply below_alloc | apply pw_below_drewN | apply below_drew1 | refine below_set ?_ GE186.out | refine below_set ?_ GE191.out) | exact HB.out)⟩
             (try clear BK186)
             (try clear BK191)
             (try clear HB)
             generalize ((w22.setCell ⟨gb191, 0, none⟩ (.int .i64 ((rd_T177 l0_3 x41_2).f0))).setCell ⟨gb191, 1, none⟩ (.string ((rd_T177 l0_3 x41_2).f1))) = w32 at n0_ n1_ n2_ ⊢
             have BK186 := n0_
             have BK191 := n1_
             have HB := n2_
             clear n0_ n1_ n2_
             have n0_ := Aside0.mk (blk_drew BK186.out)
             have n1_ := Aside0.mk (blk_drew BK191.out)
             have n2_ := Aside0.mk (below_drew1 HB.out)
             clear BK186
             clear BK191
             clear HB
             have BK186 := n0_
             have BK191 := n1_
             have HB := n2_
             clear n0_ n1_ n2_
             refine start_ (n := 48) (S := fun w' => w'.cell? ⟨gb191, 0, none⟩ = some (.int .i64 ((rd_T177 l0_3 x41_2).f0)) ∧ w'.cell? ⟨gb191, 1, none⟩ = some (.string ((rd_T177 l0_3 x41_2).f1)) ∧ w'.cell? ⟨gb186, 0, none⟩ = some (.int .i64 a0_0) ∧ w'.cell? ⟨gb186, 1, none⟩ = some (.int .i64 a0_1) ∧ w'.cell? ⟨gb186, 2, none⟩ = some (.int .i64 a0_2) ∧ w'.cell? ⟨gb186, 3, none⟩ = some (.slice (some ad190) l0_3.length c0_3)) (ds := []) (bm 48 0) (by kernel_rfl) rfl rfl (cx2 BK191 (cz4 BK186)) (fun hHeld => ?_); refine with_tabW impl_GoodInflow.tab6 impl_GoodInflow.bits6 (fun HT_ HW_ => ?_)
             generalize w32.drew = w33 at BK186 BK191 HB hHeld ⊢
             refine pure_ (i := 0) (N := some 46) (v := ?_) (a' := ?_) (bm 48 1) rfl rfl (any_of HT_.out (by kernel_rfl)) (fun _ _ _ h => h) (Or.inl ⟨by rfl, ?_⟩) ?_ ?_
             rotate_left
             ·intro w'
              go_simp
              with_reducible rfl
             rotate_left
             ·simp only [Act.put, sA, sZ, sS, i64_w, i32_w]
              rfl
             refine pure_ (i := 2) (N := some 48) (v := ?_) (a' := ?_) (bm 48 5) rfl rfl (any_of HT_.out (by kernel_rfl)) (fun _ _ _ h => h) (Or.inl ⟨by rfl, ?_⟩) ?_ ?_
             rotate_left
             ·intro w'
              go_simp
              with_reducible rfl
             rotate_left
             ·simp only [Act.put, sA, sZ, sS, i64_w, i32_w]
              rfl
             refine pure_ (i := 4) (N := some 50) (v := ?_) (a' := ?_) (bm 48 21) rfl rfl (any_of HT_.out (by kernel_rfl)) (fun _ _ _ h => h) (Or.inl ⟨by rfl, ?_⟩) ?_ ?_
             rotate_left
             ·intro w'
              go_simp
              with_reducible rfl
             rotate_left
             ·simp only [Act.put, sA, sZ, sS, i64_w, i32_w]
              rfl
             refine take_ (i := 1) (N := some 47) (v := ?_) (a' := ?_) (bm 48 23) rfl rfl (take_ofW HT_.out HW_.out (by kernel_rfl)) (fun _ _ _ h => h) (Or.inl ⟨by rfl, ?_⟩) hHeld ?_ ?_
             rotate_left
             ·rintro w' ⟨s0, s1, s2, s3, s4, s5⟩
              go_simp
              with_reducible rfl
             rotate_left
             ·simp only [Act.put, sA, sZ, sS, i64_w, i32_w]
              rfl
             refine take_ (i := 3) (N := some 49) (v := ?_) (a' := ?_) (bm 48 31) rfl rfl (take_ofW HT_.out HW_.out (by kernel_rfl)) (fun _ _ _ h => h) (Or.inl ⟨by rfl, ?_⟩) hHeld ?_ ?_
             rotate_left
             ·rintro w' ⟨s0, s1, s2, s3, s4, s5⟩
              go_simp
              with_reducible rfl
             rotate_left
             ·simp only [Act.put, sA, sZ, sS, i64_w, i32_w]
              rfl
             refine take_ (i := 5) (N := some 51) (v := ?_) (a' := ?_) (bm 48 63) rfl rfl (take_ofW HT_.out HW_.out (by kernel_rfl)) (fun _ _ _ h => h) (Or.inl ⟨by rfl, ?_⟩) hHeld ?_ ?_
             rotate_left
             ·rintro w' ⟨s0, s1, s2, s3, s4, s5⟩
              go_simp
              with_reducible rfl
             rotate_left
             ·simp only [Act.put, sA, sZ, sS, i64_w, i32_w]
              rfl
             refine one_ (i := 6) (N := some 52) (bm 48 127) rfl rfl (one_of HT_.out (by kernel_rfl)) (by decide) (fun K hK => ?_)
             refine goes_ Try.func80 (by kernel_rfl) rfl #[.int .i64 ((rd_T177 l0_3 x41_2).f0), .int .i64 a0_1, .int .i64 a0_0] (by rfl) rfl rfl (by (try simp only [List.map_toArray, List.map_cons, List.map_nil]); first | done | rfl | (simp only [List.length_drop, List.length_take]; rfl)) ?_
             with_reducible refine (impl_in.calls ((rd_T177 l0_3 x41_2).f0) a0_1 a0_0 true _ A25.out).mono ?_
             rintro e w' ⟨rfl, ⟨nd, rfl⟩⟩
             refine ⟨_, rfl, ?_⟩
             refine hK.out _ _ (cx2 BK191 (cz4 BK186)) (fun hHeld => ?_)
             clear hK K
             refine norm_ (a' := ?_) ?_ ?_
             rotate_left
             ·show Act.put _ (some 52) _ = _
              simp only [Act.put, sA, sZ, sS, i64_w, i32_w]
              rfl
             refine pure_ (i := 7) (N := some 53) (v := ?_) (a' := ?_) (bm 48 255) rfl rfl (any_of HT_.out (by kernel_rfl)) (fun _ _ _ h => h) (Or.inl ⟨by rfl, ?_⟩) ?_ ?_
             rotate_left
             ·intro w'
              go_simp
              with_reducible rfl
             rotate_left
             ·simp only [Act.put, sA, sZ, sS, i64_w, i32_w]
              rfl
             refine pure_ (i := 8) (N := some 54) (v := ?_) (a' := ?_) (bm 48 511) rfl rfl (any_of HT_.out (by kernel_rfl)) (fun _ _ _ h => h) (Or.inl ⟨by rfl, ?_⟩) ?_ ?_
             rotate_left
             ·intro w'
              go_simp
              with_reducible rfl
             rotate_left
             ·simp only [Act.put, sA, sZ, sS, i64_w, i32_w]
              rfl
             refine pure_ (i := 9) (N := some 55) (v := ?_) (a' := ?_) (bm 48 1023) rfl rfl (any_of HT_.out (by kernel_rfl)) (fun _ _ _ h => h) (Or.inl ⟨by rfl, ?_⟩) ?_ ?_
             rotate_left
             ·intro w'
              go_simp
              with_reducible rfl
             rotate_left
             ·simp only [Act.put, sA, sZ, sS, i64_w, i32_w]
              rfl
             refine take_ (i := 10) (N := some 56) (v := ?_) (a' := ?_) (bm 48 2047) rfl rfl (take_ofW HT_.out HW_.out (by kernel_rfl)) (fun _ _ _ h => h) (Or.inl ⟨by rfl, ?_⟩) hHeld ?_ ?_
             rotate_left
             ·rintro w' ⟨s0, s1, s2, s3, s4, s5⟩
              go_simp
              with_reducible rfl
             rotate_left
             ·simp only [Act.put, sA, sZ, sS, i64_w, i32_w]
              rfl
             refine pure_ (i := 11) (N := some 57) (v := ?_) (a' := ?_) (bm 48 4095) rfl rfl (any_of HT_.out (by kernel_rfl)) (fun _ _ _ h => h) (Or.inl ⟨by rfl, ?_⟩) ?_ ?_
             rotate_left
             ·intro w'
              go_simp
              with_reducible rfl
             rotate_left
             ·simp only [Act.put, sA, sZ, sS, i64_w, i32_w]
              rfl
             refine pure_ (i := 12) (N := some 58) (v := ?_) (a' := ?_) (bm 48 8191) rfl rfl (any_of HT_.out (by kernel_rfl)) (fun _ _ _ h => h) (Or.inl ⟨by rfl, ?_⟩) ?_ ?_
             rotate_left
             ·intro w'
              go_simp
              with_reducible rfl
             rotate_left
             ·simp only [Act.put, sA, sZ, sS, i64_w, i32_w]
              rfl
             refine pure_ (i := 13) (N := some 59) (v := ?_) (a' := ?_) (bm 48 16383) rfl rfl (any_of HT_.out (by kernel_rfl)) (fun _ _ _ h => h) (Or.inl ⟨by rfl, ?_⟩) ?_ ?_
             rotate_left
             ·intro w'
              go_simp
              with_reducible rfl
             rotate_left
             ·simp only [Act.put, sA, sZ, sS, i64_w, i32_w]
              rfl
             refine pure_ (i := 16) (N := some 62) (v := ?_) (a' := ?_) (bm 48 81919) rfl rfl (any_of HT_.out (by kernel_rfl)) (fun _ _ _ h => h) (Or.inl ⟨by rfl, ?_⟩) ?_ ?_
             rotate_left
             ·intro w'
              go_simp
              with_reducible rfl
             rotate_left
             ·simp only [Act.put, sA, sZ, sS, i64_w, i32_w]
              rfl
             refine take_ (i := 14) (N := some 60) (v := ?_) (a' := ?_) (bm 48 98303) rfl rfl (take_ofW HT_.out HW_.out (by kernel_rfl)) (fun _ _ _ h => h) (Or.inl ⟨by rfl, ?_⟩) hHeld ?_ ?_
             rotate_left
             ·rintro w' ⟨s0, s1, s2, s3, s4, s5⟩
              go_simp
              with_reducible rfl
             rotate_left
             ·simp only [Act.put, sA, sZ, sS, i64_w, i32_w]
              rfl
             refine take_ (i := 17) (N := some 63) (v := ?_) (a' := ?_) (bm 48 229375) rfl rfl (take_ofW HT_.out HW_.out (by kernel_rfl)) (fun _ _ _ h => h) (Or.inl ⟨by rfl, ?_⟩) hHeld ?_ ?_
             rotate_left
             ·rintro w' ⟨s0, s1, s2, s3, s4, s5⟩
              go_simp
              with_reducible rfl
             rotate_left
             ·simp only [Act.put, sA, sZ, sS, i64_w, i32_w]
              rfl
             refine one_ (i := 15) (N := some 61) (bm 48 262143) rfl rfl (one_of HT_.out (by kernel_rfl)) (by decide) (fun K hK => ?_)
             refine goes_ Try.func173 (by kernel_rfl) rfl #[.agg #[.int .i64 ((rd_T177 l0_3 x41_2).f0), .string ((rd_T177 l0_3 x41_2).f1)]] (by rfl) rfl rfl (by (try simp only [List.map_toArray, List.map_cons, List.map_nil]); first | done | rfl | (simp only [List.length_drop, List.length_take]; rfl)) ?_
             with_reducible refine (impl_Piece_end.calls ((rd_T177 l0_3 x41_2).f0) ((rd_T177 l0_3 x41_2).f1) t193 _ A30.out).mono ?_
             rintro e w34 ⟨rfl, hb⟩
             refine ⟨_, rfl, ?_⟩
             have n0_ := bX BK186 hb
             have n1_ := bX BK191 hb
             have n2_ := bS HB hb
             clear BK186
             clear BK191
             clear HB
             have BK186 := n0_
             have BK191 := n1_
             have HB := n2_
             clear n0_ n1_ n2_
             (try clear hb)
             (try clear hb2)
             (try clear hk)
             (try clear hi)
             refine hK.out _ _ (cx2 BK191 (cz4 BK186)) (fun hHeld => ?_)
             clear hK K
             refine norm_ (a' := ?_) ?_ ?_
             rotate_left
             ·show Act.put _ (some 61) _ = _
              simp only [Act.put, sA, sZ, sS, i64_w, i32_w]
              rfl
             refine pure_ (i := 18) (N := some 64) (v := ?_) (a' := ?_) (bm 48 524287) rfl rfl (any_of HT_.out (by kernel_rfl)) (fun _ _ _ h => h) (Or.inl ⟨by rfl, ?_⟩) ?_ ?_
             rotate_left
             ·intro w'
              go_simp
              with_reducible rfl
             rotate_left
             ·simp only [Act.put, sA, sZ, sS, i64_w, i32_w]
              rfl
             refine pure_ (i := 19) (N := some 65) (v := ?_) (a' := ?_) (bm 48 1048575) rfl rfl (any_of HT_.out (by kernel_rfl)) (fun _ _ _ h => h) (Or.inl ⟨by rfl, ?_⟩) ?_ ?_
             rotate_left
             ·intro w'
              go_simp
              with_reducible rfl
             rotate_left
             ·simp only [Act.put, sA, sZ, sS, i64_w, i32_w]
              rfl
             refine pure_ (i := 20) (N := some 66) (v := ?_) (a' := ?_) (bm 48 2097151) rfl rfl (any_of HT_.out (by kernel_rfl)) (fun _ _ _ h => h) (Or.inl ⟨by rfl, ?_⟩) ?_ ?_
             rotate_left
             ·intro w'
              go_simp
              with_reducible rfl
             rotate_left
             ·simp only [Act.put, sA, sZ, sS, i64_w, i32_w]
              rfl
             refine pure_ (i := 21) (N := some 67) (v := undef) (a' := ?_) (bm 48 4194303) rfl rfl (any_of HT_.out (by kernel_rfl)) (fun _ _ _ h => h) (Or.inr ⟨by rfl, rfl⟩) ?_ ?_
             rotate_left
             ·simp only [Act.put, sA, sZ, sS, i64_w, i32_w]
              rfl
             refine pure_ (i := 22) (N := some 68) (v := undef) (a' := ?_) (bm 48 8388607) rfl rfl (any_of HT_.out (by kernel_rfl)) (fun _ _ _ h => h) (Or.inr ⟨by rfl, rfl⟩) ?_ ?_
             rotate_left
             ·simp only [Act.put, sA, sZ, sS, i64_w, i32_w]
              rfl
             refine pure_ (i := 23) (N := some 69) (v := undef) (a' := ?_) (bm 48 16777215) rfl rfl (any_of HT_.out (by kernel_rfl)) (fun _ _ _ h => h) (Or.inr ⟨by rfl, rfl⟩) ?_ ?_
             rotate_left
             ·simp only [Act.put, sA, sZ, sS, i64_w, i32_w]
              rfl
             refine pure_ (i := 24) (N := some 70) (v := undef) (a' := ?_) (bm 48 33554431) rfl rfl (any_of HT_.out (by kernel_rfl)) (fun _ _ _ h => h) (Or.inr ⟨by rfl, rfl⟩) ?_ ?_
             rotate_left
             ·simp only [Act.put, sA, sZ, sS, i64_w, i32_w]
              rfl
             refine pure_ (i := 25) (N := some 71) (v := undef) (a' := ?_) (bm 48 67108863) rfl rfl (any_of HT_.out (by kernel_rfl)) (fun _ _ _ h => h) (Or.inr ⟨by rfl, rfl⟩) ?_ ?_
             rotate_left
             ·simp only [Act.put, sA, sZ, sS, i64_w, i32_w]
              rfl
             refine pure_ (i := 26) (N := some 72) (v := undef) (a' := ?_) (bm 48 134217727) rfl rfl (any_of HT_.out (by kernel_rfl)) (fun _ _ _ h => h) (Or.inr ⟨by rfl, rfl⟩) ?_ ?_
             rotate_left
             ·simp only [Act.put, sA, sZ, sS, i64_w, i32_w]
              rfl
             refine pure_ (i := 27) (N := some 73) (v := undef) (a' := ?_) (bm 48 268435455) rfl rfl (any_of HT_.out (by kernel_rfl)) (fun _ _ _ h => h) (Or.inr ⟨by rfl, rfl⟩) ?_ ?_
             rotate_left
             ·simp only [Act.put, sA, sZ, sS, i64_w, i32_w]
              rfl
             refine pure_ (i := 28) (N := some 74) (v := undef) (a' := ?_) (bm 48 536870911) rfl rfl (any_of HT_.out (by kernel_rfl)) (fun _ _ _ h => h) (Or.inr ⟨by rfl, rfl⟩) ?_ ?_
             rotate_left
             ·simp only [Act.put, sA, sZ, sS, i64_w, i32_w]
              rfl
             refine pure_ (i := 29) (N := some 75) (v := undef) (a' := ?_) (bm 48 1073741823) rfl rfl (any_of HT_.out (by kernel_rfl)) (fun _ _ _ h => h) (Or.inr ⟨by rfl, rfl⟩) ?_ ?_
             rotate_left
             ·simp only [Act.put, sA, sZ, sS, i64_w, i32_w]
              rfl
             refine pure_ (i := 30) (N := some 76) (v := undef) (a' := ?_) (bm 48 2147483647) rfl rfl (any_of HT_.out (by kernel_rfl)) (fun _ _ _ h => h) (Or.inr ⟨by rfl, rfl⟩) ?_ ?_
             rotate_left
             ·simp only [Act.put, sA, sZ, sS, i64_w, i32_w]
              rfl
             refine pure_ (i := 31) (N := some 77) (v := ?_) (a' := ?_) (bm 48 4294967295) rfl rfl (any_of HT_.out (by kernel_rfl)) (fun _ _ _ h => h) (Or.inl ⟨by rfl, ?_⟩) ?_ ?_
             rotate_left
             ·intro w'
              go_simp
              with_reducible rfl
             rotate_left
             ·simp only [Act.put, sA, sZ, sS, i64_w, i32_w]
              rfl
             refine pure_ (i := 32) (N := some 78) (v := ?_) (a' := ?_) (bm 48 8589934591) rfl rfl (any_of HT_.out (by kernel_rfl)) (fun _ _ _ h => h) (Or.inl ⟨by rfl, ?_⟩) ?_ ?_
             rotate_left
             ·intro w'
              go_simp
              with_reducible rfl
             rotate_left
             ·simp only [Act.put, sA, sZ, sS, i64_w, i32_w]
              rfl
             refine pure_ (i := 33) (N := some 79) (v := undef) (a' := ?_) (bm 48 17179869183) rfl rfl (any_of HT_.out (by kernel_rfl)) (fun _ _ _ h => h) (Or.inr ⟨by rfl, rfl⟩) ?_ ?_
             rotate_left
             ·simp only [Act.put, sA, sZ, sS, i64_w, i32_w]
              rfl
             refine pure_ (i := 34) (N := some 80) (v := undef) (a' := ?_) (bm 48 34359738367) rfl rfl (any_of HT_.out (by kernel_rfl)) (fun _ _ _ h => h) (Or.inr ⟨by rfl, rfl⟩) ?_ ?_
             rotate_left
             ·simp only [Act.put, sA, sZ, sS, i64_w, i32_w]
              rfl
             refine pure_ (i := 35) (N := some 81) (v := undef) (a' := ?_) (bm 48 68719476735) rfl rfl (any_of HT_.out (by kernel_rfl)) (fun _ _ _ h => h) (Or.inr ⟨by rfl, rfl⟩) ?_ ?_
             rotate_left
             ·simp only [Act.put, sA, sZ, sS, i64_w, i32_w]
              rfl
             refine pure_ (i := 36) (N := some 82) (v := undef) (a' := ?_) (bm 48 137438953471) rfl rfl (any_of HT_.out (by kernel_rfl)) (fun _ _ _ h => h) (Or.inr ⟨by rfl, rfl⟩) ?_ ?_
             rotate_left
             ·simp only [Act.put, sA, sZ, sS, i64_w, i32_w]
              rfl
             refine pure_ (i := 37) (N := some 83) (v := undef) (a' := ?_) (bm 48 274877906943) rfl rfl (any_of HT_.out (by kernel_rfl)) (fun _ _ _ h => h) (Or.inr ⟨by rfl, rfl⟩) ?_ ?_
             rotate_left
             ·simp only [Act.put, sA, sZ, sS, i64_w, i32_w]
              rfl
             refine pure_ (i := 38) (N := some 84) (v := undef) (a' := ?_) (bm 48 549755813887) rfl rfl (any_of HT_.out (by kernel_rfl)) (fun _ _ _ h => h) (Or.inr ⟨by rfl, rfl⟩) ?_ ?_
             rotate_left
             ·simp only [Act.put, sA, sZ, sS, i64_w, i32_w]
              rfl
             refine pure_ (i := 39) (N := some 85) (v := undef) (a' := ?_) (bm 48 1099511627775) rfl rfl (any_of HT_.out (by kernel_rfl)) (fun _ _ _ h => h) (Or.inr ⟨by rfl, rfl⟩) ?_ ?_
             rotate_left
             ·simp only [Act.put, sA, sZ, sS, i64_w, i32_w]
              rfl
             refine pure_ (i := 40) (N := some 86) (v := undef) (a' := ?_) (bm 48 2199023255551) rfl rfl (any_of HT_.out (by kernel_rfl)) (fun _ _ _ h => h) (Or.inr ⟨by rfl, rfl⟩) ?_ ?_
             rotate_left
             ·simp only [Act.put, sA, sZ, sS, i64_w, i32_w]
              rfl
             refine pure_ (i := 41) (N := some 87) (v := undef) (a' := ?_) (bm 48 4398046511103) rfl rfl (any_of HT_.out (by kernel_rfl)) (fun _ _ _ h => h) (Or.inr ⟨by rfl, rfl⟩) ?_ ?_
             rotate_left
             ·simp only [Act.put, sA, sZ, sS, i64_w, i32_w]
              rfl
             refine pure_ (i := 42) (N := some 88) (v := undef) (a' := ?_) (bm 48 8796093022207) rfl rfl (any_of HT_.out (by kernel_rfl)) (fun _ _ _ h => h) (Or.inr ⟨by rfl, rfl⟩) ?_ ?_
             rotate_left
             ·simp only [Act.put, sA, sZ, sS, i64_w, i32_w]
              rfl
             refine pure_ (i := 43) (N := some 89) (v := undef) (a' := ?_) (bm 48 17592186044415) rfl rfl (any_of HT_.out (by kernel_rfl)) (fun _ _ _ h => h) (Or.inr ⟨by rfl, rfl⟩) ?_ ?_
             rotate_left
             ·simp only [Act.put, sA, sZ, sS, i64_w, i32_w]
              rfl
             refine pure_ (i := 44) (N := some 90) (v := undef) (a' := ?_) (bm 48 35184372088831) rfl rfl (any_of HT_.out (by kernel_rfl)) (fun _ _ _ h => h) (Or.inr ⟨by rfl, rfl⟩) ?_ ?_
             rotate_left
             ·simp only [Act.put, sA, sZ, sS, i64_w, i32_w]
              rfl
             refine pure_ (i := 45) (N := some 91) (v := undef) (a' := ?_) (bm 48 70368744177663) rfl rfl (any_of HT_.out (by kernel_rfl)) (fun _ _ _ h => h) (Or.inr ⟨by rfl, rfl⟩) ?_ ?_
             rotate_left
             ·simp only [Act.put, sA, sZ, sS, i64_w, i32_w]
              rfl
             refine pure_ (i := 46) (N := some 92) (v := undef) (a' := ?_) (bm 48 140737488355327) rfl rfl (any_of HT_.out (by kernel_rfl)) (fun _ _ _ h => h) (Or.inr ⟨by rfl, rfl⟩) ?_ ?_
             rotate_left
             ·simp only [Act.put, sA, sZ, sS, i64_w, i32_w]
              rfl
             refine pure_ (i := 47) (N := some 93) (v := ?_) (a' := ?_) (bm 48 281474976710655) rfl rfl (any_of HT_.out (by kernel_rfl)) (fun _ _ _ h => h) (Or.inl ⟨by rfl, ?_⟩) ?_ ?_
             rotate_left
             ·intro w'
              go_simp
              with_reducible rfl
             rotate_left
             ·simp only [Act.put, sA, sZ, sS, i64_w, i32_w]
              rfl
             refine done_ (done_of HT_.out (by kernel_rfl)) ?_
             try go_wp2
             go_meet
             case rel => exact ⟨_, (true), (by first | rfl | (simp; done) | (simp [*]; done)), H', ⟨by have := HJ1.out; have := HK2.out; first | omega | exact Nat.le_refl _⟩, ⟨by (with_reducible repeat (first | refine bN ?_ _ | refine bD ?_ | refine bA ?_ _)); exact BK186.out⟩, ⟨by (with_reducible repeat (first | refine bN ?_ _ | refine bD ?_ | refine bA ?_ _)); exact BK191.out⟩, ⟨by repeat (first | (with_reducible first | exact HB.out | apply below_alloc | apply pw_below_drewN | apply below_drew1 | refine below_set ?_ GE186.out | refine below_set ?_ GE191.out) | exact HB.out)⟩⟩
            ·rw [if_neg c31] at H
             have c31b0 : decide (a0_0 < t193) = false := decide_eq_false c31
             clear c31
             by_cases c35 : a0_2 = (-1)
             ·rw [if_pos c35] at H
              have c35b0 : (a0_2 == (-1)) = true := beq_iff_eq.mpr c35
              have c35b1 : (a0_2 != (-1)) = false := bne_eq_false_iff_eq.mpr c35
              clear c35
              by_cases c36 : x41_2 > 0
              ·rw [if_pos c36] at H
               have c36b0 : decide (0 < x41_2) = true := decide_eq_true c36
               clear c36
               obtain ⟨ji37, hji37⟩ : ∃ j_ : Int, (wrap64 (x41_2 - 1)) = j_ := ⟨_, rfl⟩
               replace H : (if 0 ≤ (ji37) then (if (ji37) < (l0_3.length : Int) then ((impl_Piece_end.f ((rd_T177 l0_3 (ji37)).f0) ((rd_T177 l0_3 (ji37)).f1)).bind fun t195 => (impl_GoodInflow.j2 k2 l0_3 (l0_3.length : Int) x41_2 (decide (t195 ≥ ((rd_T177 l0_3 x41_2).f0))) a0_0 a0_1 a0_2 l0_3)) else (none)) else (none)) = some r := by first | (rw [hji37] at H; exact H) | (simp only [hji37] at H ⊢; exact H)
               (try rw [hji37] at A25)
               (try rw [hji37] at A30)
               have hji37w : (IntKind.i64.wrap (x41_2 - 1)) = ji37 := (i64_w _).trans hji37
               by_cases c38 : 0 ≤ (ji37)
               ·rw [if_pos c38] at H
                have c38b0 : decide (0 ≤ (ji37)) = true := decide_eq_true c38
                clear c38
                by_cases c39 : (ji37) < (l0_3.length : Int)
                ·rw [if_pos c39] at H
                 have c39b0 : decide ((ji37) < (l0_3.length : Int)) = true := decide_eq_true c39
                 clear c39
                 replace H := Option.bind_eq_some_iff.mp H
                 obtain ⟨t195, A400, H⟩ := H
                 replace H : (impl_GoodInflow.j2 k2 l0_3 (l0_3.length : Int) x41_2 (decide (t195 ≥ ((rd_T177 l0_3 x41_2).f0))) a0_0 a0_1 a0_2 l0_3) = some r := H
                 have A40 := Aside0.mk A400
                 clear A400
                 have H' := Aside0.mk H
                 clear H
                 try go_wp2
                 have n0_ : Aside0 (((w22.setCell ⟨gb191, 0, none⟩ (.int .i64 ((rd_T177 l0_3 x41_2).f0))).setCell ⟨gb191, 1, none⟩ (.string ((rd_T177 l0_3 x41_2).f1))).heap[gb186]? = some (.cells #[.int .i64 a0_0, .int .i64 a0_1, .int .i64 a0_2, .slice (some ad190) l0_3.length c0_3] 61 (0, 0))) := ⟨by (with_reducible repeat (first | refine bN ?_ _ | refine bD ?_ | refine bA ?_ _)); refine blk_far ?_ NB186_191.out _; (with_reducible repeat (first | refine bN ?_ _ | refine bD ?_ | refine bA ?_ _)); refine blk_far ?_ NB186_191.out _; (with_reducible repeat (first | refine bN ?_ _ | refine bD ?_ | refine bA ?_ _)); exact BK186.out⟩
                 have n1_ : Aside0 (((w22.setCell ⟨gb191, 0, none⟩ (.int .i64 ((rd_T177 l0_3 x41_2).f0))).setCell ⟨gb191, 1, none⟩ (.string ((rd_T177 l0_3 x41_2).f1))).heap[gb191]? = some (.cells #[.int .i64 ((rd_T177 l0_3 x41_2).f0), .string ((rd_T177 l0_3 x41_2).f1)] 177 (0, 0))) := ⟨by (with_reducible repeat (first | refine bN ?_ _ | refine bD ?_ | refine bA ?_ _)); refine blk_put (cs := #[.int .i64 ((rd_T177 l0_3 x41_2).f0), .string (⟨#[]⟩ : ByteArray)]) ?_ 1 _ rfl; (with_reducible repeat (first | refine bN ?_ _ | refine bD ?_ | refine bA ?_ _)); refine blk_put (cs := #[.int .i64 0, .string (⟨#[]⟩ : ByteArray)]) ?_ 0 _ rfl; (with_reducible repeat (first | refine bN ?_ _ | refine bD ?_ | refine bA ?_ _)); exact BK191.out⟩
                 have n2_ : Aside0 (Below w.heap.size w ((w22.setCell ⟨gb191, 0, none⟩ (.int .i64 ((rd_T177 l0_3 x41_2).f0))).setCell ⟨gb191, 1, none⟩ (.string ((rd_T177 l0_3 x41_2).f1)))) := ⟨by repeat (first | (with_reducible first | exact HB.out | apply below_alloc | apply pw_below_drewN | apply below_drew1 | refine below_set ?_ GE186.out | refine below_set ?_ GE191.out) | exact HB.out)⟩
                 (try clear BK186)
                 (try clear BK191)
                 (try clear HB)
                 generalize ((w22.setCell ⟨gb191, 0, none⟩ (.int .i64 ((rd_T177 l0_3 x41_2).f0))).setCell ⟨gb191, 1, none⟩ (.string ((rd_T177 l0_3 x41_2).f1))) = w41 at n0_ n1_ n2_ ⊢
                 have BK186 := n0_
                 have BK191 := n1_
                 have HB := n2_
                 clear n0_ n1_ n2_
                 have n0_ := Aside0.mk (blk_drew BK186.out)
                 have n1_ := Aside0.mk (blk_drew BK191.out)
                 have n2_ := Aside0.mk (below_drew1 HB.out)
                 clear BK186
                 clear BK191
                 clear HB
                 have BK186 := n0_
                 have BK191 := n1_
                 have HB := n2_
                 clear n0_ n1_ n2_
                 have p194 : 0 ≤ ((ji37) : Int) := of_decide_eq_true (by first | (with_reducible assumption) | assumption)
                 have q194 : (ji37) < (l0_3.length : Int) := of_decide_eq_true (by first | (with_reducible assumption) | assumption)
                 obtain ⟨ad194, e194, hx194_0, hx194_1⟩ := at_T177 HR0_3.out (ji37) p194 q194
                 have hw194_1 := hx194_1
                 have hw194_0 := hx194_0
                 obtain rfl : ad190 = ad194 := (by injection e194)
                 replace hx194_0 := (HB.out.cell (World.block_lt_of_cell? w _ hx194_0)).trans hx194_0
                 replace hx194_1 := (HB.out.cell (World.block_lt_of_cell? w _ hx194_1)).trans hx194_1
                 replace p194 := eq_true p194
                 replace q194 := eq_true q194
                 refine start_ (n := 48) (S := fun w' => w'.cell? ⟨gb191, 0, none⟩ = some (.int .i64 ((rd_T177 l0_3 x41_2).f0)) ∧ w'.cell? ⟨gb191, 1, none⟩ = some (.string ((rd_T177 l0_3 x41_2).f1)) ∧ w'.cell? ⟨gb186, 0, none⟩ = some (.int .i64 a0_0) ∧ w'.cell? ⟨gb186, 1, none⟩ = some (.int .i64 a0_1) ∧ w'.cell? ⟨gb186, 2, none⟩ = some (.int .i64 a0_2) ∧ w'.cell? ⟨gb186, 3, none⟩ = some (.slice (some ad190) l0_3.length c0_3) ∧ w'.cell? (ad190.add (((ji37)).toNat * 2)) = some (.int .i64 ((rd_T177 l0_3 (ji37)).f0)) ∧ w'.cell? ⟨(ad190.add (((ji37)).toNat * 2)).block, (ad190.add (((ji37)).toNat * 2)).off + 1, none⟩ = some (.string ((rd_T177 l0_3 (ji37)).f1))) (ds := []) (bm 48 0) (by kernel_rfl) rfl rfl ⟨(blk_cell BK191.out 0).trans rfl, (blk_cell BK191.out 1).trans rfl, (blk_cell BK186.out 0).trans rfl, (blk_cell BK186.out 1).trans rfl, (blk_cell BK186.out 2).trans rfl, (blk_cell BK186.out 3).trans rfl, ((HB.out.cell (World.block_lt_of_cell? w _ hw194_0)).trans hw194_0), ((HB.out.cell (World.block_lt_of_cell? w _ hw194_1)).trans hw194_1)⟩ (fun hHeld => ?_); refine with_tabW impl_GoodInflow.tab6 impl_GoodInflow.bits6 (fun HT_ HW_ => ?_)
                 generalize w41.drew = w42 at BK186 BK191 HB hx194_0 hx194_1 hHeld ⊢
                 refine pure_ (i := 0) (N := some 46) (v := ?_) (a' := ?_) (bm 48 1) rfl rfl (any_of HT_.out (by kernel_rfl)) (fun _ _ _ h => h) (Or.inl ⟨by rfl, ?_⟩) ?_ ?_
                 rotate_left
                 ·intro w'
                  go_simp
                  with_reducible rfl
                 rotate_left
                 ·simp only [Act.put, sA, sZ, sS, i64_w, i32_w]
                  rfl
                 refine pure_ (i := 2) (N := some 48) (v := ?_) (a' := ?_) (bm 48 5) rfl rfl (any_of HT_.out (by kernel_rfl)) (fun _ _ _ h => h) (Or.inl ⟨by rfl, ?_⟩) ?_ ?_
                 rotate_left
                 ·intro w'
                  go_simp
                  with_reducible rfl
                 rotate_left
                 ·simp only [Act.put, sA, sZ, sS, i64_w, i32_w]
                  rfl
                 refine pure_ (i := 4) (N := some 50) (v := ?_) (a' := ?_) (bm 48 21) rfl rfl (any_of HT_.out (by kernel_rfl)) (fun _ _ _ h => h) (Or.inl ⟨by rfl, ?_⟩) ?_ ?_
                 rotate_left
                 ·intro w'
                  go_simp
                  with_reducible rfl
                 rotate_left
                 ·simp only [Act.put, sA, sZ, sS, i64_w, i32_w]
                  rfl
                 refine take_ (i := 1) (N := some 47) (v := ?_) (a' := ?_) (bm 48 23) rfl rfl (take_ofW HT_.out HW_.out (by kernel_rfl)) (fun _ _ _ h => h) (Or.inl ⟨by rfl, ?_⟩) hHeld ?_ ?_
                 rotate_left
                 ·rintro w' ⟨s0, s1, s2, s3, s4, s5, s6, s7⟩
                  go_simp
                  with_reducible rfl
                 rotate_left
                 ·simp only [Act.put, sA, sZ, sS, i64_w, i32_w]
                  rfl
                 refine take_ (i := 3) (N := some 49) (v := ?_) (a' := ?_) (bm 48 31) rfl rfl (take_ofW HT_.out HW_.out (by kernel_rfl)) (fun _ _ _ h => h) (Or.inl ⟨by rfl, ?_⟩) hHeld ?_ ?_
                 rotate_left
                 ·rintro w' ⟨s0, s1, s2, s3, s4, s5, s6, s7⟩
                  go_simp
                  with_reducible rfl
                 rotate_left
                 ·simp only [Act.put, sA, sZ, sS, i64_w, i32_w]
                  rfl
                 refine take_ (i := 5) (N := some 51) (v := ?_) (a' := ?_) (bm 48 63) rfl rfl (take_ofW HT_.out HW_.out (by kernel_rfl)) (fun _ _ _ h => h) (Or.inl ⟨by rfl, ?_⟩) hHeld ?_ ?_
                 rotate_left
                 ·rintro w' ⟨s0, s1, s2, s3, s4, s5, s6, s7⟩
                  go_simp
                  with_reducible rfl
                 rotate_left
                 ·simp only [Act.put, sA, sZ, sS, i64_w, i32_w]
                  rfl
                 refine one_ (i := 6) (N := some 52) (bm 48 127) rfl rfl (one_of HT_.out (by kernel_rfl)) (by decide) (fun K hK => ?_)
                 refine goes_ Try.func80 (by kernel_rfl) rfl #[.int .i64 ((rd_T177 l0_3 x41_2).f0), .int .i64 a0_1, .int .i64 a0_0] (by rfl) rfl rfl (by (try simp only [List.map_toArray, List.map_cons, List.map_nil]); first | done | rfl | (simp only [List.length_drop, List.length_take]; rfl)) ?_
                 with_reducible refine (impl_in.calls ((rd_T177 l0_3 x41_2).f0) a0_1 a0_0 true _ A25.out).mono ?_
                 rintro e w' ⟨rfl, ⟨nd, rfl⟩⟩
                 refine ⟨_, rfl, ?_⟩
                 refine hK.out _ _ ⟨(blk_cell BK191.out 0).trans rfl, (blk_cell BK191.out 1).trans rfl, (blk_cell BK186.out 0).trans rfl, (blk_cell BK186.out 1).trans rfl, (blk_cell BK186.out 2).trans rfl, (blk_cell BK186.out 3).trans rfl, ((HB.out.cell (World.block_lt_of_cell? w _ hw194_0)).trans hw194_0), ((HB.out.cell (World.block_lt_of_cell? w _ hw194_1)).trans hw194_1)⟩ (fun hHeld => ?_)
                 clear hK K
                 refine norm_ (a' := ?_) ?_ ?_
                 rotate_left
                 ·show Act.put _ (some 52) _ = _
                  simp only [Act.put, sA, sZ, sS, i64_w, i32_w]
                  rfl
                 refine pure_ (i := 7) (N := some 53) (v := ?_) (a' := ?_) (bm 48 255) rfl rfl (any_of HT_.out (by kernel_rfl)) (fun _ _ _ h => h) (Or.inl ⟨by rfl, ?_⟩) ?_ ?_
                 rotate_left
                 ·intro w'
                  go_simp
                  with_reducible rfl
                 rotate_left
                 ·simp only [Act.put, sA, sZ, sS, i64_w, i32_w]
                  rfl
                 refine pure_ (i := 8) (N := some 54) (v := ?_) (a' := ?_) (bm 48 511) rfl rfl (any_of HT_.out (by kernel_rfl)) (fun _ _ _ h => h) (Or.inl ⟨by rfl, ?_⟩) ?_ ?_
                 rotate_left
                 ·intro w'
                  go_simp
                  with_reducible rfl
                 rotate_left
                 ·simp only [Act.put, sA, sZ, sS, i64_w, i32_w]
                  rfl
                 refine pure_ (i := 9) (N := some 55) (v := ?_) (a' := ?_) (bm 48 1023) rfl rfl (any_of HT_.out (by kernel_rfl)) (fun _ _ _ h => h) (Or.inl ⟨by rfl, ?_⟩) ?_ ?_
                 rotate_left
                 ·intro w'
                  go_simp
                  with_reducible rfl
                 rotate_left
                 ·simp only [Act.put, sA, sZ, sS, i64_w, i32_w]
                  rfl
                 refine take_ (i := 10) (N := some 56) (v := ?_) (a' := ?_) (bm 48 2047) rfl rfl (take_ofW HT_.out HW_.out (by kernel_rfl)) (fun _ _ _ h => h) (Or.inl ⟨by rfl, ?_⟩) hHeld ?_ ?_
                 rotate_left
                 ·rintro w' ⟨s0, s1, s2, s3, s4, s5, s6, s7⟩
                  go_simp
                  with_reducible rfl
                 rotate_left
                 ·simp only [Act.put, sA, sZ, sS, i64_w, i32_w]
                  rfl
                 refine pure_ (i := 11) (N := some 57) (v := ?_) (a' := ?_) (bm 48 4095) rfl rfl (any_of HT_.out (by kernel_rfl)) (fun _ _ _ h => h) (Or.inl ⟨by rfl, ?_⟩) ?_ ?_
                 rotate_left
                 ·intro w'
                  go_simp
                  with_reducible rfl
                 rotate_left
                 ·simp only [Act.put, sA, sZ, sS, i64_w, i32_w]
                  rfl
                 refine pure_ (i := 12) (N := some 58) (v := ?_) (a' := ?_) (bm 48 8191) rfl rfl (any_of HT_.out (by kernel_rfl)) (fun _ _ _ h => h) (Or.inl ⟨by rfl, ?_⟩) ?_ ?_
                 rotate_left
                 ·intro w'
                  go_simp
                  with_reducible rfl
                 rotate_left
                 ·simp only [Act.put, sA, sZ, sS, i64_w, i32_w]
                  rfl
                 refine pure_ (i := 13) (N := some 59) (v := ?_) (a' := ?_) (bm 48 16383) rfl rfl (any_of HT_.out (by kernel_rfl)) (fun _ _ _ h => h) (Or.inl ⟨by rfl, ?_⟩) ?_ ?_
                 rotate_left
                 ·intro w'
                  go_simp
                  with_reducible rfl
                 rotate_left
                 ·simp only [Act.put, sA, sZ, sS, i64_w, i32_w]
                  rfl
                 refine pure_ (i := 16) (N := some 62) (v := ?_) (a' := ?_) (bm 48 81919) rfl rfl (any_of HT_.out (by kernel_rfl)) (fun _ _ _ h => h) (Or.inl ⟨by rfl, ?_⟩) ?_ ?_
                 rotate_left
                 ·intro w'
                  go_simp
                  with_reducible rfl
                 rotate_left
                 ·simp only [Act.put, sA, sZ, sS, i64_w, i32_w]
                  rfl
                 refine take_ (i := 14) (N := some 60) (v := ?_) (a' := ?_) (bm 48 98303) rfl rfl (take_ofW HT_.out HW_.out (by kernel_rfl)) (fun _ _ _ h => h) (Or.inl ⟨by rfl, ?_⟩) hHeld ?_ ?_
                 rotate_left
                 ·rintro w' ⟨s0, s1, s2, s3, s4, s5, s6, s7⟩
                  go_simp
                  with_reducible rfl
                 rotate_left
                 ·simp only [Act.put, sA, sZ, sS, i64_w, i32_w]
                  rfl
                 refine take_ (i := 17) (N := some 63) (v := ?_) (a' := ?_) (bm 48 229375) rfl rfl (take_ofW HT_.out HW_.out (by kernel_rfl)) (fun _ _ _ h => h) (Or.inl ⟨by rfl, ?_⟩) hHeld ?_ ?_
                 rotate_left
                 ·rintro w' ⟨s0, s1, s2, s3, s4, s5, s6, s7⟩
                  go_simp
                  with_reducible rfl
                 rotate_left
                 ·simp only [Act.put, sA, sZ, sS, i64_w, i32_w]
                  rfl
                 refine one_ (i := 15) (N := some 61) (bm 48 262143) rfl rfl (one_of HT_.out (by kernel_rfl)) (by decide) (fun K hK => ?_)
                 refine goes_ Try.func173 (by kernel_rfl) rfl #[.agg #[.int .i64 ((rd_T177 l0_3 x41_2).f0), .string ((rd_T177 l0_3 x41_2).f1)]] (by rfl) rfl rfl (by (try simp only [List.map_toArray, List.map_cons, List.map_nil]); first | done | rfl | (simp only [List.length_drop, List.length_take]; rfl)) ?_
                 with_reducible refine (impl_Piece_end.calls ((rd_T177 l0_3 x41_2).f0) ((rd_T177 l0_3 x41_2).f1) t193 _ A30.out).mono ?_
                 rintro e w43 ⟨rfl, hb⟩
                 refine ⟨_, rfl, ?_⟩
                 have n0_ := bX BK186 hb
                 have n1_ := bX BK191 hb
                 have n2_ := bS HB hb
                 clear BK186
                 clear BK191
                 clear HB
                 have BK186 := n0_
                 have BK191 := n1_
                 have HB := n2_
                 clear n0_ n1_ n2_
                 (try clear hb)
                 (try clear hb2)
                 (try clear hk)
                 (try clear hi)
                 refine hK.out _ _ ⟨(blk_cell BK191.out 0).trans rfl, (blk_cell BK191.out 1).trans rfl, (blk_cell BK186.out 0).trans rfl, (blk_cell BK186.out 1).trans rfl, (blk_cell BK186.out 2).trans rfl, (blk_cell BK186.out 3).trans rfl, ((HB.out.cell (World.block_lt_of_cell? w _ hw194_0)).trans hw194_0), ((HB.out.cell (World.block_lt_of_cell? w _ hw194_1)).trans hw194_1)⟩ (fun hHeld => ?_)
                 clear hK K
                 refine norm_ (a' := ?_) ?_ ?_
                 rotate_left
                 ·show Act.put _ (some 61) _ = _
                  simp only [Act.put, sA, sZ, sS, i64_w, i32_w]
                  rfl
                 refine pure_ (i := 18) (N := some 64) (v := ?_) (a' := ?_) (bm 48 524287) rfl rfl (any_of HT_.out (by kernel_rfl)) (fun _ _ _ h => h) (Or.inl ⟨by rfl, ?_⟩) ?_ ?_
                 rotate_left
                 ·intro w'
                  go_simp
                  with_reducible rfl
                 rotate_left
                 ·simp only [Act.put, sA, sZ, sS, i64_w, i32_w]
                  rfl
                 refine pure_ (i := 19) (N := some 65) (v := ?_) (a' := ?_) (bm 48 1048575) rfl rfl (any_of HT_.out (by kernel_rfl)) (fun _ _ _ h => h) (Or.inl ⟨by rfl, ?_⟩) ?_ ?_
                 rotate_left
                 ·intro w'
                  go_simp
                  with_reducible rfl
                 rotate_left
                 ·simp only [Act.put, sA, sZ, sS, i64_w, i32_w]
                  rfl
                 refine pure_ (i := 20) (N := some 66) (v := ?_) (a' := ?_) (bm 48 2097151) rfl rfl (any_of HT_.out (by kernel_rfl)) (fun _ _ _ h => h) (Or.inl ⟨by rfl, ?_⟩) ?_ ?_
                 rotate_left
                 ·intro w'
                  go_simp
                  with_reducible rfl
                 rotate_left
                 ·simp only [Act.put, sA, sZ, sS, i64_w, i32_w]
                  rfl
                 refine pure_ (i := 21) (N := some 67) (v := ?_) (a' := ?_) (bm 48 4194303) rfl rfl (any_of HT_.out (by kernel_rfl)) (fun _ _ _ h => h) (Or.inl ⟨by rfl, ?_⟩) ?_ ?_
                 rotate_left
                 ·intro w'
                  go_simp
                  with_reducible rfl
                 rotate_left
                 ·simp only [Act.put, sA, sZ, sS, i64_w, i32_w]
                  rfl
                 refine take_ (i := 22) (N := some 68) (v := ?_) (a' := ?_) (bm 48 8388607) rfl rfl (take_ofW HT_.out HW_.out (by kernel_rfl)) (fun _ _ _ h => h) (Or.inl ⟨by rfl, ?_⟩) hHeld ?_ ?_
                 rotate_left
                 ·rintro w' ⟨s0, s1, s2, s3, s4, s5, s6, s7⟩
                  go_simp
                  with_reducible rfl
                 rotate_left
                 ·simp only [Act.put, sA, sZ, sS, i64_w, i32_w]
                  rfl
                 refine pure_ (i := 23) (N := some 69) (v := ?_) (a' := ?_) (bm 48 16777215) rfl rfl (any_of HT_.out (by kernel_rfl)) (fun _ _ _ h => h) (Or.inl ⟨by rfl, ?_⟩) ?_ ?_
                 rotate_left
                 ·intro w'
                  go_simp
                  with_reducible rfl
                 rotate_left
                 ·simp only [Act.put, sA, sZ, sS, i64_w, i32_w]
                  rfl
                 refine pure_ (i := 24) (N := some 70) (v := ?_) (a' := ?_) (bm 48 33554431) rfl rfl (any_of HT_.out (by kernel_rfl)) (fun _ _ _ h => h) (Or.inl ⟨by rfl, ?_⟩) ?_ ?_
                 rotate_left
                 ·intro w'
                  go_simp
                  with_reducible rfl
                 rotate_left
                 ·simp only [Act.put, sA, sZ, sS, i64_w, i32_w]
                  rfl
                 refine pure_ (i := 25) (N := some 71) (v := undef) (a' := ?_) (bm 48 67108863) rfl rfl (any_of HT_.out (by kernel_rfl)) (fun _ _ _ h => h) (Or.inr ⟨by rfl, rfl⟩) ?_ ?_
                 rotate_left
                 ·simp only [Act.put, sA, sZ, sS, i64_w, i32_w]
                  rfl
                 refine pure_ (i := 26) (N := some 72) (v := undef) (a' := ?_) (bm 48 134217727) rfl rfl (any_of HT_.out (by kernel_rfl)) (fun _ _ _ h => h) (Or.inr ⟨by rfl, rfl⟩) ?_ ?_
                 rotate_left
                 ·simp only [Act.put, sA, sZ, sS, i64_w, i32_w]
                  rfl
                 refine pure_ (i := 27) (N := some 73) (v := undef) (a' := ?_) (bm 48 268435455) rfl rfl (any_of HT_.out (by kernel_rfl)) (fun _ _ _ h => h) (Or.inr ⟨by rfl, rfl⟩) ?_ ?_
                 rotate_left
                 ·simp only [Act.put, sA, sZ, sS, i64_w, i32_w]
                  rfl
                 refine pure_ (i := 28) (N := some 74) (v := undef) (a' := ?_) (bm 48 536870911) rfl rfl (any_of HT_.out (by kernel_rfl)) (fun _ _ _ h => h) (Or.inr ⟨by rfl, rfl⟩) ?_ ?_
                 rotate_left
                 ·simp only [Act.put, sA, sZ, sS, i64_w, i32_w]
                  rfl
                 refine pure_ (i := 29) (N := some 75) (v := undef) (a' := ?_) (bm 48 1073741823) rfl rfl (any_of HT_.out (by kernel_rfl)) (fun _ _ _ h => h) (Or.inr ⟨by rfl, rfl⟩) ?_ ?_
                 rotate_left
                 ·simp only [Act.put, sA, sZ, sS, i64_w, i32_w]
                  rfl
                 refine pure_ (i := 30) (N := some 76) (v := ?_) (a' := ?_) (bm 48 2147483647) rfl rfl (any_of HT_.out (by kernel_rfl)) (fun _ _ _ h => h) (Or.inl ⟨by rfl, ?_⟩) ?_ ?_
                 rotate_left
                 ·intro w'
                  go_simp
                  with_reducible rfl
                 rotate_left
                 ·simp only [Act.put, sA, sZ, sS, i64_w, i32_w]
                  rfl
                 refine pure_ (i := 31) (N := some 77) (v := ?_) (a' := ?_) (bm 48 4294967295) rfl rfl (any_of HT_.out (by kernel_rfl)) (fun _ _ _ h => h) (Or.inl ⟨by rfl, ?_⟩) ?_ ?_
                 rotate_left
                 ·intro w'
                  go_simp
                  with_reducible rfl
                 rotate_left
                 ·simp only [Act.put, sA, sZ, sS, i64_w, i32_w]
                  rfl
                 refine pure_ (i := 32) (N := some 78) (v := ?_) (a' := ?_) (bm 48 8589934591) rfl rfl (any_of HT_.out (by kernel_rfl)) (fun _ _ _ h => h) (Or.inl ⟨by rfl, ?_⟩) ?_ ?_
                 rotate_left
                 ·intro w'
                  go_simp
                  with_reducible rfl
                 rotate_left
                 ·simp only [Act.put, sA, sZ, sS, i64_w, i32_w]
                  rfl
                 refine pure_ (i := 33) (N := some 79) (v := ?_) (a' := ?_) (bm 48 17179869183) rfl rfl (any_of HT_.out (by kernel_rfl)) (fun _ _ _ h => h) (Or.inl ⟨by rfl, ?_⟩) ?_ ?_
                 rotate_left
                 ·intro w'
                  go_simp
                  with_reducible rfl
                 rotate_left
                 ·simp only [Act.put, sA, sZ, sS, i64_w, i32_w]
                  rfl
                 refine pure_ (i := 34) (N := some 80) (v := ?_) (a' := ?_) (bm 48 34359738367) rfl rfl (any_of HT_.out (by kernel_rfl)) (fun _ _ _ h => h) (Or.inl ⟨by rfl, ?_⟩) ?_ ?_
                 rotate_left
                 ·intro w'
                  go_simp
                  with_reducible rfl
                 rotate_left
                 ·simp only [Act.put, sA, sZ, sS, i64_w, i32_w]
                  rfl
                 refine pure_ (i := 35) (N := some 81) (v := ?_) (a' := ?_) (bm 48 68719476735) rfl rfl (any_of HT_.out (by kernel_rfl)) (fun _ _ _ h => h) (Or.inl ⟨by rfl, ?_⟩) ?_ ?_
                 rotate_left
                 ·intro w'
                  go_simp
                  with_reducible rfl
                 rotate_left
                 ·simp only [Act.put, sA, sZ, sS, i64_w, i32_w]
                  rfl
                 refine pure_ (i := 36) (N := some 82) (v := ?_) (a' := ?_) (bm 48 137438953471) rfl rfl (any_of HT_.out (by kernel_rfl)) (fun _ _ _ h => h) (Or.inl ⟨by rfl, ?_⟩) ?_ ?_
                 rotate_left
                 ·intro w'
                  go_simp
                  with_reducible rfl
                 rotate_left
                 ·simp only [Act.put, sA, sZ, sS, i64_w, i32_w]
                  rfl
                 refine pure_ (i := 38) (N := some 84) (v := ?_) (a' := ?_) (bm 48 412316860415) rfl rfl (any_of HT_.out (by kernel_rfl)) (fun _ _ _ h => h) (Or.inl ⟨by rfl, ?_⟩) ?_ ?_
                 rotate_left
                 ·intro w'
                  go_simp
                  with_reducible rfl
                 rotate_left
                 ·simp only [Act.put, sA, sZ, sS, i64_w, i32_w]
                  rfl
                 refine pure_ (i := 39) (N := some 85) (v := ?_) (a' := ?_) (bm 48 962072674303) rfl rfl (any_of HT_.out (by kernel_rfl)) (fun _ _ _ h => h) (Or.inl ⟨by rfl, ?_⟩) ?_ ?_
                 rotate_left
                 ·intro w'
                  go_simp
                  with_reducible rfl
                 rotate_left
                 ·simp only [Act.put, sA, sZ, sS, i64_w, i32_w]
                  rfl
                 refine pure_ (i := 43) (N := some 89) (v := ?_) (a' := ?_) (bm 48 9758165696511) rfl rfl (any_of HT_.out (by kernel_rfl)) (fun _ _ _ h => h) (Or.inl ⟨by rfl, ?_⟩) ?_ ?_
                 rotate_left
                 ·intro w'
                  go_simp
                  with_reducible rfl
                 rotate_left
                 ·simp only [Act.put, sA, sZ, sS, i64_w, i32_w]
                  rfl
                 refine take_ (i := 37) (N := some 83) (v := ?_) (a' := ?_) (bm 48 9895604649983) rfl rfl (take_ofW HT_.out HW_.out (by kernel_rfl)) (fun _ _ _ h => h) (Or.inl ⟨by rfl, ?_⟩) hHeld ?_ ?_
                 rotate_left
                 ·rintro w' ⟨s0, s1, s2, s3, s4, s5, s6, s7⟩
                  go_simp
                  with_reducible rfl
                 rotate_left
                 ·simp only [Act.put, sA, sZ, sS, i64_w, i32_w]
                  rfl
                 refine pure_ (i := 40) (N := some 86) (v := ?_) (a' := ?_) (bm 48 10995116277759) rfl rfl (any_of HT_.out (by kernel_rfl)) (fun _ _ _ h => h) (Or.inl ⟨by rfl, ?_⟩) ?_ ?_
                 rotate_left
                 ·intro w'
                  go_simp
                  with_reducible rfl
                 rotate_left
                 ·simp only [Act.put, sA, sZ, sS, i64_w, i32_w]
                  rfl
                 refine take_ (i := 41) (N := some 87) (v := ?_) (a' := ?_) (bm 48 13194139533311) rfl rfl (take_ofW HT_.out HW_.out (by kernel_rfl)) (fun _ _ _ h => h) (Or.inl ⟨by rfl, ?_⟩) hHeld ?_ ?_
                 rotate_left
                 ·rintro w' ⟨s0, s1, s2, s3, s4, s5, s6, s7⟩
                  go_simp
                  with_reducible rfl
                 rotate_left
                 ·simp only [Act.put, sA, sZ, sS, i64_w, i32_w]
                  rfl
                 refine take_ (i := 44) (N := some 90) (v := ?_) (a' := ?_) (bm 48 30786325577727) rfl rfl (take_ofW HT_.out HW_.out (by kernel_rfl)) (fun _ _ _ h => h) (Or.inl ⟨by rfl, ?_⟩) hHeld ?_ ?_
                 rotate_left
                 ·rintro w' ⟨s0, s1, s2, s3, s4, s5, s6, s7⟩
                  go_simp
                  with_reducible rfl
                 rotate_left
                 ·simp only [Act.put, sA, sZ, sS, i64_w, i32_w]
                  rfl
                 refine one_ (i := 42) (N := some 88) (bm 48 35184372088831) rfl rfl (one_of HT_.out (by kernel_rfl)) (by decide) (fun K hK => ?_)
                 refine goes_ Try.func173 (by kernel_rfl) rfl #[.agg #[.int .i64 ((rd_T177 l0_3 (ji37)).f0), .string ((rd_T177 l0_3 (ji37)).f1)]] (by rfl) rfl rfl (by (try simp only [List.map_toArray, List.map_cons, List.map_nil]); first | done | (simp only [hji37]; rfl) | rfl | (simp only [List.length_drop, List.length_take]; rfl)) ?_
                 with_reducible refine (impl_Piece_end.calls ((rd_T177 l0_3 (ji37)).f0) ((rd_T177 l0_3 (ji37)).f1) t195 _ A40.out).mono ?_
                 rintro e w44 ⟨rfl, hb⟩
                 refine ⟨_, rfl, ?_⟩
                 have n0_ := bX BK186 hb
                 have n1_ := bX BK191 hb
                 have n2_ := bS HB hb
                 clear BK186
                 clear BK191
                 clear HB
                 have BK186 := n0_
                 have BK191 := n1_
                 have HB := n2_
                 clear n0_ n1_ n2_
                 (try clear hb)
                 (try clear hb2)
                 (try clear hk)
                 (try clear hi)
                 refine hK.out _ _ ⟨(blk_cell BK191.out 0).trans rfl, (blk_cell BK191.out 1).trans rfl, (blk_cell BK186.out 0).trans rfl, (blk_cell BK186.out 1).trans rfl, (blk_cell BK186.out 2).trans rfl, (blk_cell BK186.out 3).trans rfl, ((HB.out.cell (World.block_lt_of_cell? w _ hw194_0)).trans hw194_0), ((HB.out.cell (World.block_lt_of_cell? w _ hw194_1)).trans hw194_1)⟩ (fun hHeld => ?_)
                 clear hK K
                 refine norm_ (a' := ?_) ?_ ?_
                 rotate_left
                 ·show Act.put _ (some 88) _ = _
                  simp only [Act.put, sA, sZ, sS, i64_w, i32_w]
                  rfl
                 refine pure_ (i := 45) (N := some 91) (v := ?_) (a' := ?_) (bm 48 70368744177663) rfl rfl (any_of HT_.out (by kernel_rfl)) (fun _ _ _ h => h) (Or.inl ⟨by rfl, ?_⟩) ?_ ?_
                 rotate_left
                 ·intro w'
                  go_simp
                  with_reducible rfl
                 rotate_left
                 ·simp only [Act.put, sA, sZ, sS, i64_w, i32_w]
                  rfl
                 refine pure_ (i := 46) (N := some 92) (v := ?_) (a' := ?_) (bm 48 140737488355327) rfl rfl (any_of HT_.out (by kernel_rfl)) (fun _ _ _ h => h) (Or.inl ⟨by rfl, ?_⟩) ?_ ?_
                 rotate_left
                 ·intro w'
                  go_simp
                  with_reducible rfl
                 rotate_left
                 ·simp only [Act.put, sA, sZ, sS, i64_w, i32_w]
                  rfl
                 refine pure_ (i := 47) (N := some 93) (v := ?_) (a' := ?_) (bm 48 281474976710655) rfl rfl (any_of HT_.out (by kernel_rfl)) (fun _ _ _ h => h) (Or.inl ⟨by rfl, ?_⟩) ?_ ?_
                 rotate_left
                 ·intro w'
                  go_simp
                  with_reducible rfl
                 rotate_left
                 ·simp only [Act.put, sA, sZ, sS, i64_w, i32_w]
                  rfl
                 refine done_ (done_of HT_.out (by kernel_rfl)) ?_
                 try go_wp2
                 go_meet
                 case rel => exact ⟨_, (decide (t195 ≥ ((rd_T177 l0_3 x41_2).f0))), (by first | rfl | (simp; done) | (simp [*]; done)), H', ⟨by have := HJ1.out; have := HK2.out; first | omega | exact Nat.le_refl _⟩, ⟨by (with_reducible repeat (first | refine bN ?_ _ | refine bD ?_ | refine bA ?_ _)); exact BK186.out⟩, ⟨by (with_reducible repeat (first | refine bN ?_ _ | refine bD ?_ | refine bA ?_ _)); exact BK191.out⟩, ⟨by repeat (first | (with_reducible first | exact HB.out | apply below_alloc | apply pw_below_drewN | apply below_drew1 | refine below_set ?_ GE186.out | refine below_set ?_ GE191.out) | exact HB.out)⟩⟩
                ·rw [if_neg c39] at H
                 exact absurd H (by simp)
               ·rw [if_neg c38] at H
                exact absurd H (by simp)
              ·rw [if_neg c36] at H
               have c36b0 : decide (0 < x41_2) = false := decide_eq_false c36
               clear c36
               have H' := Aside0.mk H
               clear H
               try go_wp2
               have n0_ : Aside0 (((w22.setCell ⟨gb191, 0, none⟩ (.int .i64 ((rd_T177 l0_3 x41_2).f0))).setCell ⟨gb191, 1, none⟩ (.string ((rd_T177 l0_3 x41_2).f1))).heap[gb186]? = some (.cells #[.int .i64 a0_0, .int .i64 a0_1, .int .i64 a0_2, .slice (some ad190) l0_3.length c0_3] 61 (0, 0))) := ⟨by (with_reducible repeat (first | refine bN ?_ _ | refine bD ?_ | refine bA ?_ _)); refine blk_far ?_ NB186_191.out _; (with_reducible repeat (first | refine bN ?_ _ | refine bD ?_ | refine bA ?_ _)); refine blk_far ?_ NB186_191.out _; (with_reducible repeat (first | refine bN ?_ _ | refine bD ?_ | refine bA ?_ _)); exact BK186.out⟩
               have n1_ : Aside0 (((w22.setCell ⟨gb191, 0, none⟩ (.int .i64 ((rd_T177 l0_3 x41_2).f0))).setCell ⟨gb191, 1, none⟩ (.string ((rd_T177 l0_3 x41_2).f1))).heap[gb191]? = some (.cells #[.int .i64 ((rd_T177 l0_3 x41_2).f0), .string ((rd_T177 l0_3 x41_2).f1)] 177 (0, 0))) := ⟨by (with_reducible repeat (first | refine bN ?_ _ | refine bD ?_ | refine bA ?_ _)); refine blk_put (cs := #[.int .i64 ((rd_T177 l0_3 x41_2).f0), .string (⟨#[]⟩ : ByteArray)]) ?_ 1 _ rfl; (with_reducible repeat (first | refine bN ?_ _ | refine bD ?_ | refine bA ?_ _)); refine blk_put (cs := #[.int .i64 0, .string (⟨#[]⟩ : ByteArray)]) ?_ 0 _ rfl; (with_reducible repeat (first | refine bN ?_ _ | refine bD ?_ | refine bA ?_ _)); exact BK191.out⟩
               have n2_ : Aside0 (Below w.heap.size w ((w22.setCell ⟨gb191, 0, none⟩ (.int .i64 ((rd_T177 l0_3 x41_2).f0))).setCell ⟨gb191, 1, none⟩ (.string ((rd_T177 l0_3 x41_2).f1)))) := ⟨by repeat (first | (with_reducible first | exact HB.out | apply below_alloc | apply pw_below_drewN | apply below_drew1 | refine below_set ?_ GE186.out | refine below_set ?_ GE191.out) | exact HB.out)⟩
               (try clear BK186)
               (try clear BK191)
               (try clear HB)
               generalize ((w22.setCell ⟨gb191, 0, none⟩ (.int .i64 ((rd_T177 l0_3 x41_2).f0))).setCell ⟨gb191, 1, none⟩ (.string ((rd_T177 l0_3 x41_2).f1))) = w45 at n0_ n1_ n2_ ⊢
               have BK186 := n0_
               have BK191 := n1_
               have HB := n2_
               clear n0_ n1_ n2_
               have n0_ := Aside0.mk (blk_drew BK186.out)
               have n1_ := Aside0.mk (blk_drew BK191.out)
               have n2_ := Aside0.mk (below_drew1 HB.out)
               clear BK186
               clear BK191
               clear HB
               have BK186 := n0_
               have BK191 := n1_
               have HB := n2_
               clear n0_ n1_ n2_
               refine start_ (n := 48) (S := fun w' => w'.cell? ⟨gb191, 0, none⟩ = some (.int .i64 ((rd_T177 l0_3 x41_2).f0)) ∧ w'.cell? ⟨gb191, 1, none⟩ = some (.string ((rd_T177 l0_3 x41_2).f1)) ∧ w'.cell? ⟨gb186, 0, none⟩ = some (.int .i64 a0_0) ∧ w'.cell? ⟨gb186, 1, none⟩ = some (.int .i64 a0_1) ∧ w'.cell? ⟨gb186, 2, none⟩ = some (.int .i64 a0_2) ∧ w'.cell? ⟨gb186, 3, none⟩ = some (.slice (some ad190) l0_3.length c0_3)) (ds := []) (bm 48 0) (by kernel_rfl) rfl rfl (cx2 BK191 (cz4 BK186)) (fun hHeld => ?_); refine with_tabW impl_GoodInflow.tab6 impl_GoodInflow.bits6 (fun HT_ HW_ => ?_)
               generalize w45.drew = w46 at BK186 BK191 HB hHeld ⊢
               refine pure_ (i := 0) (N := some 46) (v := ?_) (a' := ?_) (bm 48 1) rfl rfl (any_of HT_.out (by kernel_rfl)) (fun _ _ _ h => h) (Or.inl ⟨by rfl, ?_⟩) ?_ ?_
               rotate_left
               ·intro w'
                go_simp
                with_reducible rfl
               rotate_left
               ·simp only [Act.put, sA, sZ, sS, i64_w, i32_w]
                rfl
               refine pure_ (i := 2) (N := some 48) (v := ?_) (a' := ?_) (bm 48 5) rfl rfl (any_of HT_.out (by kernel_rfl)) (fun _ _ _ h => h) (Or.inl ⟨by rfl, ?_⟩) ?_ ?_
               rotate_left
               ·intro w'
                go_simp
                with_reducible rfl
               rotate_left
               ·simp only [Act.put, sA, sZ, sS, i64_w, i32_w]
                rfl
               refine pure_ (i := 4) (N := some 50) (v := ?_) (a' := ?_) (bm 48 21) rfl rfl (any_of HT_.out (by kernel_rfl)) (fun _ _ _ h => h) (Or.inl ⟨by rfl, ?_⟩) ?_ ?_
               rotate_left
               ·intro w'
                go_simp
                with_reducible rfl
               rotate_left
               ·simp only [Act.put, sA, sZ, sS, i64_w, i32_w]
                rfl
               refine take_ (i := 1) (N := some 47) (v := ?_) (a' := ?_) (bm 48 23) rfl rfl (take_ofW HT_.out HW_.out (by kernel_rfl)) (fun _ _ _ h => h) (Or.inl ⟨by rfl, ?_⟩) hHeld ?_ ?_
               rotate_left
               ·rintro w' ⟨s0, s1, s2, s3, s4, s5⟩
                go_simp
                with_reducible rfl
               rotate_left
               ·simp only [Act.put, sA, sZ, sS, i64_w, i32_w]
                rfl
               refine take_ (i := 3) (N := some 49) (v := ?_) (a' := ?_) (bm 48 31) rfl rfl (take_ofW HT_.out HW_.out (by kernel_rfl)) (fun _ _ _ h => h) (Or.inl ⟨by rfl, ?_⟩) hHeld ?_ ?_
               rotate_left
               ·rintro w' ⟨s0, s1, s2, s3, s4, s5⟩
                go_simp
                with_reducible rfl
               rotate_left
               ·simp only [Act.put, sA, sZ, sS, i64_w, i32_w]
                rfl
               refine take_ (i := 5) (N := some 51) (v := ?_) (a' := ?_) (bm 48 63) rfl rfl (take_ofW HT_.out HW_.out (by kernel_rfl)) (fun _ _ _ h => h) (Or.inl ⟨by rfl, ?_⟩) hHeld ?_ ?_
               rotate_left
               ·rintro w' ⟨s0, s1, s2, s3, s4, s5⟩
                go_simp
                with_reducible rfl
               rotate_left
               ·simp only [Act.put, sA, sZ, sS, i64_w, i32_w]
                rfl
               refine one_ (i := 6) (N := some 52) (bm 48 127) rfl rfl (one_of HT_.out (by kernel_rfl)) (by decide) (fun K hK => ?_)
               refine goes_ Try.func80 (by kernel_rfl) rfl #[.int .i64 ((rd_T177 l0_3 x41_2).f0), .int .i64 a0_1, .int .i64 a0_0] (by rfl) rfl rfl (by (try simp only [List.map_toArray, List.map_cons, List.map_nil]); first | done | rfl | (simp only [List.length_drop, List.length_take]; rfl)) ?_
               with_reducible refine (impl_in.calls ((rd_T177 l0_3 x41_2).f0) a0_1 a0_0 true _ A25.out).mono ?_
               rintro e w' ⟨rfl, ⟨nd, rfl⟩⟩
               refine ⟨_, rfl, ?_⟩
               refine hK.out _ _ (cx2 BK191 (cz4 BK186)) (fun hHeld => ?_)
               clear hK K
               refine norm_ (a' := ?_) ?_ ?_
               rotate_left
               ·show Act.put _ (some 52) _ = _
                simp only [Act.put, sA, sZ, sS, i64_w, i32_w]
                rfl
               refine pure_ (i := 7) (N := some 53) (v := ?_) (a' := ?_) (bm 48 255) rfl rfl (any_of HT_.out (by kernel_rfl)) (fun _ _ _ h => h) (Or.inl ⟨by rfl, ?_⟩) ?_ ?_
               rotate_left
               ·intro w'
                go_simp
                with_reducible rfl
               rotate_left
               ·simp only [Act.put, sA, sZ, sS, i64_w, i32_w]
                rfl
               refine pure_ (i := 8) (N := some 54) (v := ?_) (a' := ?_) (bm 48 511) rfl rfl (any_of HT_.out (by kernel_rfl)) (fun _ _ _ h => h) (Or.inl ⟨by rfl, ?_⟩) ?_ ?_
               rotate_left
               ·intro w'
                go_simp
                with_reducible rfl
               rotate_left
               ·simp only [Act.put, sA, sZ, sS, i64_w, i32_w]
                rfl
               refine pure_ (i := 9) (N := some 55) (v := ?_) (a' := ?_) (bm 48 1023) rfl rfl (any_of HT_.out (by kernel_rfl)) (fun _ _ _ h => h) (Or.inl ⟨by rfl, ?_⟩) ?_ ?_
               rotate_left
               ·intro w'
                go_simp
                with_reducible rfl
               rotate_left
               ·simp only [Act.put, sA, sZ, sS, i64_w, i32_w]
                rfl
               refine take_ (i := 10) (N := some 56) (v := ?_) (a' := ?_) (bm 48 2047) rfl rfl (take_ofW HT_.out HW_.out (by kernel_rfl)) (fun _ _ _ h => h) (Or.inl ⟨by rfl, ?_⟩) hHeld ?_ ?_
               rotate_left
               ·rintro w' ⟨s0, s1, s2, s3, s4, s5⟩
                go_simp
                with_reducible rfl
               rotate_left
               ·simp only [Act.put, sA, sZ, sS, i64_w, i32_w]
                rfl
               refine pure_ (i := 11) (N := some 57) (v := ?_) (a' := ?_) (bm 48 4095) rfl rfl (any_of HT_.out (by kernel_rfl)) (fun _ _ _ h => h) (Or.inl ⟨by rfl, ?_⟩) ?_ ?_
               rotate_left
               ·intro w'
                go_simp
                with_reducible rfl
               rotate_left
               ·simp only [Act.put, sA, sZ, sS, i64_w, i32_w]
                rfl
               refine pure_ (i := 12) (N := some 58) (v := ?_) (a' := ?_) (bm 48 8191) rfl rfl (any_of HT_.out (by kernel_rfl)) (fun _ _ _ h => h) (Or.inl ⟨by rfl, ?_⟩) ?_ ?_
               rotate_left
               ·intro w'
                go_simp
                with_reducible rfl
               rotate_left
               ·simp only [Act.put, sA, sZ, sS, i64_w, i32_w]
                rfl
               refine pure_ (i := 13) (N := some 59) (v := ?_) (a' := ?_) (bm 48 16383) rfl rfl (any_of HT_.out (by kernel_rfl)) (fun _ _ _ h => h) (Or.inl ⟨by rfl, ?_⟩) ?_ ?_
               rotate_left
               ·intro w'
                go_simp
                with_reducible rfl
               rotate_left
               ·simp only [Act.put, sA, sZ, sS, i64_w, i32_w]
                rfl
               refine pure_ (i := 16) (N := some 62) (v := ?_) (a' := ?_) (bm 48 81919) rfl rfl (any_of HT_.out (by kernel_rfl)) (fun _ _ _ h => h) (Or.inl ⟨by rfl, ?_⟩) ?_ ?_
               rotate_left
               ·intro w'
                go_simp
                with_reducible rfl
               rotate_left
               ·simp only [Act.put, sA, sZ, sS, i64_w, i32_w]
                rfl
               refine take_ (i := 14) (N := some 60) (v := ?_) (a' := ?_) (bm 48 98303) rfl rfl (take_ofW HT_.out HW_.out (by kernel_rfl)) (fun _ _ _ h => h) (Or.inl ⟨by rfl, ?_⟩) hHeld ?_ ?_
               rotate_left
               ·rintro w' ⟨s0, s1, s2, s3, s4, s5⟩
                go_simp
                with_reducible rfl
               rotate_left
               ·simp only [Act.put, sA, sZ, sS, i64_w, i32_w]
                rfl
               refine take_ (i := 17) (N := some 63) (v := ?_) (a' := ?_) (bm 48 229375) rfl rfl (take_ofW HT_.out HW_.out (by kernel_rfl)) (fun _ _ _ h => h) (Or.inl ⟨by rfl, ?_⟩) hHeld ?_ ?_
               rotate_left
               ·rintro w' ⟨s0, s1, s2, s3, s4, s5⟩
                go_simp
                with_reducible rfl
               rotate_left
               ·simp only [Act.put, sA, sZ, sS, i64_w, i32_w]
                rfl
               refine one_ (i := 15) (N := some 61) (bm 48 262143) rfl rfl (one_of HT_.out (by kernel_rfl)) (by decide) (fun K hK => ?_)
               refine goes_ Try.func173 (by kernel_rfl) rfl #[.agg #[.int .i64 ((rd_T177 l0_3 x41_2).f0), .string ((rd_T177 l0_3 x41_2).f1)]] (by rfl) rfl rfl (by (try simp only [List.map_toArray, List.map_cons, List.map_nil]); first | done | rfl | (simp only [List.length_drop, List.length_take]; rfl)) ?_
               with_reducible refine (impl_Piece_end.calls ((rd_T177 l0_3 x41_2).f0) ((rd_T177 l0_3 x41_2).f1) t193 _ A30.out).mono ?_
               rintro e w47 ⟨rfl, hb⟩
               refine ⟨_, rfl, ?_⟩
               have n0_ := bX BK186 hb
               have n1_ := bX BK191 hb
               have n2_ := bS HB hb
               clear BK186
               clear BK191
               clear HB
               have BK186 := n0_
               have BK191 := n1_
               have HB := n2_
               clear n0_ n1_ n2_
               (try clear hb)
               (try clear hb2)
               (try clear hk)
               (try clear hi)
               refine hK.out _ _ (cx2 BK191 (cz4 BK186)) (fun hHeld => ?_)
               clear hK K
               refine norm_ (a' := ?_) ?_ ?_
               rotate_left
               ·show Act.put _ (some 61) _ = _
                simp only [Act.put, sA, sZ, sS, i64_w, i32_w]
                rfl
               refine pure_ (i := 18) (N := some 64) (v := ?_) (a' := ?_) (bm 48 524287) rfl rfl (any_of HT_.out (by kernel_rfl)) (fun _ _ _ h => h) (Or.inl ⟨by rfl, ?_⟩) ?_ ?_
               rotate_left
               ·intro w'
                go_simp
                with_reducible rfl
               rotate_left
               ·simp only [Act.put, sA, sZ, sS, i64_w, i32_w]
                rfl
               refine pure_ (i := 19) (N := some 65) (v := ?_) (a' := ?_) (bm 48 1048575) rfl rfl (any_of HT_.out (by kernel_rfl)) (fun _ _ _ h => h) (Or.inl ⟨by rfl, ?_⟩) ?_ ?_
               rotate_left
               ·intro w'
                go_simp
                with_reducible rfl
               rotate_left
               ·simp only [Act.put, sA, sZ, sS, i64_w, i32_w]
                rfl
               refine pure_ (i := 20) (N := some 66) (v := ?_) (a' := ?_) (bm 48 2097151) rfl rfl (any_of HT_.out (by kernel_rfl)) (fun _ _ _ h => h) (Or.inl ⟨by rfl, ?_⟩) ?_ ?_
               rotate_left
               ·intro w'
                go_simp
                with_reducible rfl
               rotate_left
               ·simp only [Act.put, sA, sZ, sS, i64_w, i32_w]
                rfl
               refine pure_ (i := 21) (N := some 67) (v := ?_) (a' := ?_) (bm 48 4194303) rfl rfl (any_of HT_.out (by kernel_rfl)) (fun _ _ _ h => h) (Or.inl ⟨by rfl, ?_⟩) ?_ ?_
               rotate_left
               ·intro w'
                go_simp
                with_reducible rfl
               rotate_left
               ·simp only [Act.put, sA, sZ, sS, i64_w, i32_w]
                rfl
               refine take_ (i := 22) (N := some 68) (v := ?_) (a' := ?_) (bm 48 8388607) rfl rfl (take_ofW HT_.out HW_.out (by kernel_rfl)) (fun _ _ _ h => h) (Or.inl ⟨by rfl, ?_⟩) hHeld ?_ ?_
               rotate_left
               ·rintro w' ⟨s0, s1, s2, s3, s4, s5⟩
                go_simp
                with_reducible rfl
               rotate_left
               ·simp only [Act.put, sA, sZ, sS, i64_w, i32_w]
                rfl
               refine pure_ (i := 23) (N := some 69) (v := ?_) (a' := ?_) (bm 48 16777215) rfl rfl (any_of HT_.out (by kernel_rfl)) (fun _ _ _ h => h) (Or.inl ⟨by rfl, ?_⟩) ?_ ?_
               rotate_left
               ·intro w'
                go_simp
                with_reducible rfl
               rotate_left
               ·simp only [Act.put, sA, sZ, sS, i64_w, i32_w]
                rfl
               refine pure_ (i := 24) (N := some 70) (v := ?_) (a' := ?_) (bm 48 33554431) rfl rfl (any_of HT_.out (by kernel_rfl)) (fun _ _ _ h => h) (Or.inl ⟨by rfl, ?_⟩) ?_ ?_
               rotate_left
               ·intro w'
                go_simp
                with_reducible rfl
               rotate_left
               ·simp only [Act.put, sA, sZ, sS, i64_w, i32_w]
                rfl
               refine pure_ (i := 25) (N := some 71) (v := undef) (a' := ?_) (bm 48 67108863) rfl rfl (any_of HT_.out (by kernel_rfl)) (fun _ _ _ h => h) (Or.inr ⟨by rfl, rfl⟩) ?_ ?_
               rotate_left
               ·simp only [Act.put, sA, sZ, sS, i64_w, i32_w]
                rfl
               refine pure_ (i := 26) (N := some 72) (v := undef) (a' := ?_) (bm 48 134217727) rfl rfl (any_of HT_.out (by kernel_rfl)) (fun _ _ _ h => h) (Or.inr ⟨by rfl, rfl⟩) ?_ ?_
               rotate_left
               ·simp only [Act.put, sA, sZ, sS, i64_w, i32_w]
                rfl
               refine pure_ (i := 27) (N := some 73) (v := undef) (a' := ?_) (bm 48 268435455) rfl rfl (any_of HT_.out (by kernel_rfl)) (fun _ _ _ h => h) (Or.inr ⟨by rfl, rfl⟩) ?_ ?_
               rotate_left
               ·simp only [Act.put, sA, sZ, sS, i64_w, i32_w]
                rfl
               refine pure_ (i := 28) (N := some 74) (v := undef) (a' := ?_) (bm 48 536870911) rfl rfl (any_of HT_.out (by kernel_rfl)) (fun _ _ _ h => h) (Or.inr ⟨by rfl, rfl⟩) ?_ ?_
               rotate_left
               ·simp only [Act.put, sA, sZ, sS, i64_w, i32_w]
                rfl
               refine pure_ (i := 29) (N := some 75) (v := undef) (a' := ?_) (bm 48 1073741823) rfl rfl (any_of HT_.out (by kernel_rfl)) (fun _ _ _ h => h) (Or.inr ⟨by rfl, rfl⟩) ?_ ?_
               rotate_left
               ·simp only [Act.put, sA, sZ, sS, i64_w, i32_w]
                rfl
               refine pure_ (i := 30) (N := some 76) (v := ?_) (a' := ?_) (bm 48 2147483647) rfl rfl (any_of HT_.out (by kernel_rfl)) (fun _ _ _ h => h) (Or.inl ⟨by rfl, ?_⟩) ?_ ?_
               rotate_left
               ·intro w'
                go_simp
                with_reducible rfl
               rotate_left
               ·simp only [Act.put, sA, sZ, sS, i64_w, i32_w]
                rfl
               refine pure_ (i := 31) (N := some 77) (v := ?_) (a' := ?_) (bm 48 4294967295) rfl rfl (any_of HT_.out (by kernel_rfl)) (fun _ _ _ h => h) (Or.inl ⟨by rfl, ?_⟩) ?_ ?_
               rotate_left
               ·intro w'
                go_simp
                with_reducible rfl
               rotate_left
               ·simp only [Act.put, sA, sZ, sS, i64_w, i32_w]
                rfl
               refine pure_ (i := 32) (N := some 78) (v := ?_) (a' := ?_) (bm 48 8589934591) rfl rfl (any_of HT_.out (by kernel_rfl)) (fun _ _ _ h => h) (Or.inl ⟨by rfl, ?_⟩) ?_ ?_
               rotate_left
               ·intro w'
                go_simp
                with_reducible rfl
               rotate_left
               ·simp only [Act.put, sA, sZ, sS, i64_w, i32_w]
                rfl
               refine pure_ (i := 33) (N := some 79) (v := ?_) (a' := ?_) (bm 48 17179869183) rfl rfl (any_of HT_.out (by kernel_rfl)) (fun _ _ _ h => h) (Or.inl ⟨by rfl, ?_⟩) ?_ ?_
               rotate_left
               ·intro w'
                go_simp
                with_reducible rfl
               rotate_left
               ·simp only [Act.put, sA, sZ, sS, i64_w, i32_w]
                rfl
               refine pure_ (i := 34) (N := some 80) (v := ?_) (a' := ?_) (bm 48 34359738367) rfl rfl (any_of HT_.out (by kernel_rfl)) (fun _ _ _ h => h) (Or.inl ⟨by rfl, ?_⟩) ?_ ?_
               rotate_left
               ·intro w'
                go_simp
                with_reducible rfl
               rotate_left
               ·simp only [Act.put, sA, sZ, sS, i64_w, i32_w]
                rfl
               refine pure_ (i := 35) (N := some 81) (v := ?_) (a' := ?_) (bm 48 68719476735) rfl rfl (any_of HT_.out (by kernel_rfl)) (fun _ _ _ h => h) (Or.inl ⟨by rfl, ?_⟩) ?_ ?_
               rotate_left
               ·intro w'
                go_simp
                with_reducible rfl
               rotate_left
               ·simp only [Act.put, sA, sZ, sS, i64_w, i32_w]
                rfl
               refine pure_ (i := 36) (N := some 82) (v := undef) (a' := ?_) (bm 48 137438953471) rfl rfl (any_of HT_.out (by kernel_rfl)) (fun _ _ _ h => h) (Or.inr ⟨by rfl, rfl⟩) ?_ ?_
               rotate_left
               ·simp only [Act.put, sA, sZ, sS, i64_w, i32_w]
                rfl
               refine pure_ (i := 37) (N := some 83) (v := undef) (a' := ?_) (bm 48 274877906943) rfl rfl (any_of HT_.out (by kernel_rfl)) (fun _ _ _ h => h) (Or.inr ⟨by rfl, rfl⟩) ?_ ?_
               rotate_left
               ·simp only [Act.put, sA, sZ, sS, i64_w, i32_w]
                rfl
               refine pure_ (i := 38) (N := some 84) (v := undef) (a' := ?_) (bm 48 549755813887) rfl rfl (any_of HT_.out (by kernel_rfl)) (fun _ _ _ h => h) (Or.inr ⟨by rfl, rfl⟩) ?_ ?_
               rotate_left
               ·simp only [Act.put, sA, sZ, sS, i64_w, i32_w]
                rfl
               refine pure_ (i := 39) (N := some 85) (v := undef) (a' := ?_) (bm 48 1099511627775) rfl rfl (any_of HT_.out (by kernel_rfl)) (fun _ _ _ h => h) (Or.inr ⟨by rfl, rfl⟩) ?_ ?_
               rotate_left
               ·simp only [Act.put, sA, sZ, sS, i64_w, i32_w]
                rfl
               refine pure_ (i := 40) (N := some 86) (v := undef) (a' := ?_) (bm 48 2199023255551) rfl rfl (any_of HT_.out (by kernel_rfl)) (fun _ _ _ h => h) (Or.inr ⟨by rfl, rfl⟩) ?_ ?_
               rotate_left
               ·simp only [Act.put, sA, sZ, sS, i64_w, i32_w]
                rfl
               refine pure_ (i := 41) (N := some 87) (v := undef) (a' := ?_) (bm 48 4398046511103) rfl rfl (any_of HT_.out (by kernel_rfl)) (fun _ _ _ h => h) (Or.inr ⟨by rfl, rfl⟩) ?_ ?_
               rotate_left
               ·simp only [Act.put, sA, sZ, sS, i64_w, i32_w]
                rfl
               refine pure_ (i := 42) (N := some 88) (v := undef) (a' := ?_) (bm 48 8796093022207) rfl rfl (any_of HT_.out (by kernel_rfl)) (fun _ _ _ h => h) (Or.inr ⟨by rfl, rfl⟩) ?_ ?_
               rotate_left
               ·simp only [Act.put, sA, sZ, sS, i64_w, i32_w]
                rfl
               refine pure_ (i := 43) (N := some 89) (v := undef) (a' := ?_) (bm 48 17592186044415) rfl rfl (any_of HT_.out (by kernel_rfl)) (fun _ _ _ h => h) (Or.inr ⟨by rfl, rfl⟩) ?_ ?_
               rotate_left
               ·simp only [Act.put, sA, sZ, sS, i64_w, i32_w]
                rfl
               refine pure_ (i := 44) (N := some 90) (v := undef) (a' := ?_) (bm 48 35184372088831) rfl rfl (any_of HT_.out (by kernel_rfl)) (fun _ _ _ h => h) (Or.inr ⟨by rfl, rfl⟩) ?_ ?_
               rotate_left
               ·simp only [Act.put, sA, sZ, sS, i64_w, i32_w]
                rfl
               refine pure_ (i := 45) (N := some 91) (v := undef) (a' := ?_) (bm 48 70368744177663) rfl rfl (any_of HT_.out (by kernel_rfl)) (fun _ _ _ h => h) (Or.inr ⟨by rfl, rfl⟩) ?_ ?_
               rotate_left
               ·simp only [Act.put, sA, sZ, sS, i64_w, i32_w]
                rfl
               refine pure_ (i := 46) (N := some 92) (v := ?_) (a' := ?_) (bm 48 140737488355327) rfl rfl (any_of HT_.out (by kernel_rfl)) (fun _ _ _ h => h) (Or.inl ⟨by rfl, ?_⟩) ?_ ?_
               rotate_left
               ·intro w'
                go_simp
                with_reducible rfl
               rotate_left
               ·simp only [Act.put, sA, sZ, sS, i64_w, i32_w]
                rfl
               refine pure_ (i := 47) (N := some 93) (v := ?_) (a' := ?_) (bm 48 281474976710655) rfl rfl (any_of HT_.out (by kernel_rfl)) (fun _ _ _ h => h) (Or.inl ⟨by rfl, ?_⟩) ?_ ?_
               rotate_left
               ·intro w'
                go_simp
                with_reducible rfl
               rotate_left
               ·simp only [Act.put, sA, sZ, sS, i64_w, i32_w]
                rfl
               refine done_ (done_of HT_.out (by kernel_rfl)) ?_
               try go_wp2
               go_meet
               case rel => exact ⟨_, (false), (by first | rfl | (simp; done) | (simp [*]; done)), H', ⟨by have := HJ1.out; have := HK2.out; first | omega | exact Nat.le_refl _⟩, ⟨by (with_reducible repeat (first | refine bN ?_ _ | refine bD ?_ | refine bA ?_ _)); exact BK186.out⟩, ⟨by (with_reducible repeat (first | refine bN ?_ _ | refine bD ?_ | refine bA ?_ _)); exact BK191.out⟩, ⟨by repeat (first | (with_reducible first | exact HB.out | apply below_alloc | apply pw_below_drewN | apply below_drew1 | refine below_set ?_ GE186.out | refine below_set ?_ GE191.out) | exact HB.out)⟩⟩
             ·rw [if_neg c35] at H
              have c35b0 : (a0_2 == (-1)) = false := beq_eq_false_iff_ne.mpr c35
              have c35b1 : (a0_2 != (-1)) = true := bne_iff_ne.mpr c35
              replace H := Option.bind_eq_some_iff.mp H
              obtain ⟨t196, A480, H⟩ := H
              replace H : (if t196 > a0_2 then (impl_GoodInflow.j2 k2 l0_3 (l0_3.length : Int) x41_2 true a0_0 a0_1 a0_2 l0_3) else (if x41_2 > 0 then (if 0 ≤ (wrap64 (x41_2 - 1)) then (if (wrap64 (x41_2 - 1)) < (l0_3.length : Int) then ((impl_Piece_end.f ((rd_T177 l0_3 (wrap64 (x41_2 - 1))).f0) ((rd_T177 l0_3 (wrap64 (x41_2 - 1))).f1)).bind fun t198 => (impl_GoodInflow.j2 k2 l0_3 (l0_3.length : Int) x41_2 (decide (t198 ≥ ((rd_T177 l0_3 x41_2).f0))) a0_0 a0_1 a0_2 l0_3)) else (none)) else (none)) else (impl_GoodInflow.j2 k2 l0_3 (l0_3.length : Int) x41_2 false a0_0 a0_1 a0_2 l0_3))) = some r := H
              have A48 := Aside0.mk A480
              clear A480
              by_cases c49 : t196 > a0_2
              ·rw [if_pos c49] at H
               have c49b0 : decide (a0_2 < t196) = true := decide_eq_true c49
               clear c49
               have H' := Aside0.mk H
               clear H
               try go_wp2
               have n0_ : Aside0 (((w22.setCell ⟨gb191, 0, none⟩ (.int .i64 ((rd_T177 l0_3 x41_2).f0))).setCell ⟨gb191, 1, none⟩ (.string ((rd_T177 l0_3 x41_2).f1))).heap[gb186]? = some (.cells #[.int .i64 a0_0, .int .i64 a0_1, .int .i64 a0_2, .slice (some ad190) l0_3.length c0_3] 61 (0, 0))) := ⟨by (with_reducible repeat (first | refine bN ?_ _ | refine bD ?_ | refine bA ?_ _)); refine blk_far ?_ NB186_191.out _; (with_reducible repeat (first | refine bN ?_ _ | refine bD ?_ | refine bA ?_ _)); refine blk_far ?_ NB186_191.out _; (with_reducible repeat (first | refine bN ?_ _ | refine bD ?_ | refine bA ?_ _)); exact BK186.out⟩
               have n1_ : Aside0 (((w22.setCell ⟨gb191, 0, none⟩ (.int .i64 ((rd_T177 l0_3 x41_2).f0))).setCell ⟨gb191, 1, none⟩ (.string ((rd_T177 l0_3 x41_2).f1))).heap[gb191]? = some (.cells #[.int .i64 ((rd_T177 l0_3 x41_2).f0), .string ((rd_T177 l0_3 x41_2).f1)] 177 (0, 0))) := ⟨by (with_reducible repeat (first | refine bN ?_ _ | refine bD ?_ | refine bA ?_ _)); refine blk_put (cs := #[.int .i64 ((rd_T177 l0_3 x41_2).f0), .string (⟨#[]⟩ : ByteArray)]) ?_ 1 _ rfl; (with_reducible repeat (first | refine bN ?_ _ | refine bD ?_ | refine bA ?_ _)); refine blk_put (cs := #[.int .i64 0, .string (⟨#[]⟩ : ByteArray)]) ?_ 0 _ rfl; (with_reducible repeat (first | refine bN ?_ _ | refine bD ?_ | refine bA ?_ _)); exact BK191.out⟩
               have n2_ : Aside0 (Below w.heap.size w ((w22.setCell ⟨gb191, 0, none⟩ (.int .i64 ((rd_T177 l0_3 x41_2).f0))).setCell ⟨gb191, 1, none⟩ (.string ((rd_T177 l0_3 x41_2).f1)))) := ⟨by repeat (first | (with_reducible first | exact HB.out | apply below_alloc | apply pw_below_drewN | apply below_drew1 | refine below_set ?_ GE186.out | refine below_set ?_ GE191.out) | exact HB.out)⟩
               (try clear BK186)
               (try clear BK191)
               (try clear HB)
               generalize ((w22.setCell ⟨gb191, 0, none⟩ (.int .i64 ((rd_T177 l0_3 x41_2).f0))).setCell ⟨gb191, 1, none⟩ (.string ((rd_T177 l0_3 x41_2).f1))) = w50 at n0_ n1_ n2_ ⊢
               have BK186 := n0_
               have BK191 := n1_
               have HB := n2_
               clear n0_ n1_ n2_
               have n0_ := Aside0.mk (blk_drew BK186.out)
               have n1_ := Aside0.mk (blk_drew BK191.out)
               have n2_ := Aside0.mk (below_drew1 HB.out)
               clear BK186
               clear BK191
               clear HB
               have BK186 := n0_
               have BK191 := n1_
               have HB := n2_
               clear n0_ n1_ n2_
               refine start_ (n := 48) (S := fun w' => w'.cell? ⟨gb191, 0, none⟩ = some (.int .i64 ((rd_T177 l0_3 x41_2).f0)) ∧ w'.cell? ⟨gb191, 1, none⟩ = some (.string ((rd_T177 l0_3 x41_2).f1)) ∧ w'.cell? ⟨gb186, 0, none⟩ = some (.int .i64 a0_0) ∧ w'.cell? ⟨gb186, 1, none⟩ = some (.int .i64 a0_1) ∧ w'.cell? ⟨gb186, 2, none⟩ = some (.int .i64 a0_2) ∧ w'.cell? ⟨gb186, 3, none⟩ = some (.slice (some ad190) l0_3.length c0_3)) (ds := []) (bm 48 0) (by kernel_rfl) rfl rfl (cx2 BK191 (cz4 BK186)) (fun hHeld => ?_); refine with_tabW impl_GoodInflow.tab6 impl_GoodInflow.bits6 (fun HT_ HW_ => ?_)
               generalize w50.drew = w51 at BK186 BK191 HB hHeld ⊢
               refine pure_ (i := 0) (N := some 46) (v := ?_) (a' := ?_) (bm 48 1) rfl rfl (any_of HT_.out (by kernel_rfl)) (fun _ _ _ h => h) (Or.inl ⟨by rfl, ?_⟩) ?_ ?_
               rotate_left
               ·intro w'
                go_simp
                with_reducible rfl
               rotate_left
               ·simp only [Act.put, sA, sZ, sS, i64_w, i32_w]
                rfl
               refine pure_ (i := 2) (N := some 48) (v := ?_) (a' := ?_) (bm 48 5) rfl rfl (any_of HT_.out (by kernel_rfl)) (fun _ _ _ h => h) (Or.inl ⟨by rfl, ?_⟩) ?_ ?_
               rotate_left
               ·intro w'
                go_simp
                with_reducible rfl
               rotate_left
               ·simp only [Act.put, sA, sZ, sS, i64_w, i32_w]
                rfl
               refine pure_ (i := 4) (N := some 50) (v := ?_) (a' := ?_) (bm 48 21) rfl rfl (any_of HT_.out (by kernel_rfl)) (fun _ _ _ h => h) (Or.inl ⟨by rfl, ?_⟩) ?_ ?_
               rotate_left
               ·intro w'
                go_simp
                with_reducible rfl
               rotate_left
               ·simp only [Act.put, sA, sZ, sS, i64_w, i32_w]
                rfl
               refine take_ (i := 1) (N := some 47) (v := ?_) (a' := ?_) (bm 48 23) rfl rfl (take_ofW HT_.out HW_.out (by kernel_rfl)) (fun _ _ _ h => h) (Or.inl ⟨by rfl, ?_⟩) hHeld ?_ ?_
               rotate_left
               ·rintro w' ⟨s0, s1, s2, s3, s4, s5⟩
                go_simp
                with_reducible rfl
               rotate_left
               ·simp only [Act.put, sA, sZ, sS, i64_w, i32_w]
                rfl
               refine take_ (i := 3) (N := some 49) (v := ?_) (a' := ?_) (bm 48 31) rfl rfl (take_ofW HT_.out HW_.out (by kernel_rfl)) (fun _ _ _ h => h) (Or.inl ⟨by rfl, ?_⟩) hHeld ?_ ?_
               rotate_left
               ·rintro w' ⟨s0, s1, s2, s3, s4, s5⟩
                go_simp
                with_reducible rfl
               rotate_left
               ·simp only [Act.put, sA, sZ, sS, i64_w, i32_w]
                rfl
               refine take_ (i := 5) (N := some 51) (v := ?_) (a' := ?_) (bm 48 63) rfl rfl (take_ofW HT_.out HW_.out (by kernel_rfl)) (fun _ _ _ h => h) (Or.inl ⟨by rfl, ?_⟩) hHeld ?_ ?_
               rotate_left
               ·rintro w' ⟨s0, s1, s2, s3, s4, s5⟩
                go_simp
                with_reducible rfl
               rotate_left
               ·simp only [Act.put, sA, sZ, sS, i64_w, i32_w]
                rfl
               refine one_ (i := 6) (N := some 52) (bm 48 127) rfl rfl (one_of HT_.out (by kernel_rfl)) (by decide) (fun K hK => ?_)
               refine goes_ Try.func80 (by kernel_rfl) rfl #[.int .i64 ((rd_T177 l0_3 x41_2).f0), .int .i64 a0_1, .int .i64 a0_0] (by rfl) rfl rfl (by (try simp only [List.map_toArray, List.map_cons, List.map_nil]); first | done | rfl | (simp only [List.length_drop, List.length_take]; rfl)) ?_
               with_reducible refine (impl_in.calls ((rd_T177 l0_3 x41_2).f0) a0_1 a0_0 true _ A25.out).mono ?_
               rintro e w' ⟨rfl, ⟨nd, rfl⟩⟩
               refine ⟨_, rfl, ?_⟩
               refine hK.out _ _ (cx2 BK191 (cz4 BK186)) (fun hHeld => ?_)
               clear hK K
               refine norm_ (a' := ?_) ?_ ?_
               rotate_left
               ·show Act.put _ (some 52) _ = _
                simp only [Act.put, sA, sZ, sS, i64_w, i32_w]
                rfl
               refine pure_ (i := 7) (N := some 53) (v := ?_) (a' := ?_) (bm 48 255) rfl rfl (any_of HT_.out (by kernel_rfl)) (fun _ _ _ h => h) (Or.inl ⟨by rfl, ?_⟩) ?_ ?_
               rotate_left
               ·intro w'
                go_simp
                with_reducible rfl
               rotate_left
               ·simp only [Act.put, sA, sZ, sS, i64_w, i32_w]
                rfl
               refine pure_ (i := 8) (N := some 54) (v := ?_) (a' := ?_) (bm 48 511) rfl rfl (any_of HT_.out (by kernel_rfl)) (fun _ _ _ h => h) (Or.inl ⟨by rfl, ?_⟩) ?_ ?_
               rotate_left
               ·intro w'
                go_simp
                with_reducible rfl
               rotate_left
               ·simp only [Act.put, sA, sZ, sS, i64_w, i32_w]
                rfl
               refine pure_ (i := 9) (N := some 55) (v := ?_) (a' := ?_) (bm 48 1023) rfl rfl (any_of HT_.out (by kernel_rfl)) (fun _ _ _ h => h) (Or.inl ⟨by rfl, ?_⟩) ?_ ?_
               rotate_left
               ·intro w'
                go_simp
                with_reducible rfl
               rotate_left
               ·simp only [Act.put, sA, sZ, sS, i64_w, i32_w]
                rfl
               refine take_ (i := 10) (N := some 56) (v := ?_) (a' := ?_) (bm 48 2047) rfl rfl (take_ofW HT_.out HW_.out (by kernel_rfl)) (fun _ _ _ h => h) (Or.inl ⟨by rfl, ?_⟩) hHeld ?_ ?_
               rotate_left
               ·rintro w' ⟨s0, s1, s2, s3, s4, s5⟩
                go_simp
                with_reducible rfl
               rotate_left
               ·simp only [Act.put, sA, sZ, sS, i64_w, i32_w]
                rfl
               refine pure_ (i := 11) (N := some 57) (v := ?_) (a' := ?_) (bm 48 4095) rfl rfl (any_of HT_.out (by kernel_rfl)) (fun _ _ _ h => h) (Or.inl ⟨by rfl, ?_⟩) ?_ ?_
               rotate_left
               ·intro w'
                go_simp
                with_reducible rfl
               rotate_left
               ·simp only [Act.put, sA, sZ, sS, i64_w, i32_w]
                rfl
               refine pure_ (i := 12) (N := some 58) (v := ?_) (a' := ?_) (bm 48 8191) rfl rfl (any_of HT_.out (by kernel_rfl)) (fun _ _ _ h => h) (Or.inl ⟨by rfl, ?_⟩) ?_ ?_
               rotate_left
               ·intro w'
                go_simp
                with_reducible rfl
               rotate_left
               ·simp only [Act.put, sA, sZ, sS, i64_w, i32_w]
                rfl
               refine pure_ (i := 13) (N := some 59) (v := ?_) (a' := ?_) (bm 48 16383) rfl rfl (any_of HT_.out (by kernel_rfl)) (fun _ _ _ h => h) (Or.inl ⟨by rfl, ?_⟩) ?_ ?_
               rotate_left
               ·intro w'
                go_simp
                with_reducible rfl
               rotate_left
               ·simp only [Act.put, sA, sZ, sS, i64_w, i32_w]
                rfl
               refine pure_ (i := 16) (N := some 62) (v := ?_) (a' := ?_) (bm 48 81919) rfl rfl (any_of HT_.out (by kernel_rfl)) (fun _ _ _ h => h) (Or.inl ⟨by rfl, ?_⟩) ?_ ?_
               rotate_left
               ·intro w'
                go_simp
                with_reducible rfl
               rotate_left
               ·simp only [Act.put, sA, sZ, sS, i64_w, i32_w]
                rfl
               refine take_ (i := 14) (N := some 60) (v := ?_) (a' := ?_) (bm 48 98303) rfl rfl (take_ofW HT_.out HW_.out (by kernel_rfl)) (fun _ _ _ h => h) (Or.inl ⟨by rfl, ?_⟩) hHeld ?_ ?_
               rotate_left
               ·rintro w' ⟨s0, s1, s2, s3, s4, s5⟩
                go_simp
                with_reducible rfl
               rotate_left
               ·simp only [Act.put, sA, sZ, sS, i64_w, i32_w]
                rfl
               refine take_ (i := 17) (N := some 63) (v := ?_) (a' := ?_) (bm 48 229375) rfl rfl (take_ofW HT_.out HW_.out (by kernel_rfl)) (fun _ _ _ h => h) (Or.inl ⟨by rfl, ?_⟩) hHeld ?_ ?_
               rotate_left
               ·rintro w' ⟨s0, s1, s2, s3, s4, s5⟩
                go_simp
                with_reducible rfl
               rotate_left
               ·simp only [Act.put, sA, sZ, sS, i64_w, i32_w]
                rfl
               refine one_ (i := 15) (N := some 61) (bm 48 262143) rfl rfl (one_of HT_.out (by kernel_rfl)) (by decide) (fun K hK => ?_)
               refine goes_ Try.func173 (by kernel_rfl) rfl #[.agg #[.int .i64 ((rd_T177 l0_3 x41_2).f0), .string ((rd_T177 l0_3 x41_2).f1)]] (by rfl) rfl rfl (by (try simp only [List.map_toArray, List.map_cons, List.map_nil]); first | done | rfl | (simp only [List.length_drop, List.length_take]; rfl)) ?_
               with_reducible refine (impl_Piece_end.calls ((rd_T177 l0_3 x41_2).f0) ((rd_T177 l0_3 x41_2).f1) t193 _ A30.out).mono ?_
               rintro e w52 ⟨rfl, hb⟩
               refine ⟨_, rfl, ?_⟩
               have n0_ := bX BK186 hb
               have n1_ := bX BK191 hb
               have n2_ := bS HB hb
               clear BK186
               clear BK191
               clear HB
               have BK186 := n0_
               have BK191 := n1_
               have HB := n2_
               clear n0_ n1_ n2_
               (try clear hb)
               (try clear hb2)
               (try clear hk)
               (try clear hi)
               refine hK.out _ _ (cx2 BK191 (cz4 BK186)) (fun hHeld => ?_)
               clear hK K
               refine norm_ (a' := ?_) ?_ ?_
               rotate_left
               ·show Act.put _ (some 61) _ = _
                simp only [Act.put, sA, sZ, sS, i64_w, i32_w]
                rfl
               refine pure_ (i := 18) (N := some 64) (v := ?_) (a' := ?_) (bm 48 524287) rfl rfl (any_of HT_.out (by kernel_rfl)) (fun _ _ _ h => h) (Or.inl ⟨by rfl, ?_⟩) ?_ ?_
               rotate_left
               ·intro w'
                go_simp
                with_reducible rfl
               rotate_left
               ·simp only [Act.put, sA, sZ, sS, i64_w, i32_w]
                rfl
               refine pure_ (i := 19) (N := some 65) (v := ?_) (a' := ?_) (bm 48 1048575) rfl rfl (any_of HT_.out (by kernel_rfl)) (fun _ _ _ h => h) (Or.inl ⟨by rfl, ?_⟩) ?_ ?_
               rotate_left
               ·intro w'
                go_simp
                with_reducible rfl
               rotate_left
               ·simp only [Act.put, sA, sZ, sS, i64_w, i32_w]
                rfl
               refine pure_ (i := 20) (N := some 66) (v := ?_) (a' := ?_) (bm 48 2097151) rfl rfl (any_of HT_.out (by kernel_rfl)) (fun _ _ _ h => h) (Or.inl ⟨by rfl, ?_⟩) ?_ ?_
               rotate_left
               ·intro w'
                go_simp
                with_reducible rfl
               rotate_left
               ·simp only [Act.put, sA, sZ, sS, i64_w, i32_w]
                rfl
               refine pure_ (i := 21) (N := some 67) (v := ?_) (a' := ?_) (bm 48 4194303) rfl rfl (any_of HT_.out (by kernel_rfl)) (fun _ _ _ h => h) (Or.inl ⟨by rfl, ?_⟩) ?_ ?_
               rotate_left
               ·intro w'
                go_simp
                with_reducible rfl
               rotate_left
               ·simp only [Act.put, sA, sZ, sS, i64_w, i32_w]
                rfl
               refine take_ (i := 22) (N := some 68) (v := ?_) (a' := ?_) (bm 48 8388607) rfl rfl (take_ofW HT_.out HW_.out (by kernel_rfl)) (fun _ _ _ h => h) (Or.inl ⟨by rfl, ?_⟩) hHeld ?_ ?_
               rotate_left
               ·rintro w' ⟨s0, s1, s2, s3, s4, s5⟩
                go_simp
                with_reducible rfl
               rotate_left
               ·simp only [Act.put, sA, sZ, sS, i64_w, i32_w]
                rfl
               refine pure_ (i := 23) (N := some 69) (v := ?_) (a' := ?_) (bm 48 16777215) rfl rfl (any_of HT_.out (by kernel_rfl)) (fun _ _ _ h => h) (Or.inl ⟨by rfl, ?_⟩) ?_ ?_
               rotate_left
               ·intro w'
                go_simp
                with_reducible rfl
               rotate_left
               ·simp only [Act.put, sA, sZ, sS, i64_w, i32_w]
                rfl
               refine pure_ (i := 24) (N := some 70) (v := ?_) (a' := ?_) (bm 48 33554431) rfl rfl (any_of HT_.out (by kernel_rfl)) (fun _ _ _ h => h) (Or.inl ⟨by rfl, ?_⟩) ?_ ?_
               rotate_left
               ·intro w'
                go_simp
                with_reducible rfl
               rotate_left
               ·simp only [Act.put, sA, sZ, sS, i64_w, i32_w]
                rfl
               refine pure_ (i := 27) (N := some 73) (v := ?_) (a' := ?_) (bm 48 167772159) rfl rfl (any_of HT_.out (by kernel_rfl)) (fun _ _ _ h => h) (Or.inl ⟨by rfl, ?_⟩) ?_ ?_
               rotate_left
               ·intro w'
                go_simp
                with_reducible rfl
               rotate_left
               ·simp only [Act.put, sA, sZ, sS, i64_w, i32_w]
                rfl
               refine take_ (i := 25) (N := some 71) (v := ?_) (a' := ?_) (bm 48 201326591) rfl rfl (take_ofW HT_.out HW_.out (by kernel_rfl)) (fun _ _ _ h => h) (Or.inl ⟨by rfl, ?_⟩) hHeld ?_ ?_
               rotate_left
               ·rintro w' ⟨s0, s1, s2, s3, s4, s5⟩
                go_simp
                with_reducible rfl
               rotate_left
               ·simp only [Act.put, sA, sZ, sS, i64_w, i32_w]
                rfl
               refine take_ (i := 28) (N := some 74) (v := ?_) (a' := ?_) (bm 48 469762047) rfl rfl (take_ofW HT_.out HW_.out (by kernel_rfl)) (fun _ _ _ h => h) (Or.inl ⟨by rfl, ?_⟩) hHeld ?_ ?_
               rotate_left
               ·rintro w' ⟨s0, s1, s2, s3, s4, s5⟩
                go_simp
                with_reducible rfl
               rotate_left
               ·simp only [Act.put, sA, sZ, sS, i64_w, i32_w]
                rfl
               refine one_ (i := 26) (N := some 72) (bm 48 536870911) rfl rfl (one_of HT_.out (by kernel_rfl)) (by decide) (fun K hK => ?_)
               refine goes_ Try.func173 (by kernel_rfl) rfl #[.agg #[.int .i64 ((rd_T177 l0_3 x41_2).f0), .string ((rd_T177 l0_3 x41_2).f1)]] (by rfl) rfl rfl (by (try simp only [List.map_toArray, List.map_cons, List.map_nil]); first | done | rfl | (simp only [List.length_drop, List.length_take]; rfl)) ?_
               with_reducible refine (impl_Piece_end.calls ((rd_T177 l0_3 x41_2).f0) ((rd_T177 l0_3 x41_2).f1) t196 _ A48.out).mono ?_
               rintro e w53 ⟨rfl, hb⟩
               refine ⟨_, rfl, ?_⟩
               have n0_ := bX BK186 hb
               have n1_ := bX BK191 hb
               have n2_ := bS HB hb
               clear BK186
               clear BK191
               clear HB
               have BK186 := n0_
               have BK191 := n1_
               have HB := n2_
               clear n0_ n1_ n2_
               (try clear hb)
               (try clear hb2)
               (try clear hk)
               (try clear hi)
               refine hK.out _ _ (cx2 BK191 (cz4 BK186)) (fun hHeld => ?_)
               clear hK K
               refine norm_ (a' := ?_) ?_ ?_
               rotate_left
               ·show Act.put _ (some 72) _ = _
                simp only [Act.put, sA, sZ, sS, i64_w, i32_w]
                rfl
               refine pure_ (i := 29) (N := some 75) (v := ?_) (a' := ?_) (bm 48 1073741823) rfl rfl (any_of HT_.out (by kernel_rfl)) (fun _ _ _ h => h) (Or.inl ⟨by rfl, ?_⟩) ?_ ?_
               rotate_left
               ·intro w'
                go_simp
                with_reducible rfl
               rotate_left
               ·simp only [Act.put, sA, sZ, sS, i64_w, i32_w]
                rfl
               refine pure_ (i := 30) (N := some 76) (v := ?_) (a' := ?_) (bm 48 2147483647) rfl rfl (any_of HT_.out (by kernel_rfl)) (fun _ _ _ h => h) (Or.inl ⟨by rfl, ?_⟩) ?_ ?_
               rotate_left
               ·intro w'
                go_simp
                with_reducible rfl
               rotate_left
               ·simp only [Act.put, sA, sZ, sS, i64_w, i32_w]
                rfl
               refine pure_ (i := 31) (N := some 77) (v := ?_) (a' := ?_) (bm 48 4294967295) rfl rfl (any_of HT_.out (by kernel_rfl)) (fun _ _ _ h => h) (Or.inl ⟨by rfl, ?_⟩) ?_ ?_
               rotate_left
               ·intro w'
                go_simp
                with_reducible rfl
               rotate_left
               ·simp only [Act.put, sA, sZ, sS, i64_w, i32_w]
                rfl
               refine pure_ (i := 32) (N := some 78) (v := ?_) (a' := ?_) (bm 48 8589934591) rfl rfl (any_of HT_.out (by kernel_rfl)) (fun _ _ _ h => h) (Or.inl ⟨by rfl, ?_⟩) ?_ ?_
               rotate_left
               ·intro w'
                go_simp
                with_reducible rfl
               rotate_left
               ·simp only [Act.put, sA, sZ, sS, i64_w, i32_w]
                rfl
               refine pure_ (i := 33) (N := some 79) (v := undef) (a' := ?_) (bm 48 17179869183) rfl rfl (any_of HT_.out (by kernel_rfl)) (fun _ _ _ h => h) (Or.inr ⟨by rfl, rfl⟩) ?_ ?_
               rotate_left
               ·simp only [Act.put, sA, sZ, sS, i64_w, i32_w]
                rfl
               refine pure_ (i := 34) (N := some 80) (v := undef) (a' := ?_) (bm 48 34359738367) rfl rfl (any_of HT_.out (by kernel_rfl)) (fun _ _ _ h => h) (Or.inr ⟨by rfl, rfl⟩) ?_ ?_
               rotate_left
               ·simp only [Act.put, sA, sZ, sS, i64_w, i32_w]
                rfl
               refine pure_ (i := 35) (N := some 81) (v := undef) (a' := ?_) (bm 48 68719476735) rfl rfl (any_of HT_.out (by kernel_rfl)) (fun _ _ _ h => h) (Or.inr ⟨by rfl, rfl⟩) ?_ ?_
               rotate_left
               ·simp only [Act.put, sA, sZ, sS, i64_w, i32_w]
                rfl
               refine pure_ (i := 36) (N := some 82) (v := undef) (a' := ?_) (bm 48 137438953471) rfl rfl (any_of HT_.out (by kernel_rfl)) (fun _ _ _ h => h) (Or.inr ⟨by rfl, rfl⟩) ?_ ?_
               rotate_left
               ·simp only [Act.put, sA, sZ, sS, i64_w, i32_w]
                rfl
               refine pure_ (i := 37) (N := some 83) (v := undef) (a' := ?_) (bm 48 274877906943) rfl rfl (any_of HT_.out (by kernel_rfl)) (fun _ _ _ h => h) (Or.inr ⟨by rfl, rfl⟩) ?_ ?_
               rotate_left
               ·simp only [Act.put, sA, sZ, sS, i64_w, i32_w]
                rfl
               refine pure_ (i := 38) (N := some 84) (v := undef) (a' := ?_) (bm 48 549755813887) rfl rfl (any_of HT_.out (by kernel_rfl)) (fun _ _ _ h => h) (Or.inr ⟨by rfl, rfl⟩) ?_ ?_
               rotate_left
               ·simp only [Act.put, sA, sZ, sS, i64_w, i32_w]
                rfl
               refine pure_ (i := 39) (N := some 85) (v := undef) (a' := ?_) (bm 48 1099511627775) rfl rfl (any_of HT_.out (by kernel_rfl)) (fun _ _ _ h => h) (Or.inr ⟨by rfl, rfl⟩) ?_ ?_
               rotate_left
               ·simp only [Act.put, sA, sZ, sS, i64_w, i32_w]
                rfl
               refine pure_ (i := 40) (N := some 86) (v := undef) (a' := ?_) (bm 48 2199023255551) rfl rfl (any_of HT_.out (by kernel_rfl)) (fun _ _ _ h => h) (Or.inr ⟨by rfl, rfl⟩) ?_ ?_
               rotate_left
               ·simp only [Act.put, sA, sZ, sS, i64_w, i32_w]
                rfl
               refine pure_ (i := 41) (N := some 87) (v := undef) (a' := ?_) (bm 48 4398046511103) rfl rfl (any_of HT_.out (by kernel_rfl)) (fun _ _ _ h => h) (Or.inr ⟨by rfl, rfl⟩) ?_ ?_
               rotate_left
               ·simp only [Act.put, sA, sZ, sS, i64_w, i32_w]
                rfl
               refine pure_ (i := 42) (N := some 88) (v := undef) (a' := ?_) (bm 48 8796093022207) rfl rfl (any_of HT_.out (by kernel_rfl)) (fun _ _ _ h => h) (Or.inr ⟨by rfl, rfl⟩) ?_ ?_
               rotate_left
               ·simp only [Act.put, sA, sZ, sS, i64_w, i32_w]
                rfl
               refine pure_ (i := 43) (N := some 89) (v := undef) (a' := ?_) (bm 48 17592186044415) rfl rfl (any_of HT_.out (by kernel_rfl)) (fun _ _ _ h => h) (Or.inr ⟨by rfl, rfl⟩) ?_ ?_
               rotate_left
               ·simp only [Act.put, sA, sZ, sS, i64_w, i32_w]
                rfl
               refine pure_ (i := 44) (N := some 90) (v := undef) (a' := ?_) (bm 48 35184372088831) rfl rfl (any_of HT_.out (by kernel_rfl)) (fun _ _ _ h => h) (Or.inr ⟨by rfl, rfl⟩) ?_ ?_
               rotate_left
               ·simp only [Act.put, sA, sZ, sS, i64_w, i32_w]
                rfl
               refine pure_ (i := 45) (N := some 91) (v := undef) (a' := ?_) (bm 48 70368744177663) rfl rfl (any_of HT_.out (by kernel_rfl)) (fun _ _ _ h => h) (Or.inr ⟨by rfl, rfl⟩) ?_ ?_
               rotate_left
               ·simp only [Act.put, sA, sZ, sS, i64_w, i32_w]
                rfl
               refine pure_ (i := 46) (N := some 92) (v := undef) (a' := ?_) (bm 48 140737488355327) rfl rfl (any_of HT_.out (by kernel_rfl)) (fun _ _ _ h => h) (Or.inr ⟨by rfl, rfl⟩) ?_ ?_
               rotate_left
               ·simp only [Act.put, sA, sZ, sS, i64_w, i32_w]
                rfl
               refine pure_ (i := 47) (N := some 93) (v := ?_) (a' := ?_) (bm 48 281474976710655) rfl rfl (any_of HT_.out (by kernel_rfl)) (fun _ _ _ h => h) (Or.inl ⟨by rfl, ?_⟩) ?_ ?_
               rotate_left
               ·intro w'
                go_simp
                with_reducible rfl
               rotate_left
               ·simp only [Act.put, sA, sZ, sS, i64_w, i32_w]
                rfl
               refine done_ (done_of HT_.out (by kernel_rfl)) ?_
               try go_wp2
               go_meet
               case rel => exact ⟨_, (true), (by first | rfl | (simp; done) | (simp [*]; done)), H', ⟨by have := HJ1.out; have := HK2.out; first | omega | exact Nat.le_refl _⟩, ⟨by (with_reducible repeat (first | refine bN ?_ _ | refine bD ?_ | refine bA ?_ _)); exact BK186.out⟩, ⟨by (with_reducible repeat (first | refine bN ?_ _ | refine bD ?_ | refine bA ?_ _)); exact BK191.out⟩, ⟨by repeat (first | (with_reducible first | exact HB.out | apply below_alloc | apply pw_below_drewN | apply below_drew1 | refine below_set ?_ GE186.out | refine below_set ?_ GE191.out) | exact HB.out)⟩⟩
              ·rw [if_neg c49] at H
               have c49b0 : decide (a0_2 < t196) = false := decide_eq_false c49
               clear c49
               by_cases c54 : x41_2 > 0
               ·rw [if_pos c54] at H
                have c54b0 : decide (0 < x41_2) = true := decide_eq_true c54
                clear c54
                obtain ⟨ji55, hji55⟩ : ∃ j_ : Int, (wrap64 (x41_2 - 1)) = j_ := ⟨_, rfl⟩
                replace H : (if 0 ≤ (ji55) then (if (ji55) < (l0_3.length : Int) then ((impl_Piece_end.f ((rd_T177 l0_3 (ji55)).f0) ((rd_T177 l0_3 (ji55)).f1)).bind fun t198 => (impl_GoodInflow.j2 k2 l0_3 (l0_3.length : Int) x41_2 (decide (t198 ≥ ((rd_T177 l0_3 x41_2).f0))) a0_0 a0_1 a0_2 l0_3)) else (none)) else (none)) = some r := by first | (rw [hji55] at H; exact H) | (simp only [hji55] at H ⊢; exact H)
                (try rw [hji55] at A25)
                (try rw [hji55] at A30)
                (try rw [hji55] at A48)
                have hji55w : (IntKind.i64.wrap (x41_2 - 1)) = ji55 := (i64_w _).trans hji55
                by_cases c56 : 0 ≤ (ji55)
                ·rw [if_pos c56] at H
                 have c56b0 : decide (0 ≤ (ji55)) = true := decide_eq_true c56
                 clear c56
                 by_cases c57 : (ji55) < (l0_3.length : Int)
                 ·rw [if_pos c57] at H
                  have c57b0 : decide ((ji55) < (l0_3.length : Int)) = true := decide_eq_true c57
                  clear c57
                  replace H := Option.bind_eq_some_iff.mp H
                  obtain ⟨t198, A580, H⟩ := H
                  replace H : (impl_GoodInflow.j2 k2 l0_3 (l0_3.length : Int) x41_2 (decide (t198 ≥ ((rd_T177 l0_3 x41_2).f0))) a0_0 a0_1 a0_2 l0_3) = some r := H
                  have A58 := Aside0.mk A580
                  clear A580
                  have H' := Aside0.mk H
                  clear H
                  try go_wp2
                  have n0_ : Aside0 (((w22.setCell ⟨gb191, 0, none⟩ (.int .i64 ((rd_T177 l0_3 x41_2).f0))).setCell ⟨gb191, 1, none⟩ (.string ((rd_T177 l0_3 x41_2).f1))).heap[gb186]? = some (.cells #[.int .i64 a0_0, .int .i64 a0_1, .int .i64 a0_2, .slice (some ad190) l0_3.length c0_3] 61 (0, 0))) := ⟨by (with_reducible repeat (first | refine bN ?_ _ | refine bD ?_ | refine bA ?_ _)); refine blk_far ?_ NB186_191.out _; (with_reducible repeat (first | refine bN ?_ _ | refine bD ?_ | refine bA ?_ _)); refine blk_far ?_ NB186_191.out _; (with_reducible repeat (first | refine bN ?_ _ | refine bD ?_ | refine bA ?_ _)); exact BK186.out⟩
                  have n1_ : Aside0 (((w22.setCell ⟨gb191, 0, none⟩ (.int .i64 ((rd_T177 l0_3 x41_2).f0))).setCell ⟨gb191, 1, none⟩ (.string ((rd_T177 l0_3 x41_2).f1))).heap[gb191]? = some (.cells #[.int .i64 ((rd_T177 l0_3 x41_2).f0), .string ((rd_T177 l0_3 x41_2).f1)] 177 (0, 0))) := ⟨by (with_reducible repeat (first | refine bN ?_ _ | refine bD ?_ | refine bA ?_ _)); refine blk_put (cs := #[.int .i64 ((rd_T177 l0_3 x41_2).f0), .string (⟨#[]⟩ : ByteArray)]) ?_ 1 _ rfl; (with_reducible repeat (first | refine bN ?_ _ | refine bD ?_ | refine bA ?_ _)); refine blk_put (cs := #[.int .i64 0, .string (⟨#[]⟩ : ByteArray)]) ?_ 0 _ rfl; (with_reducible repeat (first | refine bN ?_ _ | refine bD ?_ | refine bA ?_ _)); exact BK191.out⟩
                  have n2_ : Aside0 (Below w.heap.size w ((w22.setCell ⟨gb191, 0, none⟩ (.int .i64 ((rd_T177 l0_3 x41_2).f0))).setCell ⟨gb191, 1, none⟩ (.string ((rd_T177 l0_3 x41_2).f1)))) := ⟨by repeat (first | (with_reducible first | exact HB.out | apply below_alloc | apply pw_below_drewN | apply below_drew1 | refine below_set ?_ GE186.out | refine below_set ?_ GE191.out) | exact HB.out)⟩
                  (try clear BK186)
                  (try clear BK191)
                  (try clear HB)
                  generalize ((w22.setCell ⟨gb191, 0, none⟩ (.int .i64 ((rd_T177 l0_3 x41_2).f0))).setCell ⟨gb191, 1, none⟩ (.string ((rd_T177 l0_3 x41_2).f1))) = w59 at n0_ n1_ n2_ ⊢
                  have BK186 := n0_
                  have BK191 := n1_
                  have HB := n2_
                  clear n0_ n1_ n2_
                  have n0_ := Aside0.mk (blk_drew BK186.out)
                  have n1_ := Aside0.mk (blk_drew BK191.out)
                  have n2_ := Aside0.mk (below_drew1 HB.out)
                  clear BK186
                  clear BK191
                  clear HB
                  have BK186 := n0_
                  have BK191 := n1_
                  have HB := n2_
                  clear n0_ n1_ n2_
                  have p197 : 0 ≤ ((ji55) : Int) := of_decide_eq_true (by first | (with_reducible assumption) | assumption)
                  have q197 : (ji55) < (l0_3.length : Int) := of_decide_eq_true (by first | (with_reducible assumption) | assumption)
                  obtain ⟨ad197, e197, hx197_0, hx197_1⟩ := at_T177 HR0_3.out (ji55) p197 q197
                  have hw197_1 := hx197_1
                  have hw197_0 := hx197_0
                  obtain rfl : ad190 = ad197 := (by injection e197)
                  replace hx197_0 := (HB.out.cell (World.block_lt_of_cell? w _ hx197_0)).trans hx197_0
                  replace hx197_1 := (HB.out.cell (World.block_lt_of_cell? w _ hx197_1)).trans hx197_1
                  replace p197 := eq_true p197
                  replace q197 := eq_true q197
                  refine start_ (n := 48) (S := fun w' => w'.cell? ⟨gb191, 0, none⟩ = some (.int .i64 ((rd_T177 l0_3 x41_2).f0)) ∧ w'.cell? ⟨gb191, 1, none⟩ = some (.string ((rd_T177 l0_3 x41_2).f1)) ∧ w'.cell? ⟨gb186, 0, none⟩ = some (.int .i64 a0_0) ∧ w'.cell? ⟨gb186, 1, none⟩ = some (.int .i64 a0_1) ∧ w'.cell? ⟨gb186, 2, none⟩ = some (.int .i64 a0_2) ∧ w'.cell? ⟨gb186, 3, none⟩ = some (.slice (some ad190) l0_3.length c0_3) ∧ w'.cell? (ad190.add (((ji55)).toNat * 2)) = some (.int .i64 ((rd_T177 l0_3 (ji55)).f0)) ∧ w'.cell? ⟨(ad190.add (((ji55)).toNat * 2)).block, (ad190.add (((ji55)).toNat * 2)).off + 1, none⟩ = some (.string ((rd_T177 l0_3 (ji55)).f1))) (ds := []) (bm 48 0) (by kernel_rfl) rfl rfl ⟨(blk_cell BK191.out 0).trans rfl, (blk_cell BK191.out 1).trans rfl, (blk_cell BK186.out 0).trans rfl, (blk_cell BK186.out 1).trans rfl, (blk_cell BK186.out 2).trans rfl, (blk_cell BK186.out 3).trans rfl, ((HB.out.cell (World.block_lt_of_cell? w _ hw197_0)).trans hw197_0), ((HB.out.cell (World.block_lt_of_cell? w _ hw197_1)).trans hw197_1)⟩ (fun hHeld => ?_); refine with_tabW impl_GoodInflow.tab6 impl_GoodInflow.bits6 (fun HT_ HW_ => ?_)
                  generalize w59.drew = w60 at BK186 BK191 HB hx197_0 hx197_1 hHeld ⊢
                  refine pure_ (i := 0) (N := some 46) (v := ?_) (a' := ?_) (bm 48 1) rfl rfl (any_of HT_.out (by kernel_rfl)) (fun _ _ _ h => h) (Or.inl ⟨by rfl, ?_⟩) ?_ ?_
                  rotate_left
                  ·intro w'
                   go_simp
                   with_reducible rfl
                  rotate_left
                  ·simp only [Act.put, sA, sZ, sS, i64_w, i32_w]
                   rfl
                  refine pure_ (i := 2) (N := some 48) (v := ?_) (a' := ?_) (bm 48 5) rfl rfl (any_of HT_.out (by kernel_rfl)) (fun _ _ _ h => h) (Or.inl ⟨by rfl, ?_⟩) ?_ ?_
                  rotate_left
                  ·intro w'
                   go_simp
                   with_reducible rfl
                  rotate_left
                  ·simp only [Act.put, sA, sZ, sS, i64_w, i32_w]
                   rfl
                  refine pure_ (i := 4) (N := some 50) (v := ?_) (a' := ?_) (bm 48 21) rfl rfl (any_of HT_.out (by kernel_rfl)) (fun _ _ _ h => h) (Or.inl ⟨by rfl, ?_⟩) ?_ ?_
                  rotate_left
                  ·intro w'
                   go_simp
                   with_reducible rfl
                  rotate_left
                  ·simp only [Act.put, sA, sZ, sS, i64_w, i32_w]
                   rfl
                  refine take_ (i := 1) (N := some 47) (v := ?_) (a' := ?_) (bm 48 23) rfl rfl (take_ofW HT_.out HW_.out (by kernel_rfl)) (fun _ _ _ h => h) (Or.inl ⟨by rfl, ?_⟩) hHeld ?_ ?_
                  rotate_left
                  ·rintro w' ⟨s0, s1, s2, s3, s4, s5, s6, s7⟩
                   go_simp
                   with_reducible rfl
                  rotate_left
                  ·simp only [Act.put, sA, sZ, sS, i64_w, i32_w]
                   rfl
                  refine take_ (i := 3) (N := some 49) (v := ?_) (a' := ?_) (bm 48 31) rfl rfl (take_ofW HT_.out HW_.out (by kernel_rfl)) (fun _ _ _ h => h) (Or.inl ⟨by rfl, ?_⟩) hHeld ?_ ?_
                  rotate_left
                  ·rintro w' ⟨s0, s1, s2, s3, s4, s5, s6, s7⟩
                   go_simp
                   with_reducible rfl
                  rotate_left
                  ·simp only [Act.put, sA, sZ, sS, i64_w, i32_w]
                   rfl
                  refine take_ (i := 5) (N := some 51) (v := ?_) (a' := ?_) (bm 48 63) rfl rfl (take_ofW HT_.out HW_.out (by kernel_rfl)) (fun _ _ _ h => h) (Or.inl ⟨by rfl, ?_⟩) hHeld ?_ ?_
                  rotate_left
                  ·rintro w' ⟨s0, s1, s2, s3, s4, s5, s6, s7⟩
                   go_simp
                   with_reducible rfl
                  rotate_left
                  ·simp only [Act.put, sA, sZ, sS, i64_w, i32_w]
                   rfl
                  refine one_ (i := 6) (N := some 52) (bm 48 127) rfl rfl (one_of HT_.out (by kernel_rfl)) (by decide) (fun K hK => ?_)
                  refine goes_ Try.func80 (by kernel_rfl) rfl #[.int .i64 ((rd_T177 l0_3 x41_2).f0), .int .i64 a0_1, .int .i64 a0_0] (by rfl) rfl rfl (by (try simp only [List.map_toArray, List.map_cons, List.map_nil]); first | done | rfl | (simp only [List.length_drop, List.length_take]; rfl)) ?_
                  with_reducible refine (impl_in.calls ((rd_T177 l0_3 x41_2).f0) a0_1 a0_0 true _ A25.out).mono ?_
                  rintro e w' ⟨rfl, ⟨nd, rfl⟩⟩
                  refine ⟨_, rfl, ?_⟩
                  refine hK.out _ _ ⟨(blk_cell BK191.out 0).trans rfl, (blk_cell BK191.out 1).trans rfl, (blk_cell BK186.out 0).trans rfl, (blk_cell BK186.out 1).trans rfl, (blk_cell BK186.out 2).trans rfl, (blk_cell BK186.out 3).trans rfl, ((HB.out.cell (World.block_lt_of_cell? w _ hw197_0)).trans hw197_0), ((HB.out.cell (World.block_lt_of_cell? w _ hw197_1)).trans hw197_1)⟩ (fun hHeld => ?_)
                  clear hK K
                  refine norm_ (a' := ?_) ?_ ?_
                  rotate_left
                  ·show Act.put _ (some 52) _ = _
                   simp only [Act.put, sA, sZ, sS, i64_w, i32_w]
                   rfl
                  refine pure_ (i := 7) (N := some 53) (v := ?_) (a' := ?_) (bm 48 255) rfl rfl (any_of HT_.out (by kernel_rfl)) (fun _ _ _ h => h) (Or.inl ⟨by rfl, ?_⟩) ?_ ?_
                  rotate_left
                  ·intro w'
                   go_simp
                   with_reducible rfl
                  rotate_left
                  ·simp only [Act.put, sA, sZ, sS, i64_w, i32_w]
                   rfl
                  refine pure_ (i := 8) (N := some 54) (v := ?_) (a' := ?_) (bm 48 511) rfl rfl (any_of HT_.out (by kernel_rfl)) (fun _ _ _ h => h) (Or.inl ⟨by rfl, ?_⟩) ?_ ?_
                  rotate_left
                  ·intro w'
                   go_simp
                   with_reducible rfl
                  rotate_left
                  ·simp only [Act.put, sA, sZ, sS, i64_w, i32_w]
                   rfl
                  refine pure_ (i := 9) (N := some 55) (v := ?_) (a' := ?_) (bm 48 1023) rfl rfl (any_of HT_.out (by kernel_rfl)) (fun _ _ _ h => h) (Or.inl ⟨by rfl, ?_⟩) ?_ ?_
                  rotate_left
                  ·intro w'
                   go_simp
                   with_reducible rfl
                  rotate_left
                  ·simp only [Act.put, sA, sZ, sS, i64_w, i32_w]
                   rfl
                  refine take_ (i := 10) (N := some 56) (v := ?_) (a' := ?_) (bm 48 2047) rfl rfl (take_ofW HT_.out HW_.out (by kernel_rfl)) (fun _ _ _ h => h) (Or.inl ⟨by rfl, ?_⟩) hHeld ?_ ?_
                  rotate_left
                  ·rintro w' ⟨s0, s1, s2, s3, s4, s5, s6, s7⟩
                   go_simp
                   with_reducible rfl
                  rotate_left
                  ·simp only [Act.put, sA, sZ, sS, i64_w, i32_w]
                   rfl
                  refine pure_ (i := 11) (N := some 57) (v := ?_) (a' := ?_) (bm 48 4095) rfl rfl (any_of HT_.out (by kernel_rfl)) (fun _ _ _ h => h) (Or.inl ⟨by rfl, ?_⟩) ?_ ?_
                  rotate_left
                  ·intro w'
                   go_simp
                   with_reducible rfl
                  rotate_left
                  ·simp only [Act.put, sA, sZ, sS, i64_w, i32_w]
                   rfl
                  refine pure_ (i := 12) (N := some 58) (v := ?_) (a' := ?_) (bm 48 8191) rfl rfl (any_of HT_.out (by kernel_rfl)) (fun _ _ _ h => h) (Or.inl ⟨by rfl, ?_⟩) ?_ ?_
                  rotate_left
                  ·intro w'
                   go_simp
                   with_reducible rfl
                  rotate_left
                  ·simp only [Act.put, sA, sZ, sS, i64_w, i32_w]
                   rfl
                  refine pure_ (i := 13) (N := some 59) (v := ?_) (a' := ?_) (bm 48 16383) rfl rfl (any_of HT_.out (by kernel_rfl)) (fun _ _ _ h => h) (Or.inl ⟨by rfl, ?_⟩) ?_ ?_
                  rotate_left
                  ·intro w'
                   go_simp
                   with_reducible rfl
                  rotate_left
                  ·simp only [Act.put, sA, sZ, sS, i64_w, i32_w]
                   rfl
                  refine pure_ (i := 16) (N := some 62) (v := ?_) (a' := ?_) (bm 48 81919) rfl rfl (any_of HT_.out (by kernel_rfl)) (fun _ _ _ h => h) (Or.inl ⟨by rfl, ?_⟩) ?_ ?_
                  rotate_left
                  ·intro w'
                   go_simp
                   with_reducible rfl
                  rotate_left
                  ·simp only [Act.put, sA, sZ, sS, i64_w, i32_w]
                   rfl
                  refine take_ (i := 14) (N := some 60) (v := ?_) (a' := ?_) (bm 48 98303) rfl rfl (take_ofW HT_.out HW_.out (by kernel_rfl)) (fun _ _ _ h => h) (Or.inl ⟨by rfl, ?_⟩) hHeld ?_ ?_
                  rotate_left
                  ·rintro w' ⟨s0, s1, s2, s3, s4, s5, s6, s7⟩
                   go_simp
                   with_reducible rfl
                  rotate_left
                  ·simp only [Act.put, sA, sZ, sS, i64_w, i32_w]
                   rfl
                  refine take_ (i := 17) (N := some 63) (v := ?_) (a' := ?_) (bm 48 229375) rfl rfl (take_ofW HT_.out HW_.out (by kernel_rfl)) (fun _ _ _ h => h) (Or.inl ⟨by rfl, ?_⟩) hHeld ?_ ?_
                  rotate_left
                  ·rintro w' ⟨s0, s1, s2, s3, s4, s5, s6, s7⟩
                   go_simp
                   with_reducible rfl
                  rotate_left
                  ·simp only [Act.put, sA, sZ, sS, i64_w, i32_w]
                   rfl
                  refine one_ (i := 15) (N := some 61) (bm 48 262143) rfl rfl (one_of HT_.out (by kernel_rfl)) (by decide) (fun K hK => ?_)
                  refine goes_ Try.func173 (by kernel_rfl) rfl #[.agg #[.int .i64 ((rd_T177 l0_3 x41_2).f0), .string ((rd_T177 l0_3 x41_2).f1)]] (by rfl) rfl rfl (by (try simp only [List.map_toArray, List.map_cons, List.map_nil]); first | done | rfl | (simp only [List.length_drop, List.length_take]; rfl)) ?_
                  with_reducible refine (impl_Piece_end.calls ((rd_T177 l0_3 x41_2).f0) ((rd_T177 l0_3 x41_2).f1) t193 _ A30.out).mono ?_
                  rintro e w61 ⟨rfl, hb⟩
                  refine ⟨_, rfl, ?_⟩
                  have n0_ := bX BK186 hb
                  have n1_ := bX BK191 hb
                  have n2_ := bS HB hb
                  clear BK186
                  clear BK191
                  clear HB
                  have BK186 := n0_
                  have BK191 := n1_
                  have HB := n2_
                  clear n0_ n1_ n2_
                  (try clear hb)
                  (try clear hb2)
                  (try clear hk)
                  (try clear hi)
                  refine hK.out _ _ ⟨(blk_cell BK191.out 0).trans rfl, (blk_cell BK191.out 1).trans rfl, (blk_cell BK186.out 0).trans rfl, (blk_cell BK186.out 1).trans rfl, (blk_cell BK186.out 2).trans rfl, (blk_cell BK186.out 3).trans rfl, ((HB.out.cell (World.block_lt_of_cell? w _ hw197_0)).trans hw197_0), ((HB.out.cell (World.block_lt_of_cell? w _ hw197_1)).trans hw197_1)⟩ (fun hHeld => ?_)
                  clear hK K
                  refine norm_ (a' := ?_) ?_ ?_
                  rotate_left
                  ·show Act.put _ (some 61) _ = _
                   simp only [Act.put, sA, sZ, sS, i64_w, i32_w]
                   rfl
                  refine pure_ (i := 18) (N := some 64) (v := ?_) (a' := ?_) (bm 48 524287) rfl rfl (any_of HT_.out (by kernel_rfl)) (fun _ _ _ h => h) (Or.inl ⟨by rfl, ?_⟩) ?_ ?_
                  rotate_left
                  ·intro w'
                   go_simp
                   with_reducible rfl
                  rotate_left
                  ·simp only [Act.put, sA, sZ, sS, i64_w, i32_w]
                   rfl
                  refine pure_ (i := 19) (N := some 65) (v := ?_) (a' := ?_) (bm 48 1048575) rfl rfl (any_of HT_.out (by kernel_rfl)) (fun _ _ _ h => h) (Or.inl ⟨by rfl, ?_⟩) ?_ ?_
                  rotate_left
                  ·intro w'
                   go_simp
                   with_reducible rfl
                  rotate_left
                  ·simp only [Act.put, sA, sZ, sS, i64_w, i32_w]
                   rfl
                  refine pure_ (i := 20) (N := some 66) (v := ?_) (a' := ?_) (bm 48 2097151) rfl rfl (any_of HT_.out (by kernel_rfl)) (fun _ _ _ h => h) (Or.inl ⟨by rfl, ?_⟩) ?_ ?_
                  rotate_left
                  ·intro w'
                   go_simp
                   with_reducible rfl
                  rotate_left
                  ·simp only [Act.put, sA, sZ, sS, i64_w, i32_w]
                   rfl
                  refine pure_ (i := 21) (N := some 67) (v := ?_) (a' := ?_) (bm 48 4194303) rfl rfl (any_of HT_.out (by kernel_rfl)) (fun _ _ _ h => h) (Or.inl ⟨by rfl, ?_⟩) ?_ ?_
                  rotate_left
                  ·intro w'
                   go_simp
                   with_reducible rfl
                  rotate_left
                  ·simp only [Act.put, sA, sZ, sS, i64_w, i32_w]
                   rfl
                  refine take_ (i := 22) (N := some 68) (v := ?_) (a' := ?_) (bm 48 8388607) rfl rfl (take_ofW HT_.out HW_.out (by kernel_rfl)) (fun _ _ _ h => h) (Or.inl ⟨by rfl, ?_⟩) hHeld ?_ ?_
                  rotate_left
                  ·rintro w' ⟨s0, s1, s2, s3, s4, s5, s6, s7⟩
                   go_simp
                   with_reducible rfl
                  rotate_left
                  ·simp only [Act.put, sA, sZ, sS, i64_w, i32_w]
                   rfl
                  refine pure_ (i := 23) (N := some 69) (v := ?_) (a' := ?_) (bm 48 16777215) rfl rfl (any_of HT_.out (by kernel_rfl)) (fun _ _ _ h => h) (Or.inl ⟨by rfl, ?_⟩) ?_ ?_
                  rotate_left
                  ·intro w'
                   go_simp
                   with_reducible rfl
                  rotate_left
                  ·simp only [Act.put, sA, sZ, sS, i64_w, i32_w]
                   rfl
                  refine pure_ (i := 24) (N := some 70) (v := ?_) (a' := ?_) (bm 48 33554431) rfl rfl (any_of HT_.out (by kernel_rfl)) (fun _ _ _ h => h) (Or.inl ⟨by rfl, ?_⟩) ?_ ?_
                  rotate_left
                  ·intro w'
                   go_simp
                   with_reducible rfl
                  rotate_left
                  ·simp only [Act.put, sA, sZ, sS, i64_w, i32_w]
                   rfl
                  refine pure_ (i := 27) (N := some 73) (v := ?_) (a' := ?_) (bm 48 167772159) rfl rfl (any_of HT_.out (by kernel_rfl)) (fun _ _ _ h => h) (Or.inl ⟨by rfl, ?_⟩) ?_ ?_
                  rotate_left
                  ·intro w'
                   go_simp
                   with_reducible rfl
                  rotate_left
                  ·simp only [Act.put, sA, sZ, sS, i64_w, i32_w]
                   rfl
                  refine take_ (i := 25) (N := some 71) (v := ?_) (a' := ?_) (bm 48 201326591) rfl rfl (take_ofW HT_.out HW_.out (by kernel_rfl)) (fun _ _ _ h => h) (Or.inl ⟨by rfl, ?_⟩) hHeld ?_ ?_
                  rotate_left
                  ·rintro w' ⟨s0, s1, s2, s3, s4, s5, s6, s7⟩
                   go_simp
                   with_reducible rfl
                  rotate_left
                  ·simp only [Act.put, sA, sZ, sS, i64_w, i32_w]
                   rfl
                  refine take_ (i := 28) (N := some 74) (v := ?_) (a' := ?_) (bm 48 469762047) rfl rfl (take_ofW HT_.out HW_.out (by kernel_rfl)) (fun _ _ _ h => h) (Or.inl ⟨by rfl, ?_⟩) hHeld ?_ ?_
                  rotate_left
                  ·rintro w' ⟨s0, s1, s2, s3, s4, s5, s6, s7⟩
                   go_simp
                   with_reducible rfl
                  rotate_left
                  ·simp only [Act.put, sA, sZ, sS, i64_w, i32_w]
                   rfl
                  refine one_ (i := 26) (N := some 72) (bm 48 536870911) rfl rfl (one_of HT_.out (by kernel_rfl)) (by decide) (fun K hK => ?_)
                  refine goes_ Try.func173 (by kernel_rfl) rfl #[.agg #[.int .i64 ((rd_T177 l0_3 x41_2).f0), .string ((rd_T177 l0_3 x41_2).f1)]] (by rfl) rfl rfl (by (try simp only [List.map_toArray, List.map_cons, List.map_nil]); first | done | rfl | (simp only [List.length_drop, List.length_take]; rfl)) ?_
                  with_reducible refine (impl_Piece_end.calls ((rd_T177 l0_3 x41_2).f0) ((rd_T177 l0_3 x41_2).f1) t196 _ A48.out).mono ?_
                  rintro e w62 ⟨rfl, hb⟩
                  refine ⟨_, rfl, ?_⟩
                  have n0_ := bX BK186 hb
                  have n1_ := bX BK191 hb
                  have n2_ := bS HB hb
                  clear BK186
                  clear BK191
                  clear HB
                  have BK186 := n0_
                  have BK191 := n1_
                  have HB := n2_
                  clear n0_ n1_ n2_
                  (try clear hb)
                  (try clear hb2)
                  (try clear hk)
                  (try clear hi)
                  refine hK.out _ _ ⟨(blk_cell BK191.out 0).trans rfl, (blk_cell BK191.out 1).trans rfl, (blk_cell BK186.out 0).trans rfl, (blk_cell BK186.out 1).trans rfl, (blk_cell BK186.out 2).trans rfl, (blk_cell BK186.out 3).trans rfl, ((HB.out.cell (World.block_lt_of_cell? w _ hw197_0)).trans hw197_0), ((HB.out.cell (World.block_lt_of_cell? w _ hw197_1)).trans hw197_1)⟩ (fun hHeld => ?_)
                  clear hK K
                  refine norm_ (a' := ?_) ?_ ?_
                  rotate_left
                  ·show Act.put _ (some 72) _ = _
                   simp only [Act.put, sA, sZ, sS, i64_w, i32_w]
                   rfl
                  refine pure_ (i := 29) (N := some 75) (v := ?_) (a' := ?_) (bm 48 1073741823) rfl rfl (any_of HT_.out (by kernel_rfl)) (fun _ _ _ h => h) (Or.inl ⟨by rfl, ?_⟩) ?_ ?_
                  rotate_left
                  ·intro w'
                   go_simp
                   with_reducible rfl
                  rotate_left
                  ·simp only [Act.put, sA, sZ, sS, i64_w, i32_w]
                   rfl
                  refine pure_ (i := 30) (N := some 76) (v := ?_) (a' := ?_) (bm 48 2147483647) rfl rfl (any_of HT_.out (by kernel_rfl)) (fun _ _ _ h => h) (Or.inl ⟨by rfl, ?_⟩) ?_ ?_
                  rotate_left
                  ·intro w'
                   go_simp
                   with_reducible rfl
                  rotate_left
                  ·simp only [Act.put, sA, sZ, sS, i64_w, i32_w]
                   rfl
                  refine pure_ (i := 31) (N := some 77) (v := ?_) (a' := ?_) (bm 48 4294967295) rfl rfl (any_of HT_.out (by kernel_rfl)) (fun _ _ _ h => h) (Or.inl ⟨by rfl, ?_⟩) ?_ ?_
                  rotate_left
                  ·intro w'
                   go_simp
                   with_reducible rfl
                  rotate_left
                  ·simp only [Act.put, sA, sZ, sS, i64_w, i32_w]
                   rfl
                  refine pure_ (i := 32) (N := some 78) (v := ?_) (a' := ?_) (bm 48 8589934591) rfl rfl (any_of HT_.out (by kernel_rfl)) (fun _ _ _ h => h) (Or.inl ⟨by rfl, ?_⟩) ?_ ?_
                  rotate_left
                  ·intro w'
                   go_simp
                   with_reducible rfl
                  rotate_left
                  ·simp only [Act.put, sA, sZ, sS, i64_w, i32_w]
                   rfl
                  refine pure_ (i := 33) (N := some 79) (v := ?_) (a' := ?_) (bm 48 17179869183) rfl rfl (any_of HT_.out (by kernel_rfl)) (fun _ _ _ h => h) (Or.inl ⟨by rfl, ?_⟩) ?_ ?_
                  rotate_left
                  ·intro w'
                   go_simp
                   with_reducible rfl
                  rotate_left
                  ·simp only [Act.put, sA, sZ, sS, i64_w, i32_w]
                   rfl
                  refine pure_ (i := 34) (N := some 80) (v := ?_) (a' := ?_) (bm 48 34359738367) rfl rfl (any_of HT_.out (by kernel_rfl)) (fun _ _ _ h => h) (Or.inl ⟨by rfl, ?_⟩) ?_ ?_
                  rotate_left
                  ·intro w'
                   go_simp
                   with_reducible rfl
                  rotate_left
                  ·simp only [Act.put, sA, sZ, sS, i64_w, i32_w]
                   rfl
                  refine pure_ (i := 35) (N := some 81) (v := ?_) (a' := ?_) (bm 48 68719476735) rfl rfl (any_of HT_.out (by kernel_rfl)) (fun _ _ _ h => h) (Or.inl ⟨by rfl, ?_⟩) ?_ ?_
                  rotate_left
                  ·intro w'
                   go_simp
                   with_reducible rfl
                  rotate_left
                  ·simp only [Act.put, sA, sZ, sS, i64_w, i32_w]
                   rfl
                  refine pure_ (i := 36) (N := some 82) (v := ?_) (a' := ?_) (bm 48 137438953471) rfl rfl (any_of HT_.out (by kernel_rfl)) (fun _ _ _ h => h) (Or.inl ⟨by rfl, ?_⟩) ?_ ?_
                  rotate_left
                  ·intro w'
                   go_simp
                   with_reducible rfl
                  rotate_left
                  ·simp only [Act.put, sA, sZ, sS, i64_w, i32_w]
                   rfl
                  refine pure_ (i := 38) (N := some 84) (v := ?_) (a' := ?_) (bm 48 412316860415) rfl rfl (any_of HT_.out (by kernel_rfl)) (fun _ _ _ h => h) (Or.inl ⟨by rfl, ?_⟩) ?_ ?_
                  rotate_left
                  ·intro w'
                   go_simp
                   with_reducible rfl
                  rotate_left
                  ·simp only [Act.put, sA, sZ, sS, i64_w, i32_w]
                   rfl
                  refine pure_ (i := 39) (N := some 85) (v := ?_) (a' := ?_) (bm 48 962072674303) rfl rfl (any_of HT_.out (by kernel_rfl)) (fun _ _ _ h => h) (Or.inl ⟨by rfl, ?_⟩) ?_ ?_
                  rotate_left
                  ·intro w'
                   go_simp
                   with_reducible rfl
                  rotate_left
                  ·simp only [Act.put, sA, sZ, sS, i64_w, i32_w]
                   rfl
                  refine pure_ (i := 43) (N := some 89) (v := ?_) (a' := ?_) (bm 48 9758165696511) rfl rfl (any_of HT_.out (by kernel_rfl)) (fun _ _ _ h => h) (Or.inl ⟨by rfl, ?_⟩) ?_ ?_
                  rotate_left
                  ·intro w'
                   go_simp
                   with_reducible rfl
                  rotate_left
                  ·simp only [Act.put, sA, sZ, sS, i64_w, i32_w]
                   rfl
                  refine take_ (i := 37) (N := some 83) (v := ?_) (a' := ?_) (bm 48 9895604649983) rfl rfl (take_ofW HT_.out HW_.out (by kernel_rfl)) (fun _ _ _ h => h) (Or.inl ⟨by rfl, ?_⟩) hHeld ?_ ?_
                  rotate_left
                  ·rintro w' ⟨s0, s1, s2, s3, s4, s5, s6, s7⟩
                   go_simp
                   with_reducible rfl
                  rotate_left
                  ·simp only [Act.put, sA, sZ, sS, i64_w, i32_w]
                   rfl
                  refine pure_ (i := 40) (N := some 86) (v := ?_) (a' := ?_) (bm 48 10995116277759) rfl rfl (any_of HT_.out (by kernel_rfl)) (fun _ _ _ h => h) (Or.inl ⟨by rfl, ?_⟩) ?_ ?_
                  rotate_left
                  ·intro w'
                   go_simp
                   with_reducible rfl
                  rotate_left
                  ·simp only [Act.put, sA, sZ, sS, i64_w, i32_w]
                   rfl
                  refine take_ (i := 41) (N := some 87) (v := ?_) (a' := ?_) (bm 48 13194139533311) rfl rfl (take_ofW HT_.out HW_.out (by kernel_rfl)) (fun _ _ _ h => h) (Or.inl ⟨by rfl, ?_⟩) hHeld ?_ ?_
                  rotate_left
                  ·rintro w' ⟨s0, s1, s2, s3, s4, s5, s6, s7⟩
                   go_simp
                   with_reducible rfl
                  rotate_left
                  ·simp only [Act.put, sA, sZ, sS, i64_w, i32_w]
                   rfl
                  refine take_ (i := 44) (N := some 90) (v := ?_) (a' := ?_) (bm 48 30786325577727) rfl rfl (take_ofW HT_.out HW_.out (by kernel_rfl)) (fun _ _ _ h => h) (Or.inl ⟨by rfl, ?_⟩) hHeld ?_ ?_
                  rotate_left
                  ·rintro w' ⟨s0, s1, s2, s3, s4, s5, s6, s7⟩
                   go_simp
                   with_reducible rfl
                  rotate_left
                  ·simp only [Act.put, sA, sZ, sS, i64_w, i32_w]
                   rfl
                  refine one_ (i := 42) (N := some 88) (bm 48 35184372088831) rfl rfl (one_of HT_.out (by kernel_rfl)) (by decide) (fun K hK => ?_)
                  refine goes_ Try.func173 (by kernel_rfl) rfl #[.agg #[.int .i64 ((rd_T177 l0_3 (ji55)).f0), .string ((rd_T177 l0_3 (ji55)).f1)]] (by rfl) rfl rfl (by (try simp only [List.map_toArray, List.map_cons, List.map_nil]); first | done | (simp only [hji55]; rfl) | rfl | (simp only [List.length_drop, List.length_take]; rfl)) ?_
                  with_reducible refine (impl_Piece_end.calls ((rd_T177 l0_3 (ji55)).f0) ((rd_T177 l0_3 (ji55)).f1) t198 _ A58.out).mono ?_
                  rintro e w63 ⟨rfl, hb⟩
                  refine ⟨_, rfl, ?_⟩
                  have n0_ := bX BK186 hb
                  have n1_ := bX BK191 hb
                  have n2_ := bS HB hb
                  clear BK186
                  clear BK191
                  clear HB
                  have BK186 := n0_
                  have BK191 := n1_
                  have HB := n2_
                  clear n0_ n1_ n2_
                  (try clear hb)
                  (try clear hb2)
                  (try clear hk)
                  (try clear hi)
                  refine hK.out _ _ ⟨(blk_cell BK191.out 0).trans rfl, (blk_cell BK191.out 1).trans rfl, (blk_cell BK186.out 0).trans rfl, (blk_cell BK186.out 1).trans rfl, (blk_cell BK186.out 2).trans rfl, (blk_cell BK186.out 3).trans rfl, ((HB.out.cell (World.block_lt_of_cell? w _ hw197_0)).trans hw197_0), ((HB.out.cell (World.block_lt_of_cell? w _ hw197_1)).trans hw197_1)⟩ (fun hHeld => ?_)
                  clear hK K
                  refine norm_ (a' := ?_) ?_ ?_
                  rotate_left
                  ·show Act.put _ (some 88) _ = _
                   simp only [Act.put, sA, sZ, sS, i64_w, i32_w]
                   rfl
                  refine pure_ (i := 45) (N := some 91) (v := ?_) (a' := ?_) (bm 48 70368744177663) rfl rfl (any_of HT_.out (by kernel_rfl)) (fun _ _ _ h => h) (Or.inl ⟨by rfl, ?_⟩) ?_ ?_
                  rotate_left
                  ·intro w'
                   go_simp
                   with_reducible rfl
                  rotate_left
                  ·simp only [Act.put, sA, sZ, sS, i64_w, i32_w]
                   rfl
                  refine pure_ (i := 46) (N := some 92) (v := ?_) (a' := ?_) (bm 48 140737488355327) rfl rfl (any_of HT_.out (by kernel_rfl)) (fun _ _ _ h => h) (Or.inl ⟨by rfl, ?_⟩) ?_ ?_
                  rotate_left
                  ·intro w'
                   go_simp
                   with_reducible rfl
                  rotate_left
                  ·simp only [Act.put, sA, sZ, sS, i64_w, i32_w]
                   rfl
                  refine pure_ (i := 47) (N := some 93) (v := ?_) (a' := ?_) (bm 48 281474976710655) rfl rfl (any_of HT_.out (by kernel_rfl)) (fun _ _ _ h => h) (Or.inl ⟨by rfl, ?_⟩) ?_ ?_
                  rotate_left
                  ·intro w'
                   go_simp
                   with_reducible rfl
                  rotate_left
                  ·simp only [Act.put, sA, sZ, sS, i64_w, i32_w]
                   rfl
                  refine done_ (done_of HT_.out (by kernel_rfl)) ?_
                  try go_wp2
                  go_meet
                  case rel => exact ⟨_, (decide (t198 ≥ ((rd_T177 l0_3 x41_2).f0))), (by first | rfl | (simp; done) | (simp [*]; done)), H', ⟨by have := HJ1.out; have := HK2.out; first | omega | exact Nat.le_refl _⟩, ⟨by (with_reducible repeat (first | refine bN ?_ _ | refine bD ?_ | refine bA ?_ _)); exact BK186.out⟩, ⟨by (with_reducible repeat (first | refine bN ?_ _ | refine bD ?_ | refine bA ?_ _)); exact BK191.out⟩, ⟨by repeat (first | (with_reducible first | exact HB.out | apply below_alloc | apply pw_below_drewN | apply below_drew1 | refine below_set ?_ GE186.out | refine below_set ?_ GE191.out) | exact HB.out)⟩⟩
                 ·rw [if_neg c57] at H
                  exact absurd H (by simp)
                ·rw [if_neg c56] at H
                 exact absurd H (by simp)
               ·rw [if_neg c54] at H
                have c54b0 : decide (0 < x41_2) = false := decide_eq_false c54
                clear c54
                have H' := Aside0.mk H
                clear H
                try go_wp2
                have n0_ : Aside0 (((w22.setCell ⟨gb191, 0, none⟩ (.int .i64 ((rd_T177 l0_3 x41_2).f0))).setCell ⟨gb191, 1, none⟩ (.string ((rd_T177 l0_3 x41_2).f1))).heap[gb186]? = some (.cells #[.int .i64 a0_0, .int .i64 a0_1, .int .i64 a0_2, .slice (some ad190) l0_3.length c0_3] 61 (0, 0))) := ⟨by (with_reducible repeat (first | refine bN ?_ _ | refine bD ?_ | refine bA ?_ _)); refine blk_far ?_ NB186_191.out _; (with_reducible repeat (first | refine bN ?_ _ | refine bD ?_ | refine bA ?_ _)); refine blk_far ?_ NB186_191.out _; (with_reducible repeat (first | refine bN ?_ _ | refine bD ?_ | refine bA ?_ _)); exact BK186.out⟩
                have n1_ : Aside0 (((w22.setCell ⟨gb191, 0, none⟩ (.int .i64 ((rd_T177 l0_3 x41_2).f0))).setCell ⟨gb191, 1, none⟩ (.string ((rd_T177 l0_3 x41_2).f1))).heap[gb191]? = some (.cells #[.int .i64 ((rd_T177 l0_3 x41_2).f0), .string ((rd_T177 l0_3 x41_2).f1)] 177 (0, 0))) := ⟨by (with_reducible repeat (first | refine bN ?_ _ | refine bD ?_ | refine bA ?_ _)); refine blk_put (cs := #[.int .i64 ((rd_T177 l0_3 x41_2).f0), .string (⟨#[]⟩ : ByteArray)]) ?_ 1 _ rfl; (with_reducible repeat (first | refine bN ?_ _ | refine bD ?_ | refine bA ?_ _)); refine blk_put (cs := #[.int .i64 0, .string (⟨#[]⟩ : ByteArray)]) ?_ 0 _ rfl; (with_reducible repeat (first | refine bN ?_ _ | refine bD ?_ | refine bA ?_ _)); exact BK191.out⟩
                have n2_ : Aside0 (Below w.heap.size w ((w22.setCell ⟨gb191, 0, none⟩ (.int .i64 ((rd_T177 l0_3 x41_2).f0))).setCell ⟨gb191, 1, none⟩ (.string ((rd_T177 l0_3 x41_2).f1)))) := ⟨by repeat (first | (with_reducible first | exact HB.out | apply below_alloc | apply pw_below_drewN | apply below_drew1 | refine below_set ?_ GE186.out | refine below_set ?_ GE191.out) | exact HB.out)⟩
                (try clear BK186)
                (try clear BK191)
                (try clear HB)
                generalize ((w22.setCell ⟨gb191, 0, none⟩ (.int .i64 ((rd_T177 l0_3 x41_2).f0))).setCell ⟨gb191, 1, none⟩ (.string ((rd_T177 l0_3 x41_2).f1))) = w64 at n0_ n1_ n2_ ⊢
                have BK186 := n0_
                have BK191 := n1_
                have HB := n2_
                clear n0_ n1_ n2_
                have n0_ := Aside0.mk (blk_drew BK186.out)
                have n1_ := Aside0.mk (blk_drew BK191.out)
                have n2_ := Aside0.mk (below_drew1 HB.out)
                clear BK186
                clear BK191
                clear HB
                have BK186 := n0_
                have BK191 := n1_
                have HB := n2_
                clear n0_ n1_ n2_
                refine start_ (n := 48) (S := fun w' => w'.cell? ⟨gb191, 0, none⟩ = some (.int .i64 ((rd_T177 l0_3 x41_2).f0)) ∧ w'.cell? ⟨gb191, 1, none⟩ = some (.string ((rd_T177 l0_3 x41_2).f1)) ∧ w'.cell? ⟨gb186, 0, none⟩ = some (.int .i64 a0_0) ∧ w'.cell? ⟨gb186, 1, none⟩ = some (.int .i64 a0_1) ∧ w'.cell? ⟨gb186, 2, none⟩ = some (.int .i64 a0_2) ∧ w'.cell? ⟨gb186, 3, none⟩ = some (.slice (some ad190) l0_3.length c0_3)) (ds := []) (bm 48 0) (by kernel_rfl) rfl rfl (cx2 BK191 (cz4 BK186)) (fun hHeld => ?_); refine with_tabW impl_GoodInflow.tab6 impl_GoodInflow.bits6 (fun HT_ HW_ => ?_)
                generalize w64.drew = w65 at BK186 BK191 HB hHeld ⊢
                refine pure_ (i := 0) (N := some 46) (v := ?_) (a' := ?_) (bm 48 1) rfl rfl (any_of HT_.out (by kernel_rfl)) (fun _ _ _ h => h) (Or.inl ⟨by rfl, ?_⟩) ?_ ?_
                rotate_left
                ·intro w'
                 go_simp
                 with_reducible rfl
                rotate_left
                ·simp only [Act.put, sA, sZ, sS, i64_w, i32_w]
                 rfl
                refine pure_ (i := 2) (N := some 48) (v := ?_) (a' := ?_) (bm 48 5) rfl rfl (any_of HT_.out (by kernel_rfl)) (fun _ _ _ h => h) (Or.inl ⟨by rfl, ?_⟩) ?_ ?_
                rotate_left
                ·intro w'
                 go_simp
                 with_reducible rfl
                rotate_left
                ·simp only [Act.put, sA, sZ, sS, i64_w, i32_w]
                 rfl
                refine pure_ (i := 4) (N := some 50) (v := ?_) (a' := ?_) (bm 48 21) rfl rfl (any_of HT_.out (by kernel_rfl)) (fun _ _ _ h => h) (Or.inl ⟨by rfl, ?_⟩) ?_ ?_
                rotate_left
                ·intro w'
                 go_simp
                 with_reducible rfl
                rotate_left
                ·simp only [Act.put, sA, sZ, sS, i64_w, i32_w]
                 rfl
                refine take_ (i := 1) (N := some 47) (v := ?_) (a' := ?_) (bm 48 23) rfl rfl (take_ofW HT_.out HW_.out (by kernel_rfl)) (fun _ _ _ h => h) (Or.inl ⟨by rfl, ?_⟩) hHeld ?_ ?_
                rotate_left
                ·rintro w' ⟨s0, s1, s2, s3, s4, s5⟩
                 go_simp
                 with_reducible rfl
                rotate_left
                ·simp only [Act.put, sA, sZ, sS, i64_w, i32_w]
                 rfl
                refine take_ (i := 3) (N := some 49) (v := ?_) (a' := ?_) (bm 48 31) rfl rfl (take_ofW HT_.out HW_.out (by kernel_rfl)) (fun _ _ _ h => h) (Or.inl ⟨by rfl, ?_⟩) hHeld ?_ ?_
                rotate_left
                ·rintro w' ⟨s0, s1, s2, s3, s4, s5⟩
                 go_simp
                 with_reducible rfl
                rotate_left
                ·simp only [Act.put, sA, sZ, sS, i64_w, i32_w]
                 rfl
                refine take_ (i := 5) (N := some 51) (v := ?_) (a' := ?_) (bm 48 63) rfl rfl (take_ofW HT_.out HW_.out (by kernel_rfl)) (fun _ _ _ h => h) (Or.inl ⟨by rfl, ?_⟩) hHeld ?_ ?_
                rotate_left
                ·rintro w' ⟨s0, s1, s2, s3, s4, s5⟩
                 go_simp
                 with_reducible rfl
                rotate_left
                ·simp only [Act.put, sA, sZ, sS, i64_w, i32_w]
                 rfl
                refine one_ (i := 6) (N := some 52) (bm 48 127) rfl rfl (one_of HT_.out (by kernel_rfl)) (by decide) (fun K hK => ?_)
                refine goes_ Try.func80 (by kernel_rfl) rfl #[.int .i64 ((rd_T177 l0_3 x41_2).f0), .int .i64 a0_1, .int .i64 a0_0] (by rfl) rfl rfl (by (try simp only [List.map_toArray, List.map_cons, List.map_nil]); first | done | rfl | (simp only [List.length_drop, List.length_take]; rfl)) ?_
                with_reducible refine (impl_in.calls ((rd_T177 l0_3 x41_2).f0) a0_1 a0_0 true _ A25.out).mono ?_
                rintro e w' ⟨rfl, ⟨nd, rfl⟩⟩
                refine ⟨_, rfl, ?_⟩
                refine hK.out _ _ (cx2 BK191 (cz4 BK186)) (fun hHeld => ?_)
                clear hK K
                refine norm_ (a' := ?_) ?_ ?_
                rotate_left
                ·show Act.put _ (some 52) _ = _
                 simp only [Act.put, sA, sZ, sS, i64_w, i32_w]
                 rfl
                refine pure_ (i := 7) (N := some 53) (v := ?_) (a' := ?_) (bm 48 255) rfl rfl (any_of HT_.out (by kernel_rfl)) (fun _ _ _ h => h) (Or.inl ⟨by rfl, ?_⟩) ?_ ?_
                rotate_left
                ·intro w'
                 go_simp
                 with_reducible rfl
                rotate_left
                ·simp only [Act.put, sA, sZ, sS, i64_w, i32_w]
                 rfl
                refine pure_ (i := 8) (N := some 54) (v := ?_) (a' := ?_) (bm 48 511) rfl rfl (any_of HT_.out (by kernel_rfl)) (fun _ _ _ h => h) (Or.inl ⟨by rfl, ?_⟩) ?_ ?_
                rotate_left
                ·intro w'
                 go_simp
                 with_reducible rfl
                rotate_left
                ·simp only [Act.put, sA, sZ, sS, i64_w, i32_w]
                 rfl
                refine pure_ (i := 9) (N := some 55) (v := ?_) (a' := ?_) (bm 48 1023) rfl rfl (any_of HT_.out (by kernel_rfl)) (fun _ _ _ h => h) (Or.inl ⟨by rfl, ?_⟩) ?_ ?_
                rotate_left
                ·intro w'
                 go_simp
                 with_reducible rfl
                rotate_left
                ·simp only [Act.put, sA, sZ, sS, i64_w, i32_w]
                 rfl
                refine take_ (i := 10) (N := some 56) (v := ?_) (a' := ?_) (bm 48 2047) rfl rfl (take_ofW HT_.out HW_.out (by kernel_rfl)) (fun _ _ _ h => h) (Or.inl ⟨by rfl, ?_⟩) hHeld ?_ ?_
                rotate_left
                ·rintro w' ⟨s0, s1, s2, s3, s4, s5⟩
                 go_simp
                 with_reducible rfl
                rotate_left
                ·simp only [Act.put, sA, sZ, sS, i64_w, i32_w]
                 rfl
                refine pure_ (i := 11) (N := some 57) (v := ?_) (a' := ?_) (bm 48 4095) rfl rfl (any_of HT_.out (by kernel_rfl)) (fun _ _ _ h => h) (Or.inl ⟨by rfl, ?_⟩) ?_ ?_
                rotate_left
                ·intro w'
                 go_simp
                 with_reducible rfl
                rotate_left
                ·simp only [Act.put, sA, sZ, sS, i64_w, i32_w]
                 rfl
                refine pure_ (i := 12) (N := some 58) (v := ?_) (a' := ?_) (bm 48 8191) rfl rfl (any_of HT_.out (by kernel_rfl)) (fun _ _ _ h => h) (Or.inl ⟨by rfl, ?_⟩) ?_ ?_
                rotate_left
                ·intro w'
                 go_simp
                 with_reducible rfl
                rotate_left
                ·simp only [Act.put, sA, sZ, sS, i64_w, i32_w]
                 rfl
                refine pure_ (i := 13) (N := some 59) (v := ?_) (a' := ?_) (bm 48 16383) rfl rfl (any_of HT_.out (by kernel_rfl)) (fun _ _ _ h => h) (Or.inl ⟨by rfl, ?_⟩) ?_ ?_
                rotate_left
                ·intro w'
                 go_simp
                 with_reducible rfl
                rotate_left
                ·simp only [Act.put, sA, sZ, sS, i64_w, i32_w]
                 rfl
                refine pure_ (i := 16) (N := some 62) (v := ?_) (a' := ?_) (bm 48 81919) rfl rfl (any_of HT_.out (by kernel_rfl)) (fun _ _ _ h => h) (Or.inl ⟨by rfl, ?_⟩) ?_ ?_
                rotate_left
                ·intro w'
                 go_simp
                 with_reducible rfl
                rotate_left
                ·simp only [Act.put, sA, sZ, sS, i64_w, i32_w]
                 rfl
                refine take_ (i := 14) (N := some 60) (v := ?_) (a' := ?_) (bm 48 98303) rfl rfl (take_ofW HT_.out HW_.out (by kernel_rfl)) (fun _ _ _ h => h) (Or.inl ⟨by rfl, ?_⟩) hHeld ?_ ?_
                rotate_left
                ·rintro w' ⟨s0, s1, s2, s3, s4, s5⟩
                 go_simp
                 with_reducible rfl
                rotate_left
                ·simp only [Act.put, sA, sZ, sS, i64_w, i32_w]
                 rfl
                refine take_ (i := 17) (N := some 63) (v := ?_) (a' := ?_) (bm 48 229375) rfl rfl (take_ofW HT_.out HW_.out (by kernel_rfl)) (fun _ _ _ h => h) (Or.inl ⟨by rfl, ?_⟩) hHeld ?_ ?_
                rotate_left
                ·rintro w' ⟨s0, s1, s2, s3, s4, s5⟩
                 go_simp
                 with_reducible rfl
                rotate_left
                ·simp only [Act.put, sA, sZ, sS, i64_w, i32_w]
                 rfl
                refine one_ (i := 15) (N := some 61) (bm 48 262143) rfl rfl (one_of HT_.out (by kernel_rfl)) (by decide) (fun K hK => ?_)
                refine goes_ Try.func173 (by kernel_rfl) rfl #[.agg #[.int .i64 ((rd_T177 l0_3 x41_2).f0), .string ((rd_T177 l0_3 x41_2).f1)]] (by rfl) rfl rfl (by (try simp only [List.map_toArray, List.map_cons, List.map_nil]); first | done | rfl | (simp only [List.length_drop, List.length_take]; rfl)) ?_
                with_reducible refine (impl_Piece_end.calls ((rd_T177 l0_3 x41_2).f0) ((rd_T177 l0_3 x41_2).f1) t193 _ A30.out).mono ?_
                rintro e w66 ⟨rfl, hb⟩
                refine ⟨_, rfl, ?_⟩
                have n0_ := bX BK186 hb
                have n1_ := bX BK191 hb
                have n2_ := bS HB hb
                clear BK186
                clear BK191
                clear HB
                have BK186 := n0_
                have BK191 := n1_
                have HB := n2_
                clear n0_ n1_ n2_
                (try clear hb)
                (try clear hb2)
                (try clear hk)
                (try clear hi)
                refine hK.out _ _ (cx2 BK191 (cz4 BK186)) (fun hHeld => ?_)
                clear hK K
                refine norm_ (a' := ?_) ?_ ?_
                rotate_left
                ·show Act.put _ (some 61) _ = _
                 simp only [Act.put, sA, sZ, sS, i64_w, i32_w]
                 rfl
                refine pure_ (i := 18) (N := some 64) (v := ?_) (a' := ?_) (bm 48 524287) rfl rfl (any_of HT_.out (by kernel_rfl)) (fun _ _ _ h => h) (Or.inl ⟨by rfl, ?_⟩) ?_ ?_
                rotate_left
                ·intro w'
                 go_simp
                 with_reducible rfl
                rotate_left
                ·simp only [Act.put, sA, sZ, sS, i64_w, i32_w]
                 rfl
                refine pure_ (i := 19) (N := some 65) (v := ?_) (a' := ?_) (bm 48 1048575) rfl rfl (any_of HT_.out (by kernel_rfl)) (fun _ _ _ h => h) (Or.inl ⟨by rfl, ?_⟩) ?_ ?_
                rotate_left
                ·intro w'
                 go_simp
                 with_reducible rfl
                rotate_left
                ·simp only [Act.put, sA, sZ, sS, i64_w, i32_w]
                 rfl
                refine pure_ (i := 20) (N := some 66) (v := ?_) (a' := ?_) (bm 48 2097151) rfl rfl (any_of HT_.out (by kernel_rfl)) (fun _ _ _ h => h) (Or.inl ⟨by rfl, ?_⟩) ?_ ?_
                rotate_left
                ·intro w'
                 go_simp
                 with_reducible rfl
                rotate_left
                ·simp only [Act.put, sA, sZ, sS, i64_w, i32_w]
                 rfl
                refine pure_ (i := 21) (N := some 67) (v := ?_) (a' := ?_) (bm 48 4194303) rfl rfl (any_of HT_.out (by kernel_rfl)) (fun _ _ _ h => h) (Or.inl ⟨by rfl, ?_⟩) ?_ ?_
                rotate_left
                ·intro w'
                 go_simp
                 with_reducible rfl
                rotate_left
                ·simp only [Act.put, sA, sZ, sS, i64_w, i32_w]
                 rfl
                refine take_ (i := 22) (N := some 68) (v := ?_) (a' := ?_) (bm 48 8388607) rfl rfl (take_ofW HT_.out HW_.out (by kernel_rfl)) (fun _ _ _ h => h) (Or.inl ⟨by rfl, ?_⟩) hHeld ?_ ?_
                rotate_left
                ·rintro w' ⟨s0, s1, s2, s3, s4, s5⟩
                 go_simp
                 with_reducible rfl
                rotate_left
                ·simp only [Act.put, sA, sZ, sS, i64_w, i32_w]
                 rfl
                refine pure_ (i := 23) (N := some 69) (v := ?_) (a' := ?_) (bm 48 16777215) rfl rfl (any_of HT_.out (by kernel_rfl)) (fun _ _ _ h => h) (Or.inl ⟨by rfl, ?_⟩) ?_ ?_
                rotate_left
                ·intro w'
                 go_simp
                 with_reducible rfl
                rotate_left
                ·simp only [Act.put, sA, sZ, sS, i64_w, i32_w]
                 rfl
                refine pure_ (i := 24) (N := some 70) (v := ?_) (a' := ?_) (bm 48 33554431) rfl rfl (any_of HT_.out (by kernel_rfl)) (fun _ _ _ h => h) (Or.inl ⟨by rfl, ?_⟩) ?_ ?_
                rotate_left
                ·intro w'
                 go_simp
                 with_reducible rfl
                rotate_left
                ·simp only [Act.put, sA, sZ, sS, i64_w, i32_w]
                 rfl
                refine pure_ (i := 27) (N := some 73) (v := ?_) (a' := ?_) (bm 48 167772159) rfl rfl (any_of HT_.out (by kernel_rfl)) (fun _ _ _ h => h) (Or.inl ⟨by rfl, ?_⟩) ?_ ?_
                rotate_left
                ·intro w'
                 go_simp
                 with_reducible rfl
                rotate_left
                ·simp only [Act.put, sA, sZ, sS, i64_w, i32_w]
                 rfl
                refine take_ (i := 25) (N := some 71) (v := ?_) (a' := ?_) (bm 48 201326591) rfl rfl (take_ofW HT_.out HW_.out (by kernel_rfl)) (fun _ _ _ h => h) (Or.inl ⟨by rfl, ?_⟩) hHeld ?_ ?_
                rotate_left
                ·rintro w' ⟨s0, s1, s2, s3, s4, s5⟩
                 go_simp
                 with_reducible rfl
                rotate_left
                ·simp only [Act.put, sA, sZ, sS, i64_w, i32_w]
                 rfl
                refine take_ (i := 28) (N := some 74) (v := ?_) (a' := ?_) (bm 48 469762047) rfl rfl (take_ofW HT_.out HW_.out (by kernel_rfl)) (fun _ _ _ h => h) (Or.inl ⟨by rfl, ?_⟩) hHeld ?_ ?_
                rotate_left
                ·rintro w' ⟨s0, s1, s2, s3, s4, s5⟩
                 go_simp
                 with_reducible rfl
                rotate_left
                ·simp only [Act.put, sA, sZ, sS, i64_w, i32_w]
                 rfl
                refine one_ (i := 26) (N := some 72) (bm 48 536870911) rfl rfl (one_of HT_.out (by kernel_rfl)) (by decide) (fun K hK => ?_)
                refine goes_ Try.func173 (by kernel_rfl) rfl #[.agg #[.int .i64 ((rd_T177 l0_3 x41_2).f0), .string ((rd_T177 l0_3 x41_2).f1)]] (by rfl) rfl rfl (by (try simp only [List.map_toArray, List.map_cons, List.map_nil]); first | done | rfl | (simp only [List.length_drop, List.length_take]; rfl)) ?_
                with_reducible refine (impl_Piece_end.calls ((rd_T177 l0_3 x41_2).f0) ((rd_T177 l0_3 x41_2).f1) t196 _ A48.out).mono ?_
                rintro e w67 ⟨rfl, hb⟩
                refine ⟨_, rfl, ?_⟩
                have n0_ := bX BK186 hb
                have n1_ := bX BK191 hb
                have n2_ := bS HB hb
                clear BK186
                clear BK191
                clear HB
                have BK186 := n0_
                have BK191 := n1_
                have HB := n2_
                clear n0_ n1_ n2_
                (try clear hb)
                (try clear hb2)
                (try clear hk)
                (try clear hi)
                refine hK.out _ _ (cx2 BK191 (cz4 BK186)) (fun hHeld => ?_)
                clear hK K
                refine norm_ (a' := ?_) ?_ ?_
                rotate_left
                ·show Act.put _ (some 72) _ = _
                 simp only [Act.put, sA, sZ, sS, i64_w, i32_w]
                 rfl
                refine pure_ (i := 29) (N := some 75) (v := ?_) (a' := ?_) (bm 48 1073741823) rfl rfl (any_of HT_.out (by kernel_rfl)) (fun _ _ _ h => h) (Or.inl ⟨by rfl, ?_⟩) ?_ ?_
                rotate_left
                ·intro w'
                 go_simp
                 with_reducible rfl
                rotate_left
                ·simp only [Act.put, sA, sZ, sS, i64_w, i32_w]
                 rfl
                refine pure_ (i := 30) (N := some 76) (v := ?_) (a' := ?_) (bm 48 2147483647) rfl rfl (any_of HT_.out (by kernel_rfl)) (fun _ _ _ h => h) (Or.inl ⟨by rfl, ?_⟩) ?_ ?_
                rotate_left
                ·intro w'
                 go_simp
                 with_reducible rfl
                rotate_left
                ·simp only [Act.put, sA, sZ, sS, i64_w, i32_w]
                 rfl
                refine pure_ (i := 31) (N := some 77) (v := ?_) (a' := ?_) (bm 48 4294967295) rfl rfl (any_of HT_.out (by kernel_rfl)) (fun _ _ _ h => h) (Or.inl ⟨by rfl, ?_⟩) ?_ ?_
                rotate_left
                ·intro w'
                 go_simp
                 with_reducible rfl
                rotate_left
                ·simp only [Act.put, sA, sZ, sS, i64_w, i32_w]
                 rfl
                refine pure_ (i := 32) (N := some 78) (v := ?_) (a' := ?_) (bm 48 8589934591) rfl rfl (any_of HT_.out (by kernel_rfl)) (fun _ _ _ h => h) (Or.inl ⟨by rfl, ?_⟩) ?_ ?_
                rotate_left
                ·intro w'
                 go_simp
                 with_reducible rfl
                rotate_left
                ·simp only [Act.put, sA, sZ, sS, i64_w, i32_w]
                 rfl
                refine pure_ (i := 33) (N := some 79) (v := ?_) (a' := ?_) (bm 48 17179869183) rfl rfl (any_of HT_.out (by kernel_rfl)) (fun _ _ _ h => h) (Or.inl ⟨by rfl, ?_⟩) ?_ ?_
                rotate_left
                ·intro w'
                 go_simp
                 with_reducible rfl
                rotate_left
                ·simp only [Act.put, sA, sZ, sS, i64_w, i32_w]
                 rfl
                refine pure_ (i := 34) (N := some 80) (v := ?_) (a' := ?_) (bm 48 34359738367) rfl rfl (any_of HT_.out (by kernel_rfl)) (fun _ _ _ h => h) (Or.inl ⟨by rfl, ?_⟩) ?_ ?_
                rotate_left
                ·intro w'
                 go_simp
                 with_reducible rfl
                rotate_left
                ·simp only [Act.put, sA, sZ, sS, i64_w, i32_w]
                 rfl
                refine pure_ (i := 35) (N := some 81) (v := ?_) (a' := ?_) (bm 48 68719476735) rfl rfl (any_of HT_.out (by kernel_rfl)) (fun _ _ _ h => h) (Or.inl ⟨by rfl, ?_⟩) ?_ ?_
                rotate_left
                ·intro w'
                 go_simp
                 with_reducible rfl
                rotate_left
                ·simp only [Act.put, sA, sZ, sS, i64_w, i32_w]
                 rfl
                refine pure_ (i := 36) (N := some 82) (v := undef) (a' := ?_) (bm 48 137438953471) rfl rfl (any_of HT_.out (by kernel_rfl)) (fun _ _ _ h => h) (Or.inr ⟨by rfl, rfl⟩) ?_ ?_
                rotate_left
                ·simp only [Act.put, sA, sZ, sS, i64_w, i32_w]
                 rfl
                refine pure_ (i := 37) (N := some 83) (v := undef) (a' := ?_) (bm 48 274877906943) rfl rfl (any_of HT_.out (by kernel_rfl)) (fun _ _ _ h => h) (Or.inr ⟨by rfl, rfl⟩) ?_ ?_
                rotate_left
                ·simp only [Act.put, sA, sZ, sS, i64_w, i32_w]
                 rfl
                refine pure_ (i := 38) (N := some 84) (v := undef) (a' := ?_) (bm 48 549755813887) rfl rfl (any_of HT_.out (by kernel_rfl)) (fun _ _ _ h => h) (Or.inr ⟨by rfl, rfl⟩) ?_ ?_
                rotate_left
                ·simp only [Act.put, sA, sZ, sS, i64_w, i32_w]
                 rfl
                refine pure_ (i := 39) (N := some 85) (v := undef) (a' := ?_) (bm 48 1099511627775) rfl rfl (any_of HT_.out (by kernel_rfl)) (fun _ _ _ h => h) (Or.inr ⟨by rfl, rfl⟩) ?_ ?_
                rotate_left
                ·simp only [Act.put, sA, sZ, sS, i64_w, i32_w]
                 rfl
                refine pure_ (i := 40) (N := some 86) (v := undef) (a' := ?_) (bm 48 2199023255551) rfl rfl (any_of HT_.out (by kernel_rfl)) (fun _ _ _ h => h) (Or.inr ⟨by rfl, rfl⟩) ?_ ?_
                rotate_left
                ·simp only [Act.put, sA, sZ, sS, i64_w, i32_w]
                 rfl
                refine pure_ (i := 41) (N := some 87) (v := undef) (a' := ?_) (bm 48 4398046511103) rfl rfl (any_of HT_.out (by kernel_rfl)) (fun _ _ _ h => h) (Or.inr ⟨by rfl, rfl⟩) ?_ ?_
                rotate_left
                ·simp only [Act.put, sA, sZ, sS, i64_w, i32_w]
                 rfl
                refine pure_ (i := 42) (N := some 88) (v := undef) (a' := ?_) (bm 48 8796093022207) rfl rfl (any_of HT_.out (by kernel_rfl)) (fun _ _ _ h => h) (Or.inr ⟨by rfl, rfl⟩) ?_ ?_
                rotate_left
                ·simp only [Act.put, sA, sZ, sS, i64_w, i32_w]
                 rfl
                refine pure_ (i := 43) (N := some 89) (v := undef) (a' := ?_) (bm 48 17592186044415) rfl rfl (any_of HT_.out (by kernel_rfl)) (fun _ _ _ h => h) (Or.inr ⟨by rfl, rfl⟩) ?_ ?_
                rotate_left
                ·simp only [Act.put, sA, sZ, sS, i64_w, i32_w]
                 rfl
                refine pure_ (i := 44) (N := some 90) (v := undef) (a' := ?_) (bm 48 35184372088831) rfl rfl (any_of HT_.out (by kernel_rfl)) (fun _ _ _ h => h) (Or.inr ⟨by rfl, rfl⟩) ?_ ?_
                rotate_left
                ·simp only [Act.put, sA, sZ, sS, i64_w, i32_w]
                 rfl
                refine pure_ (i := 45) (N := some 91) (v := undef) (a' := ?_) (bm 48 70368744177663) rfl rfl (any_of HT_.out (by kernel_rfl)) (fun _ _ _ h => h) (Or.inr ⟨by rfl, rfl⟩) ?_ ?_
                rotate_left
                ·simp only [Act.put, sA, sZ, sS, i64_w, i32_w]
                 rfl
                refine pure_ (i := 46) (N := some 92) (v := ?_) (a' := ?_) (bm 48 140737488355327) rfl rfl (any_of HT_.out (by kernel_rfl)) (fun _ _ _ h => h) (Or.inl ⟨by rfl, ?_⟩) ?_ ?_
                rotate_left
                ·intro w'
                 go_simp
                 with_reducible rfl
                rotate_left
                ·simp only [Act.put, sA, sZ, sS, i64_w, i32_w]
                 rfl
                refine pure_ (i := 47) (N := some 93) (v := ?_) (a' := ?_) (bm 48 281474976710655) rfl rfl (any_of HT_.out (by kernel_rfl)) (fun _ _ _ h => h) (Or.inl ⟨by rfl, ?_⟩) ?_ ?_
                rotate_left
                ·intro w'
                 go_simp
                 with_reducible rfl
                rotate_left
                ·simp only [Act.put, sA, sZ, sS, i64_w, i32_w]
                 rfl
                refine done_ (done_of HT_.out (by kernel_rfl)) ?_
                try go_wp2
                go_meet
                case rel => exact ⟨_, (false), (by first | rfl | (simp; done) | (simp [*]; done)), H', ⟨by have := HJ1.out; have := HK2.out; first | omega | exact Nat.le_refl _⟩, ⟨by (with_reducible repeat (first | refine bN ?_ _ | refine bD ?_ | refine bA ?_ _)); exact BK186.out⟩, ⟨by (with_reducible repeat (first | refine bN ?_ _ | refine bD ?_ | refine bA ?_ _)); exact BK191.out⟩, ⟨by repeat (first | (with_reducible first | exact HB.out | apply below_alloc | apply pw_below_drewN | apply below_drew1 | refine below_set ?_ GE186.out | refine below_set ?_ GE191.out) | exact HB.out)⟩⟩
          ·replace c26 := Bool.eq_false_iff.mpr c26
           subst c26
           have H1 : (impl_GoodInflow.j2 k2 l0_3 (l0_3.length : Int) x41_2 true a0_0 a0_1 a0_2 l0_3) = some r := by rw [if_neg (show ¬ (false = true) by decide)] at H; exact H
           clear H
           have H := H1
           clear H1
           have H' := Aside0.mk H
           clear H
           try go_wp2
           have n0_ : Aside0 (((w22.setCell ⟨gb191, 0, none⟩ (.int .i64 ((rd_T177 l0_3 x41_2).f0))).setCell ⟨gb191, 1, none⟩ (.string ((rd_T177 l0_3 x41_2).f1))).heap[gb186]? = some (.cells #[.int .i64 a0_0, .int .i64 a0_1, .int .i64 a0_2, .slice (some ad190) l0_3.length c0_3] 61 (0, 0))) := ⟨by (with_reducible repeat (first | refine bN ?_ _ | refine bD ?_ | refine bA ?_ _)); refine blk_far ?_ NB186_191.out _; (with_reducible repeat (first | refine bN ?_ _ | refine bD ?_ | refine bA ?_ _)); refine blk_far ?_ NB186_191.out _; (with_reducible repeat (first | refine bN ?_ _ | refine bD ?_ | refine bA ?_ _)); exact BK186.out⟩
           have n1_ : Aside0 (((w22.setCell ⟨gb191, 0, none⟩ (.int .i64 ((rd_T177 l0_3 x41_2).f0))).setCell ⟨gb191, 1, none⟩ (.string ((rd_T177 l0_3 x41_2).f1))).heap[gb191]? = some (.cells #[.int .i64 ((rd_T177 l0_3 x41_2).f0), .string ((rd_T177 l0_3 x41_2).f1)] 177 (0, 0))) := ⟨by (with_reducible repeat (first | refine bN ?_ _ | refine bD ?_ | refine bA ?_ _)); refine blk_put (cs := #[.int .i64 ((rd_T177 l0_3 x41_2).f0), .string (⟨#[]⟩ : ByteArray)]) ?_ 1 _ rfl; (with_reducible repeat (first | refine bN ?_ _ | refine bD ?_ | refine bA ?_ _)); refine blk_put (cs := #[.int .i64 0, .string (⟨#[]⟩ : ByteArray)]) ?_ 0 _ rfl; (with_reducible repeat (first | refine bN ?_ _ | refine bD ?_ | refine bA ?_ _)); exact BK191.out⟩
           have n2_ : Aside0 (Below w.heap.size w ((w22.setCell ⟨gb191, 0, none⟩ (.int .i64 ((rd_T177 l0_3 x41_2).f0))).setCell ⟨gb191, 1, none⟩ (.string ((rd_T177 l0_3 x41_2).f1)))) := ⟨by repeat (first | (with_reducible first | exact HB.out | apply below_alloc | apply pw_below_drewN | apply below_drew1 | refine below_set ?_ GE186.out | refine below_set ?_ GE191.out) | exact HB.out)⟩
           (try clear BK186)
           (try clear BK191)
           (try clear HB)
           generalize ((w22.setCell ⟨gb191, 0, none⟩ (.int .i64 ((rd_T177 l0_3 x41_2).f0))).setCell ⟨gb191, 1, none⟩ (.string ((rd_T177 l0_3 x41_2).f1))) = w68 at n0_ n1_ n2_ ⊢
           have BK186 := n0_
           have BK191 := n1_
           have HB := n2_
           clear n0_ n1_ n2_
           have n0_ := Aside0.mk (blk_drew BK186.out)
           have n1_ := Aside0.mk (blk_drew BK191.out)
           have n2_ := Aside0.mk (below_drew1 HB.out)
           clear BK186
           clear BK191
           clear HB
           have BK186 := n0_
           have BK191 := n1_
           have HB := n2_
           clear n0_ n1_ n2_
           refine start_ (n := 48) (S := fun w' => w'.cell? ⟨gb191, 0, none⟩ = some (.int .i64 ((rd_T177 l0_3 x41_2).f0)) ∧ w'.cell? ⟨gb191, 1, none⟩ = some (.string ((rd_T177 l0_3 x41_2).f1)) ∧ w'.cell? ⟨gb186, 0, none⟩ = some (.int .i64 a0_0) ∧ w'.cell? ⟨gb186, 1, none⟩ = some (.int .i64 a0_1) ∧ w'.cell? ⟨gb186, 2, none⟩ = some (.int .i64 a0_2) ∧ w'.cell? ⟨gb186, 3, none⟩ = some (.slice (some ad190) l0_3.length c0_3)) (ds := []) (bm 48 0) (by kernel_rfl) rfl rfl (cx2 BK191 (cz4 BK186)) (fun hHeld => ?_); refine with_tabW impl_GoodInflow.tab6 impl_GoodInflow.bits6 (fun HT_ HW_ => ?_)
           generalize w68.drew = w69 at BK186 BK191 HB hHeld ⊢
           refine pure_ (i := 0) (N := some 46) (v := ?_) (a' := ?_) (bm 48 1) rfl rfl (any_of HT_.out (by kernel_rfl)) (fun _ _ _ h => h) (Or.inl ⟨by rfl, ?_⟩) ?_ ?_
           rotate_left
           ·intro w'
            go_simp
            with_reducible rfl
           rotate_left
           ·simp only [Act.put, sA, sZ, sS, i64_w, i32_w]
            rfl
           refine pure_ (i := 2) (N := some 48) (v := ?_) (a' := ?_) (bm 48 5) rfl rfl (any_of HT_.out (by kernel_rfl)) (fun _ _ _ h => h) (Or.inl ⟨by rfl, ?_⟩) ?_ ?_
           rotate_left
           ·intro w'
            go_simp
            with_reducible rfl
           rotate_left
           ·simp only [Act.put, sA, sZ, sS, i64_w, i32_w]
            rfl
           refine pure_ (i := 4) (N := some 50) (v := ?_) (a' := ?_) (bm 48 21) rfl rfl (any_of HT_.out (by kernel_rfl)) (fun _ _ _ h => h) (Or.inl ⟨by rfl, ?_⟩) ?_ ?_
           rotate_left
           ·intro w'
            go_simp
            with_reducible rfl
           rotate_left
           ·simp only [Act.put, sA, sZ, sS, i64_w, i32_w]
            rfl
           refine take_ (i := 1) (N := some 47) (v := ?_) (a' := ?_) (bm 48 23) rfl rfl (take_ofW HT_.out HW_.out (by kernel_rfl)) (fun _ _ _ h => h) (Or.inl ⟨by rfl, ?_⟩) hHeld ?_ ?_
           rotate_left
           ·rintro w' ⟨s0, s1, s2, s3, s4, s5⟩
            go_simp
            with_reducible rfl
           rotate_left
           ·simp only [Act.put, sA, sZ, sS, i64_w, i32_w]
            rfl
           refine take_ (i := 3) (N := some 49) (v := ?_) (a' := ?_) (bm 48 31) rfl rfl (take_ofW HT_.out HW_.out (by kernel_rfl)) (fun _ _ _ h => h) (Or.inl ⟨by rfl, ?_⟩) hHeld ?_ ?_
           rotate_left
           ·rintro w' ⟨s0, s1, s2, s3, s4, s5⟩
            go_simp
            with_reducible rfl
           rotate_left
           ·simp only [Act.put, sA, sZ, sS, i64_w, i32_w]
            rfl
           refine take_ (i := 5) (N := some 51) (v := ?_) (a' := ?_) (bm 48 63) rfl rfl (take_ofW HT_.out HW_.out (by kernel_rfl)) (fun _ _ _ h => h) (Or.inl ⟨by rfl, ?_⟩) hHeld ?_ ?_
           rotate_left
           ·rintro w' ⟨s0, s1, s2, s3, s4, s5⟩
            go_simp
            with_reducible rfl
           rotate_left
           ·simp only [Act.put, sA, sZ, sS, i64_w, i32_w]
            rfl
           refine one_ (i := 6) (N := some 52) (bm 48 127) rfl rfl (one_of HT_.out (by kernel_rfl)) (by decide) (fun K hK => ?_)
           refine goes_ Try.func80 (by kernel_rfl) rfl #[.int .i64 ((rd_T177 l0_3 x41_2).f0), .int .i64 a0_1, .int .i64 a0_0] (by rfl) rfl rfl (by (try simp only [List.map_toArray, List.map_cons, List.map_nil]); first | done | rfl | (simp only [List.length_drop, List.length_take]; rfl)) ?_
           with_reducible refine (impl_in.calls ((rd_T177 l0_3 x41_2).f0) a0_1 a0_0 false _ A25.out).mono ?_
           rintro e w' ⟨rfl, ⟨nd, rfl⟩⟩
           refine ⟨_, rfl, ?_⟩
           refine hK.out _ _ (cx2 BK191 (cz4 BK186)) (fun hHeld => ?_)
           clear hK K
           refine norm_ (a' := ?_) ?_ ?_
           rotate_left
           ·show Act.put _ (some 52) _ = _
            simp only [Act.put, sA, sZ, sS, i64_w, i32_w]
            rfl
           refine pure_ (i := 7) (N := some 53) (v := ?_) (a' := ?_) (bm 48 255) rfl rfl (any_of HT_.out (by kernel_rfl)) (fun _ _ _ h => h) (Or.inl ⟨by rfl, ?_⟩) ?_ ?_
           rotate_left
           ·intro w'
            go_simp
            with_reducible rfl
           rotate_left
           ·simp only [Act.put, sA, sZ, sS, i64_w, i32_w]
            rfl
           refine pure_ (i := 8) (N := some 54) (v := ?_) (a' := ?_) (bm 48 511) rfl rfl (any_of HT_.out (by kernel_rfl)) (fun _ _ _ h => h) (Or.inl ⟨by rfl, ?_⟩) ?_ ?_
           rotate_left
           ·intro w'
            go_simp
            with_reducible rfl
           rotate_left
           ·simp only [Act.put, sA, sZ, sS, i64_w, i32_w]
            rfl
           refine pure_ (i := 9) (N := some 55) (v := undef) (a' := ?_) (bm 48 1023) rfl rfl (any_of HT_.out (by kernel_rfl)) (fun _ _ _ h => h) (Or.inr ⟨by rfl, rfl⟩) ?_ ?_
           rotate_left
           ·simp only [Act.put, sA, sZ, sS, i64_w, i32_w]
            rfl
           refine pure_ (i := 10) (N := some 56) (v := undef) (a' := ?_) (bm 48 2047) rfl rfl (any_of HT_.out (by kernel_rfl)) (fun _ _ _ h => h) (Or.inr ⟨by rfl, rfl⟩) ?_ ?_
           rotate_left
           ·simp only [Act.put, sA, sZ, sS, i64_w, i32_w]
            rfl
           refine pure_ (i := 11) (N := some 57) (v := undef) (a' := ?_) (bm 48 4095) rfl rfl (any_of HT_.out (by kernel_rfl)) (fun _ _ _ h => h) (Or.inr ⟨by rfl, rfl⟩) ?_ ?_
           rotate_left
           ·simp only [Act.put, sA, sZ, sS, i64_w, i32_w]
            rfl
           refine pure_ (i := 12) (N := some 58) (v := ?_) (a' := ?_) (bm 48 8191) rfl rfl (any_of HT_.out (by kernel_rfl)) (fun _ _ _ h => h) (Or.inl ⟨by rfl, ?_⟩) ?_ ?_
           rotate_left
           ·intro w'
            go_simp
            with_reducible rfl
           rotate_left
           ·simp only [Act.put, sA, sZ, sS, i64_w, i32_w]
            rfl
           refine pure_ (i := 13) (N := some 59) (v := ?_) (a' := ?_) (bm 48 16383) rfl rfl (any_of HT_.out (by kernel_rfl)) (fun _ _ _ h => h) (Or.inl ⟨by rfl, ?_⟩) ?_ ?_
           rotate_left
           ·intro w'
            go_simp
            with_reducible rfl
           rotate_left
           ·simp only [Act.put, sA, sZ, sS, i64_w, i32_w]
            rfl
           refine pure_ (i := 14) (N := some 60) (v := undef) (a' := ?_) (bm 48 32767) rfl rfl (any_of HT_.out (by kernel_rfl)) (fun _ _ _ h => h) (Or.inr ⟨by rfl, rfl⟩) ?_ ?_
           rotate_left
           ·simp only [Act.put, sA, sZ, sS, i64_w, i32_w]
            rfl
           refine pure_ (i := 15) (N := some 61) (v := undef) (a' := ?_) (bm 48 65535) rfl rfl (any_of HT_.out (by kernel_rfl)) (fun _ _ _ h => h) (Or.inr ⟨by rfl, rfl⟩) ?_ ?_
           rotate_left
           ·simp only [Act.put, sA, sZ, sS, i64_w, i32_w]
            rfl
           refine pure_ (i := 16) (N := some 62) (v := undef) (a' := ?_) (bm 48 131071) rfl rfl (any_of HT_.out (by kernel_rfl)) (fun _ _ _ h => h) (Or.inr ⟨by rfl, rfl⟩) ?_ ?_
           rotate_left
           ·simp only [Act.put, sA, sZ, sS, i64_w, i32_w]
            rfl
           refine pure_ (i := 17) (N := some 63) (v := undef) (a' := ?_) (bm 48 262143) rfl rfl (any_of HT_.out (by kernel_rfl)) (fun _ _ _ h => h) (Or.inr ⟨by rfl, rfl⟩) ?_ ?_
           rotate_left
           ·simp only [Act.put, sA, sZ, sS, i64_w, i32_w]
            rfl
           refine pure_ (i := 18) (N := some 64) (v := undef) (a' := ?_) (bm 48 524287) rfl rfl (any_of HT_.out (by kernel_rfl)) (fun _ _ _ h => h) (Or.inr ⟨by rfl, rfl⟩) ?_ ?_
           rotate_left
           ·simp only [Act.put, sA, sZ, sS, i64_w, i32_w]
            rfl
           refine pure_ (i := 19) (N := some 65) (v := ?_) (a' := ?_) (bm 48 1048575) rfl rfl (any_of HT_.out (by kernel_rfl)) (fun _ _ _ h => h) (Or.inl ⟨by rfl, ?_⟩) ?_ ?_
           rotate_left
           ·intro w'
            go_simp
            with_reducible rfl
           rotate_left
           ·simp only [Act.put, sA, sZ, sS, i64_w, i32_w]
            rfl
           refine pure_ (i := 20) (N := some 66) (v := ?_) (a' := ?_) (bm 48 2097151) rfl rfl (any_of HT_.out (by kernel_rfl)) (fun _ _ _ h => h) (Or.inl ⟨by rfl, ?_⟩) ?_ ?_
           rotate_left
           ·intro w'
            go_simp
            with_reducible rfl
           rotate_left
           ·simp only [Act.put, sA, sZ, sS, i64_w, i32_w]
            rfl
           refine pure_ (i := 21) (N := some 67) (v := undef) (a' := ?_) (bm 48 4194303) rfl rfl (any_of HT_.out (by kernel_rfl)) (fun _ _ _ h => h) (Or.inr ⟨by rfl, rfl⟩) ?_ ?_
           rotate_left
           ·simp only [Act.put, sA, sZ, sS, i64_w, i32_w]
            rfl
           refine pure_ (i := 22) (N := some 68) (v := undef) (a' := ?_) (bm 48 8388607) rfl rfl (any_of HT_.out (by kernel_rfl)) (fun _ _ _ h => h) (Or.inr ⟨by rfl, rfl⟩) ?_ ?_
           rotate_left
           ·simp only [Act.put, sA, sZ, sS, i64_w, i32_w]
            rfl
           refine pure_ (i := 23) (N := some 69) (v := undef) (a' := ?_) (bm 48 16777215) rfl rfl (any_of HT_.out (by kernel_rfl)) (fun _ _ _ h => h) (Or.inr ⟨by rfl, rfl⟩) ?_ ?_
           rotate_left
           ·simp only [Act.put, sA, sZ, sS, i64_w, i32_w]
            rfl
           refine pure_ (i := 24) (N := some 70) (v := undef) (a' := ?_) (bm 48 33554431) rfl rfl (any_of HT_.out (by kernel_rfl)) (fun _ _ _ h => h) (Or.inr ⟨by rfl, rfl⟩) ?_ ?_
           rotate_left
           ·simp only [Act.put, sA, sZ, sS, i64_w, i32_w]
            rfl
           refine pure_ (i := 25) (N := some 71) (v := undef) (a' := ?_) (bm 48 67108863) rfl rfl (any_of HT_.out (by kernel_rfl)) (fun _ _ _ h => h) (Or.inr ⟨by rfl, rfl⟩) ?_ ?_
           rotate_left
           ·simp only [Act.put, sA, sZ, sS, i64_w, i32_w]
            rfl
           refine pure_ (i := 26) (N := some 72) (v := undef) (a' := ?_) (bm 48 134217727) rfl rfl (any_of HT_.out (by kernel_rfl)) (fun _ _ _ h => h) (Or.inr ⟨by rfl, rfl⟩) ?_ ?_
           rotate_left
           ·simp only [Act.put, sA, sZ, sS, i64_w, i32_w]
            rfl
           refine pure_ (i := 27) (N := some 73) (v := undef) (a' := ?_) (bm 48 268435455) rfl rfl (any_of HT_.out (by kernel_rfl)) (fun _ _ _ h => h) (Or.inr ⟨by rfl, rfl⟩) ?_ ?_
           rotate_left
           ·simp only [Act.put, sA, sZ, sS, i64_w, i32_w]
            rfl
           refine pure_ (i := 28) (N := some 74) (v := undef) (a' := ?_) (bm 48 536870911) rfl rfl (any_of HT_.out (by kernel_rfl)) (fun _ _ _ h => h) (Or.inr ⟨by rfl, rfl⟩) ?_ ?_
           rotate_left
           ·simp only [Act.put, sA, sZ, sS, i64_w, i32_w]
            rfl
           refine pure_ (i := 29) (N := some 75) (v := undef) (a' := ?_) (bm 48 1073741823) rfl rfl (any_of HT_.out (by kernel_rfl)) (fun _ _ _ h => h) (Or.inr ⟨by rfl, rfl⟩) ?_ ?_
           rotate_left
           ·simp only [Act.put, sA, sZ, sS, i64_w, i32_w]
            rfl
           refine pure_ (i := 30) (N := some 76) (v := undef) (a' := ?_) (bm 48 2147483647) rfl rfl (any_of HT_.out (by kernel_rfl)) (fun _ _ _ h => h) (Or.inr ⟨by rfl, rfl⟩) ?_ ?_
           rotate_left
           ·simp only [Act.put, sA, sZ, sS, i64_w, i32_w]
            rfl
           refine pure_ (i := 31) (N := some 77) (v := ?_) (a' := ?_) (bm 48 4294967295) rfl rfl (any_of HT_.out (by kernel_rfl)) (fun _ _ _ h => h) (Or.inl ⟨by rfl, ?_⟩) ?_ ?_
           rotate_left
           ·intro w'
            go_simp
            with_reducible rfl
           rotate_left
           ·simp only [Act.put, sA, sZ, sS, i64_w, i32_w]
            rfl
           refine pure_ (i := 32) (N := some 78) (v := ?_) (a' := ?_) (bm 48 8589934591) rfl rfl (any_of HT_.out (by kernel_rfl)) (fun _ _ _ h => h) (Or.inl ⟨by rfl, ?_⟩) ?_ ?_
           rotate_left
           ·intro w'
            go_simp
            with_reducible rfl
           rotate_left
           ·simp only [Act.put, sA, sZ, sS, i64_w, i32_w]
            rfl
           refine pure_ (i := 33) (N := some 79) (v := undef) (a' := ?_) (bm 48 17179869183) rfl rfl (any_of HT_.out (by kernel_rfl)) (fun _ _ _ h => h) (Or.inr ⟨by rfl, rfl⟩) ?_ ?_
           rotate_left
           ·simp only [Act.put, sA, sZ, sS, i64_w, i32_w]
            rfl
           refine pure_ (i := 34) (N := some 80) (v := undef) (a' := ?_) (bm 48 34359738367) rfl rfl (any_of HT_.out (by kernel_rfl)) (fun _ _ _ h => h) (Or.inr ⟨by rfl, rfl⟩) ?_ ?_
           rotate_left
           ·simp only [Act.put, sA, sZ, sS, i64_w, i32_w]
            rfl
           refine pure_ (i := 35) (N := some 81) (v := undef) (a' := ?_) (bm 48 68719476735) rfl rfl (any_of HT_.out (by kernel_rfl)) (fun _ _ _ h => h) (Or.inr ⟨by rfl, rfl⟩) ?_ ?_
           rotate_left
           ·simp only [Act.put, sA, sZ, sS, i64_w, i32_w]
            rfl
           refine pure_ (i := 36) (N := some 82) (v := undef) (a' := ?_) (bm 48 137438953471) rfl rfl (any_of HT_.out (by kernel_rfl)) (fun _ _ _ h => h) (Or.inr ⟨by rfl, rfl⟩) ?_ ?_
           rotate_left
           ·simp only [Act.put, sA, sZ, sS, i64_w, i32_w]
            rfl
           refine pure_ (i := 37) (N := some 83) (v := undef) (a' := ?_) (bm 48 274877906943) rfl rfl (any_of HT_.out (by kernel_rfl)) (fun _ _ _ h => h) (Or.inr ⟨by rfl, rfl⟩) ?_ ?_
           rotate_left
           ·simp only [Act.put, sA, sZ, sS, i64_w, i32_w]
            rfl
           refine pure_ (i := 38) (N := some 84) (v := undef) (a' := ?_) (bm 48 549755813887) rfl rfl (any_of HT_.out (by kernel_rfl)) (fun _ _ _ h => h) (Or.inr ⟨by rfl, rfl⟩) ?_ ?_
           rotate_left
           ·simp only [Act.put, sA, sZ, sS, i64_w, i32_w]
            rfl
           refine pure_ (i := 39) (N := some 85) (v := undef) (a' := ?_) (bm 48 1099511627775) rfl rfl (any_of HT_.out (by kernel_rfl)) (fun _ _ _ h => h) (Or.inr ⟨by rfl, rfl⟩) ?_ ?_
           rotate_left
           ·simp only [Act.put, sA, sZ, sS, i64_w, i32_w]
            rfl
           refine pure_ (i := 40) (N := some 86) (v := undef) (a' := ?_) (bm 48 2199023255551) rfl rfl (any_of HT_.out (by kernel_rfl)) (fun _ _ _ h => h) (Or.inr ⟨by rfl, rfl⟩) ?_ ?_
           rotate_left
           ·simp only [Act.put, sA, sZ, sS, i64_w, i32_w]
            rfl
           refine pure_ (i := 41) (N := some 87) (v := undef) (a' := ?_) (bm 48 4398046511103) rfl rfl (any_of HT_.out (by kernel_rfl)) (fun _ _ _ h => h) (Or.inr ⟨by rfl, rfl⟩) ?_ ?_
           rotate_left
           ·simp only [Act.put, sA, sZ, sS, i64_w, i32_w]
            rfl
           refine pure_ (i := 42) (N := some 88) (v := undef) (a' := ?_) (bm 48 8796093022207) rfl rfl (any_of HT_.out (by kernel_rfl)) (fun _ _ _ h => h) (Or.inr ⟨by rfl, rfl⟩) ?_ ?_
           rotate_left
           ·simp only [Act.put, sA, sZ, sS, i64_w, i32_w]
            rfl
           refine pure_ (i := 43) (N := some 89) (v := undef) (a' := ?_) (bm 48 17592186044415) rfl rfl (any_of HT_.out (by kernel_rfl)) (fun _ _ _ h => h) (Or.inr ⟨by rfl, rfl⟩) ?_ ?_
           rotate_left
           ·simp only [Act.put, sA, sZ, sS, i64_w, i32_w]
            rfl
           refine pure_ (i := 44) (N := some 90) (v := undef) (a' := ?_) (bm 48 35184372088831) rfl rfl (any_of HT_.out (by kernel_rfl)) (fun _ _ _ h => h) (Or.inr ⟨by rfl, rfl⟩) ?_ ?_
           rotate_left
           ·simp only [Act.put, sA, sZ, sS, i64_w, i32_w]
            rfl
           refine pure_ (i := 45) (N := some 91) (v := undef) (a' := ?_) (bm 48 70368744177663) rfl rfl (any_of HT_.out (by kernel_rfl)) (fun _ _ _ h => h) (Or.inr ⟨by rfl, rfl⟩) ?_ ?_
           rotate_left
           ·simp only [Act.put, sA, sZ, sS, i64_w, i32_w]
            rfl
           refine pure_ (i := 46) (N := some 92) (v := undef) (a' := ?_) (bm 48 140737488355327) rfl rfl (any_of HT_.out (by kernel_rfl)) (fun _ _ _ h => h) (Or.inr ⟨by rfl, rfl⟩) ?_ ?_
           rotate_left
           ·simp only [Act.put, sA, sZ, sS, i64_w, i32_w]
            rfl
           refine pure_ (i := 47) (N := some 93) (v := ?_) (a' := ?_) (bm 48 281474976710655) rfl rfl (any_of HT_.out (by kernel_rfl)) (fun _ _ _ h => h) (Or.inl ⟨by rfl, ?_⟩) ?_ ?_
           rotate_left
           ·intro w'
            go_simp
            with_reducible rfl
           rotate_left
           ·simp only [Act.put, sA, sZ, sS, i64_w, i32_w]
            rfl
           refine done_ (done_of HT_.out (by kernel_rfl)) ?_
           try go_wp2
           go_meet
           case rel => exact ⟨_, (true), (by first | rfl | (simp; done) | (simp [*]; done)), H', ⟨by have := HJ1.out; have := HK2.out; first | omega | exact Nat.le_refl _⟩, ⟨by (with_reducible repeat (first | refine bN ?_ _ | refine bD ?_ | refine bA ?_ _)); exact BK186.out⟩, ⟨by (with_reducible repeat (first | refine bN ?_ _ | refine bD ?_ | refine bA ?_ _)); exact BK191.out⟩, ⟨by repeat (first | (with_reducible first | exact HB.out | apply below_alloc | apply pw_below_drewN | apply below_drew1 | refine below_set ?_ GE186.out | refine below_set ?_ GE191.out) | exact HB.out)⟩⟩
         case rest =>
          clear HC21
          try clear c1
          try clear c2
          try clear p2
          try clear c8
          try clear c17
          try clear c26
          obtain ⟨kq, x93_20, rfl, HA, HJ20, BK186, BK191, HB⟩ := hcut
          cases kq with
          | zero => exact absurd HA.out (by simp [impl_GoodInflow.j2])
          | succ kj20 =>
           have H := HA.out
           clear HA
           simp only [impl_GoodInflow.j2] at H
           by_cases c70 : x93_20 = true
           ·subst c70
            have H1 : (some false) = some r := by rw [if_pos rfl] at H; exact H
            clear H
            have H := H1
            clear H1
            obtain rfl := Option.some.inj H
            go_wp2
            go_ret
            exact ⟨by first | rfl | (simp only [Go.Proofs.Ythkmjfapljmmpaa.StoreK.ne_nil_b]; first | done | rfl | (simp; done)) | (simp [errW_none, errW_some] <;> rfl) | (simp [*, errW_none, errW_some] <;> rfl), by repeat (first | (with_reducible first | exact HB.out | apply below_alloc | apply pw_below_drewN | apply below_drew1 | refine below_set ?_ GE186.out | refine below_set ?_ GE191.out) | exact HB.out)⟩
           ·replace c70 := Bool.eq_false_iff.mpr c70
            subst c70
            have H1 : (impl_GoodInflow.l0 kj20 l0_3 (l0_3.length : Int) (wrap64 (x41_2 + 1)) a0_0 a0_1 a0_2 l0_3) = some r := by rw [if_neg (show ¬ (false = true) by decide)] at H; exact H
            clear H
            have H := H1
            clear H1
            have H' := Aside0.mk H
            clear H
            go_wp2
            go_roundg kj20
            case measure => have := HJ1.out; have := HK2.out; have := HJ20.out; omega
            case rel => exact ⟨(wrap64 (x41_2 + 1)), (by first | rfl | (simp; done) | (simp [*]; done)), H', ⟨by have := HJ1.out; have := HK2.out; have := HJ20.out; omega⟩, ⟨by (with_reducible repeat (first | refine bN ?_ _ | refine bD ?_ | refine bA ?_ _)); exact BK186.out⟩, ⟨by repeat (first | (with_reducible first | exact HB.out | apply below_alloc | apply pw_below_drewN | apply below_drew1 | refine below_set ?_ GE186.out | refine below_set ?_ GE191.out) | exact HB.out)⟩⟩
        ·rw [if_neg c20] at H
         exact absurd H (by simp)
       ·rw [if_neg c19] at H
        exact absurd H (by simp)
      ·rw [if_neg c18] at H
       have c18b0 : decide (x41_2 < (l0_3.length : Int)) = false := decide_eq_false c18
       clear c18
       obtain rfl := Option.some.inj H
       go_wp2
       go_ret
       exact ⟨by first | rfl | (simp only [Go.Proofs.Ythkmjfapljmmpaa.StoreK.ne_nil_b]; first | done | rfl | (simp; done)) | (simp [errW_none, errW_some] <;> rfl) | (simp [*, errW_none, errW_some] <;> rfl), by repeat (first | (with_reducible first | exact HB.out | apply below_alloc | apply pw_below_drewN | apply below_drew1 | refine below_set ?_ GE186.out) | exact HB.out)⟩

end Go.Proofs.Ythkmjfapljmmpaa.PFnExactReadSome
