-- Written by a program of this session (wip/xprint.py).
import Derived.Test.YtikomfdkdoognaaPFnExactGoodInflowx0
import Derived.Test.YtikomfdkdoognaaPFnExactGoodInflowx1
namespace Go.Proofs.Ytikomfdkdoognaa.PFnExactGoodInflow
open Go.RowKit Go.Proofs.YtikomfdkdoognaaW.PrintWords Go.Proofs.YtikomfdkdoognaaW.PrintLast Go.Proofs.YtikomfdkdoognaaW.PrintMore
attribute [local go_sem] Go.Proofs.Ytikomfdkdoognaa.StoreK.isSome_setCell max2_int min2_int max_two min_two max_three min_three max_four min_four   -- for this text's walks alone
set_option linter.unusedVariables false
set_option linter.unusedSimpArgs false

/-! ### spec_GoodInflow: function 48 -/
mutual
def spec_GoodInflow.j0 : Nat → Bool → Int → Int → Int → List (S118) → Option (Bool)
 | 0, _, _, _, _, _ => none
 | k + 1, x38, x115000, x115001, x115002, x115003 => if x38 = true then (some false) else (spec_GoodInflow.l0 k (wrap64 (x115001 - 1)) x115003 (x115003.length : Int) 0 x115000 x115001 x115002 x115003)
def spec_GoodInflow.l0 : Nat → Int → List (S118) → Int → Int → Int → Int → Int → List (S118) → Option (Bool)
 | 0, _, _, _, _, _, _, _, _ => none
 | k + 1, x3, x43, x44, x45, x115000, x115001, x115002, x115003 => if x45 < x44 then (if 0 ≤ x45 then (if x45 < (x43.length : Int) then (if ((rd_T118 x43 x45).f1).toList = ([] : List UInt8) then (spec_GoodInflow.j2 k x43 x44 x45 true x115000 x115001 x115002 x115003 ((rd_T118 x43 x45).f0) ((rd_T118 x43 x45).f1)) else (if ((rd_T118 x43 x45).f0) ≤ x3 then (if x45 > 0 then (spec_GoodInflow.j2 k x43 x44 x45 true x115000 x115001 x115002 x115003 ((rd_T118 x43 x45).f0) ((rd_T118 x43 x45).f1)) else (spec_GoodInflow.j2 k x43 x44 x45 (decide (((rd_T118 x43 x45).f0) < x115001)) x115000 x115001 x115002 x115003 ((rd_T118 x43 x45).f0) ((rd_T118 x43 x45).f1))) else (spec_GoodInflow.j2 k x43 x44 x45 false x115000 x115001 x115002 x115003 ((rd_T118 x43 x45).f0) ((rd_T118 x43 x45).f1)))) else (none)) else (none)) else (some true)
def spec_GoodInflow.j2 : Nat → List (S118) → Int → Int → Bool → Int → Int → Int → List (S118) → Int → ByteArray → Option (Bool)
 | 0, _, _, _, _, _, _, _, _, _, _ => none
 | k + 1, x43, x44, x45, x69, x115000, x115001, x115002, x115003, x120000, x120001 => if x69 = true then (some false) else (if x120000 > (wrap64 (x115000 - (x120001.size : Int))) then (spec_GoodInflow.j3 k x43 x44 x45 true x115000 x115001 x115002 x115003 x120000 x120001) else (if x115002 = (-1) then (spec_GoodInflow.j3 k x43 x44 x45 false x115000 x115001 x115002 x115003 x120000 x120001) else (spec_GoodInflow.j3 k x43 x44 x45 (decide (x120000 > (wrap64 (x115002 - (x120001.size : Int))))) x115000 x115001 x115002 x115003 x120000 x120001)))
def spec_GoodInflow.j3 : Nat → List (S118) → Int → Int → Bool → Int → Int → Int → List (S118) → Int → ByteArray → Option (Bool)
 | 0, _, _, _, _, _, _, _, _, _, _ => none
 | k + 1, x43, x44, x45, x94, x115000, x115001, x115002, x115003, x120000, x120001 => if x94 = true then (some false) else (spec_GoodInflow.l0 k (wrap64 (x120000 + (x120001.size : Int))) x43 x44 (wrap64 (x45 + 1)) x115000 x115001 x115002 x115003)
end
def spec_GoodInflow.f (k : Nat) (a0_0 : Int) (a0_1 : Int) (a0_2 : Int) (l0_3 : List (S118)) : Option (Bool) := (spec_l1In.f a0_0 0 4000).bind fun t115 => (if t115 = true then ((spec_l1In.f a0_1 0 a0_0).bind fun t116 => (if t116 = true then (if a0_2 = (-1) then (spec_GoodInflow.j0 k (decide ((l0_3.length : Int) > 40)) a0_0 a0_1 a0_2 l0_3) else ((spec_l1In.f a0_2 a0_1 a0_0).bind fun t117 => (if t117 = true then (spec_GoodInflow.j0 k (decide ((l0_3.length : Int) > 40)) a0_0 a0_1 a0_2 l0_3) else (spec_GoodInflow.j0 k true a0_0 a0_1 a0_2 l0_3)))) else (spec_GoodInflow.j0 k true a0_0 a0_1 a0_2 l0_3))) else (spec_GoodInflow.j0 k true a0_0 a0_1 a0_2 l0_3))
theorem spec_GoodInflow.mono_l : ∀ k, (∀ y0 y1 y2 y3 y4, LeO (spec_GoodInflow.j0 k y0 y1 y2 y3 y4) (spec_GoodInflow.j0 (k + 1) y0 y1 y2 y3 y4)) ∧ (∀ y0 y1 y2 y3 y4 y5 y6 y7, LeO (spec_GoodInflow.l0 k y0 y1 y2 y3 y4 y5 y6 y7) (spec_GoodInflow.l0 (k + 1) y0 y1 y2 y3 y4 y5 y6 y7)) ∧ (∀ y0 y1 y2 y3 y4 y5 y6 y7 y8 y9, LeO (spec_GoodInflow.j2 k y0 y1 y2 y3 y4 y5 y6 y7 y8 y9) (spec_GoodInflow.j2 (k + 1) y0 y1 y2 y3 y4 y5 y6 y7 y8 y9)) ∧ (∀ y0 y1 y2 y3 y4 y5 y6 y7 y8 y9, LeO (spec_GoodInflow.j3 k y0 y1 y2 y3 y4 y5 y6 y7 y8 y9) (spec_GoodInflow.j3 (k + 1) y0 y1 y2 y3 y4 y5 y6 y7 y8 y9))
 | 0 => ⟨fun _ _ _ _ _ r h => by simp [spec_GoodInflow.j0] at h, fun _ _ _ _ _ _ _ _ r h => by simp [spec_GoodInflow.l0] at h, fun _ _ _ _ _ _ _ _ _ _ r h => by simp [spec_GoodInflow.j2] at h, fun _ _ _ _ _ _ _ _ _ _ r h => by simp [spec_GoodInflow.j3] at h⟩
 | k + 1 => by
  obtain ⟨ih0, ih1, ih2, ih3⟩ := spec_GoodInflow.mono_l k
  refine ⟨?_, ?_, ?_, ?_⟩
  ·intro y0 y1 y2 y3 y4
   unfold spec_GoodInflow.j0
   repeat' first
   | (with_reducible exact ih0 _ _ _ _ _)
   | (with_reducible exact ih1 _ _ _ _ _ _ _ _)
   | (with_reducible exact ih2 _ _ _ _ _ _ _ _ _ _)
   | (with_reducible exact ih3 _ _ _ _ _ _ _ _ _ _)
   | (with_reducible exact LeO.refl _)
   | (with_reducible exact LeO.none _)
   | (with_reducible refine LeO.ite ?_ ?_)
   | (with_reducible refine LeO.bind ?_ (fun _ => ?_))
   | exact ih0 _ _ _ _ _
   | exact ih1 _ _ _ _ _ _ _ _
   | exact ih2 _ _ _ _ _ _ _ _ _ _
   | exact ih3 _ _ _ _ _ _ _ _ _ _
   | exact LeO.none _
   | refine LeO.ite ?_ ?_
   | refine LeO.bind ?_ (fun _ => ?_)
  ·intro y0 y1 y2 y3 y4 y5 y6 y7
   unfold spec_GoodInflow.l0
   repeat' first
   | (with_reducible exact ih0 _ _ _ _ _)
   | (with_reducible exact ih1 _ _ _ _ _ _ _ _)
   | (with_reducible exact ih2 _ _ _ _ _ _ _ _ _ _)
   | (with_reducible exact ih3 _ _ _ _ _ _ _ _ _ _)
   | (with_reducible exact LeO.refl _)
   | (with_reducible exact LeO.none _)
   | (with_reducible refine LeO.ite ?_ ?_)
   | (with_reducible refine LeO.bind ?_ (fun _ => ?_))
   | exact ih0 _ _ _ _ _
   | exact ih1 _ _ _ _ _ _ _ _
   | exact ih2 _ _ _ _ _ _ _ _ _ _
   | exact ih3 _ _ _ _ _ _ _ _ _ _
   | exact LeO.none _
   | refine LeO.ite ?_ ?_
   | refine LeO.bind ?_ (fun _ => ?_)
  ·intro y0 y1 y2 y3 y4 y5 y6 y7 y8 y9
   unfold spec_GoodInflow.j2
   repeat' first
   | (with_reducible exact ih0 _ _ _ _ _)
   | (with_reducible exact ih1 _ _ _ _ _ _ _ _)
   | (with_reducible exact ih2 _ _ _ _ _ _ _ _ _ _)
   | (with_reducible exact ih3 _ _ _ _ _ _ _ _ _ _)
   | (with_reducible exact LeO.refl _)
   | (with_reducible exact LeO.none _)
   | (with_reducible refine LeO.ite ?_ ?_)
   | (with_reducible refine LeO.bind ?_ (fun _ => ?_))
   | exact ih0 _ _ _ _ _
   | exact ih1 _ _ _ _ _ _ _ _
   | exact ih2 _ _ _ _ _ _ _ _ _ _
   | exact ih3 _ _ _ _ _ _ _ _ _ _
   | exact LeO.none _
   | refine LeO.ite ?_ ?_
   | refine LeO.bind ?_ (fun _ => ?_)
  ·intro y0 y1 y2 y3 y4 y5 y6 y7 y8 y9
   unfold spec_GoodInflow.j3
   repeat' first
   | (with_reducible exact ih0 _ _ _ _ _)
   | (with_reducible exact ih1 _ _ _ _ _ _ _ _)
   | (with_reducible exact ih2 _ _ _ _ _ _ _ _ _ _)
   | (with_reducible exact ih3 _ _ _ _ _ _ _ _ _ _)
   | (with_reducible exact LeO.refl _)
   | (with_reducible exact LeO.none _)
   | (with_reducible refine LeO.ite ?_ ?_)
   | (with_reducible refine LeO.bind ?_ (fun _ => ?_))
   | exact ih0 _ _ _ _ _
   | exact ih1 _ _ _ _ _ _ _ _
   | exact ih2 _ _ _ _ _ _ _ _ _ _
   | exact ih3 _ _ _ _ _ _ _ _ _ _
   | exact LeO.none _
   | refine LeO.ite ?_ ?_
   | refine LeO.bind ?_ (fun _ => ?_)
theorem spec_GoodInflow.mono : ∀ a0 a1 a2 a3 k, LeO (spec_GoodInflow.f k a0 a1 a2 a3) (spec_GoodInflow.f (k + 1) a0 a1 a2 a3) := by
 intro a0 a1 a2 a3 k
 obtain ⟨ih0, ih1, ih2, ih3⟩ := spec_GoodInflow.mono_l k
 unfold spec_GoodInflow.f
 repeat' first
   | (with_reducible exact ih0 _ _ _ _ _)
   | (with_reducible exact ih1 _ _ _ _ _ _ _ _)
   | (with_reducible exact ih2 _ _ _ _ _ _ _ _ _ _)
   | (with_reducible exact ih3 _ _ _ _ _ _ _ _ _ _)
   | (with_reducible exact LeO.refl _)
   | (with_reducible exact LeO.none _)
   | (with_reducible refine LeO.ite ?_ ?_)
   | (with_reducible refine LeO.bind ?_ (fun _ => ?_))
   | exact ih0 _ _ _ _ _
   | exact ih1 _ _ _ _ _ _ _ _
   | exact ih2 _ _ _ _ _ _ _ _ _ _
   | exact ih3 _ _ _ _ _ _ _ _ _ _
   | exact LeO.none _
   | refine LeO.ite ?_ ?_
   | refine LeO.bind ?_ (fun _ => ?_)
set_option maxHeartbeats 8000000 in
set_option maxRecDepth 100000 in
theorem spec_GoodInflow.calls (k : Nat) (a0_0 : Int) (a0_1 : Int) (a0_2 : Int) (A0_3 : Option Addr) (c0_3 : Nat) (l0_3 : List (S118)) (r : Bool) (w : World) (hr0_3 : Kd.C k118 w A0_3 l0_3.length l0_3) (hc0_3 : l0_3.length ≤ c0_3) (h : spec_GoodInflow.f k a0_0 a0_1 a0_2 l0_3 = some r) :
  Calls Try.prog 48 #[.agg #[.int .i64 a0_0, .int .i64 a0_1, .int .i64 a0_2, .slice A0_3 l0_3.length c0_3]] w fun e w' => e = .returned (.bool r) ∧ Below w.heap.size w w' := by
 have hu67 := Try.underlying67
 have hu118 := Try.underlying118
 have HR0_3 := Aside0.mk hr0_3
 have HC0_3 := Aside0.mk hc0_3
 clear hr0_3 hc0_3
 have HB := Aside0.mk (Below.refl w.heap.size w)
 have H : ((spec_l1In.f a0_0 0 4000).bind fun t115 => (if t115 = true then ((spec_l1In.f a0_1 0 a0_0).bind fun t116 => (if t116 = true then (if a0_2 = (-1) then (spec_GoodInflow.j0 k (decide ((l0_3.length : Int) > 40)) a0_0 a0_1 a0_2 l0_3) else ((spec_l1In.f a0_2 a0_1 a0_0).bind fun t117 => (if t117 = true then (spec_GoodInflow.j0 k (decide ((l0_3.length : Int) > 40)) a0_0 a0_1 a0_2 l0_3) else (spec_GoodInflow.j0 k true a0_0 a0_1 a0_2 l0_3)))) else (spec_GoodInflow.j0 k true a0_0 a0_1 a0_2 l0_3))) else (spec_GoodInflow.j0 k true a0_0 a0_1 a0_2 l0_3))) = some r := h
 clear h
 have HC2 := Aside0.mk H
 clear H
 go_enter Try.func48, Try.ntmps48
 go_upto_region 1 with (first | ((with_reducible refine gate_dst (N := 1) rfl ?_); (try (refine gate_guard (by rfl) ?_; dsimp only)); refine box_event ?hg (N := 1) ?hd (cs := #[.int .i64 a0_0, .int .i64 a0_1, .int .i64 a0_2, .slice A0_3 l0_3.length c0_3]) (t := 67) ?hr ?_; (case hd => rfl); (case hg => rfl); (case hr => first | (go_simp; done) | (go_simp; rfl)); intro gb114 hg w3 hbox hb; have n0_ := Aside0.mk (below_step (by repeat (first | (with_reducible first | exact HB.out | apply below_alloc | apply pw_below_drewN | apply below_drew1) | exact HB.out)) hb); have n1_ := Aside0.mk (hbox); have n2_ := Aside0.mk ((by rw [hg]; exact (below_size (by repeat (first | (with_reducible first | exact HB.out | apply below_alloc | apply pw_below_drewN | apply below_drew1) | exact HB.out))) : w.heap.size ≤ gb114)); have n3_ := n2_; clear HB; have HB := n0_; have BK114 := n1_; have GW114 := n2_; have GE114 := n3_; clear n0_ n1_ n2_ n3_; clear hb hbox hg))
 (try simp only [Act.put, List.setIfInBounds_toArray, List.set_cons_zero, List.set_cons_succ])
 go_cut [38] (fun v38 wc => ∃ (kq : Nat) (x38_1 : Bool), v38 = .bool x38_1 ∧ Aside0 (spec_GoodInflow.j0 kq x38_1 a0_0 a0_1 a0_2 l0_3 = some r) ∧ Aside0 (kq ≤ k) ∧ Aside0 (wc.heap[gb114]? = some (.cells #[.int .i64 a0_0, .int .i64 a0_1, .int .i64 a0_2, (.slice A0_3 l0_3.length c0_3)] 67 (0, 0))) ∧ Aside0 (Below w.heap.size w wc))
 case first =>
  have H := HC2.out
  clear HC2
  replace H := Option.bind_eq_some_iff.mp H
  obtain ⟨t115, A40, H⟩ := H
  replace H : (if t115 = true then ((spec_l1In.f a0_1 0 a0_0).bind fun t116 => (if t116 = true then (if a0_2 = (-1) then (spec_GoodInflow.j0 k (decide ((l0_3.length : Int) > 40)) a0_0 a0_1 a0_2 l0_3) else ((spec_l1In.f a0_2 a0_1 a0_0).bind fun t117 => (if t117 = true then (spec_GoodInflow.j0 k (decide ((l0_3.length : Int) > 40)) a0_0 a0_1 a0_2 l0_3) else (spec_GoodInflow.j0 k true a0_0 a0_1 a0_2 l0_3)))) else (spec_GoodInflow.j0 k true a0_0 a0_1 a0_2 l0_3))) else (spec_GoodInflow.j0 k true a0_0 a0_1 a0_2 l0_3)) = some r := H
  have A4 := Aside0.mk A40
  clear A40
  by_cases c5 : t115 = true
  ·subst c5
   have H1 : ((spec_l1In.f a0_1 0 a0_0).bind fun t116 => (if t116 = true then (if a0_2 = (-1) then (spec_GoodInflow.j0 k (decide ((l0_3.length : Int) > 40)) a0_0 a0_1 a0_2 l0_3) else ((spec_l1In.f a0_2 a0_1 a0_0).bind fun t117 => (if t117 = true then (spec_GoodInflow.j0 k (decide ((l0_3.length : Int) > 40)) a0_0 a0_1 a0_2 l0_3) else (spec_GoodInflow.j0 k true a0_0 a0_1 a0_2 l0_3)))) else (spec_GoodInflow.j0 k true a0_0 a0_1 a0_2 l0_3))) = some r := by rw [if_pos rfl] at H; exact H
   clear H
   have H := H1
   clear H1
   replace H := Option.bind_eq_some_iff.mp H
   obtain ⟨t116, A60, H⟩ := H
   replace H : (if t116 = true then (if a0_2 = (-1) then (spec_GoodInflow.j0 k (decide ((l0_3.length : Int) > 40)) a0_0 a0_1 a0_2 l0_3) else ((spec_l1In.f a0_2 a0_1 a0_0).bind fun t117 => (if t117 = true then (spec_GoodInflow.j0 k (decide ((l0_3.length : Int) > 40)) a0_0 a0_1 a0_2 l0_3) else (spec_GoodInflow.j0 k true a0_0 a0_1 a0_2 l0_3)))) else (spec_GoodInflow.j0 k true a0_0 a0_1 a0_2 l0_3)) = some r := H
   have A6 := Aside0.mk A60
   clear A60
   by_cases c7 : t116 = true
   ·subst c7
    have H1 : (if a0_2 = (-1) then (spec_GoodInflow.j0 k (decide ((l0_3.length : Int) > 40)) a0_0 a0_1 a0_2 l0_3) else ((spec_l1In.f a0_2 a0_1 a0_0).bind fun t117 => (if t117 = true then (spec_GoodInflow.j0 k (decide ((l0_3.length : Int) > 40)) a0_0 a0_1 a0_2 l0_3) else (spec_GoodInflow.j0 k true a0_0 a0_1 a0_2 l0_3)))) = some r := by rw [if_pos rfl] at H; exact H
    clear H
    have H := H1
    clear H1
    by_cases c8 : a0_2 = (-1)
    ·rw [if_pos c8] at H
     have c8b0 : (a0_2 == (-1)) = true := beq_iff_eq.mpr c8
     have c8b1 : (a0_2 != (-1)) = false := bne_eq_false_iff_eq.mpr c8
     clear c8
     (first | rw [c8b0] | (simp only [i64_w, i32_w]; rw [c8b0]) | skip)
     have H' := Aside0.mk H
     clear H
     have hcz9_0 : w3.cell? ⟨gb114, 0, none⟩ = some (.int .i64 a0_0) := (blk_cell BK114.out 0).trans rfl
     have hcz9_1 : w3.cell? ⟨gb114, 1, none⟩ = some (.int .i64 a0_1) := (blk_cell BK114.out 1).trans rfl
     have hcz9_2 : w3.cell? ⟨gb114, 2, none⟩ = some (.int .i64 a0_2) := (blk_cell BK114.out 2).trans rfl
     have hcz9_3 : w3.cell? ⟨gb114, 3, none⟩ = some (.slice A0_3 l0_3.length c0_3) := (blk_cell BK114.out 3).trans rfl
     have hfz9_0 := blk_frozen BK114.out 0
     have hfz9_1 := blk_frozen BK114.out 1
     have hfz9_2 := blk_frozen BK114.out 2
     have hfz9_3 := blk_frozen BK114.out 3
     go_wp2_with (first | ((with_reducible refine gate_callee (f := 58) rfl ?_); refine goesL_ (some 8) rfl rfl Try.func58 (by kernel_rfl) rfl #[.int .i64 a0_0, .int .i64 0, .int .i64 4000] rfl (by (try simp only [List.map_toArray, List.map_cons, List.map_nil]); first | done | rfl | (simp only [List.length_drop, List.length_take]; rfl)) ?_; (with_reducible refine (spec_l1In.calls a0_0 0 4000 true _ A4.out).mono ?_); rintro e w' ⟨rfl, ⟨nd, rfl⟩⟩; refine ⟨_, rfl, ?_⟩) | (go_at_call 58; (with_reducible refine (spec_l1In.calls a0_1 0 a0_0 true _ A6.out).mono ?_); rintro e w' ⟨rfl, ⟨nd, rfl⟩⟩))
     go_meet
     case rel => exact ⟨_, (decide ((l0_3.length : Int) > 40)), (by first | rfl | (simp; done) | (simp [*]; done)), H', ⟨by first | omega | exact Nat.le_refl _⟩, ⟨by (with_reducible repeat (first | refine blk_drewN ?_ _ | refine blk_drew ?_ | refine blk_alloc ?_ _)); exact BK114.out⟩, ⟨by repeat (first | (with_reducible first | exact HB.out | apply below_alloc | apply pw_below_drewN | apply below_drew1 | refine below_set ?_ GE114.out) | exact HB.out)⟩⟩
    ·rw [if_neg c8] at H
     have c8b0 : (a0_2 == (-1)) = false := beq_eq_false_iff_ne.mpr c8
     have c8b1 : (a0_2 != (-1)) = true := bne_iff_ne.mpr c8
     (first | rw [c8b0] | (simp only [i64_w, i32_w]; rw [c8b0]) | skip)
     replace H := Option.bind_eq_some_iff.mp H
     obtain ⟨t117, A100, H⟩ := H
     replace H : (if t117 = true then (spec_GoodInflow.j0 k (decide ((l0_3.length : Int) > 40)) a0_0 a0_1 a0_2 l0_3) else (spec_GoodInflow.j0 k true a0_0 a0_1 a0_2 l0_3)) = some r := H
     have A10 := Aside0.mk A100
     clear A100
     by_cases c11 : t117 = true
     ·subst c11
      have H1 : (spec_GoodInflow.j0 k (decide ((l0_3.length : Int) > 40)) a0_0 a0_1 a0_2 l0_3) = some r := by rw [if_pos rfl] at H; exact H
      clear H
      have H := H1
      clear H1
      have H' := Aside0.mk H
      clear H
      have hcz12_0 : w3.cell? ⟨gb114, 0, none⟩ = some (.int .i64 a0_0) := (blk_cell BK114.out 0).trans rfl
      have hcz12_1 : w3.cell? ⟨gb114, 1, none⟩ = some (.int .i64 a0_1) := (blk_cell BK114.out 1).trans rfl
      have hcz12_2 : w3.cell? ⟨gb114, 2, none⟩ = some (.int .i64 a0_2) := (blk_cell BK114.out 2).trans rfl
      have hcz12_3 : w3.cell? ⟨gb114, 3, none⟩ = some (.slice A0_3 l0_3.length c0_3) := (blk_cell BK114.out 3).trans rfl
      have hfz12_0 := blk_frozen BK114.out 0
      have hfz12_1 := blk_frozen BK114.out 1
      have hfz12_2 := blk_frozen BK114.out 2
      have hfz12_3 := blk_frozen BK114.out 3
      go_wp2_with (first | ((with_reducible refine gate_callee (f := 58) rfl ?_); refine goesL_ (some 8) rfl rfl Try.func58 (by kernel_rfl) rfl #[.int .i64 a0_0, .int .i64 0, .int .i64 4000] rfl (by (try simp only [List.map_toArray, List.map_cons, List.map_nil]); first | done | rfl | (simp only [List.length_drop, List.length_take]; rfl)) ?_; (with_reducible refine (spec_l1In.calls a0_0 0 4000 true _ A4.out).mono ?_); rintro e w' ⟨rfl, ⟨nd, rfl⟩⟩; refine ⟨_, rfl, ?_⟩) | (go_at_call 58; (with_reducible refine (spec_l1In.calls a0_1 0 a0_0 true _ A6.out).mono ?_); rintro e w' ⟨rfl, ⟨nd, rfl⟩⟩) | (go_at_call 58; (with_reducible refine (spec_l1In.calls a0_2 a0_1 a0_0 true _ A10.out).mono ?_); rintro e w' ⟨rfl, ⟨nd, rfl⟩⟩))
      go_meet
      case rel => exact ⟨_, (decide ((l0_3.length : Int) > 40)), (by first | rfl | (simp; done) | (simp [*]; done)), H', ⟨by first | omega | exact Nat.le_refl _⟩, ⟨by (with_reducible repeat (first | refine blk_drewN ?_ _ | refine blk_drew ?_ | refine blk_alloc ?_ _)); exact BK114.out⟩, ⟨by repeat (first | (with_reducible first | exact HB.out | apply below_alloc | apply pw_below_drewN | apply below_drew1 | refine below_set ?_ GE114.out) | exact HB.out)⟩⟩
     ·replace c11 := Bool.eq_false_iff.mpr c11
      subst c11
      have H1 : (spec_GoodInflow.j0 k true a0_0 a0_1 a0_2 l0_3) = some r := by rw [if_neg (show ¬ (false = true) by decide)] at H; exact H
      clear H
      have H := H1
      clear H1
      have H' := Aside0.mk H
      clear H
      have hcz13_0 : w3.cell? ⟨gb114, 0, none⟩ = some (.int .i64 a0_0) := (blk_cell BK114.out 0).trans rfl
      have hcz13_1 : w3.cell? ⟨gb114, 1, none⟩ = some (.int .i64 a0_1) := (blk_cell BK114.out 1).trans rfl
      have hcz13_2 : w3.cell? ⟨gb114, 2, none⟩ = some (.int .i64 a0_2) := (blk_cell BK114.out 2).trans rfl
      have hcz13_3 : w3.cell? ⟨gb114, 3, none⟩ = some (.slice A0_3 l0_3.length c0_3) := (blk_cell BK114.out 3).trans rfl
      have hfz13_0 := blk_frozen BK114.out 0
      have hfz13_1 := blk_frozen BK114.out 1
      have hfz13_2 := blk_frozen BK114.out 2
      have hfz13_3 := blk_frozen BK114.out 3
      go_wp2_with (first | ((with_reducible refine gate_callee (f := 58) rfl ?_); refine goesL_ (some 8) rfl rfl Try.func58 (by kernel_rfl) rfl #[.int .i64 a0_0, .int .i64 0, .int .i64 4000] rfl (by (try simp only [List.map_toArray, List.map_cons, List.map_nil]); first | done | rfl | (simp only [List.length_drop, List.length_take]; rfl)) ?_; (with_reducible refine (spec_l1In.calls a0_0 0 4000 true _ A4.out).mono ?_); rintro e w' ⟨rfl, ⟨nd, rfl⟩⟩; refine ⟨_, rfl, ?_⟩) | (go_at_call 58; (with_reducible refine (spec_l1In.calls a0_1 0 a0_0 true _ A6.out).mono ?_); rintro e w' ⟨rfl, ⟨nd, rfl⟩⟩) | (go_at_call 58; (with_reducible refine (spec_l1In.calls a0_2 a0_1 a0_0 false _ A10.out).mono ?_); rintro e w' ⟨rfl, ⟨nd, rfl⟩⟩))
      go_meet
      case rel => exact ⟨_, (true), (by first | rfl | (simp; done) | (simp [*]; done)), H', ⟨by first | omega | exact Nat.le_refl _⟩, ⟨by (with_reducible repeat (first | refine blk_drewN ?_ _ | refine blk_drew ?_ | refine blk_alloc ?_ _)); exact BK114.out⟩, ⟨by repeat (first | (with_reducible first | exact HB.out | apply below_alloc | apply pw_below_drewN | apply below_drew1 | refine below_set ?_ GE114.out) | exact HB.out)⟩⟩
   ·replace c7 := Bool.eq_false_iff.mpr c7
    subst c7
    have H1 : (spec_GoodInflow.j0 k true a0_0 a0_1 a0_2 l0_3) = some r := by rw [if_neg (show ¬ (false = true) by decide)] at H; exact H
    clear H
    have H := H1
    clear H1
    have H' := Aside0.mk H
    clear H
    have hcz14_0 : w3.cell? ⟨gb114, 0, none⟩ = some (.int .i64 a0_0) := (blk_cell BK114.out 0).trans rfl
    have hcz14_1 : w3.cell? ⟨gb114, 1, none⟩ = some (.int .i64 a0_1) := (blk_cell BK114.out 1).trans rfl
    have hcz14_2 : w3.cell? ⟨gb114, 2, none⟩ = some (.int .i64 a0_2) := (blk_cell BK114.out 2).trans rfl
    have hcz14_3 : w3.cell? ⟨gb114, 3, none⟩ = some (.slice A0_3 l0_3.length c0_3) := (blk_cell BK114.out 3).trans rfl
    have hfz14_0 := blk_frozen BK114.out 0
    have hfz14_1 := blk_frozen BK114.out 1
    have hfz14_2 := blk_frozen BK114.out 2
    have hfz14_3 := blk_frozen BK114.out 3
    go_wp2_with (first | ((with_reducible refine gate_callee (f := 58) rfl ?_); refine goesL_ (some 8) rfl rfl Try.func58 (by kernel_rfl) rfl #[.int .i64 a0_0, .int .i64 0, .int .i64 4000] rfl (by (try simp only [List.map_toArray, List.map_cons, List.map_nil]); first | done | rfl | (simp only [List.length_drop, List.length_take]; rfl)) ?_; (with_reducible refine (spec_l1In.calls a0_0 0 4000 true _ A4.out).mono ?_); rintro e w' ⟨rfl, ⟨nd, rfl⟩⟩; refine ⟨_, rfl, ?_⟩) | (go_at_call 58; (with_reducible refine (spec_l1In.calls a0_1 0 a0_0 false _ A6.out).mono ?_); rintro e w' ⟨rfl, ⟨nd, rfl⟩⟩))
    go_meet
    case rel => exact ⟨_, (true), (by first | rfl | (simp; done) | (simp [*]; done)), H', ⟨by first | omega | exact Nat.le_refl _⟩, ⟨by (with_reducible repeat (first | refine blk_drewN ?_ _ | refine blk_drew ?_ | refine blk_alloc ?_ _)); exact BK114.out⟩, ⟨by repeat (first | (with_reducible first | exact HB.out | apply below_alloc | apply pw_below_drewN | apply below_drew1 | refine below_set ?_ GE114.out) | exact HB.out)⟩⟩
  ·replace c5 := Bool.eq_false_iff.mpr c5
   subst c5
   have H1 : (spec_GoodInflow.j0 k true a0_0 a0_1 a0_2 l0_3) = some r := by rw [if_neg (show ¬ (false = true) by decide)] at H; exact H
   clear H
   have H := H1
   clear H1
   have H' := Aside0.mk H
   clear H
   have hcz15_0 : w3.cell? ⟨gb114, 0, none⟩ = some (.int .i64 a0_0) := (blk_cell BK114.out 0).trans rfl
   have hcz15_1 : w3.cell? ⟨gb114, 1, none⟩ = some (.int .i64 a0_1) := (blk_cell BK114.out 1).trans rfl
   have hcz15_2 : w3.cell? ⟨gb114, 2, none⟩ = some (.int .i64 a0_2) := (blk_cell BK114.out 2).trans rfl
   have hcz15_3 : w3.cell? ⟨gb114, 3, none⟩ = some (.slice A0_3 l0_3.length c0_3) := (blk_cell BK114.out 3).trans rfl
   have hfz15_0 := blk_frozen BK114.out 0
   have hfz15_1 := blk_frozen BK114.out 1
   have hfz15_2 := blk_frozen BK114.out 2
   have hfz15_3 := blk_frozen BK114.out 3
   go_wp2_with (first | ((with_reducible refine gate_callee (f := 58) rfl ?_); refine goesL_ (some 8) rfl rfl Try.func58 (by kernel_rfl) rfl #[.int .i64 a0_0, .int .i64 0, .int .i64 4000] rfl (by (try simp only [List.map_toArray, List.map_cons, List.map_nil]); first | done | rfl | (simp only [List.length_drop, List.length_take]; rfl)) ?_; (with_reducible refine (spec_l1In.calls a0_0 0 4000 false _ A4.out).mono ?_); rintro e w' ⟨rfl, ⟨nd, rfl⟩⟩; refine ⟨_, rfl, ?_⟩))
   go_meet
   case rel => exact ⟨_, (true), (by first | rfl | (simp; done) | (simp [*]; done)), H', ⟨by first | omega | exact Nat.le_refl _⟩, ⟨by (with_reducible repeat (first | refine blk_drewN ?_ _ | refine blk_drew ?_ | refine blk_alloc ?_ _)); exact BK114.out⟩, ⟨by repeat (first | (with_reducible first | exact HB.out | apply below_alloc | apply pw_below_drewN | apply below_drew1 | refine below_set ?_ GE114.out) | exact HB.out)⟩⟩
 case rest =>
  clear HC2
  try clear c1
  try clear p2
  try clear c4
  try clear c5
  try clear c7
  try clear c8
  try clear c8b0
  try clear c8b1
  try clear c11
  try clear hcz12_0
  try clear hcz12_1
  try clear hcz12_2
  try clear hcz12_3
  try clear hcz13_0
  try clear hcz13_1
  try clear hcz13_2
  try clear hcz13_3
  try clear hcz14_0
  try clear hcz14_1
  try clear hcz14_2
  try clear hcz14_3
  try clear hcz15_0
  try clear hcz15_1
  try clear hcz15_2
  try clear hcz15_3
  try clear hcz9_0
  try clear hcz9_1
  try clear hcz9_2
  try clear hcz9_3
  try clear hfz12_0
  try clear hfz12_1
  try clear hfz12_2
  try clear hfz12_3
  try clear hfz13_0
  try clear hfz13_1
  try clear hfz13_2
  try clear hfz13_3
  try clear hfz14_0
  try clear hfz14_1
  try clear hfz14_2
  try clear hfz14_3
  try clear hfz15_0
  try clear hfz15_1
  try clear hfz15_2
  try clear hfz15_3
  try clear hfz9_0
  try clear hfz9_1
  try clear hfz9_2
  try clear hfz9_3
  obtain ⟨kq, x38_1, rfl, HA, HJ1, BK114, HB⟩ := hcut
  cases kq with
  | zero => exact absurd HA.out (by simp [spec_GoodInflow.j0])
  | succ kj1 =>
   have H := HA.out
   clear HA
   simp only [spec_GoodInflow.j0] at H
   by_cases c16 : x38_1 = true
   ·subst c16
    have H1 : (some false) = some r := by rw [if_pos rfl] at H; exact H
    clear H
    have H := H1
    clear H1
    obtain rfl := Option.some.inj H
    go_wp2
    go_ret
    exact ⟨by first | rfl | (simp [errW_none, errW_some] <;> rfl) | (simp [*, errW_none, errW_some] <;> rfl), by repeat (first | (with_reducible first | exact HB.out | apply below_alloc | apply pw_below_drewN | apply below_drew1 | refine below_set ?_ GE114.out) | exact HB.out)⟩
   ·replace c16 := Bool.eq_false_iff.mpr c16
    subst c16
    have H1 : (spec_GoodInflow.l0 kj1 (wrap64 (a0_1 - 1)) l0_3 (l0_3.length : Int) 0 a0_0 a0_1 a0_2 l0_3) = some r := by rw [if_neg (show ¬ (false = true) by decide)] at H; exact H
    clear H
    have H := H1
    clear H1
    have H' := Aside0.mk H
    clear H
    have hcz17_0 : wc.cell? ⟨gb114, 0, none⟩ = some (.int .i64 a0_0) := (blk_cell BK114.out 0).trans rfl
    have hcz17_1 : wc.cell? ⟨gb114, 1, none⟩ = some (.int .i64 a0_1) := (blk_cell BK114.out 1).trans rfl
    have hcz17_2 : wc.cell? ⟨gb114, 2, none⟩ = some (.int .i64 a0_2) := (blk_cell BK114.out 2).trans rfl
    have hcz17_3 : wc.cell? ⟨gb114, 3, none⟩ = some (.slice A0_3 l0_3.length c0_3) := (blk_cell BK114.out 3).trans rfl
    have hfz17_0 := blk_frozen BK114.out 0
    have hfz17_1 := blk_frozen BK114.out 1
    have hfz17_2 := blk_frozen BK114.out 2
    have hfz17_3 := blk_frozen BK114.out 3
    go_wp2
    go_loopg [3, 45] kj1 (fun kq v3 v45 w' => ∃ (x3_2 : Int) (x45_2 : Int), v3 = .int .i64 x3_2 ∧ v45 = .int .i64 x45_2 ∧ Aside0 (spec_GoodInflow.l0 kq x3_2 l0_3 (l0_3.length : Int) x45_2 a0_0 a0_1 a0_2 l0_3 = some r) ∧ Aside0 (kq ≤ kj1) ∧ Aside0 (w'.heap[gb114]? = some (.cells #[.int .i64 a0_0, .int .i64 a0_1, .int .i64 a0_2, (.slice A0_3 l0_3.length c0_3)] 67 (0, 0))) ∧ Aside0 (Below w.heap.size w w'))
    case atStart => exact ⟨(wrap64 (a0_1 - 1)), (0), (by first | rfl | (simp; done) | (simp [*]; done)), (by first | rfl | (simp; done) | (simp [*]; done)), H', ⟨Nat.le_refl _⟩, ⟨by (with_reducible repeat (first | refine blk_drewN ?_ _ | refine blk_drew ?_ | refine blk_alloc ?_ _)); exact BK114.out⟩, ⟨by repeat (first | (with_reducible first | exact HB.out | apply below_alloc | apply pw_below_drewN | apply below_drew1 | refine below_set ?_ GE114.out) | exact HB.out)⟩⟩
    case round =>
     clear H'
     try clear c1
     try clear p2
     try clear c4
     try clear c5
     try clear p6
     try clear c7
     try clear c8
     try clear c8b0
     try clear c8b1
     try clear c11
     try clear c16
     try clear hcz12_0
     try clear hcz12_1
     try clear hcz12_2
     try clear hcz12_3
     try clear hcz13_0
     try clear hcz13_1
     try clear hcz13_2
     try clear hcz13_3
     try clear hcz14_0
     try clear hcz14_1
     try clear hcz14_2
     try clear hcz14_3
     try clear hcz15_0
     try clear hcz15_1
     try clear hcz15_2
     try clear hcz15_3
     try clear hcz17_0
     try clear hcz17_1
     try clear hcz17_2
     try clear hcz17_3
     try clear hcz9_0
     try clear hcz9_1
     try clear hcz9_2
     try clear hcz9_3
     try clear hfz12_0
     try clear hfz12_1
     try clear hfz12_2
     try clear hfz12_3
     try clear hfz13_0
     try clear hfz13_1
     try clear hfz13_2
     try clear hfz13_3
     try clear hfz14_0
     try clear hfz14_1
     try clear hfz14_2
     try clear hfz14_3
     try clear hfz15_0
     try clear hfz15_1
     try clear hfz15_2
     try clear hfz15_3
     try clear hfz17_0
     try clear hfz17_1
     try clear hfz17_2
     try clear hfz17_3
     try clear hfz9_0
     try clear hfz9_1
     try clear hfz9_2
     try clear hfz9_3
     try clear p2
     obtain ⟨x3_2, x45_2, rfl, rfl, HA, HK2, BK114, HB⟩ := hrel
     cases gk with
     | zero => exact absurd HA.out (by simp [spec_GoodInflow.l0])
     | succ k2 =>
      have H := HA.out
      clear HA
      simp only [spec_GoodInflow.l0] at H
      by_cases c18 : x45_2 < (l0_3.length : Int)
      ·rw [if_pos c18] at H
       have c18b0 : decide (x45_2 < (l0_3.length : Int)) = true := decide_eq_true c18
       clear c18
       by_cases c19 : 0 ≤ x45_2
       ·rw [if_pos c19] at H
        have c19b0 : decide (0 ≤ x45_2) = true := decide_eq_true c19
        clear c19
        by_cases c20 : x45_2 < (l0_3.length : Int)
        ·rw [if_pos c20] at H
         have c20b0 : decide (x45_2 < (l0_3.length : Int)) = true := decide_eq_true c20
         clear c20
         have HC21 := Aside0.mk H
         clear H
         have p118 : 0 ≤ (x45_2 : Int) := of_decide_eq_true (by first | (with_reducible assumption) | assumption)
         have q118 : x45_2 < (l0_3.length : Int) := of_decide_eq_true (by first | (with_reducible assumption) | assumption)
         obtain ⟨ad118, e118, hx118_0, hx118_1⟩ := at_T118 HR0_3.out x45_2 p118 q118
         cases e118
         replace hx118_0 := (HB.out.cell (World.block_lt_of_cell? w _ hx118_0)).trans hx118_0
         replace hx118_1 := (HB.out.cell (World.block_lt_of_cell? w _ hx118_1)).trans hx118_1
         replace p118 := eq_true p118
         replace q118 := eq_true q118
         go_upto_region 7 with (first | ((with_reducible refine gate_dst (N := 5) rfl ?_); (try (refine gate_guard (by rfl) ?_; dsimp only)); refine box_event ?hg (N := 5) ?hd (cs := #[.int .i64 0, .string (⟨#[]⟩ : ByteArray)]) (t := 118) ?hr ?_; (case hd => rfl); (case hg => rfl); (case hr => first | (go_simp; done) | (go_simp; rfl)); intro gb119 hg w22 hbox hb; have n0_ := Aside0.mk (blk_below (g := gb114) (o := .cells #[.int .i64 a0_0, .int .i64 a0_1, .int .i64 a0_2, .slice (some ad118) l0_3.length c0_3] 67 (0, 0)) (by (with_reducible repeat (first | refine blk_drewN ?_ _ | refine blk_drew ?_ | refine blk_alloc ?_ _)); exact BK114.out) hb); have n1_ := Aside0.mk (below_step (by repeat (first | (with_reducible first | exact HB.out | apply below_alloc | apply pw_below_drewN | apply below_drew1 | refine below_set ?_ GE114.out) | exact HB.out)) hb); have n2_ := Aside0.mk (hbox); have n3_ := Aside0.mk ((by rw [hg]; exact (below_size (by repeat (first | (with_reducible first | exact HB.out | apply below_alloc | apply pw_below_drewN | apply below_drew1 | refine below_set ?_ GE114.out) | exact HB.out))) : w.heap.size ≤ gb119)); have n4_ := n3_; have n5_ := Aside0.mk ((by rw [hg]; exact Nat.ne_of_lt (blk_lt (g := gb114) (o := .cells #[.int .i64 a0_0, .int .i64 a0_1, .int .i64 a0_2, .slice (some ad118) l0_3.length c0_3] 67 (0, 0)) (by (with_reducible repeat (first | refine blk_drewN ?_ _ | refine blk_drew ?_ | refine blk_alloc ?_ _)); exact BK114.out)) : gb114 ≠ gb119)); have n6_ := Aside0.mk (Ne.symm n5_.out); clear BK114; clear HB; have BK114 := n0_; have HB := n1_; have BK119 := n2_; have GW119 := n3_; have GE119 := n4_; have NB114_119 := n5_; have NB119_114 := n6_; clear n0_ n1_ n2_ n3_ n4_ n5_ n6_; clear hb hbox hg; have hnb23 := NB119_114.out; have hnc23 := NB114_119.out; have hcz24_0 : w22.cell? ⟨gb119, 0, none⟩ = some (.int .i64 0) := (blk_cell BK119.out 0).trans rfl; have hcz24_1 : w22.cell? ⟨gb119, 1, none⟩ = some (.string (⟨#[]⟩ : ByteArray)) := (blk_cell BK119.out 1).trans rfl; have hfz24_0 := blk_frozen BK119.out 0; have hfz24_1 := blk_frozen BK119.out 1))
         (try simp only [Act.put, List.setIfInBounds_toArray, List.set_cons_zero, List.set_cons_succ])
         go_cut [69] (fun v69 wc => ∃ (kq : Nat) (x69_20 : Bool), v69 = .bool x69_20 ∧ Aside0 (spec_GoodInflow.j2 kq l0_3 (l0_3.length : Int) x45_2 x69_20 a0_0 a0_1 a0_2 l0_3 ((rd_T118 l0_3 x45_2).f0) ((rd_T118 l0_3 x45_2).f1) = some r) ∧ Aside0 (kq ≤ k2) ∧ Aside0 (wc.heap[gb114]? = some (.cells #[.int .i64 a0_0, .int .i64 a0_1, .int .i64 a0_2, (.slice (some ad118) l0_3.length c0_3)] 67 (0, 0))) ∧ Aside0 (wc.heap[gb119]? = some (.cells #[.int .i64 ((rd_T118 l0_3 x45_2).f0), .string ((rd_T118 l0_3 x45_2).f1)] 118 (0, 0))) ∧ Aside0 (Below w.heap.size w wc))
         case first =>
          have H := HC21.out
          clear HC21
          by_cases c25 : ((rd_T118 l0_3 x45_2).f1).toList = ([] : List UInt8)
          ·rw [if_pos c25] at H
           have c25b0 : (((rd_T118 l0_3 x45_2).f1).toList == ([] : List UInt8)) = true := beq_iff_eq.mpr c25
           have c25b1 : (((rd_T118 l0_3 x45_2).f1).toList != ([] : List UInt8)) = false := bne_eq_false_iff_eq.mpr c25
           clear c25
           (first | rw [c25b0] | (simp only [i64_w, i32_w]; rw [c25b0]) | skip)
           have H' := Aside0.mk H
           clear H
           have hnb26 := NB119_114.out
           have hnc26 := NB114_119.out
           have hcz27_0 : w22.cell? ⟨gb119, 0, none⟩ = some (.int .i64 0) := (blk_cell BK119.out 0).trans rfl
           have hcz27_1 : w22.cell? ⟨gb119, 1, none⟩ = some (.string (⟨#[]⟩ : ByteArray)) := (blk_cell BK119.out 1).trans rfl
           have hfz27_0 := blk_frozen BK119.out 0
           have hfz27_1 := blk_frozen BK119.out 1
           go_wp2
           go_meet
           case rel => exact ⟨_, (true), (by first | rfl | (simp; done) | (simp [*]; done)), H', ⟨by have := HJ1.out; have := HK2.out; first | omega | exact Nat.le_refl _⟩, ⟨by (with_reducible repeat (first | refine blk_drewN ?_ _ | refine blk_drew ?_ | refine blk_alloc ?_ _)); refine blk_far ?_ NB114_119.out _; (with_reducible repeat (first | refine blk_drewN ?_ _ | refine blk_drew ?_ | refine blk_alloc ?_ _)); refine blk_far ?_ NB114_119.out _; (with_reducible repeat (first | refine blk_drewN ?_ _ | refine blk_drew ?_ | refine blk_alloc ?_ _)); exact BK114.out⟩, ⟨by (with_reducible repeat (first | refine blk_drewN ?_ _ | refine blk_drew ?_ | refine blk_alloc ?_ _)); refine blk_put (cs := #[.int .i64 ((rd_T118 l0_3 x45_2).f0), .string (⟨#[]⟩ : ByteArray)]) ?_ 1 _ rfl; (with_reducible repeat (first | refine blk_drewN ?_ _ | refine blk_drew ?_ | refine blk_alloc ?_ _)); refine blk_put (cs := #[.int .i64 0, .string (⟨#[]⟩ : ByteArray)]) ?_ 0 _ rfl; (with_reducible repeat (first | refine blk_drewN ?_ _ | refine blk_drew ?_ | refine blk_alloc ?_ _)); exact BK119.out⟩, ⟨by repeat (first | (with_reducible first | exact HB.out | apply below_alloc | apply pw_below_drewN | apply below_drew1 | refine below_set ?_ GE114.out | refine below_set ?_ GE119.out) | exact HB.out)⟩⟩
          ·rw [if_neg c25] at H
           have c25b0 : (((rd_T118 l0_3 x45_2).f1).toList == ([] : List UInt8)) = false := beq_eq_false_iff_ne.mpr c25
           have c25b1 : (((rd_T118 l0_3 x45_2).f1).toList != ([] : List UInt8)) = true := bne_iff_ne.mpr c25
           (first | rw [c25b0] | (simp only [i64_w, i32_w]; rw [c25b0]) | skip)
           by_cases c28 : ((rd_T118 l0_3 x45_2).f0) ≤ x3_2
           ·rw [if_pos c28] at H
            have c28b0 : decide (((rd_T118 l0_3 x45_2).f0) ≤ x3_2) = true := decide_eq_true c28
            clear c28
            by_cases c29 : x45_2 > 0
            ·rw [if_pos c29] at H
             have c29b0 : decide (0 < x45_2) = true := decide_eq_true c29
             clear c29
             have H' := Aside0.mk H
             clear H
             have hnb30 := NB119_114.out
             have hnc30 := NB114_119.out
             have hcz31_0 : w22.cell? ⟨gb119, 0, none⟩ = some (.int .i64 0) := (blk_cell BK119.out 0).trans rfl
             have hcz31_1 : w22.cell? ⟨gb119, 1, none⟩ = some (.string (⟨#[]⟩ : ByteArray)) := (blk_cell BK119.out 1).trans rfl
             have hfz31_0 := blk_frozen BK119.out 0
             have hfz31_1 := blk_frozen BK119.out 1
             go_wp2
             go_meet
             case rel => exact ⟨_, (true), (by first | rfl | (simp; done) | (simp [*]; done)), H', ⟨by have := HJ1.out; have := HK2.out; first | omega | exact Nat.le_refl _⟩, ⟨by (with_reducible repeat (first | refine blk_drewN ?_ _ | refine blk_drew ?_ | refine blk_alloc ?_ _)); refine blk_far ?_ NB114_119.out _; (with_reducible repeat (first | refine blk_drewN ?_ _ | refine blk_drew ?_ | refine blk_alloc ?_ _)); refine blk_far ?_ NB114_119.out _; (with_reducible repeat (first | refine blk_drewN ?_ _ | refine blk_drew ?_ | refine blk_alloc ?_ _)); exact BK114.out⟩, ⟨by (with_reducible repeat (first | refine blk_drewN ?_ _ | refine blk_drew ?_ | refine blk_alloc ?_ _)); refine blk_put (cs := #[.int .i64 ((rd_T118 l0_3 x45_2).f0), .string (⟨#[]⟩ : ByteArray)]) ?_ 1 _ rfl; (with_reducible repeat (first | refine blk_drewN ?_ _ | refine blk_drew ?_ | refine blk_alloc ?_ _)); refine blk_put (cs := #[.int .i64 0, .string (⟨#[]⟩ : ByteArray)]) ?_ 0 _ rfl; (with_reducible repeat (first | refine blk_drewN ?_ _ | refine blk_drew ?_ | refine blk_alloc ?_ _)); exact BK119.out⟩, ⟨by repeat (first | (with_reducible first | exact HB.out | apply below_alloc | apply pw_below_drewN | apply below_drew1 | refine below_set ?_ GE114.out | refine below_set ?_ GE119.out) | exact HB.out)⟩⟩
            ·rw [if_neg c29] at H
             have c29b0 : decide (0 < x45_2) = false := decide_eq_false c29
             clear c29
             have H' := Aside0.mk H
             clear H
             have hnb32 := NB119_114.out
             have hnc32 := NB114_119.out
             have hcz33_0 : w22.cell? ⟨gb119, 0, none⟩ = some (.int .i64 0) := (blk_cell BK119.out 0).trans rfl
             have hcz33_1 : w22.cell? ⟨gb119, 1, none⟩ = some (.string (⟨#[]⟩ : ByteArray)) := (blk_cell BK119.out 1).trans rfl
             have hfz33_0 := blk_frozen BK119.out 0
             have hfz33_1 := blk_frozen BK119.out 1
             have hcz34_0 : w22.cell? ⟨gb114, 0, none⟩ = some (.int .i64 a0_0) := (blk_cell BK114.out 0).trans rfl
             have hcz34_1 : w22.cell? ⟨gb114, 1, none⟩ = some (.int .i64 a0_1) := (blk_cell BK114.out 1).trans rfl
             have hcz34_2 : w22.cell? ⟨gb114, 2, none⟩ = some (.int .i64 a0_2) := (blk_cell BK114.out 2).trans rfl
             have hcz34_3 : w22.cell? ⟨gb114, 3, none⟩ = some (.slice (some ad118) l0_3.length c0_3) := (blk_cell BK114.out 3).trans rfl
             have hfz34_0 := blk_frozen BK114.out 0
             have hfz34_1 := blk_frozen BK114.out 1
             have hfz34_2 := blk_frozen BK114.out 2
             have hfz34_3 := blk_frozen BK114.out 3
             go_wp2
             go_meet
             case rel => exact ⟨_, (decide (((rd_T118 l0_3 x45_2).f0) < a0_1)), (by first | rfl | (simp; done) | (simp [*]; done)), H', ⟨by have := HJ1.out; have := HK2.out; first | omega | exact Nat.le_refl _⟩, ⟨by (with_reducible repeat (first | refine blk_drewN ?_ _ | refine blk_drew ?_ | refine blk_alloc ?_ _)); refine blk_far ?_ NB114_119.out _; (with_reducible repeat (first | refine blk_drewN ?_ _ | refine blk_drew ?_ | refine blk_alloc ?_ _)); refine blk_far ?_ NB114_119.out _; (with_reducible repeat (first | refine blk_drewN ?_ _ | refine blk_drew ?_ | refine blk_alloc ?_ _)); exact BK114.out⟩, ⟨by (with_reducible repeat (first | refine blk_drewN ?_ _ | refine blk_drew ?_ | refine blk_alloc ?_ _)); refine blk_put (cs := #[.int .i64 ((rd_T118 l0_3 x45_2).f0), .string (⟨#[]⟩ : ByteArray)]) ?_ 1 _ rfl; (with_reducible repeat (first | refine blk_drewN ?_ _ | refine blk_drew ?_ | refine blk_alloc ?_ _)); refine blk_put (cs := #[.int .i64 0, .string (⟨#[]⟩ : ByteArray)]) ?_ 0 _ rfl; (with_reducible repeat (first | refine blk_drewN ?_ _ | refine blk_drew ?_ | refine blk_alloc ?_ _)); exact BK119.out⟩, ⟨by repeat (first | (with_reducible first | exact HB.out | apply below_alloc | apply pw_below_drewN | apply below_drew1 | refine below_set ?_ GE114.out | refine below_set ?_ GE119.out) | exact HB.out)⟩⟩
           ·rw [if_neg c28] at H
            have c28b0 : decide (((rd_T118 l0_3 x45_2).f0) ≤ x3_2) = false := decide_eq_false c28
            clear c28
            have H' := Aside0.mk H
            clear H
            have hnb35 := NB119_114.out
            have hnc35 := NB114_119.out
            have hcz36_0 : w22.cell? ⟨gb119, 0, none⟩ = some (.int .i64 0) := (blk_cell BK119.out 0).trans rfl
            have hcz36_1 : w22.cell? ⟨gb119, 1, none⟩ = some (.string (⟨#[]⟩ : ByteArray)) := (blk_cell BK119.out 1).trans rfl
            have hfz36_0 := blk_frozen BK119.out 0
            have hfz36_1 := blk_frozen BK119.out 1
            go_wp2
            go_meet
            case rel => exact ⟨_, (false), (by first | rfl | (simp; done) | (simp [*]; done)), H', ⟨by have := HJ1.out; have := HK2.out; first | omega | exact Nat.le_refl _⟩, ⟨by (with_reducible repeat (first | refine blk_drewN ?_ _ | refine blk_drew ?_ | refine blk_alloc ?_ _)); refine blk_far ?_ NB114_119.out _; (with_reducible repeat (first | refine blk_drewN ?_ _ | refine blk_drew ?_ | refine blk_alloc ?_ _)); refine blk_far ?_ NB114_119.out _; (with_reducible repeat (first | refine blk_drewN ?_ _ | refine blk_drew ?_ | refine blk_alloc ?_ _)); exact BK114.out⟩, ⟨by (with_reducible repeat (first | refine blk_drewN ?_ _ | refine blk_drew ?_ | refine blk_alloc ?_ _)); refine blk_put (cs := #[.int .i64 ((rd_T118 l0_3 x45_2).f0), .string (⟨#[]⟩ : ByteArray)]) ?_ 1 _ rfl; (with_reducible repeat (first | refine blk_drewN ?_ _ | refine blk_drew ?_ | refine blk_alloc ?_ _)); refine blk_put (cs := #[.int .i64 0, .string (⟨#[]⟩ : ByteArray)]) ?_ 0 _ rfl; (with_reducible repeat (first | refine blk_drewN ?_ _ | refine blk_drew ?_ | refine blk_alloc ?_ _)); exact BK119.out⟩, ⟨by repeat (first | (with_reducible first | exact HB.out | apply below_alloc | apply pw_below_drewN | apply below_drew1 | refine below_set ?_ GE114.out | refine below_set ?_ GE119.out) | exact HB.out)⟩⟩
         case rest =>
          clear HC21
          try clear c1
          try clear p1
          try clear q1
          try clear hx1
          try clear c2
          try clear p2
          try clear c3
          try clear c4
          try clear c5
          try clear p6
          try clear c7
          try clear c8
          try clear c8b0
          try clear c8b1
          try clear c11
          try clear p11
          try clear q11
          try clear hx11
          try clear c16
          try clear c18
          try clear c18b0
          try clear c19
          try clear c19b0
          try clear c20
          try clear c20b0
          try clear c23
          try clear c25
          try clear c25b0
          try clear c25b1
          try clear c26
          try clear c28
          try clear c28b0
          try clear c29
          try clear c29b0
          try clear c30
          try clear c32
          try clear c35
          try clear hcz12_0
          try clear hcz12_1
          try clear hcz12_2
          try clear hcz12_3
          try clear hcz13_0
          try clear hcz13_1
          try clear hcz13_2
          try clear hcz13_3
          try clear hcz14_0
          try clear hcz14_1
          try clear hcz14_2
          try clear hcz14_3
          try clear hcz15_0
          try clear hcz15_1
          try clear hcz15_2
          try clear hcz15_3
          try clear hcz17_0
          try clear hcz17_1
          try clear hcz17_2
          try clear hcz17_3
          try clear hcz24_0
          try clear hcz24_1
          try clear hcz27_0
          try clear hcz27_1
          try clear hcz31_0
          try clear hcz31_1
          try clear hcz33_0
          try clear hcz33_1
          try clear hcz34_0
          try clear hcz34_1
          try clear hcz34_2
          try clear hcz34_3
          try clear hcz36_0
          try clear hcz36_1
          try clear hcz9_0
          try clear hcz9_1
          try clear hcz9_2
          try clear hcz9_3
          try clear hfz12_0
          try clear hfz12_1
          try clear hfz12_2
          try clear hfz12_3
          try clear hfz13_0
          try clear hfz13_1
          try clear hfz13_2
          try clear hfz13_3
          try clear hfz14_0
          try clear hfz14_1
          try clear hfz14_2
          try clear hfz14_3
          try clear hfz15_0
          try clear hfz15_1
          try clear hfz15_2
          try clear hfz15_3
          try clear hfz17_0
          try clear hfz17_1
          try clear hfz17_2
          try clear hfz17_3
          try clear hfz24_0
          try clear hfz24_1
          try clear hfz27_0
          try clear hfz27_1
          try clear hfz31_0
          try clear hfz31_1
          try clear hfz33_0
          try clear hfz33_1
          try clear hfz34_0
          try clear hfz34_1
          try clear hfz34_2
          try clear hfz34_3
          try clear hfz36_0
          try clear hfz36_1
          try clear hfz9_0
          try clear hfz9_1
          try clear hfz9_2
          try clear hfz9_3
          try clear hx118_0
          try clear hx118_1
          try clear p118
          try clear p2
          try clear p6
          try clear q118
          obtain ⟨kq, x69_20, rfl, HA, HJ20, BK114, BK119, HB⟩ := hcut
          cases kq with
          | zero => exact absurd HA.out (by simp [spec_GoodInflow.j2])
          | succ kj20 =>
           have H := HA.out
           clear HA
           simp only [spec_GoodInflow.j2] at H
           by_cases c37 : x69_20 = true
           ·subst c37
            have H1 : (some false) = some r := by rw [if_pos rfl] at H; exact H
            clear H
            have H := H1
            clear H1
            obtain rfl := Option.some.inj H
            go_wp2
            go_ret
            exact ⟨by first | rfl | (simp [errW_none, errW_some] <;> rfl) | (simp [*, errW_none, errW_some] <;> rfl), by repeat (first | (with_reducible first | exact HB.out | apply below_alloc | apply pw_below_drewN | apply below_drew1 | refine below_set ?_ GE114.out | refine below_set ?_ GE119.out) | exact HB.out)⟩
           ·replace c37 := Bool.eq_false_iff.mpr c37
            subst c37
            have H1 : (if ((rd_T118 l0_3 x45_2).f0) > (wrap64 (a0_0 - (((rd_T118 l0_3 x45_2).f1).size : Int))) then (spec_GoodInflow.j3 kj20 l0_3 (l0_3.length : Int) x45_2 true a0_0 a0_1 a0_2 l0_3 ((rd_T118 l0_3 x45_2).f0) ((rd_T118 l0_3 x45_2).f1)) else (if a0_2 = (-1) then (spec_GoodInflow.j3 kj20 l0_3 (l0_3.length : Int) x45_2 false a0_0 a0_1 a0_2 l0_3 ((rd_T118 l0_3 x45_2).f0) ((rd_T118 l0_3 x45_2).f1)) else (spec_GoodInflow.j3 kj20 l0_3 (l0_3.length : Int) x45_2 (decide (((rd_T118 l0_3 x45_2).f0) > (wrap64 (a0_2 - (((rd_T118 l0_3 x45_2).f1).size : Int))))) a0_0 a0_1 a0_2 l0_3 ((rd_T118 l0_3 x45_2).f0) ((rd_T118 l0_3 x45_2).f1)))) = some r := by rw [if_neg (show ¬ (false = true) by decide)] at H; exact H
            clear H
            have H := H1
            clear H1
            have HC38 := Aside0.mk H
            clear H
            go_upto_region 9 with (fail)
            go_cut [94] (fun v94 wc => ∃ (kq : Nat) (x94_37 : Bool), v94 = .bool x94_37 ∧ Aside0 (spec_GoodInflow.j3 kq l0_3 (l0_3.length : Int) x45_2 x94_37 a0_0 a0_1 a0_2 l0_3 ((rd_T118 l0_3 x45_2).f0) ((rd_T118 l0_3 x45_2).f1) = some r) ∧ Aside0 (kq ≤ kj20) ∧ Aside0 (wc.heap[gb114]? = some (.cells #[.int .i64 a0_0, .int .i64 a0_1, .int .i64 a0_2, (.slice (some ad118) l0_3.length c0_3)] 67 (0, 0))) ∧ Aside0 (wc.heap[gb119]? = some (.cells #[.int .i64 ((rd_T118 l0_3 x45_2).f0), .string ((rd_T118 l0_3 x45_2).f1)] 118 (0, 0))) ∧ Aside0 (Below w.heap.size w wc))
            case first =>
             have H := HC38.out
             clear HC38
             by_cases c39 : ((rd_T118 l0_3 x45_2).f0) > (wrap64 (a0_0 - (((rd_T118 l0_3 x45_2).f1).size : Int)))
             ·rw [if_pos c39] at H
              have c39b0 : decide ((wrap64 (a0_0 - (((rd_T118 l0_3 x45_2).f1).size : Int))) < ((rd_T118 l0_3 x45_2).f0)) = true := decide_eq_true c39
              (try (have c39b1 : decide ((IntKind.i64.wrap (a0_0 - (((rd_T118 l0_3 x45_2).f1).size : Int))) < ((rd_T118 l0_3 x45_2).f0)) = true := by simp only [i64_w]; exact (decide_eq_true c39)))
              clear c39
              (first | rw [c39b0] | (simp only [i64_w, i32_w]; rw [c39b0]) | skip)
              have H' := Aside0.mk H
              clear H
              have hnb40 := NB119_114.out
              have hnc40 := NB114_119.out
              have hcz41_0 : wc.cell? ⟨gb119, 0, none⟩ = some (.int .i64 ((rd_T118 l0_3 x45_2).f0)) := (blk_cell BK119.out 0).trans rfl
              have hcz41_1 : wc.cell? ⟨gb119, 1, none⟩ = some (.string ((rd_T118 l0_3 x45_2).f1)) := (blk_cell BK119.out 1).trans rfl
              have hfz41_0 := blk_frozen BK119.out 0
              have hfz41_1 := blk_frozen BK119.out 1
              have hcz42_0 : wc.cell? ⟨gb114, 0, none⟩ = some (.int .i64 a0_0) := (blk_cell BK114.out 0).trans rfl
              have hcz42_1 : wc.cell? ⟨gb114, 1, none⟩ = some (.int .i64 a0_1) := (blk_cell BK114.out 1).trans rfl
              have hcz42_2 : wc.cell? ⟨gb114, 2, none⟩ = some (.int .i64 a0_2) := (blk_cell BK114.out 2).trans rfl
              have hcz42_3 : wc.cell? ⟨gb114, 3, none⟩ = some (.slice (some ad118) l0_3.length c0_3) := (blk_cell BK114.out 3).trans rfl
              have hfz42_0 := blk_frozen BK114.out 0
              have hfz42_1 := blk_frozen BK114.out 1
              have hfz42_2 := blk_frozen BK114.out 2
              have hfz42_3 := blk_frozen BK114.out 3
              go_wp2
              go_meet
              case rel => exact ⟨_, (true), (by first | rfl | (simp; done) | (simp [*]; done)), H', ⟨by have := HJ1.out; have := HK2.out; have := HJ20.out; first | omega | exact Nat.le_refl _⟩, ⟨by (with_reducible repeat (first | refine blk_drewN ?_ _ | refine blk_drew ?_ | refine blk_alloc ?_ _)); exact BK114.out⟩, ⟨by (with_reducible repeat (first | refine blk_drewN ?_ _ | refine blk_drew ?_ | refine blk_alloc ?_ _)); exact BK119.out⟩, ⟨by repeat (first | (with_reducible first | exact HB.out | apply below_alloc | apply pw_below_drewN | apply below_drew1 | refine below_set ?_ GE114.out | refine below_set ?_ GE119.out) | exact HB.out)⟩⟩
             ·rw [if_neg c39] at H
              have c39b0 : decide ((wrap64 (a0_0 - (((rd_T118 l0_3 x45_2).f1).size : Int))) < ((rd_T118 l0_3 x45_2).f0)) = false := decide_eq_false c39
              (try (have c39b1 : decide ((IntKind.i64.wrap (a0_0 - (((rd_T118 l0_3 x45_2).f1).size : Int))) < ((rd_T118 l0_3 x45_2).f0)) = false := by simp only [i64_w]; exact (decide_eq_false c39)))
              clear c39
              (first | rw [c39b0] | (simp only [i64_w, i32_w]; rw [c39b0]) | skip)
              by_cases c43 : a0_2 = (-1)
              ·rw [if_pos c43] at H
               have c43b0 : (a0_2 == (-1)) = true := beq_iff_eq.mpr c43
               have c43b1 : (a0_2 != (-1)) = false := bne_eq_false_iff_eq.mpr c43
               clear c43
               have H' := Aside0.mk H
               clear H
               have hnb44 := NB119_114.out
               have hnc44 := NB114_119.out
               have hcz45_0 : wc.cell? ⟨gb119, 0, none⟩ = some (.int .i64 ((rd_T118 l0_3 x45_2).f0)) := (blk_cell BK119.out 0).trans rfl
               have hcz45_1 : wc.cell? ⟨gb119, 1, none⟩ = some (.string ((rd_T118 l0_3 x45_2).f1)) := (blk_cell BK119.out 1).trans rfl
               have hfz45_0 := blk_frozen BK119.out 0
               have hfz45_1 := blk_frozen BK119.out 1
               have hcz46_0 : wc.cell? ⟨gb114, 0, none⟩ = some (.int .i64 a0_0) := (blk_cell BK114.out 0).trans rfl
               have hcz46_1 : wc.cell? ⟨gb114, 1, none⟩ = some (.int .i64 a0_1) := (blk_cell BK114.out 1).trans rfl
               have hcz46_2 : wc.cell? ⟨gb114, 2, none⟩ = some (.int .i64 a0_2) := (blk_cell BK114.out 2).trans rfl
               have hcz46_3 : wc.cell? ⟨gb114, 3, none⟩ = some (.slice (some ad118) l0_3.length c0_3) := (blk_cell BK114.out 3).trans rfl
               have hfz46_0 := blk_frozen BK114.out 0
               have hfz46_1 := blk_frozen BK114.out 1
               have hfz46_2 := blk_frozen BK114.out 2
               have hfz46_3 := blk_frozen BK114.out 3
               go_wp2
               go_meet
               case rel => exact ⟨_, (false), (by first | rfl | (simp; done) | (simp [*]; done)), H', ⟨by have := HJ1.out; have := HK2.out; have := HJ20.out; first | omega | exact Nat.le_refl _⟩, ⟨by (with_reducible repeat (first | refine blk_drewN ?_ _ | refine blk_drew ?_ | refine blk_alloc ?_ _)); exact BK114.out⟩, ⟨by (with_reducible repeat (first | refine blk_drewN ?_ _ | refine blk_drew ?_ | refine blk_alloc ?_ _)); exact BK119.out⟩, ⟨by repeat (first | (with_reducible first | exact HB.out | apply below_alloc | apply pw_below_drewN | apply below_drew1 | refine below_set ?_ GE114.out | refine below_set ?_ GE119.out) | exact HB.out)⟩⟩
              ·rw [if_neg c43] at H
               have c43b0 : (a0_2 == (-1)) = false := beq_eq_false_iff_ne.mpr c43
               have c43b1 : (a0_2 != (-1)) = true := bne_iff_ne.mpr c43
               have H' := Aside0.mk H
               clear H
               have hnb47 := NB119_114.out
               have hnc47 := NB114_119.out
               have hcz48_0 : wc.cell? ⟨gb119, 0, none⟩ = some (.int .i64 ((rd_T118 l0_3 x45_2).f0)) := (blk_cell BK119.out 0).trans rfl
               have hcz48_1 : wc.cell? ⟨gb119, 1, none⟩ = some (.string ((rd_T118 l0_3 x45_2).f1)) := (blk_cell BK119.out 1).trans rfl
               have hfz48_0 := blk_frozen BK119.out 0
               have hfz48_1 := blk_frozen BK119.out 1
               have hcz49_0 : wc.cell? ⟨gb114, 0, none⟩ = some (.int .i64 a0_0) := (blk_cell BK114.out 0).trans rfl
               have hcz49_1 : wc.cell? ⟨gb114, 1, none⟩ = some (.int .i64 a0_1) := (blk_cell BK114.out 1).trans rfl
               have hcz49_2 : wc.cell? ⟨gb114, 2, none⟩ = some (.int .i64 a0_2) := (blk_cell BK114.out 2).trans rfl
               have hcz49_3 : wc.cell? ⟨gb114, 3, none⟩ = some (.slice (some ad118) l0_3.length c0_3) := (blk_cell BK114.out 3).trans rfl
               have hfz49_0 := blk_frozen BK114.out 0
               have hfz49_1 := blk_frozen BK114.out 1
               have hfz49_2 := blk_frozen BK114.out 2
               have hfz49_3 := blk_frozen BK114.out 3
               go_wp2
               go_meet
               case rel => exact ⟨_, (decide (((rd_T118 l0_3 x45_2).f0) > (wrap64 (a0_2 - (((rd_T118 l0_3 x45_2).f1).size : Int))))), (by first | rfl | (simp; done) | (simp [*]; done)), H', ⟨by have := HJ1.out; have := HK2.out; have := HJ20.out; first | omega | exact Nat.le_refl _⟩, ⟨by (with_reducible repeat (first | refine blk_drewN ?_ _ | refine blk_drew ?_ | refine blk_alloc ?_ _)); exact BK114.out⟩, ⟨by (with_reducible repeat (first | refine blk_drewN ?_ _ | refine blk_drew ?_ | refine blk_alloc ?_ _)); exact BK119.out⟩, ⟨by repeat (first | (with_reducible first | exact HB.out | apply below_alloc | apply pw_below_drewN | apply below_drew1 | refine below_set ?_ GE114.out | refine below_set ?_ GE119.out) | exact HB.out)⟩⟩
            case rest =>
             clear HC38
             try clear c1
             try clear p1
             try clear q1
             try clear hx1
             try clear c2
             try clear p2
             try clear c3
             try clear c4
             try clear c5
             try clear p6
             try clear c7
             try clear c8
             try clear c8b0
             try clear c8b1
             try clear c11
             try clear p11
             try clear q11
             try clear hx11
             try clear c16
             try clear c18
             try clear c18b0
             try clear c19
             try clear c19b0
             try clear c20
             try clear c20b0
             try clear c23
             try clear c25
             try clear c25b0
             try clear c25b1
             try clear c26
             try clear c28
             try clear c28b0
             try clear c29
             try clear c29b0
             try clear c30
             try clear c32
             try clear c35
             try clear c37
             try clear c39
             try clear c39b0
             try clear c39b1
             try clear c40
             try clear c43
             try clear c43b0
             try clear c43b1
             try clear c44
             try clear c47
             try clear hcz12_0
             try clear hcz12_1
             try clear hcz12_2
             try clear hcz12_3
             try clear hcz13_0
             try clear hcz13_1
             try clear hcz13_2
             try clear hcz13_3
             try clear hcz14_0
             try clear hcz14_1
             try clear hcz14_2
             try clear hcz14_3
             try clear hcz15_0
             try clear hcz15_1
             try clear hcz15_2
             try clear hcz15_3
             try clear hcz17_0
             try clear hcz17_1
             try clear hcz17_2
             try clear hcz17_3
             try clear hcz24_0
             try clear hcz24_1
             try clear hcz27_0
             try clear hcz27_1
             try clear hcz31_0
             try clear hcz31_1
             try clear hcz33_0
             try clear hcz33_1
             try clear hcz34_0
             try clear hcz34_1
             try clear hcz34_2
             try clear hcz34_3
             try clear hcz36_0
             try clear hcz36_1
             try clear hcz41_0
             try clear hcz41_1
             try clear hcz42_0
             try clear hcz42_1
             try clear hcz42_2
             try clear hcz42_3
             try clear hcz45_0
             try clear hcz45_1
             try clear hcz46_0
             try clear hcz46_1
             try clear hcz46_2
             try clear hcz46_3
             try clear hcz48_0
             try clear hcz48_1
             try clear hcz49_0
             try clear hcz49_1
             try clear hcz49_2
             try clear hcz49_3
             try clear hcz9_0
             try clear hcz9_1
             try clear hcz9_2
             try clear hcz9_3
             try clear hfz12_0
             try clear hfz12_1
             try clear hfz12_2
             try clear hfz12_3
             try clear hfz13_0
             try clear hfz13_1
             try clear hfz13_2
             try clear hfz13_3
             try clear hfz14_0
             try clear hfz14_1
             try clear hfz14_2
             try clear hfz14_3
             try clear hfz15_0
             try clear hfz15_1
             try clear hfz15_2
             try clear hfz15_3
             try clear hfz17_0
             try clear hfz17_1
             try clear hfz17_2
             try clear hfz17_3
             try clear hfz24_0
             try clear hfz24_1
             try clear hfz27_0
             try clear hfz27_1
             try clear hfz31_0
             try clear hfz31_1
             try clear hfz33_0
             try clear hfz33_1
             try clear hfz34_0
             try clear hfz34_1
             try clear hfz34_2
             try clear hfz34_3
             try clear hfz36_0
             try clear hfz36_1
             try clear hfz41_0
             try clear hfz41_1
             try clear hfz42_0
             try clear hfz42_1
             try clear hfz42_2
             try clear hfz42_3
             try clear hfz45_0
             try clear hfz45_1
             try clear hfz46_0
             try clear hfz46_1
             try clear hfz46_2
             try clear hfz46_3
             try clear hfz48_0
             try clear hfz48_1
             try clear hfz49_0
             try clear hfz49_1
             try clear hfz49_2
             try clear hfz49_3
             try clear hfz9_0
             try clear hfz9_1
             try clear hfz9_2
             try clear hfz9_3
             try clear hx118_0
             try clear hx118_1
             try clear p1
             try clear p11
             try clear p118
             try clear p2
             try clear p6
             try clear q1
             try clear q11
             try clear q118
             obtain ⟨kq, x94_37, rfl, HA, HJ37, BK114, BK119, HB⟩ := hcut
             cases kq with
             | zero => exact absurd HA.out (by simp [spec_GoodInflow.j3])
             | succ kj37 =>
              have H := HA.out
              clear HA
              simp only [spec_GoodInflow.j3] at H
              by_cases c50 : x94_37 = true
              ·subst c50
               have H1 : (some false) = some r := by rw [if_pos rfl] at H; exact H
               clear H
               have H := H1
               clear H1
               obtain rfl := Option.some.inj H
               go_wp2
               go_ret
               exact ⟨by first | rfl | (simp [errW_none, errW_some] <;> rfl) | (simp [*, errW_none, errW_some] <;> rfl), by repeat (first | (with_reducible first | exact HB.out | apply below_alloc | apply pw_below_drewN | apply below_drew1 | refine below_set ?_ GE114.out | refine below_set ?_ GE119.out) | exact HB.out)⟩
              ·replace c50 := Bool.eq_false_iff.mpr c50
               subst c50
               have H1 : (spec_GoodInflow.l0 kj37 (wrap64 (((rd_T118 l0_3 x45_2).f0) + (((rd_T118 l0_3 x45_2).f1).size : Int))) l0_3 (l0_3.length : Int) (wrap64 (x45_2 + 1)) a0_0 a0_1 a0_2 l0_3) = some r := by rw [if_neg (show ¬ (false = true) by decide)] at H; exact H
               clear H
               have H := H1
               clear H1
               have H' := Aside0.mk H
               clear H
               have hnb51 := NB119_114.out
               have hnc51 := NB114_119.out
               have hcz52_0 : wc.cell? ⟨gb119, 0, none⟩ = some (.int .i64 ((rd_T118 l0_3 x45_2).f0)) := (blk_cell BK119.out 0).trans rfl
               have hcz52_1 : wc.cell? ⟨gb119, 1, none⟩ = some (.string ((rd_T118 l0_3 x45_2).f1)) := (blk_cell BK119.out 1).trans rfl
               have hfz52_0 := blk_frozen BK119.out 0
               have hfz52_1 := blk_frozen BK119.out 1
               go_wp2
               go_roundg kj37
               case measure => have := HJ1.out; have := HK2.out; have := HJ20.out; have := HJ37.out; omega
               case rel => exact ⟨(wrap64 (((rd_T118 l0_3 x45_2).f0) + (((rd_T118 l0_3 x45_2).f1).size : Int))), (wrap64 (x45_2 + 1)), (by first | rfl | (simp; done) | (simp [*]; done)), (by first | rfl | (simp; done) | (simp [*]; done)), H', ⟨by have := HJ1.out; have := HK2.out; have := HJ20.out; have := HJ37.out; omega⟩, ⟨by (with_reducible repeat (first | refine blk_drewN ?_ _ | refine blk_drew ?_ | refine blk_alloc ?_ _)); exact BK114.out⟩, ⟨by repeat (first | (with_reducible first | exact HB.out | apply below_alloc | apply pw_below_drewN | apply below_drew1 | refine below_set ?_ GE114.out | refine below_set ?_ GE119.out) | exact HB.out)⟩⟩
        ·rw [if_neg c20] at H
         exact absurd H (by simp)
       ·rw [if_neg c19] at H
        exact absurd H (by simp)
      ·rw [if_neg c18] at H
       have c18b0 : decide (x45_2 < (l0_3.length : Int)) = false := decide_eq_false c18
       clear c18
       obtain rfl := Option.some.inj H
       go_wp2
       go_ret
       exact ⟨by first | rfl | (simp [errW_none, errW_some] <;> rfl) | (simp [*, errW_none, errW_some] <;> rfl), by repeat (first | (with_reducible first | exact HB.out | apply below_alloc | apply pw_below_drewN | apply below_drew1 | refine below_set ?_ GE114.out) | exact HB.out)⟩

end Go.Proofs.Ytikomfdkdoognaa.PFnExactGoodInflow
