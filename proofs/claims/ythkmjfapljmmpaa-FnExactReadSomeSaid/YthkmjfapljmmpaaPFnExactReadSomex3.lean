-- Written by a program of this session (wip/xprint.py).
import Derived.Test.YthkmjfapljmmpaaPFnExactReadSomex0
import Derived.Test.YthkmjfapljmmpaaPFnExactReadSomex2
namespace Go.Proofs.Ythkmjfapljmmpaa.PFnExactReadSome
open Go.RowKit Go.Proofs.YthkmjfapljmmpaaW.PrintWords Go.Proofs.YthkmjfapljmmpaaW.PrintLast Go.Proofs.YthkmjfapljmmpaaW.PrintMore
open Go.Proofs.Ythkmjfapljmmpaa.ShortK (bN bD bA sA sZ sS mR mB bX bLt bS cz2 fz2 cx2 cz3 fz3 cx3 cz4 fz4 cx4 cz5 fz5 cx5 cz6 fz6 cx6 cz7 fz7 cx7 cz8 fz8 cx8 cz9 fz9 cx9 cz10 fz10 cx10 cz11 fz11 cx11 cz12 fz12 cx12)
attribute [local go_sem] Go.Proofs.Ythkmjfapljmmpaa.StoreK.isSome_setCell max2_int min2_int max_two min_two max_three min_three max_four min_four   -- for this text's walks alone
set_option linter.unusedVariables false
set_option linter.unusedSimpArgs false

/-! ### spec_GoodInflow: function 108 -/
mutual
def spec_GoodInflow.j0 : Nat → Bool → Int → Int → Int → List (S177) → Option (Bool)
 | 0, _, _, _, _, _ => none
 | k + 1, x38, x145000, x145001, x145002, x145003 => if x38 = true then (some false) else (spec_GoodInflow.l0 k (wrap64 (x145001 - 1)) x145003 (x145003.length : Int) 0 x145000 x145001 x145002 x145003)
def spec_GoodInflow.l0 : Nat → Int → List (S177) → Int → Int → Int → Int → Int → List (S177) → Option (Bool)
 | 0, _, _, _, _, _, _, _, _ => none
 | k + 1, x3, x43, x44, x45, x145000, x145001, x145002, x145003 => if x45 < x44 then (if 0 ≤ x45 then (if x45 < (x43.length : Int) then (if ((rd_T177 x43 x45).f1).toList = ([] : List UInt8) then (spec_GoodInflow.j2 k x43 x44 x45 true x145000 x145001 x145002 x145003 ((rd_T177 x43 x45).f0) ((rd_T177 x43 x45).f1)) else (if ((rd_T177 x43 x45).f0) ≤ x3 then (if x45 > 0 then (spec_GoodInflow.j2 k x43 x44 x45 true x145000 x145001 x145002 x145003 ((rd_T177 x43 x45).f0) ((rd_T177 x43 x45).f1)) else (spec_GoodInflow.j2 k x43 x44 x45 (decide (((rd_T177 x43 x45).f0) < x145001)) x145000 x145001 x145002 x145003 ((rd_T177 x43 x45).f0) ((rd_T177 x43 x45).f1))) else (spec_GoodInflow.j2 k x43 x44 x45 false x145000 x145001 x145002 x145003 ((rd_T177 x43 x45).f0) ((rd_T177 x43 x45).f1)))) else (none)) else (none)) else (some true)
def spec_GoodInflow.j2 : Nat → List (S177) → Int → Int → Bool → Int → Int → Int → List (S177) → Int → ByteArray → Option (Bool)
 | 0, _, _, _, _, _, _, _, _, _, _ => none
 | k + 1, x43, x44, x45, x69, x145000, x145001, x145002, x145003, x150000, x150001 => if x69 = true then (some false) else (if x150000 > (wrap64 (x145000 - (x150001.size : Int))) then (spec_GoodInflow.j3 k x43 x44 x45 true x145000 x145001 x145002 x145003 x150000 x150001) else (if x145002 = (-1) then (spec_GoodInflow.j3 k x43 x44 x45 false x145000 x145001 x145002 x145003 x150000 x150001) else (spec_GoodInflow.j3 k x43 x44 x45 (decide (x150000 > (wrap64 (x145002 - (x150001.size : Int))))) x145000 x145001 x145002 x145003 x150000 x150001)))
def spec_GoodInflow.j3 : Nat → List (S177) → Int → Int → Bool → Int → Int → Int → List (S177) → Int → ByteArray → Option (Bool)
 | 0, _, _, _, _, _, _, _, _, _, _ => none
 | k + 1, x43, x44, x45, x94, x145000, x145001, x145002, x145003, x150000, x150001 => if x94 = true then (some false) else (spec_GoodInflow.l0 k (wrap64 (x150000 + (x150001.size : Int))) x43 x44 (wrap64 (x45 + 1)) x145000 x145001 x145002 x145003)
end
def spec_GoodInflow.f (k : Nat) (a0_0 : Int) (a0_1 : Int) (a0_2 : Int) (l0_3 : List (S177)) : Option (Bool) := (spec_l1In.f a0_0 0 4000).bind fun t145 => (if t145 = true then ((spec_l1In.f a0_1 0 a0_0).bind fun t146 => (if t146 = true then (if a0_2 = (-1) then (spec_GoodInflow.j0 k (decide ((l0_3.length : Int) > 40)) a0_0 a0_1 a0_2 l0_3) else ((spec_l1In.f a0_2 a0_1 a0_0).bind fun t147 => (if t147 = true then (spec_GoodInflow.j0 k (decide ((l0_3.length : Int) > 40)) a0_0 a0_1 a0_2 l0_3) else (spec_GoodInflow.j0 k true a0_0 a0_1 a0_2 l0_3)))) else (spec_GoodInflow.j0 k true a0_0 a0_1 a0_2 l0_3))) else (spec_GoodInflow.j0 k true a0_0 a0_1 a0_2 l0_3))
theorem spec_GoodInflow.mono_l : ∀ k, (∀ y0 y1 y2 y3 y4, LeO (spec_GoodInflow.j0 k y0 y1 y2 y3 y4) (spec_GoodInflow.j0 (k + 1) y0 y1 y2 y3 y4)) ∧ (∀ y0 y1 y2 y3 y4 y5 y6 y7, LeO (spec_GoodInflow.l0 k y0 y1 y2 y3 y4 y5 y6 y7) (spec_GoodInflow.l0 (k + 1) y0 y1 y2 y3 y4 y5 y6 y7)) ∧ (∀ y0 y1 y2 y3 y4 y5 y6 y7 y8 y9, LeO (spec_GoodInflow.j2 k y0 y1 y2 y3 y4 y5 y6 y7 y8 y9) (spec_GoodInflow.j2 (k + 1) y0 y1 y2 y3 y4 y5 y6 y7 y8 y9)) ∧ (∀ y0 y1 y2 y3 y4 y5 y6 y7 y8 y9, LeO (spec_GoodInflow.j3 k y0 y1 y2 y3 y4 y5 y6 y7 y8 y9) (spec_GoodInflow.j3 (k + 1) y0 y1 y2 y3 y4 y5 y6 y7 y8 y9))
 | 0 => ⟨fun _ _ _ _ _ r h => by simp [spec_GoodInflow.j0] at h, fun _ _ _ _ _ _ _ _ r h => by simp [spec_GoodInflow.l0] at h, fun _ _ _ _ _ _ _ _ _ _ r h => by simp [spec_GoodInflow.j2] at h, fun _ _ _ _ _ _ _ _ _ _ r h => by simp [spec_GoodInflow.j3] at h⟩
 | k + 1 => by
  obtain ⟨ih0, ih1, ih2, ih3⟩ := spec_GoodInflow.mono_l k
  refine ⟨?_, ?_, ?_, ?_⟩
  ·intro y0 y1 y2 y3 y4
   unfold spec_GoodInflow.j0
   repeat' first
   | (with_reducible exact ih0 _ _ _ _ _)
   | (with_reducible exact ih1 _ _ _ _ _ _ _ _)
   | (with_reducible exact ih2 _ _ _ _ _ _ _ _ _ _)
   | (with_reducible exact ih3 _ _ _ _ _ _ _ _ _ _)
   | (with_reducible exact LeO.refl _)
   | (with_reducible exact LeO.none _)
   | (with_reducible refine LeO.ite ?_ ?_)
   | (with_reducible refine LeO.bind ?_ (fun _ => ?_))
   | exact ih0 _ _ _ _ _
   | exact ih1 _ _ _ _ _ _ _ _
   | exact ih2 _ _ _ _ _ _ _ _ _ _
   | exact ih3 _ _ _ _ _ _ _ _ _ _
   | exact LeO.none _
   | refine LeO.ite ?_ ?_
   | refine LeO.bind ?_ (fun _ => ?_)
  ·intro y0 y1 y2 y3 y4 y5 y6 y7
   unfold spec_GoodInflow.l0
   repeat' first
   | (with_reducible exact ih0 _ _ _ _ _)
   | (with_reducible exact ih1 _ _ _ _ _ _ _ _)
   | (with_reducible exact ih2 _ _ _ _ _ _ _ _ _ _)
   | (with_reducible exact ih3 _ _ _ _ _ _ _ _ _ _)
   | (with_reducible exact LeO.refl _)
   | (with_reducible exact LeO.none _)
   | (with_reducible refine LeO.ite ?_ ?_)
   | (with_reducible refine LeO.bind ?_ (fun _ => ?_))
   | exact ih0 _ _ _ _ _
   | exact ih1 _ _ _ _ _ _ _ _
   | exact ih2 _ _ _ _ _ _ _ _ _ _
   | exact ih3 _ _ _ _ _ _ _ _ _ _
   | exact LeO.none _
   | refine LeO.ite ?_ ?_
   | refine LeO.bind ?_ (fun _ => ?_)
  ·intro y0 y1 y2 y3 y4 y5 y6 y7 y8 y9
   unfold spec_GoodInflow.j2
   repeat' first
   | (with_reducible exact ih0 _ _ _ _ _)
   | (with_reducible exact ih1 _ _ _ _ _ _ _ _)
   | (with_reducible exact ih2 _ _ _ _ _ _ _ _ _ _)
   | (with_reducible exact ih3 _ _ _ _ _ _ _ _ _ _)
   | (with_reducible exact LeO.refl _)
   | (with_reducible exact LeO.none _)
   | (with_reducible refine LeO.ite ?_ ?_)
   | (with_reducible refine LeO.bind ?_ (fun _ => ?_))
   | exact ih0 _ _ _ _ _
   | exact ih1 _ _ _ _ _ _ _ _
   | exact ih2 _ _ _ _ _ _ _ _ _ _
   | exact ih3 _ _ _ _ _ _ _ _ _ _
   | exact LeO.none _
   | refine LeO.ite ?_ ?_
   | refine LeO.bind ?_ (fun _ => ?_)
  ·intro y0 y1 y2 y3 y4 y5 y6 y7 y8 y9
   unfold spec_GoodInflow.j3
   repeat' first
   | (with_reducible exact ih0 _ _ _ _ _)
   | (with_reducible exact ih1 _ _ _ _ _ _ _ _)
   | (with_reducible exact ih2 _ _ _ _ _ _ _ _ _ _)
   | (with_reducible exact ih3 _ _ _ _ _ _ _ _ _ _)
   | (with_reducible exact LeO.refl _)
   | (with_reducible exact LeO.none _)
   | (with_reducible refine LeO.ite ?_ ?_)
   | (with_reducible refine LeO.bind ?_ (fun _ => ?_))
   | exact ih0 _ _ _ _ _
   | exact ih1 _ _ _ _ _ _ _ _
   | exact ih2 _ _ _ _ _ _ _ _ _ _
   | exact ih3 _ _ _ _ _ _ _ _ _ _
   | exact LeO.none _
   | refine LeO.ite ?_ ?_
   | refine LeO.bind ?_ (fun _ => ?_)
theorem spec_GoodInflow.mono : ∀ a0 a1 a2 a3 k, LeO (spec_GoodInflow.f k a0 a1 a2 a3) (spec_GoodInflow.f (k + 1) a0 a1 a2 a3) := by
 intro a0 a1 a2 a3 k
 obtain ⟨ih0, ih1, ih2, ih3⟩ := spec_GoodInflow.mono_l k
 unfold spec_GoodInflow.f
 repeat' first
   | (with_reducible exact ih0 _ _ _ _ _)
   | (with_reducible exact ih1 _ _ _ _ _ _ _ _)
   | (with_reducible exact ih2 _ _ _ _ _ _ _ _ _ _)
   | (with_reducible exact ih3 _ _ _ _ _ _ _ _ _ _)
   | (with_reducible exact LeO.refl _)
   | (with_reducible exact LeO.none _)
   | (with_reducible refine LeO.ite ?_ ?_)
   | (with_reducible refine LeO.bind ?_ (fun _ => ?_))
   | exact ih0 _ _ _ _ _
   | exact ih1 _ _ _ _ _ _ _ _
   | exact ih2 _ _ _ _ _ _ _ _ _ _
   | exact ih3 _ _ _ _ _ _ _ _ _ _
   | exact LeO.none _
   | refine LeO.ite ?_ ?_
   | refine LeO.bind ?_ (fun _ => ?_)
set_option maxHeartbeats 64000000 in
set_option maxRecDepth 100000 in
theorem spec_GoodInflow.calls (k : Nat) (a0_0 : Int) (a0_1 : Int) (a0_2 : Int) (A0_3 : Option Addr) (c0_3 : Nat) (l0_3 : List (S177)) (r : Bool) (w : World) (hr0_3 : Kd.C k177 w A0_3 l0_3.length l0_3) (hc0_3 : l0_3.length ≤ c0_3) (h : spec_GoodInflow.f k a0_0 a0_1 a0_2 l0_3 = some r) :
  Calls Try.prog 108 #[.agg #[.int .i64 a0_0, .int .i64 a0_1, .int .i64 a0_2, .slice A0_3 l0_3.length c0_3]] w fun e w' => e = .returned (.bool r) ∧ Below w.heap.size w w' := by
 have hu61 := Try.underlying61
 have hu177 := Try.underlying177
 have HR0_3 := Aside0.mk hr0_3
 have HC0_3 := Aside0.mk hc0_3
 clear hr0_3 hc0_3
 have HB := Aside0.mk (Below.refl w.heap.size w)
 have H : ((spec_l1In.f a0_0 0 4000).bind fun t145 => (if t145 = true then ((spec_l1In.f a0_1 0 a0_0).bind fun t146 => (if t146 = true then (if a0_2 = (-1) then (spec_GoodInflow.j0 k (decide ((l0_3.length : Int) > 40)) a0_0 a0_1 a0_2 l0_3) else ((spec_l1In.f a0_2 a0_1 a0_0).bind fun t147 => (if t147 = true then (spec_GoodInflow.j0 k (decide ((l0_3.length : Int) > 40)) a0_0 a0_1 a0_2 l0_3) else (spec_GoodInflow.j0 k true a0_0 a0_1 a0_2 l0_3)))) else (spec_GoodInflow.j0 k true a0_0 a0_1 a0_2 l0_3))) else (spec_GoodInflow.j0 k true a0_0 a0_1 a0_2 l0_3))) = some r := h
 clear h
 have HC2 := Aside0.mk H
 clear H
 go_enter Try.func108, Try.ntmps108
 go_upto_region 1 with (first | ((with_reducible refine gate_dst (N := 1) rfl ?_); (try (refine gate_guard (by rfl) ?_; dsimp only)); refine box_event ?hg (N := 1) ?hd (cs := #[.int .i64 a0_0, .int .i64 a0_1, .int .i64 a0_2, .slice A0_3 l0_3.length c0_3]) (t := 61) ?hr ?_; (case hd => rfl); (case hg => rfl); (case hr => first | (go_simp; done) | (go_simp; rfl)); intro gb144 hg w3 hbox hb; have n0_ := bS HB hb; have n1_ := Aside0.mk (hbox); have n2_ := Aside0.mk ((by rw [hg]; exact (below_size (by repeat (first | (with_reducible first | exact HB.out | apply below_alloc | apply pw_below_drewN | apply below_drew1) | exact HB.out))) : w.heap.size ≤ gb144)); have n3_ := n2_; clear HB; have HB := n0_; have BK144 := n1_; have GW144 := n2_; have GE144 := n3_; clear n0_ n1_ n2_ n3_; clear hb hbox hg))
 (try simp only [Act.put, sA, sZ, sS])
 go_cut [38] (fun v38 wc => ∃ (kq : Nat) (x38_1 : Bool), v38 = .bool x38_1 ∧ Aside0 (spec_GoodInflow.j0 kq x38_1 a0_0 a0_1 a0_2 l0_3 = some r) ∧ Aside0 (kq ≤ k) ∧ Aside0 (wc.heap[gb144]? = some (.cells #[.int .i64 a0_0, .int .i64 a0_1, .int .i64 a0_2, (.slice A0_3 l0_3.length c0_3)] 61 (0, 0))) ∧ Aside0 (Below w.heap.size w wc))
 case first =>
  have H := HC2.out
  clear HC2
  replace H := Option.bind_eq_some_iff.mp H
  obtain ⟨t145, A40, H⟩ := H
  replace H : (if t145 = true then ((spec_l1In.f a0_1 0 a0_0).bind fun t146 => (if t146 = true then (if a0_2 = (-1) then (spec_GoodInflow.j0 k (decide ((l0_3.length : Int) > 40)) a0_0 a0_1 a0_2 l0_3) else ((spec_l1In.f a0_2 a0_1 a0_0).bind fun t147 => (if t147 = true then (spec_GoodInflow.j0 k (decide ((l0_3.length : Int) > 40)) a0_0 a0_1 a0_2 l0_3) else (spec_GoodInflow.j0 k true a0_0 a0_1 a0_2 l0_3)))) else (spec_GoodInflow.j0 k true a0_0 a0_1 a0_2 l0_3))) else (spec_GoodInflow.j0 k true a0_0 a0_1 a0_2 l0_3)) = some r := H
  have A4 := Aside0.mk A40
  clear A40
  by_cases c5 : t145 = true
  ·subst c5
   have H1 : ((spec_l1In.f a0_1 0 a0_0).bind fun t146 => (if t146 = true then (if a0_2 = (-1) then (spec_GoodInflow.j0 k (decide ((l0_3.length : Int) > 40)) a0_0 a0_1 a0_2 l0_3) else ((spec_l1In.f a0_2 a0_1 a0_0).bind fun t147 => (if t147 = true then (spec_GoodInflow.j0 k (decide ((l0_3.length : Int) > 40)) a0_0 a0_1 a0_2 l0_3) else (spec_GoodInflow.j0 k true a0_0 a0_1 a0_2 l0_3)))) else (spec_GoodInflow.j0 k true a0_0 a0_1 a0_2 l0_3))) = some r := by rw [if_pos rfl] at H; exact H
   clear H
   have H := H1
   clear H1
   replace H := Option.bind_eq_some_iff.mp H
   obtain ⟨t146, A60, H⟩ := H
   replace H : (if t146 = true then (if a0_2 = (-1) then (spec_GoodInflow.j0 k (decide ((l0_3.length : Int) > 40)) a0_0 a0_1 a0_2 l0_3) else ((spec_l1In.f a0_2 a0_1 a0_0).bind fun t147 => (if t147 = true then (spec_GoodInflow.j0 k (decide ((l0_3.length : Int) > 40)) a0_0 a0_1 a0_2 l0_3) else (spec_GoodInflow.j0 k true a0_0 a0_1 a0_2 l0_3)))) else (spec_GoodInflow.j0 k true a0_0 a0_1 a0_2 l0_3)) = some r := H
   have A6 := Aside0.mk A60
   clear A60
   by_cases c7 : t146 = true
   ·subst c7
    have H1 : (if a0_2 = (-1) then (spec_GoodInflow.j0 k (decide ((l0_3.length : Int) > 40)) a0_0 a0_1 a0_2 l0_3) else ((spec_l1In.f a0_2 a0_1 a0_0).bind fun t147 => (if t147 = true then (spec_GoodInflow.j0 k (decide ((l0_3.length : Int) > 40)) a0_0 a0_1 a0_2 l0_3) else (spec_GoodInflow.j0 k true a0_0 a0_1 a0_2 l0_3)))) = some r := by rw [if_pos rfl] at H; exact H
    clear H
    have H := H1
    clear H1
    by_cases c8 : a0_2 = (-1)
    ·rw [if_pos c8] at H
     have c8b0 : (a0_2 == (-1)) = true := beq_iff_eq.mpr c8
     have c8b1 : (a0_2 != (-1)) = false := bne_eq_false_iff_eq.mpr c8
     clear c8
     (first | rw [c8b0] | (simp only [i64_w, i32_w]; rw [c8b0]) | skip)
     have H' := Aside0.mk H
     clear H
     obtain ⟨hcz9_0, hcz9_1, hcz9_2, hcz9_3⟩ := cz4 BK144
     obtain ⟨hfz9_0, hfz9_1, hfz9_2, hfz9_3⟩ := fz4 BK144
     go_wp2_with (first | ((with_reducible refine gate_callee (f := 78) rfl ?_); refine goesL_ (some 8) rfl rfl Try.func78 (by kernel_rfl) rfl #[.int .i64 a0_0, .int .i64 0, .int .i64 4000] rfl (by (try simp only [List.map_toArray, List.map_cons, List.map_nil]); first | done | rfl | (simp only [List.length_drop, List.length_take]; rfl)) ?_; (with_reducible refine (spec_l1In.calls a0_0 0 4000 true _ A4.out).mono ?_); rintro e w' ⟨rfl, ⟨nd, rfl⟩⟩; refine ⟨_, rfl, ?_⟩) | (go_at_call 78; (with_reducible refine (spec_l1In.calls a0_1 0 a0_0 true _ A6.out).mono ?_); rintro e w' ⟨rfl, ⟨nd, rfl⟩⟩))
     go_meet
     case rel => exact ⟨_, (decide ((l0_3.length : Int) > 40)), (by first | rfl | (simp; done) | (simp [*]; done)), H', ⟨by first | omega | exact Nat.le_refl _⟩, ⟨by (with_reducible repeat (first | refine bN ?_ _ | refine bD ?_ | refine bA ?_ _)); exact BK144.out⟩, ⟨by repeat (first | (with_reducible first | exact HB.out | apply below_alloc | apply pw_below_drewN | apply below_drew1 | refine below_set ?_ GE144.out) | exact HB.out)⟩⟩
    ·rw [if_neg c8] at H
     have c8b0 : (a0_2 == (-1)) = false := beq_eq_false_iff_ne.mpr c8
     have c8b1 : (a0_2 != (-1)) = true := bne_iff_ne.mpr c8
     (first | rw [c8b0] | (simp only [i64_w, i32_w]; rw [c8b0]) | skip)
     replace H := Option.bind_eq_some_iff.mp H
     obtain ⟨t147, A100, H⟩ := H
     replace H : (if t147 = true then (spec_GoodInflow.j0 k (decide ((l0_3.length : Int) > 40)) a0_0 a0_1 a0_2 l0_3) else (spec_GoodInflow.j0 k true a0_0 a0_1 a0_2 l0_3)) = some r := H
     have A10 := Aside0.mk A100
     clear A100
     by_cases c11 : t147 = true
     ·subst c11
      have H1 : (spec_GoodInflow.j0 k (decide ((l0_3.length : Int) > 40)) a0_0 a0_1 a0_2 l0_3) = some r := by rw [if_pos rfl] at H; exact H
      clear H
      have H := H1
      clear H1
      have H' := Aside0.mk H
      clear H
      obtain ⟨hcz12_0, hcz12_1, hcz12_2, hcz12_3⟩ := cz4 BK144
      obtain ⟨hfz12_0, hfz12_1, hfz12_2, hfz12_3⟩ := fz4 BK144
      go_wp2_with (first | ((with_reducible refine gate_callee (f := 78) rfl ?_); refine goesL_ (some 8) rfl rfl Try.func78 (by kernel_rfl) rfl #[.int .i64 a0_0, .int .i64 0, .int .i64 4000] rfl (by (try simp only [List.map_toArray, List.map_cons, List.map_nil]); first | done | rfl | (simp only [List.length_drop, List.length_take]; rfl)) ?_; (with_reducible refine (spec_l1In.calls a0_0 0 4000 true _ A4.out).mono ?_); rintro e w' ⟨rfl, ⟨nd, rfl⟩⟩; refine ⟨_, rfl, ?_⟩) | (go_at_call 78; (with_reducible refine (spec_l1In.calls a0_1 0 a0_0 true _ A6.out).mono ?_); rintro e w' ⟨rfl, ⟨nd, rfl⟩⟩) | (go_at_call 78; (with_reducible refine (spec_l1In.calls a0_2 a0_1 a0_0 true _ A10.out).mono ?_); rintro e w' ⟨rfl, ⟨nd, rfl⟩⟩))
      go_meet
      case rel => exact ⟨_, (decide ((l0_3.length : Int) > 40)), (by first | rfl | (simp; done) | (simp [*]; done)), H', ⟨by first | omega | exact Nat.le_refl _⟩, ⟨by (with_reducible repeat (first | refine bN ?_ _ | refine bD ?_ | refine bA ?_ _)); exact BK144.out⟩, ⟨by repeat (first | (with_reducible first | exact HB.out | apply below_alloc | apply pw_below_drewN | apply below_drew1 | refine below_set ?_ GE144.out) | exact HB.out)⟩⟩
     ·replace c11 := Bool.eq_false_iff.mpr c11
      subst c11
      have H1 : (spec_GoodInflow.j0 k true a0_0 a0_1 a0_2 l0_3) = some r := by rw [if_neg (show ¬ (false = true) by decide)] at H; exact H
      clear H
      have H := H1
      clear H1
      have H' := Aside0.mk H
      clear H
      obtain ⟨hcz13_0, hcz13_1, hcz13_2, hcz13_3⟩ := cz4 BK144
      obtain ⟨hfz13_0, hfz13_1, hfz13_2, hfz13_3⟩ := fz4 BK144
      go_wp2_with (first | ((with_reducible refine gate_callee (f := 78) rfl ?_); refine goesL_ (some 8) rfl rfl Try.func78 (by kernel_rfl) rfl #[.int .i64 a0_0, .int .i64 0, .int .i64 4000] rfl (by (try simp only [List.map_toArray, List.map_cons, List.map_nil]); first | done | rfl | (simp only [List.length_drop, List.length_take]; rfl)) ?_; (with_reducible refine (spec_l1In.calls a0_0 0 4000 true _ A4.out).mono ?_); rintro e w' ⟨rfl, ⟨nd, rfl⟩⟩; refine ⟨_, rfl, ?_⟩) | (go_at_call 78; (with_reducible refine (spec_l1In.calls a0_1 0 a0_0 true _ A6.out).mono ?_); rintro e w' ⟨rfl, ⟨nd, rfl⟩⟩) | (go_at_call 78; (with_reducible refine (spec_l1In.calls a0_2 a0_1 a0_0 false _ A10.out).mono ?_); rintro e w' ⟨rfl, ⟨nd, rfl⟩⟩))
      go_meet
      case rel => exact ⟨_, (true), (by first | rfl | (simp; done) | (simp [*]; done)), H', ⟨by first | omega | exact Nat.le_refl _⟩, ⟨by (with_reducible repeat (first | refine bN ?_ _ | refine bD ?_ | refine bA ?_ _)); exact BK144.out⟩, ⟨by repeat (first | (with_reducible first | exact HB.out | apply below_alloc | apply pw_below_drewN | apply below_drew1 | refine below_set ?_ GE144.out) | exact HB.out)⟩⟩
   ·replace c7 := Bool.eq_false_iff.mpr c7
    subst c7
    have H1 : (spec_GoodInflow.j0 k true a0_0 a0_1 a0_2 l0_3) = some r := by rw [if_neg (show ¬ (false = true) by decide)] at H; exact H
    clear H
    have H := H1
    clear H1
    have H' := Aside0.mk H
    clear H
    obtain ⟨hcz14_0, hcz14_1, hcz14_2, hcz14_3⟩ := cz4 BK144
    obtain ⟨hfz14_0, hfz14_1, hfz14_2, hfz14_3⟩ := fz4 BK144
    go_wp2_with (first | ((with_reducible refine gate_callee (f := 78) rfl ?_); refine goesL_ (some 8) rfl rfl Try.func78 (by kernel_rfl) rfl #[.int .i64 a0_0, .int .i64 0, .int .i64 4000] rfl (by (try simp only [List.map_toArray, List.map_cons, List.map_nil]); first | done | rfl | (simp only [List.length_drop, List.length_take]; rfl)) ?_; (with_reducible refine (spec_l1In.calls a0_0 0 4000 true _ A4.out).mono ?_); rintro e w' ⟨rfl, ⟨nd, rfl⟩⟩; refine ⟨_, rfl, ?_⟩) | (go_at_call 78; (with_reducible refine (spec_l1In.calls a0_1 0 a0_0 false _ A6.out).mono ?_); rintro e w' ⟨rfl, ⟨nd, rfl⟩⟩))
    go_meet
    case rel => exact ⟨_, (true), (by first | rfl | (simp; done) | (simp [*]; done)), H', ⟨by first | omega | exact Nat.le_refl _⟩, ⟨by (with_reducible repeat (first | refine bN ?_ _ | refine bD ?_ | refine bA ?_ _)); exact BK144.out⟩, ⟨by repeat (first | (with_reducible first | exact HB.out | apply below_alloc | apply pw_below_drewN | apply below_drew1 | refine below_set ?_ GE144.out) | exact HB.out)⟩⟩
  ·replace c5 := Bool.eq_false_iff.mpr c5
   subst c5
   have H1 : (spec_GoodInflow.j0 k true a0_0 a0_1 a0_2 l0_3) = some r := by rw [if_neg (show ¬ (false = true) by decide)] at H; exact H
   clear H
   have H := H1
   clear H1
   have H' := Aside0.mk H
   clear H
   obtain ⟨hcz15_0, hcz15_1, hcz15_2, hcz15_3⟩ := cz4 BK144
   obtain ⟨hfz15_0, hfz15_1, hfz15_2, hfz15_3⟩ := fz4 BK144
   go_wp2_with (first | ((with_reducible refine gate_callee (f := 78) rfl ?_); refine goesL_ (some 8) rfl rfl Try.func78 (by kernel_rfl) rfl #[.int .i64 a0_0, .int .i64 0, .int .i64 4000] rfl (by (try simp only [List.map_toArray, List.map_cons, List.map_nil]); first | done | rfl | (simp only [List.length_drop, List.length_take]; rfl)) ?_; (with_reducible refine (spec_l1In.calls a0_0 0 4000 false _ A4.out).mono ?_); rintro e w' ⟨rfl, ⟨nd, rfl⟩⟩; refine ⟨_, rfl, ?_⟩))
   go_meet
   case rel => exact ⟨_, (true), (by first | rfl | (simp; done) | (simp [*]; done)), H', ⟨by first | omega | exact Nat.le_refl _⟩, ⟨by (with_reducible repeat (first | refine bN ?_ _ | refine bD ?_ | refine bA ?_ _)); exact BK144.out⟩, ⟨by repeat (first | (with_reducible first | exact HB.out | apply below_alloc | apply pw_below_drewN | apply below_drew1 | refine below_set ?_ GE144.out) | exact HB.out)⟩⟩
 case rest =>
  clear HC2
  try clear c1
  try clear p2
  try clear c5
  try clear c7
  try clear c8
  try clear c8b0
  try clear c8b1
  try clear c10
  try clear c11
  try clear hcz12_0
  try clear hcz12_1
  try clear hcz12_2
  try clear hcz12_3
  try clear hcz13_0
  try clear hcz13_1
  try clear hcz13_2
  try clear hcz13_3
  try clear hcz14_0
  try clear hcz14_1
  try clear hcz14_2
  try clear hcz14_3
  try clear hcz15_0
  try clear hcz15_1
  try clear hcz15_2
  try clear hcz15_3
  try clear hcz9_0
  try clear hcz9_1
  try clear hcz9_2
  try clear hcz9_3
  try clear hfz12_0
  try clear hfz12_1
  try clear hfz12_2
  try clear hfz12_3
  try clear hfz13_0
  try clear hfz13_1
  try clear hfz13_2
  try clear hfz13_3
  try clear hfz14_0
  try clear hfz14_1
  try clear hfz14_2
  try clear hfz14_3
  try clear hfz15_0
  try clear hfz15_1
  try clear hfz15_2
  try clear hfz15_3
  try clear hfz9_0
  try clear hfz9_1
  try clear hfz9_2
  try clear hfz9_3
  obtain ⟨kq, x38_1, rfl, HA, HJ1, BK144, HB⟩ := hcut
  cases kq with
  | zero => exact absurd HA.out (by simp [spec_GoodInflow.j0])
  | succ kj1 =>
   have H := HA.out
   clear HA
   simp only [spec_GoodInflow.j0] at H
   by_cases c16 : x38_1 = true
   ·subst c16
    have H1 : (some false) = some r := by rw [if_pos rfl] at H; exact H
    clear H
    have H := H1
    clear H1
    obtain rfl := Option.some.inj H
    go_wp2
    go_ret
    exact ⟨by first | rfl | (simp only [Go.Proofs.Ythkmjfapljmmpaa.StoreK.ne_nil_b]; first | done | rfl | (simp; done)) | (simp [errW_none, errW_some] <;> rfl) | (simp [*, errW_none, errW_some] <;> rfl), by repeat (first | (with_reducible first | exact HB.out | apply below_alloc | apply pw_below_drewN | apply below_drew1 | refine below_set ?_ GE144.out) | exact HB.out)⟩
   ·replace c16 := Bool.eq_false_iff.mpr c16
    subst c16
    have H1 : (spec_GoodInflow.l0 kj1 (wrap64 (a0_1 - 1)) l0_3 (l0_3.length : Int) 0 a0_0 a0_1 a0_2 l0_3) = some r := by rw [if_neg (show ¬ (false = true) by decide)] at H; exact H
    clear H
    have H := H1
    clear H1
    have H' := Aside0.mk H
    clear H
    obtain ⟨hcz17_0, hcz17_1, hcz17_2, hcz17_3⟩ := cz4 BK144
    obtain ⟨hfz17_0, hfz17_1, hfz17_2, hfz17_3⟩ := fz4 BK144
    go_wp2
    go_loopg [3, 45] kj1 (fun kq v3 v45 w' => ∃ (x3_2 : Int) (x45_2 : Int), v3 = .int .i64 x3_2 ∧ v45 = .int .i64 x45_2 ∧ Aside0 (spec_GoodInflow.l0 kq x3_2 l0_3 (l0_3.length : Int) x45_2 a0_0 a0_1 a0_2 l0_3 = some r) ∧ Aside0 (kq ≤ kj1) ∧ Aside0 (w'.heap[gb144]? = some (.cells #[.int .i64 a0_0, .int .i64 a0_1, .int .i64 a0_2, (.slice A0_3 l0_3.length c0_3)] 61 (0, 0))) ∧ Aside0 (Below w.heap.size w w'))
    case atStart => exact ⟨(wrap64 (a0_1 - 1)), (0), (by first | rfl | (simp; done) | (simp [*]; done)), (by first | rfl | (simp; done) | (simp [*]; done)), H', ⟨Nat.le_refl _⟩, ⟨by (with_reducible repeat (first | refine bN ?_ _ | refine bD ?_ | refine bA ?_ _)); exact BK144.out⟩, ⟨by repeat (first | (with_reducible first | exact HB.out | apply below_alloc | apply pw_below_drewN | apply below_drew1 | refine below_set ?_ GE144.out) | exact HB.out)⟩⟩
    case round =>
     clear H'
     try clear c1
     try clear p2
     try clear c5
     try clear p6
     try clear c7
     try clear c8
     try clear c8b0
     try clear c8b1
     try clear c10
     try clear c11
     try clear c16
     try clear hcz12_0
     try clear hcz12_1
     try clear hcz12_2
     try clear hcz12_3
     try clear hcz13_0
     try clear hcz13_1
     try clear hcz13_2
     try clear hcz13_3
     try clear hcz14_0
     try clear hcz14_1
     try clear hcz14_2
     try clear hcz14_3
     try clear hcz15_0
     try clear hcz15_1
     try clear hcz15_2
     try clear hcz15_3
     try clear hcz17_0
     try clear hcz17_1
     try clear hcz17_2
     try clear hcz17_3
     try clear hcz9_0
     try clear hcz9_1
     try clear hcz9_2
     try clear hcz9_3
     try clear hfz12_0
     try clear hfz12_1
     try clear hfz12_2
     try clear hfz12_3
     try clear hfz13_0
     try clear hfz13_1
     try clear hfz13_2
     try clear hfz13_3
     try clear hfz14_0
     try clear hfz14_1
     try clear hfz14_2
     try clear hfz14_3
     try clear hfz15_0
     try clear hfz15_1
     try clear hfz15_2
     try clear hfz15_3
     try clear hfz17_0
     try clear hfz17_1
     try clear hfz17_2
     try clear hfz17_3
     try clear hfz9_0
     try clear hfz9_1
     try clear hfz9_2
     try clear hfz9_3
     try clear p2
     obtain ⟨x3_2, x45_2, rfl, rfl, HA, HK2, BK144, HB⟩ := hrel
     cases gk with
     | zero => exact absurd HA.out (by simp [spec_GoodInflow.l0])
     | succ k2 =>
      have H := HA.out
      clear HA
      simp only [spec_GoodInflow.l0] at H
      by_cases c18 : x45_2 < (l0_3.length : Int)
      ·rw [if_pos c18] at H
       have c18b0 : decide (x45_2 < (l0_3.length : Int)) = true := decide_eq_true c18
       clear c18
       by_cases c19 : 0 ≤ x45_2
       ·rw [if_pos c19] at H
        have c19b0 : decide (0 ≤ x45_2) = true := decide_eq_true c19
        clear c19
        by_cases c20 : x45_2 < (l0_3.length : Int)
        ·rw [if_pos c20] at H
         have c20b0 : decide (x45_2 < (l0_3.length : Int)) = true := decide_eq_true c20
         clear c20
         have HC21 := Aside0.mk H
         clear H
         have p148 : 0 ≤ (x45_2 : Int) := of_decide_eq_true (by first | (with_reducible assumption) | assumption)
         have q148 : x45_2 < (l0_3.length : Int) := of_decide_eq_true (by first | (with_reducible assumption) | assumption)
         obtain ⟨ad148, e148, hx148_0, hx148_1⟩ := at_T177 HR0_3.out x45_2 p148 q148
         cases e148
         replace hx148_0 := (HB.out.cell (World.block_lt_of_cell? w _ hx148_0)).trans hx148_0
         replace hx148_1 := (HB.out.cell (World.block_lt_of_cell? w _ hx148_1)).trans hx148_1
         replace p148 := eq_true p148
         replace q148 := eq_true q148
         go_upto_region 7 with (first | ((with_reducible refine gate_dst (N := 5) rfl ?_); (try (refine gate_guard (by rfl) ?_; dsimp only)); refine box_event ?hg (N := 5) ?hd (cs := #[.int .i64 0, .string (⟨#[]⟩ : ByteArray)]) (t := 177) ?hr ?_; (case hd => rfl); (case hg => rfl); (case hr => first | (go_simp; done) | (go_simp; rfl)); intro gb149 hg w22 hbox hb; have n0_ := bX BK144 hb; have n1_ := bS HB hb; have n2_ := Aside0.mk (hbox); have n3_ := Aside0.mk ((by rw [hg]; exact (below_size (by repeat (first | (with_reducible first | exact HB.out | apply below_alloc | apply pw_below_drewN | apply below_drew1 | refine below_set ?_ GE144.out) | exact HB.out))) : w.heap.size ≤ gb149)); have n4_ := n3_; have n5_ := Aside0.mk ((by rw [hg]; exact Nat.ne_of_lt (bLt BK144) : gb144 ≠ gb149)); have n6_ := Aside0.mk ((by rw [hg]; exact Nat.ne_of_gt (bLt BK144) : gb149 ≠ gb144)); clear BK144; clear HB; have BK144 := n0_; have HB := n1_; have BK149 := n2_; have GW149 := n3_; have GE149 := n4_; have NB144_149 := n5_; have NB149_144 := n6_; clear n0_ n1_ n2_ n3_ n4_ n5_ n6_; clear hb hbox hg; have hnb23 := NB149_144.out; have hnc23 := NB144_149.out; obtain ⟨hcz24_0, hcz24_1⟩ := cz2 BK149; obtain ⟨hfz24_0, hfz24_1⟩ := fz2 BK149))
         (try simp only [Act.put, sA, sZ, sS])
         go_cut [69] (fun v69 wc => ∃ (kq : Nat) (x69_20 : Bool), v69 = .bool x69_20 ∧ Aside0 (spec_GoodInflow.j2 kq l0_3 (l0_3.length : Int) x45_2 x69_20 a0_0 a0_1 a0_2 l0_3 ((rd_T177 l0_3 x45_2).f0) ((rd_T177 l0_3 x45_2).f1) = some r) ∧ Aside0 (kq ≤ k2) ∧ Aside0 (wc.heap[gb144]? = some (.cells #[.int .i64 a0_0, .int .i64 a0_1, .int .i64 a0_2, (.slice (some ad148) l0_3.length c0_3)] 61 (0, 0))) ∧ Aside0 (wc.heap[gb149]? = some (.cells #[.int .i64 ((rd_T177 l0_3 x45_2).f0), .string ((rd_T177 l0_3 x45_2).f1)] 177 (0, 0))) ∧ Aside0 (Below w.heap.size w wc))
         case first =>
          have H := HC21.out
          clear HC21
          by_cases c25 : ((rd_T177 l0_3 x45_2).f1).toList = ([] : List UInt8)
          ·rw [if_pos c25] at H
           have c25b0 : (((rd_T177 l0_3 x45_2).f1).toList == ([] : List UInt8)) = true := beq_iff_eq.mpr c25
           have c25b1 : (((rd_T177 l0_3 x45_2).f1).toList != ([] : List UInt8)) = false := bne_eq_false_iff_eq.mpr c25
           clear c25
           (first | rw [c25b0] | (simp only [i64_w, i32_w]; rw [c25b0]) | skip)
           have H' := Aside0.mk H
           clear H
           have hnb26 := NB149_144.out
           have hnc26 := NB144_149.out
           obtain ⟨hcz27_0, hcz27_1⟩ := cz2 BK149
           obtain ⟨hfz27_0, hfz27_1⟩ := fz2 BK149
           go_wp2
           go_meet
           case rel => exact ⟨_, (true), (by first | rfl | (simp; done) | (simp [*]; done)), H', ⟨by have := HJ1.out; have := HK2.out; first | omega | exact Nat.le_refl _⟩, ⟨by (with_reducible repeat (first | refine bN ?_ _ | refine bD ?_ | refine bA ?_ _)); refine blk_far ?_ NB144_149.out _; (with_reducible repeat (first | refine bN ?_ _ | refine bD ?_ | refine bA ?_ _)); refine blk_far ?_ NB144_149.out _; (with_reducible repeat (first | refine bN ?_ _ | refine bD ?_ | refine bA ?_ _)); exact BK144.out⟩, ⟨by (with_reducible repeat (first | refine bN ?_ _ | refine bD ?_ | refine bA ?_ _)); refine blk_put (cs := #[.int .i64 ((rd_T177 l0_3 x45_2).f0), .string (⟨#[]⟩ : ByteArray)]) ?_ 1 _ rfl; (with_reducible repeat (first | refine bN ?_ _ | refine bD ?_ | refine bA ?_ _)); refine blk_put (cs := #[.int .i64 0, .string (⟨#[]⟩ : ByteArray)]) ?_ 0 _ rfl; (with_reducible repeat (first | refine bN ?_ _ | refine bD ?_ | refine bA ?_ _)); exact BK149.out⟩, ⟨by repeat (first | (with_reducible first | exact HB.out | apply below_alloc | apply pw_below_drewN | apply below_drew1 | refine below_set ?_ GE144.out | refine below_set ?_ GE149.out) | exact HB.out)⟩⟩
          ·rw [if_neg c25] at H
           have c25b0 : (((rd_T177 l0_3 x45_2).f1).toList == ([] : List UInt8)) = false := beq_eq_false_iff_ne.mpr c25
           have c25b1 : (((rd_T177 l0_3 x45_2).f1).toList != ([] : List UInt8)) = true := bne_iff_ne.mpr c25
           (first | rw [c25b0] | (simp only [i64_w, i32_w]; rw [c25b0]) | skip)
           by_cases c28 : ((rd_T177 l0_3 x45_2).f0) ≤ x3_2
           ·rw [if_pos c28] at H
            have c28b0 : decide (((rd_T177 l0_3 x45_2).f0) ≤ x3_2) = true := decide_eq_true c28
            clear c28
            by_cases c29 : x45_2 > 0
            ·rw [if_pos c29] at H
             have c29b0 : decide (0 < x45_2) = true := decide_eq_true c29
             clear c29
             have H' := Aside0.mk H
             clear H
             have hnb30 := NB149_144.out
             have hnc30 := NB144_149.out
             obtain ⟨hcz31_0, hcz31_1⟩ := cz2 BK149
             obtain ⟨hfz31_0, hfz31_1⟩ := fz2 BK149
             go_wp2
             go_meet
             case rel => exact ⟨_, (true), (by first | rfl | (simp; done) | (simp [*]; done)), H', ⟨by have := HJ1.out; have := HK2.out; first | omega | exact Nat.le_refl _⟩, ⟨by (with_reducible repeat (first | refine bN ?_ _ | refine bD ?_ | refine bA ?_ _)); refine blk_far ?_ NB144_149.out _; (with_reducible repeat (first | refine bN ?_ _ | refine bD ?_ | refine bA ?_ _)); refine blk_far ?_ NB144_149.out _; (with_reducible repeat (first | refine bN ?_ _ | refine bD ?_ | refine bA ?_ _)); exact BK144.out⟩, ⟨by (with_reducible repeat (first | refine bN ?_ _ | refine bD ?_ | refine bA ?_ _)); refine blk_put (cs := #[.int .i64 ((rd_T177 l0_3 x45_2).f0), .string (⟨#[]⟩ : ByteArray)]) ?_ 1 _ rfl; (with_reducible repeat (first | refine bN ?_ _ | refine bD ?_ | refine bA ?_ _)); refine blk_put (cs := #[.int .i64 0, .string (⟨#[]⟩ : ByteArray)]) ?_ 0 _ rfl; (with_reducible repeat (first | refine bN ?_ _ | refine bD ?_ | refine bA ?_ _)); exact BK149.out⟩, ⟨by repeat (first | (with_reducible first | exact HB.out | apply below_alloc | apply pw_below_drewN | apply below_drew1 | refine below_set ?_ GE144.out | refine below_set ?_ GE149.out) | exact HB.out)⟩⟩
            ·rw [if_neg c29] at H
             have c29b0 : decide (0 < x45_2) = false := decide_eq_false c29
             clear c29
             have H' := Aside0.mk H
             clear H
             have hnb32 := NB149_144.out
             have hnc32 := NB144_149.out
             obtain ⟨hcz33_0, hcz33_1⟩ := cz2 BK149
             obtain ⟨hfz33_0, hfz33_1⟩ := fz2 BK149
             obtain ⟨hcz34_0, hcz34_1, hcz34_2, hcz34_3⟩ := cz4 BK144
             obtain ⟨hfz34_0, hfz34_1, hfz34_2, hfz34_3⟩ := fz4 BK144
             go_wp2
             go_meet
             case rel => exact ⟨_, (decide (((rd_T177 l0_3 x45_2).f0) < a0_1)), (by first | rfl | (simp; done) | (simp [*]; done)), H', ⟨by have := HJ1.out; have := HK2.out; first | omega | exact Nat.le_refl _⟩, ⟨by (with_reducible repeat (first | refine bN ?_ _ | refine bD ?_ | refine bA ?_ _)); refine blk_far ?_ NB144_149.out _; (with_reducible repeat (first | refine bN ?_ _ | refine bD ?_ | refine bA ?_ _)); refine blk_far ?_ NB144_149.out _; (with_reducible repeat (first | refine bN ?_ _ | refine bD ?_ | refine bA ?_ _)); exact BK144.out⟩, ⟨by (with_reducible repeat (first | refine bN ?_ _ | refine bD ?_ | refine bA ?_ _)); refine blk_put (cs := #[.int .i64 ((rd_T177 l0_3 x45_2).f0), .string (⟨#[]⟩ : ByteArray)]) ?_ 1 _ rfl; (with_reducible repeat (first | refine bN ?_ _ | refine bD ?_ | refine bA ?_ _)); refine blk_put (cs := #[.int .i64 0, .string (⟨#[]⟩ : ByteArray)]) ?_ 0 _ rfl; (with_reducible repeat (first | refine bN ?_ _ | refine bD ?_ | refine bA ?_ _)); exact BK149.out⟩, ⟨by repeat (first | (with_reducible first | exact HB.out | apply below_alloc | apply pw_below_drewN | apply below_drew1 | refine below_set ?_ GE144.out | refine below_set ?_ GE149.out) | exact HB.out)⟩⟩
           ·rw [if_neg c28] at H
            have c28b0 : decide (((rd_T177 l0_3 x45_2).f0) ≤ x3_2) = false := decide_eq_false c28
            clear c28
            have H' := Aside0.mk H
            clear H
            have hnb35 := NB149_144.out
            have hnc35 := NB144_149.out
            obtain ⟨hcz36_0, hcz36_1⟩ := cz2 BK149
            obtain ⟨hfz36_0, hfz36_1⟩ := fz2 BK149
            go_wp2
            go_meet
            case rel => exact ⟨_, (false), (by first | rfl | (simp; done) | (simp [*]; done)), H', ⟨by have := HJ1.out; have := HK2.out; first | omega | exact Nat.le_refl _⟩, ⟨by (with_reducible repeat (first | refine bN ?_ _ | refine bD ?_ | refine bA ?_ _)); refine blk_far ?_ NB144_149.out _; (with_reducible repeat (first | refine bN ?_ _ | refine bD ?_ | refine bA ?_ _)); refine blk_far ?_ NB144_149.out _; (with_reducible repeat (first | refine bN ?_ _ | refine bD ?_ | refine bA ?_ _)); exact BK144.out⟩, ⟨by (with_reducible repeat (first | refine bN ?_ _ | refine bD ?_ | refine bA ?_ _)); refine blk_put (cs := #[.int .i64 ((rd_T177 l0_3 x45_2).f0), .string (⟨#[]⟩ : ByteArray)]) ?_ 1 _ rfl; (with_reducible repeat (first | refine bN ?_ _ | refine bD ?_ | refine bA ?_ _)); refine blk_put (cs := #[.int .i64 0, .string (⟨#[]⟩ : ByteArray)]) ?_ 0 _ rfl; (with_reducible repeat (first | refine bN ?_ _ | refine bD ?_ | refine bA ?_ _)); exact BK149.out⟩, ⟨by repeat (first | (with_reducible first | exact HB.out | apply below_alloc | apply pw_below_drewN | apply below_drew1 | refine below_set ?_ GE144.out | refine below_set ?_ GE149.out) | exact HB.out)⟩⟩
         case rest =>
          clear HC21
          try clear c1
          try clear p1
          try clear q1
          try clear hx1
          try clear c2
          try clear p2
          try clear c3
          try clear c5
          try clear p6
          try clear c7
          try clear c8
          try clear c8b0
          try clear c8b1
          try clear c10
          try clear c11
          try clear p14
          try clear q14
          try clear hx14
          try clear c16
          try clear c18
          try clear c18b0
          try clear c19
          try clear c19b0
          try clear c20
          try clear c20b0
          try clear c23
          try clear c25
          try clear c25b0
          try clear c25b1
          try clear c26
          try clear c28
          try clear c28b0
          try clear c29
          try clear c29b0
          try clear c30
          try clear c32
          try clear c35
          try clear hcz12_0
          try clear hcz12_1
          try clear hcz12_2
          try clear hcz12_3
          try clear hcz13_0
          try clear hcz13_1
          try clear hcz13_2
          try clear hcz13_3
          try clear hcz14_0
          try clear hcz14_1
          try clear hcz14_2
          try clear hcz14_3
          try clear hcz15_0
          try clear hcz15_1
          try clear hcz15_2
          try clear hcz15_3
          try clear hcz17_0
          try clear hcz17_1
          try clear hcz17_2
          try clear hcz17_3
          try clear hcz24_0
          try clear hcz24_1
          try clear hcz27_0
          try clear hcz27_1
          try clear hcz31_0
          try clear hcz31_1
          try clear hcz33_0
          try clear hcz33_1
          try clear hcz34_0
          try clear hcz34_1
          try clear hcz34_2
          try clear hcz34_3
          try clear hcz36_0
          try clear hcz36_1
          try clear hcz9_0
          try clear hcz9_1
          try clear hcz9_2
          try clear hcz9_3
          try clear hfz12_0
          try clear hfz12_1
          try clear hfz12_2
          try clear hfz12_3
          try clear hfz13_0
          try clear hfz13_1
          try clear hfz13_2
          try clear hfz13_3
          try clear hfz14_0
          try clear hfz14_1
          try clear hfz14_2
          try clear hfz14_3
          try clear hfz15_0
          try clear hfz15_1
          try clear hfz15_2
          try clear hfz15_3
          try clear hfz17_0
          try clear hfz17_1
          try clear hfz17_2
          try clear hfz17_3
          try clear hfz24_0
          try clear hfz24_1
          try clear hfz27_0
          try clear hfz27_1
          try clear hfz31_0
          try clear hfz31_1
          try clear hfz33_0
          try clear hfz33_1
          try clear hfz34_0
          try clear hfz34_1
          try clear hfz34_2
          try clear hfz34_3
          try clear hfz36_0
          try clear hfz36_1
          try clear hfz9_0
          try clear hfz9_1
          try clear hfz9_2
          try clear hfz9_3
          try clear hx148_0
          try clear hx148_1
          try clear p148
          try clear p2
          try clear p6
          try clear q148
          obtain ⟨kq, x69_20, rfl, HA, HJ20, BK144, BK149, HB⟩ := hcut
          cases kq with
          | zero => exact absurd HA.out (by simp [spec_GoodInflow.j2])
          | succ kj20 =>
           have H := HA.out
           clear HA
           simp only [spec_GoodInflow.j2] at H
           by_cases c37 : x69_20 = true
           ·subst c37
            have H1 : (some false) = some r := by rw [if_pos rfl] at H; exact H
            clear H
            have H := H1
            clear H1
            obtain rfl := Option.some.inj H
            go_wp2
            go_ret
            exact ⟨by first | rfl | (simp only [Go.Proofs.Ythkmjfapljmmpaa.StoreK.ne_nil_b]; first | done | rfl | (simp; done)) | (simp [errW_none, errW_some] <;> rfl) | (simp [*, errW_none, errW_some] <;> rfl), by repeat (first | (with_reducible first | exact HB.out | apply below_alloc | apply pw_below_drewN | apply below_drew1 | refine below_set ?_ GE144.out | refine below_set ?_ GE149.out) | exact HB.out)⟩
           ·replace c37 := Bool.eq_false_iff.mpr c37
            subst c37
            have H1 : (if ((rd_T177 l0_3 x45_2).f0) > (wrap64 (a0_0 - (((rd_T177 l0_3 x45_2).f1).size : Int))) then (spec_GoodInflow.j3 kj20 l0_3 (l0_3.length : Int) x45_2 true a0_0 a0_1 a0_2 l0_3 ((rd_T177 l0_3 x45_2).f0) ((rd_T177 l0_3 x45_2).f1)) else (if a0_2 = (-1) then (spec_GoodInflow.j3 kj20 l0_3 (l0_3.length : Int) x45_2 false a0_0 a0_1 a0_2 l0_3 ((rd_T177 l0_3 x45_2).f0) ((rd_T177 l0_3 x45_2).f1)) else (spec_GoodInflow.j3 kj20 l0_3 (l0_3.length : Int) x45_2 (decide (((rd_T177 l0_3 x45_2).f0) > (wrap64 (a0_2 - (((rd_T177 l0_3 x45_2).f1).size : Int))))) a0_0 a0_1 a0_2 l0_3 ((rd_T177 l0_3 x45_2).f0) ((rd_T177 l0_3 x45_2).f1)))) = some r := by rw [if_neg (show ¬ (false = true) by decide)] at H; exact H
            clear H
            have H := H1
            clear H1
            have HC38 := Aside0.mk H
            clear H
            go_upto_region 9 with (fail)
            go_cut [94] (fun v94 wc => ∃ (kq : Nat) (x94_37 : Bool), v94 = .bool x94_37 ∧ Aside0 (spec_GoodInflow.j3 kq l0_3 (l0_3.length : Int) x45_2 x94_37 a0_0 a0_1 a0_2 l0_3 ((rd_T177 l0_3 x45_2).f0) ((rd_T177 l0_3 x45_2).f1) = some r) ∧ Aside0 (kq ≤ kj20) ∧ Aside0 (wc.heap[gb144]? = some (.cells #[.int .i64 a0_0, .int .i64 a0_1, .int .i64 a0_2, (.slice (some ad148) l0_3.length c0_3)] 61 (0, 0))) ∧ Aside0 (wc.heap[gb149]? = some (.cells #[.int .i64 ((rd_T177 l0_3 x45_2).f0), .string ((rd_T177 l0_3 x45_2).f1)] 177 (0, 0))) ∧ Aside0 (Below w.heap.size w wc))
            case first =>
             have H := HC38.out
             clear HC38
             by_cases c39 : ((rd_T177 l0_3 x45_2).f0) > (wrap64 (a0_0 - (((rd_T177 l0_3 x45_2).f1).size : Int)))
             ·rw [if_pos c39] at H
              have c39b0 : decide ((wrap64 (a0_0 - (((rd_T177 l0_3 x45_2).f1).size : Int))) < ((rd_T177 l0_3 x45_2).f0)) = true := decide_eq_true c39
              (try (have c39b1 : decide ((IntKind.i64.wrap (a0_0 - (((rd_T177 l0_3 x45_2).f1).size : Int))) < ((rd_T177 l0_3 x45_2).f0)) = true := by simp only [i64_w]; exact (decide_eq_true c39)))
              clear c39
              (first | rw [c39b0] | (simp only [i64_w, i32_w]; rw [c39b0]) | skip)
              have H' := Aside0.mk H
              clear H
              have hnb40 := NB149_144.out
              have hnc40 := NB144_149.out
              obtain ⟨hcz41_0, hcz41_1⟩ := cz2 BK149
              obtain ⟨hfz41_0, hfz41_1⟩ := fz2 BK149
              obtain ⟨hcz42_0, hcz42_1, hcz42_2, hcz42_3⟩ := cz4 BK144
              obtain ⟨hfz42_0, hfz42_1, hfz42_2, hfz42_3⟩ := fz4 BK144
              go_wp2
              go_meet
              case rel => exact ⟨_, (true), (by first | rfl | (simp; done) | (simp [*]; done)), H', ⟨by have := HJ1.out; have := HK2.out; have := HJ20.out; first | omega | exact Nat.le_refl _⟩, ⟨by (with_reducible repeat (first | refine bN ?_ _ | refine bD ?_ | refine bA ?_ _)); exact BK144.out⟩, ⟨by (with_reducible repeat (first | refine bN ?_ _ | refine bD ?_ | refine bA ?_ _)); exact BK149.out⟩, ⟨by repeat (first | (with_reducible first | exact HB.out | apply below_alloc | apply pw_below_drewN | apply below_drew1 | refine below_set ?_ GE144.out | refine below_set ?_ GE149.out) | exact HB.out)⟩⟩
             ·rw [if_neg c39] at H
              have c39b0 : decide ((wrap64 (a0_0 - (((rd_T177 l0_3 x45_2).f1).size : Int))) < ((rd_T177 l0_3 x45_2).f0)) = false := decide_eq_false c39
              (try (have c39b1 : decide ((IntKind.i64.wrap (a0_0 - (((rd_T177 l0_3 x45_2).f1).size : Int))) < ((rd_T177 l0_3 x45_2).f0)) = false := by simp only [i64_w]; exact (decide_eq_false c39)))
              clear c39
              (first | rw [c39b0] | (simp only [i64_w, i32_w]; rw [c39b0]) | skip)
              by_cases c43 : a0_2 = (-1)
              ·rw [if_pos c43] at H
               have c43b0 : (a0_2 == (-1)) = true := beq_iff_eq.mpr c43
               have c43b1 : (a0_2 != (-1)) = false := bne_eq_false_iff_eq.mpr c43
               clear c43
               have H' := Aside0.mk H
               clear H
               have hnb44 := NB149_144.out
               have hnc44 := NB144_149.out
               obtain ⟨hcz45_0, hcz45_1⟩ := cz2 BK149
               obtain ⟨hfz45_0, hfz45_1⟩ := fz2 BK149
               obtain ⟨hcz46_0, hcz46_1, hcz46_2, hcz46_3⟩ := cz4 BK144
               obtain ⟨hfz46_0, hfz46_1, hfz46_2, hfz46_3⟩ := fz4 BK144
               go_wp2
               go_meet
               case rel => exact ⟨_, (false), (by first | rfl | (simp; done) | (simp [*]; done)), H', ⟨by have := HJ1.out; have := HK2.out; have := HJ20.out; first | omega | exact Nat.le_refl _⟩, ⟨by (with_reducible repeat (first | refine bN ?_ _ | refine bD ?_ | refine bA ?_ _)); exact BK144.out⟩, ⟨by (with_reducible repeat (first | refine bN ?_ _ | refine bD ?_ | refine bA ?_ _)); exact BK149.out⟩, ⟨by repeat (first | (with_reducible first | exact HB.out | apply below_alloc | apply pw_below_drewN | apply below_drew1 | refine below_set ?_ GE144.out | refine below_set ?_ GE149.out) | exact HB.out)⟩⟩
              ·rw [if_neg c43] at H
               have c43b0 : (a0_2 == (-1)) = false := beq_eq_false_iff_ne.mpr c43
               have c43b1 : (a0_2 != (-1)) = true := bne_iff_ne.mpr c43
               have H' := Aside0.mk H
               clear H
               have hnb47 := NB149_144.out
               have hnc47 := NB144_149.out
               obtain ⟨hcz48_0, hcz48_1⟩ := cz2 BK149
               obtain ⟨hfz48_0, hfz48_1⟩ := fz2 BK149
               obtain ⟨hcz49_0, hcz49_1, hcz49_2, hcz49_3⟩ := cz4 BK144
               obtain ⟨hfz49_0, hfz49_1, hfz49_2, hfz49_3⟩ := fz4 BK144
               go_wp2
               go_meet
               case rel => exact ⟨_, (decide (((rd_T177 l0_3 x45_2).f0) > (wrap64 (a0_2 - (((rd_T177 l0_3 x45_2).f1).size : Int))))), (by first | rfl | (simp; done) | (simp [*]; done)), H', ⟨by have := HJ1.out; have := HK2.out; have := HJ20.out; first | omega | exact Nat.le_refl _⟩, ⟨by (with_reducible repeat (first | refine bN ?_ _ | refine bD ?_ | refine bA ?_ _)); exact BK144.out⟩, ⟨by (with_reducible repeat (first | refine bN ?_ _ | refine bD ?_ | refine bA ?_ _)); exact BK149.out⟩, ⟨by repeat (first | (with_reducible first | exact HB.out | apply below_alloc | apply pw_below_drewN | apply below_drew1 | refine below_set ?_ GE144.out | refine below_set ?_ GE149.out) | exact HB.out)⟩⟩
            case rest =>
             clear HC38
             try clear c1
             try clear p1
             try clear q1
             try clear hx1
             try clear c2
             try clear p2
             try clear c3
             try clear c4
             try clear c5
             try clear p6
             try clear c7
             try clear c8
             try clear c8b0
             try clear c8b1
             try clear c10
             try clear c11
             try clear p14
             try clear q14
             try clear hx14
             try clear c16
             try clear c18
             try clear c18b0
             try clear c19
             try clear c19b0
             try clear c20
             try clear c20b0
             try clear c23
             try clear c25
             try clear c25b0
             try clear c25b1
             try clear c26
             try clear c28
             try clear c28b0
             try clear c29
             try clear c29b0
             try clear c30
             try clear c32
             try clear c35
             try clear c37
             try clear c39
             try clear c39b0
             try clear c39b1
             try clear c40
             try clear c43
             try clear c43b0
             try clear c43b1
             try clear c44
             try clear c47
             try clear hcz12_0
             try clear hcz12_1
             try clear hcz12_2
             try clear hcz12_3
             try clear hcz13_0
             try clear hcz13_1
             try clear hcz13_2
             try clear hcz13_3
             try clear hcz14_0
             try clear hcz14_1
             try clear hcz14_2
             try clear hcz14_3
             try clear hcz15_0
             try clear hcz15_1
             try clear hcz15_2
             try clear hcz15_3
             try clear hcz17_0
             try clear hcz17_1
             try clear hcz17_2
             try clear hcz17_3
             try clear hcz24_0
             try clear hcz24_1
             try clear hcz27_0
             try clear hcz27_1
             try clear hcz31_0
             try clear hcz31_1
             try clear hcz33_0
             try clear hcz33_1
             try clear hcz34_0
             try clear hcz34_1
             try clear hcz34_2
             try clear hcz34_3
             try clear hcz36_0
             try clear hcz36_1
             try clear hcz41_0
             try clear hcz41_1
             try clear hcz42_0
             try clear hcz42_1
             try clear hcz42_2
             try clear hcz42_3
             try clear hcz45_0
             try clear hcz45_1
             try clear hcz46_0
             try clear hcz46_1
             try clear hcz46_2
             try clear hcz46_3
             try clear hcz48_0
             try clear hcz48_1
             try clear hcz49_0
             try clear hcz49_1
             try clear hcz49_2
             try clear hcz49_3
             try clear hcz9_0
             try clear hcz9_1
             try clear hcz9_2
             try clear hcz9_3
             try clear hfz12_0
             try clear hfz12_1
             try clear hfz12_2
             try clear hfz12_3
             try clear hfz13_0
             try clear hfz13_1
             try clear hfz13_2
             try clear hfz13_3
             try clear hfz14_0
             try clear hfz14_1
             try clear hfz14_2
             try clear hfz14_3
             try clear hfz15_0
             try clear hfz15_1
             try clear hfz15_2
             try clear hfz15_3
             try clear hfz17_0
             try clear hfz17_1
             try clear hfz17_2
             try clear hfz17_3
             try clear hfz24_0
             try clear hfz24_1
             try clear hfz27_0
             try clear hfz27_1
             try clear hfz31_0
             try clear hfz31_1
             try clear hfz33_0
             try clear hfz33_1
             try clear hfz34_0
             try clear hfz34_1
             try clear hfz34_2
             try clear hfz34_3
             try clear hfz36_0
             try clear hfz36_1
             try clear hfz41_0
             try clear hfz41_1
             try clear hfz42_0
             try clear hfz42_1
             try clear hfz42_2
             try clear hfz42_3
             try clear hfz45_0
             try clear hfz45_1
             try clear hfz46_0
             try clear hfz46_1
             try clear hfz46_2
             try clear hfz46_3
             try clear hfz48_0
             try clear hfz48_1
             try clear hfz49_0
             try clear hfz49_1
             try clear hfz49_2
             try clear hfz49_3
             try clear hfz9_0
             try clear hfz9_1
             try clear hfz9_2
             try clear hfz9_3
             try clear hx148_0
             try clear hx148_1
             try clear p1
             try clear p14
             try clear p148
             try clear p2
             try clear p6
             try clear q1
             try clear q14
             try clear q148
             obtain ⟨kq, x94_37, rfl, HA, HJ37, BK144, BK149, HB⟩ := hcut
             cases kq with
             | zero => exact absurd HA.out (by simp [spec_GoodInflow.j3])
             | succ kj37 =>
              have H := HA.out
              clear HA
              simp only [spec_GoodInflow.j3] at H
              by_cases c50 : x94_37 = true
              ·subst c50
               have H1 : (some false) = some r := by rw [if_pos rfl] at H; exact H
               clear H
               have H := H1
               clear H1
               obtain rfl := Option.some.inj H
               go_wp2
               go_ret
               exact ⟨by first | rfl | (simp only [Go.Proofs.Ythkmjfapljmmpaa.StoreK.ne_nil_b]; first | done | rfl | (simp; done)) | (simp [errW_none, errW_some] <;> rfl) | (simp [*, errW_none, errW_some] <;> rfl), by repeat (first | (with_reducible first | exact HB.out | apply below_alloc | apply pw_below_drewN | apply below_drew1 | refine below_set ?_ GE144.out | refine below_set ?_ GE149.out) | exact HB.out)⟩
              ·replace c50 := Bool.eq_false_iff.mpr c50
               subst c50
               have H1 : (spec_GoodInflow.l0 kj37 (wrap64 (((rd_T177 l0_3 x45_2).f0) + (((rd_T177 l0_3 x45_2).f1).size : Int))) l0_3 (l0_3.length : Int) (wrap64 (x45_2 + 1)) a0_0 a0_1 a0_2 l0_3) = some r := by rw [if_neg (show ¬ (false = true) by decide)] at H; exact H
               clear H
               have H := H1
               clear H1
               have H' := Aside0.mk H
               clear H
               have hnb51 := NB149_144.out
               have hnc51 := NB144_149.out
               obtain ⟨hcz52_0, hcz52_1⟩ := cz2 BK149
               obtain ⟨hfz52_0, hfz52_1⟩ := fz2 BK149
               go_wp2
               go_roundg kj37
               case measure => have := HJ1.out; have := HK2.out; have := HJ20.out; have := HJ37.out; omega
               case rel => exact ⟨(wrap64 (((rd_T177 l0_3 x45_2).f0) + (((rd_T177 l0_3 x45_2).f1).size : Int))), (wrap64 (x45_2 + 1)), (by first | rfl | (simp; done) | (simp [*]; done)), (by first | rfl | (simp; done) | (simp [*]; done)), H', ⟨by have := HJ1.out; have := HK2.out; have := HJ20.out; have := HJ37.out; omega⟩, ⟨by (with_reducible repeat (first | refine bN ?_ _ | refine bD ?_ | refine bA ?_ _)); exact BK144.out⟩, ⟨by repeat (first | (with_reducible first | exact HB.out | apply below_alloc | apply pw_below_drewN | apply below_drew1 | refine below_set ?_ GE144.out | refine below_set ?_ GE149.out) | exact HB.out)⟩⟩
        ·rw [if_neg c20] at H
         exact absurd H (by simp)
       ·rw [if_neg c19] at H
        exact absurd H (by simp)
      ·rw [if_neg c18] at H
       have c18b0 : decide (x45_2 < (l0_3.length : Int)) = false := decide_eq_false c18
       clear c18
       obtain rfl := Option.some.inj H
       go_wp2
       go_ret
       exact ⟨by first | rfl | (simp only [Go.Proofs.Ythkmjfapljmmpaa.StoreK.ne_nil_b]; first | done | rfl | (simp; done)) | (simp [errW_none, errW_some] <;> rfl) | (simp [*, errW_none, errW_some] <;> rfl), by repeat (first | (with_reducible first | exact HB.out | apply below_alloc | apply pw_below_drewN | apply below_drew1 | refine below_set ?_ GE144.out) | exact HB.out)⟩

end Go.Proofs.Ythkmjfapljmmpaa.PFnExactReadSome
