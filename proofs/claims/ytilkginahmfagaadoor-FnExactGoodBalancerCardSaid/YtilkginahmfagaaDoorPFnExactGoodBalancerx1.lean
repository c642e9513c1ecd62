-- Written by a program of this session (wip/xprint.py).
import Derived.Test.YtilkginahmfagaaDoorPFnExactGoodBalancerx0
namespace Go.Proofs.YtilkginahmfagaaDoor.PFnExactGoodBalancer
open Go.RowKit Go.Proofs.YtilkginahmfagaaDoorW.PrintWords Go.Proofs.YtilkginahmfagaaDoorW.PrintLast Go.Proofs.YtilkginahmfagaaDoorW.PrintMore
open Go.Proofs.YtilkginahmfagaaDoor.ShortK (bN bD bA sA sZ sS mR mB bX bLt bS cz2 fz2 cx2 cz3 fz3 cx3 cz4 fz4 cx4 cz5 fz5 cx5 cz6 fz6 cx6 cz7 fz7 cx7 cz8 fz8 cx8 cz9 fz9 cx9 cz10 fz10 cx10 cz11 fz11 cx11 cz12 fz12 cx12)
attribute [local go_sem] Go.Proofs.YtilkginahmfagaaDoor.StoreK.isSome_setCell max2_int min2_int max_two min_two max_three min_three max_four min_four   -- for this text's walks alone
set_option linter.unusedVariables false
set_option linter.unusedSimpArgs false

/-! ### laws_szIdConfig: function 126 -/
def laws_szIdConfig.f (a0_0 : Int) (a0_1 : Int) (a0_2 : Int) (a0_3 : ByteArray) (a0_4 : Bool) (a1 : Int) : Option (Int) := if (wrap64 (a1 - (a0_3.size : Int))) < 0 then (some (-1)) else (some (wrap64 (a1 - (a0_3.size : Int))))
set_option maxHeartbeats 64000000 in
set_option maxRecDepth 100000 in
theorem laws_szIdConfig.calls (a0_0 : Int) (a0_1 : Int) (a0_2 : Int) (a0_3 : ByteArray) (a0_4 : Bool) (a1 : Int) (r : Int) (w : World) (h : laws_szIdConfig.f a0_0 a0_1 a0_2 a0_3 a0_4 a1 = some r) :
  Calls Tryd.prog 126 #[.agg #[.int .i64 a0_0, .int .i64 a0_1, .int .i64 a0_2, .string a0_3, .bool a0_4], .int .i64 a1] w fun e w' => e = .returned (.int .i64 r) ∧ Below w.heap.size w w' := by
 have hu117 := Tryd.underlying117
 have HB := Aside0.mk (Below.refl w.heap.size w)
 have H : (if (wrap64 (a1 - (a0_3.size : Int))) < 0 then (some (-1)) else (some (wrap64 (a1 - (a0_3.size : Int))))) = some r := h
 clear h
 by_cases c3 : (wrap64 (a1 - (a0_3.size : Int))) < 0
 ·rw [if_pos c3] at H
  have c3b0 : decide ((wrap64 (a1 - (a0_3.size : Int))) < 0) = true := decide_eq_true c3
  (try (have c3b1 : decide ((IntKind.i64.wrap (a1 - (a0_3.size : Int))) < 0) = true := by simp only [i64_w]; exact (decide_eq_true c3)))
  clear c3
  obtain rfl := Option.some.inj H
  go_enter Tryd.func126, Tryd.ntmps126
  go_wp2_with (first | ((with_reducible refine gate_dst (N := 2) rfl ?_); refine box_event ?hg (N := 2) ?hd (cs := #[.int .i64 a0_0, .int .i64 a0_1, .int .i64 a0_2, .string a0_3, .bool a0_4]) (t := 117) ?hr ?_; (case hd => rfl); (case hg => rfl); (case hr => first | (go_simp; done) | (go_simp; rfl)); intro gb101 hg w4 hbox hb; have n0_ := bS HB hb; have n1_ := Aside0.mk (hbox); have n2_ := Aside0.mk ((by rw [hg]; exact (below_size (by repeat (first | (with_reducible first | exact HB.out | apply below_alloc | apply pw_below_drewN | apply below_drew1) | exact HB.out))) : w.heap.size ≤ gb101)); have n3_ := n2_; clear HB; have HB := n0_; have BK101 := n1_; have GW101 := n2_; have GE101 := n3_; clear n0_ n1_ n2_ n3_; clear hb hbox hg; obtain ⟨hcz5_0, hcz5_1, hcz5_2, hcz5_3, hcz5_4⟩ := cz5 BK101; obtain ⟨hfz5_0, hfz5_1, hfz5_2, hfz5_3, hfz5_4⟩ := fz5 BK101))
  go_ret
  exact ⟨by first | rfl | (simp [errW_none, errW_some] <;> rfl) | (simp [*, errW_none, errW_some] <;> rfl), by repeat (first | (with_reducible first | exact HB.out | apply below_alloc | apply pw_below_drewN | apply below_drew1 | refine below_set ?_ GE101.out) | exact HB.out)⟩
 ·rw [if_neg c3] at H
  have c3b0 : decide ((wrap64 (a1 - (a0_3.size : Int))) < 0) = false := decide_eq_false c3
  (try (have c3b1 : decide ((IntKind.i64.wrap (a1 - (a0_3.size : Int))) < 0) = false := by simp only [i64_w]; exact (decide_eq_false c3)))
  clear c3
  obtain rfl := Option.some.inj H
  go_enter Tryd.func126, Tryd.ntmps126
  go_wp2_with (first | ((with_reducible refine gate_dst (N := 2) rfl ?_); refine box_event ?hg (N := 2) ?hd (cs := #[.int .i64 a0_0, .int .i64 a0_1, .int .i64 a0_2, .string a0_3, .bool a0_4]) (t := 117) ?hr ?_; (case hd => rfl); (case hg => rfl); (case hr => first | (go_simp; done) | (go_simp; rfl)); intro gb101 hg w6 hbox hb; have n0_ := bS HB hb; have n1_ := Aside0.mk (hbox); have n2_ := Aside0.mk ((by rw [hg]; exact (below_size (by repeat (first | (with_reducible first | exact HB.out | apply below_alloc | apply pw_below_drewN | apply below_drew1) | exact HB.out))) : w.heap.size ≤ gb101)); have n3_ := n2_; clear HB; have HB := n0_; have BK101 := n1_; have GW101 := n2_; have GE101 := n3_; clear n0_ n1_ n2_ n3_; clear hb hbox hg; obtain ⟨hcz7_0, hcz7_1, hcz7_2, hcz7_3, hcz7_4⟩ := cz5 BK101; obtain ⟨hfz7_0, hfz7_1, hfz7_2, hfz7_3, hfz7_4⟩ := fz5 BK101))
  go_ret
  exact ⟨by first | rfl | (simp [errW_none, errW_some] <;> rfl) | (simp [*, errW_none, errW_some] <;> rfl), by repeat (first | (with_reducible first | exact HB.out | apply below_alloc | apply pw_below_drewN | apply below_drew1 | refine below_set ?_ GE101.out) | exact HB.out)⟩

/-! ### laws_szAlloc: function 147 -/
def laws_szAlloc.f (a0_0 : ByteArray) (a0_1 : ByteArray) (a1 : Int) : Option (Int) := if (wrap64 (a1 - (a0_0.size : Int))) < 0 then (some (-1)) else (if (wrap64 ((wrap64 (a1 - (a0_0.size : Int))) - (a0_1.size : Int))) < 0 then (some (-1)) else (some (wrap64 ((wrap64 (a1 - (a0_0.size : Int))) - (a0_1.size : Int)))))
set_option maxHeartbeats 64000000 in
set_option maxRecDepth 100000 in
theorem laws_szAlloc.calls (a0_0 : ByteArray) (a0_1 : ByteArray) (a1 : Int) (r : Int) (w : World) (h : laws_szAlloc.f a0_0 a0_1 a1 = some r) :
  Calls Tryd.prog 147 #[.agg #[.string a0_0, .string a0_1], .int .i64 a1] w fun e w' => e = .returned (.int .i64 r) ∧ Below w.heap.size w w' := by
 have hu159 := Tryd.underlying159
 have HB := Aside0.mk (Below.refl w.heap.size w)
 have H : (if (wrap64 (a1 - (a0_0.size : Int))) < 0 then (some (-1)) else (if (wrap64 ((wrap64 (a1 - (a0_0.size : Int))) - (a0_1.size : Int))) < 0 then (some (-1)) else (some (wrap64 ((wrap64 (a1 - (a0_0.size : Int))) - (a0_1.size : Int)))))) = some r := h
 clear h
 by_cases c3 : (wrap64 (a1 - (a0_0.size : Int))) < 0
 ·rw [if_pos c3] at H
  have c3b0 : decide ((wrap64 (a1 - (a0_0.size : Int))) < 0) = true := decide_eq_true c3
  (try (have c3b1 : decide ((IntKind.i64.wrap (a1 - (a0_0.size : Int))) < 0) = true := by simp only [i64_w]; exact (decide_eq_true c3)))
  clear c3
  obtain rfl := Option.some.inj H
  go_enter Tryd.func147, Tryd.ntmps147
  go_wp2_with (first | ((with_reducible refine gate_dst (N := 2) rfl ?_); refine box_event ?hg (N := 2) ?hd (cs := #[.string a0_0, .string a0_1]) (t := 159) ?hr ?_; (case hd => rfl); (case hg => rfl); (case hr => first | (go_simp; done) | (go_simp; rfl)); intro gb102 hg w4 hbox hb; have n0_ := bS HB hb; have n1_ := Aside0.mk (hbox); have n2_ := Aside0.mk ((by rw [hg]; exact (below_size (by repeat (first | (with_reducible first | exact HB.out | apply below_alloc | apply pw_below_drewN | apply below_drew1) | exact HB.out))) : w.heap.size ≤ gb102)); have n3_ := n2_; clear HB; have HB := n0_; have BK102 := n1_; have GW102 := n2_; have GE102 := n3_; clear n0_ n1_ n2_ n3_; clear hb hbox hg; obtain ⟨hcz5_0, hcz5_1⟩ := cz2 BK102; obtain ⟨hfz5_0, hfz5_1⟩ := fz2 BK102))
  go_ret
  exact ⟨by first | rfl | (simp [errW_none, errW_some] <;> rfl) | (simp [*, errW_none, errW_some] <;> rfl), by repeat (first | (with_reducible first | exact HB.out | apply below_alloc | apply pw_below_drewN | apply below_drew1 | refine below_set ?_ GE102.out) | exact HB.out)⟩
 ·rw [if_neg c3] at H
  have c3b0 : decide ((wrap64 (a1 - (a0_0.size : Int))) < 0) = false := decide_eq_false c3
  (try (have c3b1 : decide ((IntKind.i64.wrap (a1 - (a0_0.size : Int))) < 0) = false := by simp only [i64_w]; exact (decide_eq_false c3)))
  clear c3
  by_cases c6 : (wrap64 ((wrap64 (a1 - (a0_0.size : Int))) - (a0_1.size : Int))) < 0
  ·rw [if_pos c6] at H
   have c6b0 : decide ((wrap64 ((wrap64 (a1 - (a0_0.size : Int))) - (a0_1.size : Int))) < 0) = true := decide_eq_true c6
   (try (have c6b1 : decide ((IntKind.i64.wrap ((IntKind.i64.wrap (a1 - (a0_0.size : Int))) - (a0_1.size : Int))) < 0) = true := by simp only [i64_w]; exact (decide_eq_true c6)))
   clear c6
   obtain rfl := Option.some.inj H
   go_enter Tryd.func147, Tryd.ntmps147
   go_wp2_with (first | ((with_reducible refine gate_dst (N := 2) rfl ?_); refine box_event ?hg (N := 2) ?hd (cs := #[.string a0_0, .string a0_1]) (t := 159) ?hr ?_; (case hd => rfl); (case hg => rfl); (case hr => first | (go_simp; done) | (go_simp; rfl)); intro gb102 hg w7 hbox hb; have n0_ := bS HB hb; have n1_ := Aside0.mk (hbox); have n2_ := Aside0.mk ((by rw [hg]; exact (below_size (by repeat (first | (with_reducible first | exact HB.out | apply below_alloc | apply pw_below_drewN | apply below_drew1) | exact HB.out))) : w.heap.size ≤ gb102)); have n3_ := n2_; clear HB; have HB := n0_; have BK102 := n1_; have GW102 := n2_; have GE102 := n3_; clear n0_ n1_ n2_ n3_; clear hb hbox hg; obtain ⟨hcz8_0, hcz8_1⟩ := cz2 BK102; obtain ⟨hfz8_0, hfz8_1⟩ := fz2 BK102))
   go_ret
   exact ⟨by first | rfl | (simp [errW_none, errW_some] <;> rfl) | (simp [*, errW_none, errW_some] <;> rfl), by repeat (first | (with_reducible first | exact HB.out | apply below_alloc | apply pw_below_drewN | apply below_drew1 | refine below_set ?_ GE102.out) | exact HB.out)⟩
  ·rw [if_neg c6] at H
   have c6b0 : decide ((wrap64 ((wrap64 (a1 - (a0_0.size : Int))) - (a0_1.size : Int))) < 0) = false := decide_eq_false c6
   (try (have c6b1 : decide ((IntKind.i64.wrap ((IntKind.i64.wrap (a1 - (a0_0.size : Int))) - (a0_1.size : Int))) < 0) = false := by simp only [i64_w]; exact (decide_eq_false c6)))
   clear c6
   obtain rfl := Option.some.inj H
   go_enter Tryd.func147, Tryd.ntmps147
   go_wp2_with (first | ((with_reducible refine gate_dst (N := 2) rfl ?_); refine box_event ?hg (N := 2) ?hd (cs := #[.string a0_0, .string a0_1]) (t := 159) ?hr ?_; (case hd => rfl); (case hg => rfl); (case hr => first | (go_simp; done) | (go_simp; rfl)); intro gb102 hg w9 hbox hb; have n0_ := bS HB hb; have n1_ := Aside0.mk (hbox); have n2_ := Aside0.mk ((by rw [hg]; exact (below_size (by repeat (first | (with_reducible first | exact HB.out | apply below_alloc | apply pw_below_drewN | apply below_drew1) | exact HB.out))) : w.heap.size ≤ gb102)); have n3_ := n2_; clear HB; have HB := n0_; have BK102 := n1_; have GW102 := n2_; have GE102 := n3_; clear n0_ n1_ n2_ n3_; clear hb hbox hg; obtain ⟨hcz10_0, hcz10_1⟩ := cz2 BK102; obtain ⟨hfz10_0, hfz10_1⟩ := fz2 BK102))
   go_ret
   exact ⟨by first | rfl | (simp [errW_none, errW_some] <;> rfl) | (simp [*, errW_none, errW_some] <;> rfl), by repeat (first | (with_reducible first | exact HB.out | apply below_alloc | apply pw_below_drewN | apply below_drew1 | refine below_set ?_ GE102.out) | exact HB.out)⟩

/-! ### laws_szAllocS: function 127 -/
def laws_szAllocS.l0 : Nat → List (S159) → Int → Int → Option (Int)
 | 0, _, _, _ => none
 | k + 1, x0, x1, x5 => if x5 < (x0.length : Int) then (if 0 ≤ x5 then ((laws_szAlloc.f ((rd_T159 x0 x5).f0) ((rd_T159 x0 x5).f1) x1).bind fun t104 => (if t104 < 0 then (some (-1)) else (laws_szAllocS.l0 k x0 t104 (wrap64 (x5 + 1))))) else (none)) else (some x1)
def laws_szAllocS.f (k : Nat) (l0 : List (S159)) (a1 : Int) : Option (Int) := if (wrap64 (a1 - (l0.length : Int))) < 0 then (some (-1)) else (laws_szAllocS.l0 k l0 (wrap64 (a1 - (l0.length : Int))) 0)
theorem laws_szAllocS.mono_l : ∀ k, (∀ y0 y1 y2, LeO (laws_szAllocS.l0 k y0 y1 y2) (laws_szAllocS.l0 (k + 1) y0 y1 y2))
 | 0 => fun _ _ _ r h => by simp [laws_szAllocS.l0] at h
 | k + 1 => by
  have ih0 := laws_szAllocS.mono_l k
  ·intro y0 y1 y2
   unfold laws_szAllocS.l0
   repeat' first
   | (with_reducible exact ih0 _ _ _)
   | (with_reducible exact LeO.refl _)
   | (with_reducible exact LeO.none _)
   | (with_reducible refine LeO.ite ?_ ?_)
   | (with_reducible refine LeO.bind ?_ (fun _ => ?_))
   | exact ih0 _ _ _
   | exact LeO.none _
   | refine LeO.ite ?_ ?_
   | refine LeO.bind ?_ (fun _ => ?_)
theorem laws_szAllocS.mono : ∀ a0 a1 k, LeO (laws_szAllocS.f k a0 a1) (laws_szAllocS.f (k + 1) a0 a1) := by
 intro a0 a1 k
 have ih0 := laws_szAllocS.mono_l k
 unfold laws_szAllocS.f
 repeat' first
   | (with_reducible exact ih0 _ _ _)
   | (with_reducible exact LeO.refl _)
   | (with_reducible exact LeO.none _)
   | (with_reducible refine LeO.ite ?_ ?_)
   | (with_reducible refine LeO.bind ?_ (fun _ => ?_))
   | exact ih0 _ _ _
   | exact LeO.none _
   | refine LeO.ite ?_ ?_
   | refine LeO.bind ?_ (fun _ => ?_)
set_option maxHeartbeats 64000000 in
set_option maxRecDepth 100000 in
theorem laws_szAllocS.calls (k : Nat) (A0 : Option Addr) (c0 : Nat) (l0 : List (S159)) (a1 : Int) (r : Int) (w : World) (hr0 : Kd.C k159 w A0 l0.length l0) (hc0 : l0.length ≤ c0) (h : laws_szAllocS.f k l0 a1 = some r) :
  Calls Tryd.prog 127 #[.slice A0 l0.length c0, .int .i64 a1] w fun e w' => e = .returned (.int .i64 r) ∧ Below w.heap.size w w' := by
 have hu159 := Tryd.underlying159
 have HR0 := Aside0.mk hr0
 have HC0 := Aside0.mk hc0
 clear hr0 hc0
 have HB := Aside0.mk (Below.refl w.heap.size w)
 have H : (if (wrap64 (a1 - (l0.length : Int))) < 0 then (some (-1)) else (laws_szAllocS.l0 k l0 (wrap64 (a1 - (l0.length : Int))) 0)) = some r := h
 clear h
 by_cases c3 : (wrap64 (a1 - (l0.length : Int))) < 0
 ·rw [if_pos c3] at H
  have c3b0 : decide ((wrap64 (a1 - (l0.length : Int))) < 0) = true := decide_eq_true c3
  (try (have c3b1 : decide ((IntKind.i64.wrap (a1 - (l0.length : Int))) < 0) = true := by simp only [i64_w]; exact (decide_eq_true c3)))
  clear c3
  obtain rfl := Option.some.inj H
  go_enter Tryd.func127, Tryd.ntmps127
  go_wp2
  go_ret
  exact ⟨by first | rfl | (simp [errW_none, errW_some] <;> rfl) | (simp [*, errW_none, errW_some] <;> rfl), by repeat (first | (with_reducible first | exact HB.out | apply below_alloc | apply pw_below_drewN | apply below_drew1) | exact HB.out)⟩
 ·rw [if_neg c3] at H
  have c3b0 : decide ((wrap64 (a1 - (l0.length : Int))) < 0) = false := decide_eq_false c3
  (try (have c3b1 : decide ((IntKind.i64.wrap (a1 - (l0.length : Int))) < 0) = false := by simp only [i64_w]; exact (decide_eq_false c3)))
  clear c3
  have H' := Aside0.mk H
  clear H
  go_enter Tryd.func127, Tryd.ntmps127
  go_wp2
  go_loopg [1, 5] k (fun kq v1 v5 w' => ∃ (x1_1 : Int) (x5_1 : Int), v1 = .int .i64 x1_1 ∧ v5 = .int .i64 x5_1 ∧ Aside0 (laws_szAllocS.l0 kq l0 x1_1 x5_1 = some r) ∧ Aside0 (kq ≤ k) ∧ Aside0 (Below w.heap.size w w'))
  case atStart => exact ⟨(wrap64 (a1 - (l0.length : Int))), (0), (by first | rfl | (simp; done) | (simp [*]; done)), (by first | rfl | (simp; done) | (simp [*]; done)), H', ⟨Nat.le_refl _⟩, ⟨by repeat (first | (with_reducible first | exact HB.out | apply below_alloc | apply pw_below_drewN | apply below_drew1) | exact HB.out)⟩⟩
  case round =>
   clear H'
   try clear c1
   try clear p2
   try clear c3
   try clear c3b0
   try clear c3b1
   obtain ⟨x1_1, x5_1, rfl, rfl, HA, HK1, HB⟩ := hrel
   cases gk with
   | zero => exact absurd HA.out (by simp [laws_szAllocS.l0])
   | succ k1 =>
    have H := HA.out
    clear HA
    simp only [laws_szAllocS.l0] at H
    by_cases c4 : x5_1 < (l0.length : Int)
    ·rw [if_pos c4] at H
     have c4b0 : decide (x5_1 < (l0.length : Int)) = true := decide_eq_true c4
     clear c4
     by_cases c5 : 0 ≤ x5_1
     ·rw [if_pos c5] at H
      have c5b0 : decide (0 ≤ x5_1) = true := decide_eq_true c5
      clear c5
      replace H := Option.bind_eq_some_iff.mp H
      obtain ⟨t104, A60, H⟩ := H
      replace H : (if t104 < 0 then (some (-1)) else (laws_szAllocS.l0 k1 l0 t104 (wrap64 (x5_1 + 1)))) = some r := H
      have A6 := Aside0.mk A60
      clear A60
      by_cases c7 : t104 < 0
      ·rw [if_pos c7] at H
       have c7b0 : decide (t104 < 0) = true := decide_eq_true c7
       clear c7
       obtain rfl := Option.some.inj H
       have p103 : 0 ≤ (x5_1 : Int) := of_decide_eq_true (by first | (with_reducible assumption) | assumption)
       have q103 : x5_1 < (l0.length : Int) := of_decide_eq_true (by first | (with_reducible assumption) | assumption)
       obtain ⟨ad103, e103, hx103_0, hx103_1⟩ := at_T159 HR0.out x5_1 p103 q103
       cases e103
       replace hx103_0 := (HB.out.cell (World.block_lt_of_cell? w _ hx103_0)).trans hx103_0
       replace hx103_1 := (HB.out.cell (World.block_lt_of_cell? w _ hx103_1)).trans hx103_1
       replace p103 := eq_true p103
       replace q103 := eq_true q103
       go_wp2_with (first | ((with_reducible refine gate_callee (f := 147) rfl ?_); refine goesL_ (some 23) rfl rfl Tryd.func147 (by kernel_rfl) rfl #[.agg #[.string ((rd_T159 l0 x5_1).f0), .string ((rd_T159 l0 x5_1).f1)], .int .i64 x1_1] rfl (by (try simp only [List.map_toArray, List.map_cons, List.map_nil]); first | done | rfl | (simp only [List.length_drop, List.length_take]; rfl)) ?_; (with_reducible refine (laws_szAlloc.calls ((rd_T159 l0 x5_1).f0) ((rd_T159 l0 x5_1).f1) x1_1 t104 _ A6.out).mono ?_); rintro e w8 ⟨rfl, hb⟩; refine ⟨_, rfl, ?_⟩; have n0_ := bS HB hb; clear HB; have HB := n0_; clear n0_; (try clear hb); (try clear hb2); (try clear hk); (try clear hi)))
       go_ret
       exact ⟨by first | rfl | (simp [errW_none, errW_some] <;> rfl) | (simp [*, errW_none, errW_some] <;> rfl), by repeat (first | (with_reducible first | exact HB.out | apply below_alloc | apply pw_below_drewN | apply below_drew1) | exact HB.out)⟩
      ·rw [if_neg c7] at H
       have c7b0 : decide (t104 < 0) = false := decide_eq_false c7
       clear c7
       have H' := Aside0.mk H
       clear H
       have p103 : 0 ≤ (x5_1 : Int) := of_decide_eq_true (by first | (with_reducible assumption) | assumption)
       have q103 : x5_1 < (l0.length : Int) := of_decide_eq_true (by first | (with_reducible assumption) | assumption)
       obtain ⟨ad103, e103, hx103_0, hx103_1⟩ := at_T159 HR0.out x5_1 p103 q103
       cases e103
       replace hx103_0 := (HB.out.cell (World.block_lt_of_cell? w _ hx103_0)).trans hx103_0
       replace hx103_1 := (HB.out.cell (World.block_lt_of_cell? w _ hx103_1)).trans hx103_1
       replace p103 := eq_true p103
       replace q103 := eq_true q103
       go_wp2_with (first | ((with_reducible refine gate_callee (f := 147) rfl ?_); refine goesL_ (some 23) rfl rfl Tryd.func147 (by kernel_rfl) rfl #[.agg #[.string ((rd_T159 l0 x5_1).f0), .string ((rd_T159 l0 x5_1).f1)], .int .i64 x1_1] rfl (by (try simp only [List.map_toArray, List.map_cons, List.map_nil]); first | done | rfl | (simp only [List.length_drop, List.length_take]; rfl)) ?_; (with_reducible refine (laws_szAlloc.calls ((rd_T159 l0 x5_1).f0) ((rd_T159 l0 x5_1).f1) x1_1 t104 _ A6.out).mono ?_); rintro e w9 ⟨rfl, hb⟩; refine ⟨_, rfl, ?_⟩; have n0_ := bS HB hb; clear HB; have HB := n0_; clear n0_; (try clear hb); (try clear hb2); (try clear hk); (try clear hi)))
       go_roundg k1
       case measure => have := HK1.out; omega
       case rel => exact ⟨(t104), (wrap64 (x5_1 + 1)), (by first | rfl | (simp; done) | (simp [*]; done)), (by first | rfl | (simp; done) | (simp [*]; done)), H', ⟨by have := HK1.out; omega⟩, ⟨by repeat (first | (with_reducible first | exact HB.out | apply below_alloc | apply pw_below_drewN | apply below_drew1) | exact HB.out)⟩⟩
     ·rw [if_neg c5] at H
      exact absurd H (by simp)
    ·rw [if_neg c4] at H
     have c4b0 : decide (x5_1 < (l0.length : Int)) = false := decide_eq_false c4
     clear c4
     obtain rfl := Option.some.inj H
     go_wp2
     go_ret
     exact ⟨by first | rfl | (simp [errW_none, errW_some] <;> rfl) | (simp [*, errW_none, errW_some] <;> rfl), by repeat (first | (with_reducible first | exact HB.out | apply below_alloc | apply pw_below_drewN | apply below_drew1) | exact HB.out)⟩

/-! ### laws_szEntry: function 97 -/
def laws_szEntry.f (k : Nat) (a0_0 : Int) (a0_1 : Int) (a0_2 : Int) (a0_3 : ByteArray) (a0_4 : Bool) (l0_5 : List (S159)) (a0_6 : Int) (a1 : Int) : Option (Int) := (laws_szIdConfig.f a0_0 a0_1 a0_2 a0_3 a0_4 a1).bind fun t106 => (if t106 < 0 then (some (-1)) else ((laws_szAllocS.f k l0_5 t106).bind fun t107 => (if t107 < 0 then (some (-1)) else (some t107))))
theorem laws_szEntry.mono : ∀ a0 a1 a2 a3 a4 a5 a6 a7 k, LeO (laws_szEntry.f k a0 a1 a2 a3 a4 a5 a6 a7) (laws_szEntry.f (k + 1) a0 a1 a2 a3 a4 a5 a6 a7) := by
 intro a0 a1 a2 a3 a4 a5 a6 a7 k
 unfold laws_szEntry.f
 repeat' first
   | (with_reducible exact laws_szAllocS.mono _ _ _)
   | (with_reducible exact LeO.refl _)
   | (with_reducible exact LeO.none _)
   | (with_reducible refine LeO.ite ?_ ?_)
   | (with_reducible refine LeO.bind ?_ (fun _ => ?_))
   | exact laws_szAllocS.mono _ _ _
   | exact LeO.none _
   | refine LeO.ite ?_ ?_
   | refine LeO.bind ?_ (fun _ => ?_)
set_option maxHeartbeats 64000000 in
set_option maxRecDepth 100000 in
theorem laws_szEntry.calls (k : Nat) (a0_0 : Int) (a0_1 : Int) (a0_2 : Int) (a0_3 : ByteArray) (a0_4 : Bool) (A0_5 : Option Addr) (c0_5 : Nat) (l0_5 : List (S159)) (a0_6 : Int) (a1 : Int) (r : Int) (w : World) (hr0_5 : Kd.C k159 w A0_5 l0_5.length l0_5) (hc0_5 : l0_5.length ≤ c0_5) (h : laws_szEntry.f k a0_0 a0_1 a0_2 a0_3 a0_4 l0_5 a0_6 a1 = some r) :
  Calls Tryd.prog 97 #[.agg #[.int .i64 a0_0, .int .i64 a0_1, .int .i64 a0_2, .string a0_3, .bool a0_4, .slice A0_5 l0_5.length c0_5, .int .i64 a0_6], .int .i64 a1] w fun e w' => e = .returned (.int .i64 r) ∧ Below w.heap.size w w' := by
 have hu120 := Tryd.underlying120
 have hu117 := Tryd.underlying117
 have HR0_5 := Aside0.mk hr0_5
 have HC0_5 := Aside0.mk hc0_5
 clear hr0_5 hc0_5
 have HB := Aside0.mk (Below.refl w.heap.size w)
 have H : ((laws_szIdConfig.f a0_0 a0_1 a0_2 a0_3 a0_4 a1).bind fun t106 => (if t106 < 0 then (some (-1)) else ((laws_szAllocS.f k l0_5 t106).bind fun t107 => (if t107 < 0 then (some (-1)) else (some t107))))) = some r := h
 clear h
 replace H := Option.bind_eq_some_iff.mp H
 obtain ⟨t106, A30, H⟩ := H
 replace H : (if t106 < 0 then (some (-1)) else ((laws_szAllocS.f k l0_5 t106).bind fun t107 => (if t107 < 0 then (some (-1)) else (some t107)))) = some r := H
 have A3 := Aside0.mk A30
 clear A30
 by_cases c4 : t106 < 0
 ·rw [if_pos c4] at H
  have c4b0 : decide (t106 < 0) = true := decide_eq_true c4
  clear c4
  obtain rfl := Option.some.inj H
  go_enter Tryd.func97, Tryd.ntmps97
  go_wp2_with (first | ((with_reducible refine gate_dst (N := 2) rfl ?_); refine box_event ?hg (N := 2) ?hd (cs := #[.int .i64 a0_0, .int .i64 a0_1, .int .i64 a0_2, .string a0_3, .bool a0_4, .slice A0_5 l0_5.length c0_5, .int .i64 a0_6]) (t := 120) ?hr ?_; (case hd => rfl); (case hg => rfl); (case hr => first | (go_simp; done) | (go_simp; rfl)); intro gb105 hg w5 hbox hb; have n0_ := bS HB hb; have n1_ := Aside0.mk (hbox); have n2_ := Aside0.mk ((by rw [hg]; exact (below_size (by repeat (first | (with_reducible first | exact HB.out | apply below_alloc | apply pw_below_drewN | apply below_drew1) | exact HB.out))) : w.heap.size ≤ gb105)); have n3_ := n2_; clear HB; have HB := n0_; have BK105 := n1_; have GW105 := n2_; have GE105 := n3_; clear n0_ n1_ n2_ n3_; clear hb hbox hg; obtain ⟨hcz6_0, hcz6_1, hcz6_2, hcz6_3, hcz6_4, hcz6_5, hcz6_6⟩ := cz7 BK105; obtain ⟨hfz6_0, hfz6_1, hfz6_2, hfz6_3, hfz6_4, hfz6_5, hfz6_6⟩ := fz7 BK105) | ((with_reducible refine gate_callee (f := 126) rfl ?_); refine goesL_ (some 8) rfl rfl Tryd.func126 (by kernel_rfl) rfl #[.agg #[.int .i64 a0_0, .int .i64 a0_1, .int .i64 a0_2, .string a0_3, .bool a0_4], .int .i64 a1] rfl (by (try simp only [List.map_toArray, List.map_cons, List.map_nil]); first | done | rfl | (simp only [List.length_drop, List.length_take]; rfl)) ?_; (with_reducible refine (laws_szIdConfig.calls a0_0 a0_1 a0_2 a0_3 a0_4 a1 t106 _ A3.out).mono ?_); rintro e w7 ⟨rfl, hb⟩; refine ⟨_, rfl, ?_⟩; have n0_ := bX BK105 hb; have n1_ := bS HB hb; clear BK105; clear HB; have BK105 := n0_; have HB := n1_; clear n0_ n1_; (try clear hb); (try clear hb2); (try clear hk); (try clear hi)))
  go_ret
  exact ⟨by first | rfl | (simp [errW_none, errW_some] <;> rfl) | (simp [*, errW_none, errW_some] <;> rfl), by repeat (first | (with_reducible first | exact HB.out | apply below_alloc | apply pw_below_drewN | apply below_drew1 | refine below_set ?_ GE105.out) | exact HB.out)⟩
 ·rw [if_neg c4] at H
  have c4b0 : decide (t106 < 0) = false := decide_eq_false c4
  clear c4
  replace H := Option.bind_eq_some_iff.mp H
  obtain ⟨t107, A80, H⟩ := H
  replace H : (if t107 < 0 then (some (-1)) else (some t107)) = some r := H
  have A8 := Aside0.mk A80
  clear A80
  by_cases c9 : t107 < 0
  ·rw [if_pos c9] at H
   have c9b0 : decide (t107 < 0) = true := decide_eq_true c9
   clear c9
   obtain rfl := Option.some.inj H
   go_enter Tryd.func97, Tryd.ntmps97
   go_wp2_with (first | ((with_reducible refine gate_dst (N := 2) rfl ?_); refine box_event ?hg (N := 2) ?hd (cs := #[.int .i64 a0_0, .int .i64 a0_1, .int .i64 a0_2, .string a0_3, .bool a0_4, .slice A0_5 l0_5.length c0_5, .int .i64 a0_6]) (t := 120) ?hr ?_; (case hd => rfl); (case hg => rfl); (case hr => first | (go_simp; done) | (go_simp; rfl)); intro gb105 hg w10 hbox hb; have n0_ := bS HB hb; have n1_ := Aside0.mk (hbox); have n2_ := Aside0.mk ((by rw [hg]; exact (below_size (by repeat (first | (with_reducible first | exact HB.out | apply below_alloc | apply pw_below_drewN | apply below_drew1) | exact HB.out))) : w.heap.size ≤ gb105)); have n3_ := n2_; clear HB; have HB := n0_; have BK105 := n1_; have GW105 := n2_; have GE105 := n3_; clear n0_ n1_ n2_ n3_; clear hb hbox hg; obtain ⟨hcz11_0, hcz11_1, hcz11_2, hcz11_3, hcz11_4, hcz11_5, hcz11_6⟩ := cz7 BK105; obtain ⟨hfz11_0, hfz11_1, hfz11_2, hfz11_3, hfz11_4, hfz11_5, hfz11_6⟩ := fz7 BK105) | ((with_reducible refine gate_callee (f := 126) rfl ?_); refine goesL_ (some 8) rfl rfl Tryd.func126 (by kernel_rfl) rfl #[.agg #[.int .i64 a0_0, .int .i64 a0_1, .int .i64 a0_2, .string a0_3, .bool a0_4], .int .i64 a1] rfl (by (try simp only [List.map_toArray, List.map_cons, List.map_nil]); first | done | rfl | (simp only [List.length_drop, List.length_take]; rfl)) ?_; (with_reducible refine (laws_szIdConfig.calls a0_0 a0_1 a0_2 a0_3 a0_4 a1 t106 _ A3.out).mono ?_); rintro e w12 ⟨rfl, hb⟩; refine ⟨_, rfl, ?_⟩; have n0_ := bX BK105 hb; have n1_ := bS HB hb; clear BK105; clear HB; have BK105 := n0_; have HB := n1_; clear n0_ n1_; (try clear hb); (try clear hb2); (try clear hk); (try clear hi); obtain ⟨hcz13_0, hcz13_1, hcz13_2, hcz13_3, hcz13_4, hcz13_5, hcz13_6⟩ := cz7 BK105; obtain ⟨hfz13_0, hfz13_1, hfz13_2, hfz13_3, hfz13_4, hfz13_5, hfz13_6⟩ := fz7 BK105) | ((with_reducible refine gate_callee (f := 127) rfl ?_); refine goesL_ (some 14) rfl rfl Tryd.func127 (by kernel_rfl) rfl #[.slice A0_5 l0_5.length c0_5, .int .i64 t106] rfl (by (try simp only [List.map_toArray, List.map_cons, List.map_nil]); first | done | rfl | (simp only [List.length_drop, List.length_take]; rfl)) ?_; (with_reducible refine (laws_szAllocS.calls k _ _ l0_5 t106 t107 _ ?side1 ?side2 A8.out).mono ?_); (case side1 => repeat (first | exact (Kd.C_below HR0_5.out HB.out) | (with_reducible refine Kd.C_alloc ?_ _) | (with_reducible refine Kd.C_drewN ?_ _) | (with_reducible refine Kd.C_drew ?_))); (case side2 => exact HC0_5.out); rintro e w14 ⟨rfl, hb⟩; refine ⟨_, rfl, ?_⟩; have n0_ := bX BK105 hb; have n1_ := bS HB hb; clear BK105; clear HB; have BK105 := n0_; have HB := n1_; clear n0_ n1_; (try clear hb); (try clear hb2); (try clear hk); (try clear hi)))
   go_ret
   exact ⟨by first | rfl | (simp [errW_none, errW_some] <;> rfl) | (simp [*, errW_none, errW_some] <;> rfl), by repeat (first | (with_reducible first | exact HB.out | apply below_alloc | apply pw_below_drewN | apply below_drew1 | refine below_set ?_ GE105.out) | exact HB.out)⟩
  ·rw [if_neg c9] at H
   have c9b0 : decide (t107 < 0) = false := decide_eq_false c9
   clear c9
   obtain rfl := Option.some.inj H
   go_enter Tryd.func97, Tryd.ntmps97
   go_wp2_with (first | ((with_reducible refine gate_dst (N := 2) rfl ?_); refine box_event ?hg (N := 2) ?hd (cs := #[.int .i64 a0_0, .int .i64 a0_1, .int .i64 a0_2, .string a0_3, .bool a0_4, .slice A0_5 l0_5.length c0_5, .int .i64 a0_6]) (t := 120) ?hr ?_; (case hd => rfl); (case hg => rfl); (case hr => first | (go_simp; done) | (go_simp; rfl)); intro gb105 hg w15 hbox hb; have n0_ := bS HB hb; have n1_ := Aside0.mk (hbox); have n2_ := Aside0.mk ((by rw [hg]; exact (below_size (by repeat (first | (with_reducible first | exact HB.out | apply below_alloc | apply pw_below_drewN | apply below_drew1) | exact HB.out))) : w.heap.size ≤ gb105)); have n3_ := n2_; clear HB; have HB := n0_; have BK105 := n1_; have GW105 := n2_; have GE105 := n3_; clear n0_ n1_ n2_ n3_; clear hb hbox hg; obtain ⟨hcz16_0, hcz16_1, hcz16_2, hcz16_3, hcz16_4, hcz16_5, hcz16_6⟩ := cz7 BK105; obtain ⟨hfz16_0, hfz16_1, hfz16_2, hfz16_3, hfz16_4, hfz16_5, hfz16_6⟩ := fz7 BK105) | ((with_reducible refine gate_callee (f := 126) rfl ?_); refine goesL_ (some 8) rfl rfl Tryd.func126 (by kernel_rfl) rfl #[.agg #[.int .i64 a0_0, .int .i64 a0_1, .int .i64 a0_2, .string a0_3, .bool a0_4], .int .i64 a1] rfl (by (try simp only [List.map_toArray, List.map_cons, List.map_nil]); first | done | rfl | (simp only [List.length_drop, List.length_take]; rfl)) ?_; (with_reducible refine (laws_szIdConfig.calls a0_0 a0_1 a0_2 a0_3 a0_4 a1 t106 _ A3.out).mono ?_); rintro e w17 ⟨rfl, hb⟩; refine ⟨_, rfl, ?_⟩; have n0_ := bX BK105 hb; have n1_ := bS HB hb; clear BK105; clear HB; have BK105 := n0_; have HB := n1_; clear n0_ n1_; (try clear hb); (try clear hb2); (try clear hk); (try clear hi); obtain ⟨hcz18_0, hcz18_1, hcz18_2, hcz18_3, hcz18_4, hcz18_5, hcz18_6⟩ := cz7 BK105; obtain ⟨hfz18_0, hfz18_1, hfz18_2, hfz18_3, hfz18_4, hfz18_5, hfz18_6⟩ := fz7 BK105) | ((with_reducible refine gate_callee (f := 127) rfl ?_); refine goesL_ (some 14) rfl rfl Tryd.func127 (by kernel_rfl) rfl #[.slice A0_5 l0_5.length c0_5, .int .i64 t106] rfl (by (try simp only [List.map_toArray, List.map_cons, List.map_nil]); first | done | rfl | (simp only [List.length_drop, List.length_take]; rfl)) ?_; (with_reducible refine (laws_szAllocS.calls k _ _ l0_5 t106 t107 _ ?side1 ?side2 A8.out).mono ?_); (case side1 => repeat (first | exact (Kd.C_below HR0_5.out HB.out) | (with_reducible refine Kd.C_alloc ?_ _) | (with_reducible refine Kd.C_drewN ?_ _) | (with_reducible refine Kd.C_drew ?_))); (case side2 => exact HC0_5.out); rintro e w19 ⟨rfl, hb⟩; refine ⟨_, rfl, ?_⟩; have n0_ := bX BK105 hb; have n1_ := bS HB hb; clear BK105; clear HB; have BK105 := n0_; have HB := n1_; clear n0_ n1_; (try clear hb); (try clear hb2); (try clear hk); (try clear hi)))
   go_ret
   exact ⟨by first | rfl | (simp [errW_none, errW_some] <;> rfl) | (simp [*, errW_none, errW_some] <;> rfl), by repeat (first | (with_reducible first | exact HB.out | apply below_alloc | apply pw_below_drewN | apply below_drew1 | refine below_set ?_ GE105.out) | exact HB.out)⟩

/-! ### laws_szEntryS: function 62 -/
def laws_szEntryS.l0 : Nat → List (S120) → Int → Int → Option (Int)
 | 0, _, _, _ => none
 | k + 1, x0, x1, x5 => if x5 < (x0.length : Int) then (if 0 ≤ x5 then ((laws_szEntry.f k ((rd_T120 x0 x5).f0.f0) ((rd_T120 x0 x5).f0.f1) ((rd_T120 x0 x5).f0.f2) ((rd_T120 x0 x5).f0.f3) ((rd_T120 x0 x5).f0.f4) ((rd_T120 x0 x5).f1) ((rd_T120 x0 x5).f2) x1).bind fun t109 => (if t109 < 0 then (some (-1)) else (laws_szEntryS.l0 k x0 t109 (wrap64 (x5 + 1))))) else (none)) else (some x1)
def laws_szEntryS.f (k : Nat) (l0 : List (S120)) (a1 : Int) : Option (Int) := if (wrap64 (a1 - (l0.length : Int))) < 0 then (some (-1)) else (laws_szEntryS.l0 k l0 (wrap64 (a1 - (l0.length : Int))) 0)
theorem laws_szEntryS.mono_l : ∀ k, (∀ y0 y1 y2, LeO (laws_szEntryS.l0 k y0 y1 y2) (laws_szEntryS.l0 (k + 1) y0 y1 y2))
 | 0 => fun _ _ _ r h => by simp [laws_szEntryS.l0] at h
 | k + 1 => by
  have ih0 := laws_szEntryS.mono_l k
  ·intro y0 y1 y2
   unfold laws_szEntryS.l0
   repeat' first
   | (with_reducible exact ih0 _ _ _)
   | (with_reducible exact laws_szEntry.mono _ _ _ _ _ _ _ _ _)
   | (with_reducible exact LeO.refl _)
   | (with_reducible exact LeO.none _)
   | (with_reducible refine LeO.ite ?_ ?_)
   | (with_reducible refine LeO.bind ?_ (fun _ => ?_))
   | exact ih0 _ _ _
   | exact laws_szEntry.mono _ _ _ _ _ _ _ _ _
   | exact LeO.none _
   | refine LeO.ite ?_ ?_
   | refine LeO.bind ?_ (fun _ => ?_)
theorem laws_szEntryS.mono : ∀ a0 a1 k, LeO (laws_szEntryS.f k a0 a1) (laws_szEntryS.f (k + 1) a0 a1) := by
 intro a0 a1 k
 have ih0 := laws_szEntryS.mono_l k
 unfold laws_szEntryS.f
 repeat' first
   | (with_reducible exact ih0 _ _ _)
   | (with_reducible exact laws_szEntry.mono _ _ _ _ _ _ _ _ _)
   | (with_reducible exact LeO.refl _)
   | (with_reducible exact LeO.none _)
   | (with_reducible refine LeO.ite ?_ ?_)
   | (with_reducible refine LeO.bind ?_ (fun _ => ?_))
   | exact ih0 _ _ _
   | exact laws_szEntry.mono _ _ _ _ _ _ _ _ _
   | exact LeO.none _
   | refine LeO.ite ?_ ?_
   | refine LeO.bind ?_ (fun _ => ?_)
set_option maxHeartbeats 64000000 in
set_option maxRecDepth 100000 in
theorem laws_szEntryS.calls (k : Nat) (A0 : Option Addr) (c0 : Nat) (l0 : List (S120)) (a1 : Int) (r : Int) (w : World) (hr0 : Kd.C k120 w A0 l0.length l0) (hc0 : l0.length ≤ c0) (h : laws_szEntryS.f k l0 a1 = some r) :
  Calls Tryd.prog 62 #[.slice A0 l0.length c0, .int .i64 a1] w fun e w' => e = .returned (.int .i64 r) ∧ Below w.heap.size w w' := by
 have hu120 := Tryd.underlying120
 have HR0 := Aside0.mk hr0
 have HC0 := Aside0.mk hc0
 clear hr0 hc0
 have HB := Aside0.mk (Below.refl w.heap.size w)
 have H : (if (wrap64 (a1 - (l0.length : Int))) < 0 then (some (-1)) else (laws_szEntryS.l0 k l0 (wrap64 (a1 - (l0.length : Int))) 0)) = some r := h
 clear h
 by_cases c3 : (wrap64 (a1 - (l0.length : Int))) < 0
 ·rw [if_pos c3] at H
  have c3b0 : decide ((wrap64 (a1 - (l0.length : Int))) < 0) = true := decide_eq_true c3
  (try (have c3b1 : decide ((IntKind.i64.wrap (a1 - (l0.length : Int))) < 0) = true := by simp only [i64_w]; exact (decide_eq_true c3)))
  clear c3
  obtain rfl := Option.some.inj H
  go_enter Tryd.func62, Tryd.ntmps62
  go_wp2
  go_ret
  exact ⟨by first | rfl | (simp [errW_none, errW_some] <;> rfl) | (simp [*, errW_none, errW_some] <;> rfl), by repeat (first | (with_reducible first | exact HB.out | apply below_alloc | apply pw_below_drewN | apply below_drew1) | exact HB.out)⟩
 ·rw [if_neg c3] at H
  have c3b0 : decide ((wrap64 (a1 - (l0.length : Int))) < 0) = false := decide_eq_false c3
  (try (have c3b1 : decide ((IntKind.i64.wrap (a1 - (l0.length : Int))) < 0) = false := by simp only [i64_w]; exact (decide_eq_false c3)))
  clear c3
  have H' := Aside0.mk H
  clear H
  go_enter Tryd.func62, Tryd.ntmps62
  go_wp2
  go_loopg [1, 5] k (fun kq v1 v5 w' => ∃ (x1_1 : Int) (x5_1 : Int), v1 = .int .i64 x1_1 ∧ v5 = .int .i64 x5_1 ∧ Aside0 (laws_szEntryS.l0 kq l0 x1_1 x5_1 = some r) ∧ Aside0 (kq ≤ k) ∧ Aside0 (Below w.heap.size w w'))
  case atStart => exact ⟨(wrap64 (a1 - (l0.length : Int))), (0), (by first | rfl | (simp; done) | (simp [*]; done)), (by first | rfl | (simp; done) | (simp [*]; done)), H', ⟨Nat.le_refl _⟩, ⟨by repeat (first | (with_reducible first | exact HB.out | apply below_alloc | apply pw_below_drewN | apply below_drew1) | exact HB.out)⟩⟩
  case round =>
   clear H'
   try clear p2
   try clear c3
   try clear c3b0
   try clear c3b1
   obtain ⟨x1_1, x5_1, rfl, rfl, HA, HK1, HB⟩ := hrel
   cases gk with
   | zero => exact absurd HA.out (by simp [laws_szEntryS.l0])
   | succ k1 =>
    have H := HA.out
    clear HA
    simp only [laws_szEntryS.l0] at H
    by_cases c4 : x5_1 < (l0.length : Int)
    ·rw [if_pos c4] at H
     have c4b0 : decide (x5_1 < (l0.length : Int)) = true := decide_eq_true c4
     clear c4
     by_cases c5 : 0 ≤ x5_1
     ·rw [if_pos c5] at H
      have c5b0 : decide (0 ≤ x5_1) = true := decide_eq_true c5
      clear c5
      replace H := Option.bind_eq_some_iff.mp H
      obtain ⟨t109, A60, H⟩ := H
      replace H : (if t109 < 0 then (some (-1)) else (laws_szEntryS.l0 k1 l0 t109 (wrap64 (x5_1 + 1)))) = some r := H
      have A6 := Aside0.mk A60
      clear A60
      by_cases c7 : t109 < 0
      ·rw [if_pos c7] at H
       have c7b0 : decide (t109 < 0) = true := decide_eq_true c7
       clear c7
       obtain rfl := Option.some.inj H
       have p108 : 0 ≤ (x5_1 : Int) := of_decide_eq_true (by first | (with_reducible assumption) | assumption)
       have q108 : x5_1 < (l0.length : Int) := of_decide_eq_true (by first | (with_reducible assumption) | assumption)
       obtain ⟨ad108, A108_5, c108_5, e108, hx108_0, hx108_1, hx108_2, hx108_3, hx108_4, hx108_5, hx108_6, hl108_5, hi108_5⟩ := at_T120 HR0.out x5_1 p108 q108
       cases e108
       replace hx108_0 := (HB.out.cell (World.block_lt_of_cell? w _ hx108_0)).trans hx108_0
       replace hx108_1 := (HB.out.cell (World.block_lt_of_cell? w _ hx108_1)).trans hx108_1
       replace hx108_2 := (HB.out.cell (World.block_lt_of_cell? w _ hx108_2)).trans hx108_2
       replace hx108_3 := (HB.out.cell (World.block_lt_of_cell? w _ hx108_3)).trans hx108_3
       replace hx108_4 := (HB.out.cell (World.block_lt_of_cell? w _ hx108_4)).trans hx108_4
       replace hx108_5 := (HB.out.cell (World.block_lt_of_cell? w _ hx108_5)).trans hx108_5
       replace hx108_6 := (HB.out.cell (World.block_lt_of_cell? w _ hx108_6)).trans hx108_6
       have HR108_5 := Aside0.mk hi108_5
       have HC108_5 := Aside0.mk hl108_5
       clear hi108_5 hl108_5
       replace p108 := eq_true p108
       replace q108 := eq_true q108
       go_wp2_with (first | ((with_reducible refine gate_callee (f := 97) rfl ?_); refine goesL_ (some 23) rfl rfl Tryd.func97 (by kernel_rfl) rfl #[.agg #[.int .i64 ((rd_T120 l0 x5_1).f0.f0), .int .i64 ((rd_T120 l0 x5_1).f0.f1), .int .i64 ((rd_T120 l0 x5_1).f0.f2), .string ((rd_T120 l0 x5_1).f0.f3), .bool ((rd_T120 l0 x5_1).f0.f4), .slice A108_5 ((rd_T120 l0 x5_1).f1).length c108_5, .int .i64 ((rd_T120 l0 x5_1).f2)], .int .i64 x1_1] rfl (by (try simp only [List.map_toArray, List.map_cons, List.map_nil]); first | done | rfl | (simp only [List.length_drop, List.length_take]; rfl)) ?_; (with_reducible refine (laws_szEntry.calls k1 ((rd_T120 l0 x5_1).f0.f0) ((rd_T120 l0 x5_1).f0.f1) ((rd_T120 l0 x5_1).f0.f2) ((rd_T120 l0 x5_1).f0.f3) ((rd_T120 l0 x5_1).f0.f4) _ _ ((rd_T120 l0 x5_1).f1) ((rd_T120 l0 x5_1).f2) x1_1 t109 _ ?side1 ?side2 A6.out).mono ?_); (case side1 => repeat (first | exact (Kd.C_below HR108_5.out HB.out) | (with_reducible refine Kd.C_alloc ?_ _) | (with_reducible refine Kd.C_drewN ?_ _) | (with_reducible refine Kd.C_drew ?_))); (case side2 => exact HC108_5.out); rintro e w8 ⟨rfl, hb⟩; refine ⟨_, rfl, ?_⟩; have n0_ := bS HB hb; clear HB; have HB := n0_; clear n0_; (try clear hb); (try clear hb2); (try clear hk); (try clear hi)))
       go_ret
       exact ⟨by first | rfl | (simp [errW_none, errW_some] <;> rfl) | (simp [*, errW_none, errW_some] <;> rfl), by repeat (first | (with_reducible first | exact HB.out | apply below_alloc | apply pw_below_drewN | apply below_drew1) | exact HB.out)⟩
      ·rw [if_neg c7] at H
       have c7b0 : decide (t109 < 0) = false := decide_eq_false c7
       clear c7
       have H' := Aside0.mk H
       clear H
       have p108 : 0 ≤ (x5_1 : Int) := of_decide_eq_true (by first | (with_reducible assumption) | assumption)
       have q108 : x5_1 < (l0.length : Int) := of_decide_eq_true (by first | (with_reducible assumption) | assumption)
       obtain ⟨ad108, A108_5, c108_5, e108, hx108_0, hx108_1, hx108_2, hx108_3, hx108_4, hx108_5, hx108_6, hl108_5, hi108_5⟩ := at_T120 HR0.out x5_1 p108 q108
       cases e108
       replace hx108_0 := (HB.out.cell (World.block_lt_of_cell? w _ hx108_0)).trans hx108_0
       replace hx108_1 := (HB.out.cell (World.block_lt_of_cell? w _ hx108_1)).trans hx108_1
       replace hx108_2 := (HB.out.cell (World.block_lt_of_cell? w _ hx108_2)).trans hx108_2
       replace hx108_3 := (HB.out.cell (World.block_lt_of_cell? w _ hx108_3)).trans hx108_3
       replace hx108_4 := (HB.out.cell (World.block_lt_of_cell? w _ hx108_4)).trans hx108_4
       replace hx108_5 := (HB.out.cell (World.block_lt_of_cell? w _ hx108_5)).trans hx108_5
       replace hx108_6 := (HB.out.cell (World.block_lt_of_cell? w _ hx108_6)).trans hx108_6
       have HR108_5 := Aside0.mk hi108_5
       have HC108_5 := Aside0.mk hl108_5
       clear hi108_5 hl108_5
       replace p108 := eq_true p108
       replace q108 := eq_true q108
       go_wp2_with (first | ((with_reducible refine gate_callee (f := 97) rfl ?_); refine goesL_ (some 23) rfl rfl Tryd.func97 (by kernel_rfl) rfl #[.agg #[.int .i64 ((rd_T120 l0 x5_1).f0.f0), .int .i64 ((rd_T120 l0 x5_1).f0.f1), .int .i64 ((rd_T120 l0 x5_1).f0.f2), .string ((rd_T120 l0 x5_1).f0.f3), .bool ((rd_T120 l0 x5_1).f0.f4), .slice A108_5 ((rd_T120 l0 x5_1).f1).length c108_5, .int .i64 ((rd_T120 l0 x5_1).f2)], .int .i64 x1_1] rfl (by (try simp only [List.map_toArray, List.map_cons, List.map_nil]); first | done | rfl | (simp only [List.length_drop, List.length_take]; rfl)) ?_; (with_reducible refine (laws_szEntry.calls k1 ((rd_T120 l0 x5_1).f0.f0) ((rd_T120 l0 x5_1).f0.f1) ((rd_T120 l0 x5_1).f0.f2) ((rd_T120 l0 x5_1).f0.f3) ((rd_T120 l0 x5_1).f0.f4) _ _ ((rd_T120 l0 x5_1).f1) ((rd_T120 l0 x5_1).f2) x1_1 t109 _ ?side1 ?side2 A6.out).mono ?_); (case side1 => repeat (first | exact (Kd.C_below HR108_5.out HB.out) | (with_reducible refine Kd.C_alloc ?_ _) | (with_reducible refine Kd.C_drewN ?_ _) | (with_reducible refine Kd.C_drew ?_))); (case side2 => exact HC108_5.out); rintro e w9 ⟨rfl, hb⟩; refine ⟨_, rfl, ?_⟩; have n0_ := bS HB hb; clear HB; have HB := n0_; clear n0_; (try clear hb); (try clear hb2); (try clear hk); (try clear hi)))
       go_roundg k1
       case measure => have := HK1.out; omega
       case rel => exact ⟨(t109), (wrap64 (x5_1 + 1)), (by first | rfl | (simp; done) | (simp [*]; done)), (by first | rfl | (simp; done) | (simp [*]; done)), H', ⟨by have := HK1.out; omega⟩, ⟨by repeat (first | (with_reducible first | exact HB.out | apply below_alloc | apply pw_below_drewN | apply below_drew1) | exact HB.out)⟩⟩
     ·rw [if_neg c5] at H
      exact absurd H (by simp)
    ·rw [if_neg c4] at H
     have c4b0 : decide (x5_1 < (l0.length : Int)) = false := decide_eq_false c4
     clear c4
     obtain rfl := Option.some.inj H
     go_wp2
     go_ret
     exact ⟨by first | rfl | (simp [errW_none, errW_some] <;> rfl) | (simp [*, errW_none, errW_some] <;> rfl), by repeat (first | (with_reducible first | exact HB.out | apply below_alloc | apply pw_below_drewN | apply below_drew1) | exact HB.out)⟩

/-! ### laws_szTable: function 23 -/
def laws_szTable.f (k : Nat) (l0_0 : List (S120)) (a1 : Int) : Option (Int) := (laws_szEntryS.f k l0_0 a1).bind fun t111 => (if t111 < 0 then (some (-1)) else (some t111))
theorem laws_szTable.mono : ∀ a0 a1 k, LeO (laws_szTable.f k a0 a1) (laws_szTable.f (k + 1) a0 a1) := by
 intro a0 a1 k
 unfold laws_szTable.f
 repeat' first
   | (with_reducible exact laws_szEntryS.mono _ _ _)
   | (with_reducible exact LeO.refl _)
   | (with_reducible exact LeO.none _)
   | (with_reducible refine LeO.ite ?_ ?_)
   | (with_reducible refine LeO.bind ?_ (fun _ => ?_))
   | exact laws_szEntryS.mono _ _ _
   | exact LeO.none _
   | refine LeO.ite ?_ ?_
   | refine LeO.bind ?_ (fun _ => ?_)
set_option maxHeartbeats 64000000 in
set_option maxRecDepth 100000 in
theorem laws_szTable.calls (k : Nat) (A0_0 : Option Addr) (c0_0 : Nat) (l0_0 : List (S120)) (a1 : Int) (r : Int) (w : World) (hr0_0 : Kd.C k120 w A0_0 l0_0.length l0_0) (hc0_0 : l0_0.length ≤ c0_0) (h : laws_szTable.f k l0_0 a1 = some r) :
  Calls Tryd.prog 23 #[.agg #[.slice A0_0 l0_0.length c0_0], .int .i64 a1] w fun e w' => e = .returned (.int .i64 r) ∧ Below w.heap.size w w' := by
 have hu24 := Tryd.underlying24
 have HR0_0 := Aside0.mk hr0_0
 have HC0_0 := Aside0.mk hc0_0
 clear hr0_0 hc0_0
 have HB := Aside0.mk (Below.refl w.heap.size w)
 have H : ((laws_szEntryS.f k l0_0 a1).bind fun t111 => (if t111 < 0 then (some (-1)) else (some t111))) = some r := h
 clear h
 replace H := Option.bind_eq_some_iff.mp H
 obtain ⟨t111, A30, H⟩ := H
 replace H : (if t111 < 0 then (some (-1)) else (some t111)) = some r := H
 have A3 := Aside0.mk A30
 clear A30
 by_cases c4 : t111 < 0
 ·rw [if_pos c4] at H
  have c4b0 : decide (t111 < 0) = true := decide_eq_true c4
  clear c4
  obtain rfl := Option.some.inj H
  go_enter Tryd.func23, Tryd.ntmps23
  go_wp2_with (first | ((with_reducible refine gate_dst (N := 2) rfl ?_); refine box_event ?hg (N := 2) ?hd (cs := #[.slice A0_0 l0_0.length c0_0]) (t := 24) ?hr ?_; (case hd => rfl); (case hg => rfl); (case hr => first | (go_simp; done) | (go_simp; rfl)); intro gb110 hg w5 hbox hb; have n0_ := bS HB hb; have n1_ := Aside0.mk (hbox); have n2_ := Aside0.mk ((by rw [hg]; exact (below_size (by repeat (first | (with_reducible first | exact HB.out | apply below_alloc | apply pw_below_drewN | apply below_drew1) | exact HB.out))) : w.heap.size ≤ gb110)); have n3_ := n2_; clear HB; have HB := n0_; have BK110 := n1_; have GW110 := n2_; have GE110 := n3_; clear n0_ n1_ n2_ n3_; clear hb hbox hg; have hcz6_0 : w5.cell? ⟨gb110, 0, none⟩ = some (.slice A0_0 l0_0.length c0_0) := (blk_cell BK110.out 0).trans rfl; have hfz6_0 := blk_frozen BK110.out 0) | ((with_reducible refine gate_callee (f := 62) rfl ?_); refine goesL_ (some 8) rfl rfl Tryd.func62 (by kernel_rfl) rfl #[.slice A0_0 l0_0.length c0_0, .int .i64 a1] rfl (by (try simp only [List.map_toArray, List.map_cons, List.map_nil]); first | done | rfl | (simp only [List.length_drop, List.length_take]; rfl)) ?_; (with_reducible refine (laws_szEntryS.calls k _ _ l0_0 a1 t111 _ ?side1 ?side2 A3.out).mono ?_); (case side1 => repeat (first | exact (Kd.C_below HR0_0.out HB.out) | (with_reducible refine Kd.C_alloc ?_ _) | (with_reducible refine Kd.C_drewN ?_ _) | (with_reducible refine Kd.C_drew ?_))); (case side2 => exact HC0_0.out); rintro e w7 ⟨rfl, hb⟩; refine ⟨_, rfl, ?_⟩; have n0_ := bX BK110 hb; have n1_ := bS HB hb; clear BK110; clear HB; have BK110 := n0_; have HB := n1_; clear n0_ n1_; (try clear hb); (try clear hb2); (try clear hk); (try clear hi)))
  go_ret
  exact ⟨by first | rfl | (simp [errW_none, errW_some] <;> rfl) | (simp [*, errW_none, errW_some] <;> rfl), by repeat (first | (with_reducible first | exact HB.out | apply below_alloc | apply pw_below_drewN | apply below_drew1 | refine below_set ?_ GE110.out) | exact HB.out)⟩
 ·rw [if_neg c4] at H
  have c4b0 : decide (t111 < 0) = false := decide_eq_false c4
  clear c4
  obtain rfl := Option.some.inj H
  go_enter Tryd.func23, Tryd.ntmps23
  go_wp2_with (first | ((with_reducible refine gate_dst (N := 2) rfl ?_); refine box_event ?hg (N := 2) ?hd (cs := #[.slice A0_0 l0_0.length c0_0]) (t := 24) ?hr ?_; (case hd => rfl); (case hg => rfl); (case hr => first | (go_simp; done) | (go_simp; rfl)); intro gb110 hg w8 hbox hb; have n0_ := bS HB hb; have n1_ := Aside0.mk (hbox); have n2_ := Aside0.mk ((by rw [hg]; exact (below_size (by repeat (first | (with_reducible first | exact HB.out | apply below_alloc | apply pw_below_drewN | apply below_drew1) | exact HB.out))) : w.heap.size ≤ gb110)); have n3_ := n2_; clear HB; have HB := n0_; have BK110 := n1_; have GW110 := n2_; have GE110 := n3_; clear n0_ n1_ n2_ n3_; clear hb hbox hg; have hcz9_0 : w8.cell? ⟨gb110, 0, none⟩ = some (.slice A0_0 l0_0.length c0_0) := (blk_cell BK110.out 0).trans rfl; have hfz9_0 := blk_frozen BK110.out 0) | ((with_reducible refine gate_callee (f := 62) rfl ?_); refine goesL_ (some 8) rfl rfl Tryd.func62 (by kernel_rfl) rfl #[.slice A0_0 l0_0.length c0_0, .int .i64 a1] rfl (by (try simp only [List.map_toArray, List.map_cons, List.map_nil]); first | done | rfl | (simp only [List.length_drop, List.length_take]; rfl)) ?_; (with_reducible refine (laws_szEntryS.calls k _ _ l0_0 a1 t111 _ ?side1 ?side2 A3.out).mono ?_); (case side1 => repeat (first | exact (Kd.C_below HR0_0.out HB.out) | (with_reducible refine Kd.C_alloc ?_ _) | (with_reducible refine Kd.C_drewN ?_ _) | (with_reducible refine Kd.C_drew ?_))); (case side2 => exact HC0_0.out); rintro e w10 ⟨rfl, hb⟩; refine ⟨_, rfl, ?_⟩; have n0_ := bX BK110 hb; have n1_ := bS HB hb; clear BK110; clear HB; have BK110 := n0_; have HB := n1_; clear n0_ n1_; (try clear hb); (try clear hb2); (try clear hk); (try clear hi)))
  go_ret
  exact ⟨by first | rfl | (simp [errW_none, errW_some] <;> rfl) | (simp [*, errW_none, errW_some] <;> rfl), by repeat (first | (with_reducible first | exact HB.out | apply below_alloc | apply pw_below_drewN | apply below_drew1 | refine below_set ?_ GE110.out) | exact HB.out)⟩

/-! ### laws_szStringS: function 24 -/
def laws_szStringS.l0 : Nat → List ByteArray → Int → Int → Option (Int)
 | 0, _, _, _ => none
 | k + 1, x0, x1, x5 => if x5 < (x0.length : Int) then (if 0 ≤ x5 then (if (wrap64 (x1 - ((rdOf ByteArray.empty x0 x5).size : Int))) < 0 then (some (-1)) else (laws_szStringS.l0 k x0 (wrap64 (x1 - ((rdOf ByteArray.empty x0 x5).size : Int))) (wrap64 (x5 + 1)))) else (none)) else (some x1)
def laws_szStringS.f (k : Nat) (l0 : List ByteArray) (a1 : Int) : Option (Int) := if (wrap64 (a1 - (l0.length : Int))) < 0 then (some (-1)) else (laws_szStringS.l0 k l0 (wrap64 (a1 - (l0.length : Int))) 0)
theorem laws_szStringS.mono_l : ∀ k, (∀ y0 y1 y2, LeO (laws_szStringS.l0 k y0 y1 y2) (laws_szStringS.l0 (k + 1) y0 y1 y2))
 | 0 => fun _ _ _ r h => by simp [laws_szStringS.l0] at h
 | k + 1 => by
  have ih0 := laws_szStringS.mono_l k
  ·intro y0 y1 y2
   unfold laws_szStringS.l0
   repeat' first
   | (with_reducible exact ih0 _ _ _)
   | (with_reducible exact LeO.refl _)
   | (with_reducible exact LeO.none _)
   | (with_reducible refine LeO.ite ?_ ?_)
   | (with_reducible refine LeO.bind ?_ (fun _ => ?_))
   | exact ih0 _ _ _
   | exact LeO.none _
   | refine LeO.ite ?_ ?_
   | refine LeO.bind ?_ (fun _ => ?_)
theorem laws_szStringS.mono : ∀ a0 a1 k, LeO (laws_szStringS.f k a0 a1) (laws_szStringS.f (k + 1) a0 a1) := by
 intro a0 a1 k
 have ih0 := laws_szStringS.mono_l k
 unfold laws_szStringS.f
 repeat' first
   | (with_reducible exact ih0 _ _ _)
   | (with_reducible exact LeO.refl _)
   | (with_reducible exact LeO.none _)
   | (with_reducible refine LeO.ite ?_ ?_)
   | (with_reducible refine LeO.bind ?_ (fun _ => ?_))
   | exact ih0 _ _ _
   | exact LeO.none _
   | refine LeO.ite ?_ ?_
   | refine LeO.bind ?_ (fun _ => ?_)
set_option maxHeartbeats 64000000 in
set_option maxRecDepth 100000 in
theorem laws_szStringS.calls (k : Nat) (A0 : Option Addr) (c0 : Nat) (l0 : List ByteArray) (a1 : Int) (r : Int) (w : World) (hr0 : Kd.C Kd.string w A0 l0.length l0) (hc0 : l0.length ≤ c0) (h : laws_szStringS.f k l0 a1 = some r) :
  Calls Tryd.prog 24 #[.slice A0 l0.length c0, .int .i64 a1] w fun e w' => e = .returned (.int .i64 r) ∧ Drawn0 w w' := by
 have HR0 := Aside0.mk hr0
 have HC0 := Aside0.mk hc0
 clear hr0 hc0
 have H : (if (wrap64 (a1 - (l0.length : Int))) < 0 then (some (-1)) else (laws_szStringS.l0 k l0 (wrap64 (a1 - (l0.length : Int))) 0)) = some r := h
 clear h
 by_cases c3 : (wrap64 (a1 - (l0.length : Int))) < 0
 ·rw [if_pos c3] at H
  have c3b0 : decide ((wrap64 (a1 - (l0.length : Int))) < 0) = true := decide_eq_true c3
  (try (have c3b1 : decide ((IntKind.i64.wrap (a1 - (l0.length : Int))) < 0) = true := by simp only [i64_w]; exact (decide_eq_true c3)))
  clear c3
  obtain rfl := Option.some.inj H
  go_enter Tryd.func24, Tryd.ntmps24
  go_wp2
  go_ret
  exact ⟨by first | rfl | (simp; done) | (simp [*]; done), by repeat (first | exact Drawn0.refl _ | apply Drawn0.step)⟩
 ·rw [if_neg c3] at H
  have c3b0 : decide ((wrap64 (a1 - (l0.length : Int))) < 0) = false := decide_eq_false c3
  (try (have c3b1 : decide ((IntKind.i64.wrap (a1 - (l0.length : Int))) < 0) = false := by simp only [i64_w]; exact (decide_eq_false c3)))
  clear c3
  have H' := Aside0.mk H
  clear H
  go_enter Tryd.func24, Tryd.ntmps24
  go_wp2
  go_loopg [1, 5] k (fun kq v1 v5 w' => ∃ (x1_1 : Int) (x5_1 : Int), v1 = .int .i64 x1_1 ∧ v5 = .int .i64 x5_1 ∧ Aside0 (laws_szStringS.l0 kq l0 x1_1 x5_1 = some r) ∧ Aside0 (kq ≤ k) ∧ Drawn0 w w')
  case atStart => exact ⟨(wrap64 (a1 - (l0.length : Int))), (0), (by first | rfl | (simp; done) | (simp [*]; done)), (by first | rfl | (simp; done) | (simp [*]; done)), H', ⟨Nat.le_refl _⟩, by repeat (first | exact Drawn0.refl _ | apply Drawn0.step)⟩
  case round =>
   clear H'
   try clear c2
   try clear p2
   try clear c3
   try clear c3b0
   try clear c3b1
   obtain ⟨x1_1, x5_1, rfl, rfl, HA, HK1, ⟨m1, rfl⟩⟩ := hrel
   cases gk with
   | zero => exact absurd HA.out (by simp [laws_szStringS.l0])
   | succ k1 =>
    have H := HA.out
    clear HA
    simp only [laws_szStringS.l0] at H
    by_cases c4 : x5_1 < (l0.length : Int)
    ·rw [if_pos c4] at H
     have c4b0 : decide (x5_1 < (l0.length : Int)) = true := decide_eq_true c4
     clear c4
     by_cases c5 : 0 ≤ x5_1
     ·rw [if_pos c5] at H
      have c5b0 : decide (0 ≤ x5_1) = true := decide_eq_true c5
      clear c5
      by_cases c6 : (wrap64 (x1_1 - ((rdOf ByteArray.empty l0 x5_1).size : Int))) < 0
      ·rw [if_pos c6] at H
       have c6b0 : decide ((wrap64 (x1_1 - ((rdOf ByteArray.empty l0 x5_1).size : Int))) < 0) = true := decide_eq_true c6
       (try (have c6b1 : decide ((IntKind.i64.wrap (x1_1 - ((rdOf ByteArray.empty l0 x5_1).size : Int))) < 0) = true := by simp only [i64_w]; exact (decide_eq_true c6)))
       clear c6
       obtain rfl := Option.some.inj H
       have p112 : 0 ≤ (x5_1 : Int) := of_decide_eq_true (by first | (with_reducible assumption) | assumption)
       have q112 : x5_1 < (l0.length : Int) := of_decide_eq_true (by first | (with_reducible assumption) | assumption)
       obtain ⟨ad112, e112, hx112_0⟩ := Kd.at_string HR0.out x5_1 p112 q112
       cases e112
       replace p112 := eq_true p112
       replace q112 := eq_true q112
       go_wp2
       go_ret
       exact ⟨by first | rfl | (simp; done) | (simp [*]; done), by repeat (first | exact Drawn0.refl _ | apply Drawn0.step)⟩
      ·rw [if_neg c6] at H
       have c6b0 : decide ((wrap64 (x1_1 - ((rdOf ByteArray.empty l0 x5_1).size : Int))) < 0) = false := decide_eq_false c6
       (try (have c6b1 : decide ((IntKind.i64.wrap (x1_1 - ((rdOf ByteArray.empty l0 x5_1).size : Int))) < 0) = false := by simp only [i64_w]; exact (decide_eq_false c6)))
       clear c6
       have H' := Aside0.mk H
       clear H
       have p112 : 0 ≤ (x5_1 : Int) := of_decide_eq_true (by first | (with_reducible assumption) | assumption)
       have q112 : x5_1 < (l0.length : Int) := of_decide_eq_true (by first | (with_reducible assumption) | assumption)
       obtain ⟨ad112, e112, hx112_0⟩ := Kd.at_string HR0.out x5_1 p112 q112
       cases e112
       replace p112 := eq_true p112
       replace q112 := eq_true q112
       go_wp2
       go_roundg k1
       case measure => have := HK1.out; omega
       case rel => exact ⟨(wrap64 (x1_1 - ((rdOf ByteArray.empty l0 x5_1).size : Int))), (wrap64 (x5_1 + 1)), (by first | rfl | (simp; done) | (simp [*]; done)), (by first | rfl | (simp; done) | (simp [*]; done)), H', ⟨by have := HK1.out; omega⟩, by repeat (first | exact Drawn0.refl _ | apply Drawn0.step)⟩
     ·rw [if_neg c5] at H
      exact absurd H (by simp)
    ·rw [if_neg c4] at H
     have c4b0 : decide (x5_1 < (l0.length : Int)) = false := decide_eq_false c4
     clear c4
     obtain rfl := Option.some.inj H
     go_wp2
     go_ret
     exact ⟨by first | rfl | (simp; done) | (simp [*]; done), by repeat (first | exact Drawn0.refl _ | apply Drawn0.step)⟩

/-! ### laws_szBalancer: function 7 -/
def laws_szBalancer.f (k : Nat) (l0_0 : List (S120)) (l0_1 : List ByteArray) (a0_2 : Int) (a0_3 : Bool) (l0_4 : List ByteArray) (a0_5 : Int) (a0_6 : Int) (a1 : Int) : Option (Int) := (laws_szTable.f k l0_0 a1).bind fun t114 => (if t114 < 0 then (some (-1)) else ((laws_szStringS.f k l0_1 t114).bind fun t115 => (if t115 < 0 then (some (-1)) else ((laws_szStringS.f k l0_4 t115).bind fun t116 => (if t116 < 0 then (some (-1)) else (some t116))))))
theorem laws_szBalancer.mono : ∀ a0 a1 a2 a3 a4 a5 a6 a7 k, LeO (laws_szBalancer.f k a0 a1 a2 a3 a4 a5 a6 a7) (laws_szBalancer.f (k + 1) a0 a1 a2 a3 a4 a5 a6 a7) := by
 intro a0 a1 a2 a3 a4 a5 a6 a7 k
 unfold laws_szBalancer.f
 repeat' first
   | (with_reducible exact laws_szStringS.mono _ _ _)
   | (with_reducible exact laws_szTable.mono _ _ _)
   | (with_reducible exact LeO.refl _)
   | (with_reducible exact LeO.none _)
   | (with_reducible refine LeO.ite ?_ ?_)
   | (with_reducible refine LeO.bind ?_ (fun _ => ?_))
   | exact laws_szStringS.mono _ _ _
   | exact laws_szTable.mono _ _ _
   | exact LeO.none _
   | refine LeO.ite ?_ ?_
   | refine LeO.bind ?_ (fun _ => ?_)
set_option maxHeartbeats 64000000 in
set_option maxRecDepth 100000 in
theorem laws_szBalancer.calls (k : Nat) (A0_0 : Option Addr) (c0_0 : Nat) (l0_0 : List (S120)) (A0_1 : Option Addr) (c0_1 : Nat) (l0_1 : List ByteArray) (a0_2 : Int) (a0_3 : Bool) (A0_4 : Option Addr) (c0_4 : Nat) (l0_4 : List ByteArray) (a0_5 : Int) (a0_6 : Int) (a1 : Int) (r : Int) (w : World) (hr0_0 : Kd.C k120 w A0_0 l0_0.length l0_0) (hc0_0 : l0_0.length ≤ c0_0) (hr0_1 : Kd.C Kd.string w A0_1 l0_1.length l0_1) (hc0_1 : l0_1.length ≤ c0_1) (hr0_4 : Kd.C Kd.string w A0_4 l0_4.length l0_4) (hc0_4 : l0_4.length ≤ c0_4) (h : laws_szBalancer.f k l0_0 l0_1 a0_2 a0_3 l0_4 a0_5 a0_6 a1 = some r) :
  Calls Tryd.prog 7 #[.agg #[.slice A0_0 l0_0.length c0_0, .slice A0_1 l0_1.length c0_1, .int .i64 a0_2, .bool a0_3, .slice A0_4 l0_4.length c0_4, .int .i64 a0_5, .int .i64 a0_6], .int .i64 a1] w fun e w' => e = .returned (.int .i64 r) ∧ Below w.heap.size w w' := by
 have hu27 := Tryd.underlying27
 have hu24 := Tryd.underlying24
 have HR0_0 := Aside0.mk hr0_0
 have HC0_0 := Aside0.mk hc0_0
 clear hr0_0 hc0_0
 have HR0_1 := Aside0.mk hr0_1
 have HC0_1 := Aside0.mk hc0_1
 clear hr0_1 hc0_1
 have HR0_4 := Aside0.mk hr0_4
 have HC0_4 := Aside0.mk hc0_4
 clear hr0_4 hc0_4
 have HB := Aside0.mk (Below.refl w.heap.size w)
 have H : ((laws_szTable.f k l0_0 a1).bind fun t114 => (if t114 < 0 then (some (-1)) else ((laws_szStringS.f k l0_1 t114).bind fun t115 => (if t115 < 0 then (some (-1)) else ((laws_szStringS.f k l0_4 t115).bind fun t116 => (if t116 < 0 then (some (-1)) else (some t116))))))) = some r := h
 clear h
 replace H := Option.bind_eq_some_iff.mp H
 obtain ⟨t114, A30, H⟩ := H
 replace H : (if t114 < 0 then (some (-1)) else ((laws_szStringS.f k l0_1 t114).bind fun t115 => (if t115 < 0 then (some (-1)) else ((laws_szStringS.f k l0_4 t115).bind fun t116 => (if t116 < 0 then (some (-1)) else (some t116)))))) = some r := H
 have A3 := Aside0.mk A30
 clear A30
 by_cases c4 : t114 < 0
 ·rw [if_pos c4] at H
  have c4b0 : decide (t114 < 0) = true := decide_eq_true c4
  clear c4
  obtain rfl := Option.some.inj H
  go_enter Tryd.func7, Tryd.ntmps7
  go_wp2_with (first | ((with_reducible refine gate_dst (N := 2) rfl ?_); refine box_event ?hg (N := 2) ?hd (cs := #[.slice A0_0 l0_0.length c0_0, .slice A0_1 l0_1.length c0_1, .int .i64 a0_2, .bool a0_3, .slice A0_4 l0_4.length c0_4, .int .i64 a0_5, .int .i64 a0_6]) (t := 27) ?hr ?_; (case hd => rfl); (case hg => rfl); (case hr => first | (go_simp; done) | (go_simp; rfl)); intro gb113 hg w5 hbox hb; have n0_ := bS HB hb; have n1_ := Aside0.mk (hbox); have n2_ := Aside0.mk ((by rw [hg]; exact (below_size (by repeat (first | (with_reducible first | exact HB.out | apply below_alloc | apply pw_below_drewN | apply below_drew1) | exact HB.out))) : w.heap.size ≤ gb113)); have n3_ := n2_; clear HB; have HB := n0_; have BK113 := n1_; have GW113 := n2_; have GE113 := n3_; clear n0_ n1_ n2_ n3_; clear hb hbox hg; obtain ⟨hcz6_0, hcz6_1, hcz6_2, hcz6_3, hcz6_4, hcz6_5, hcz6_6⟩ := cz7 BK113; obtain ⟨hfz6_0, hfz6_1, hfz6_2, hfz6_3, hfz6_4, hfz6_5, hfz6_6⟩ := fz7 BK113) | ((with_reducible refine gate_callee (f := 23) rfl ?_); refine goesL_ (some 8) rfl rfl Tryd.func23 (by kernel_rfl) rfl #[.agg #[.slice A0_0 l0_0.length c0_0], .int .i64 a1] rfl (by (try simp only [List.map_toArray, List.map_cons, List.map_nil]); first | done | rfl | (simp only [List.length_drop, List.length_take]; rfl)) ?_; (with_reducible refine (laws_szTable.calls k _ _ l0_0 a1 t114 _ ?side1 ?side2 A3.out).mono ?_); (case side1 => repeat (first | exact (Kd.C_below HR0_0.out HB.out) | (with_reducible refine Kd.C_alloc ?_ _) | (with_reducible refine Kd.C_drewN ?_ _) | (with_reducible refine Kd.C_drew ?_))); (case side2 => exact HC0_0.out); rintro e w7 ⟨rfl, hb⟩; refine ⟨_, rfl, ?_⟩; have n0_ := bX BK113 hb; have n1_ := bS HB hb; clear BK113; clear HB; have BK113 := n0_; have HB := n1_; clear n0_ n1_; (try clear hb); (try clear hb2); (try clear hk); (try clear hi)))
  go_ret
  exact ⟨by first | rfl | (simp [errW_none, errW_some] <;> rfl) | (simp [*, errW_none, errW_some] <;> rfl), by repeat (first | (with_reducible first | exact HB.out | apply below_alloc | apply pw_below_drewN | apply below_drew1 | refine below_set ?_ GE113.out) | exact HB.out)⟩
 ·rw [if_neg c4] at H
  have c4b0 : decide (t114 < 0) = false := decide_eq_false c4
  clear c4
  replace H := Option.bind_eq_some_iff.mp H
  obtain ⟨t115, A80, H⟩ := H
  replace H : (if t115 < 0 then (some (-1)) else ((laws_szStringS.f k l0_4 t115).bind fun t116 => (if t116 < 0 then (some (-1)) else (some t116)))) = some r := H
  have A8 := Aside0.mk A80
  clear A80
  by_cases c9 : t115 < 0
  ·rw [if_pos c9] at H
   have c9b0 : decide (t115 < 0) = true := decide_eq_true c9
   clear c9
   obtain rfl := Option.some.inj H
   go_enter Tryd.func7, Tryd.ntmps7
   go_wp2_with (first | ((with_reducible refine gate_dst (N := 2) rfl ?_); refine box_event ?hg (N := 2) ?hd (cs := #[.slice A0_0 l0_0.length c0_0, .slice A0_1 l0_1.length c0_1, .int .i64 a0_2, .bool a0_3, .slice A0_4 l0_4.length c0_4, .int .i64 a0_5, .int .i64 a0_6]) (t := 27) ?hr ?_; (case hd => rfl); (case hg => rfl); (case hr => first | (go_simp; done) | (go_simp; rfl)); intro gb113 hg w10 hbox hb; have n0_ := bS HB hb; have n1_ := Aside0.mk (hbox); have n2_ := Aside0.mk ((by rw [hg]; exact (below_size (by repeat (first | (with_reducible first | exact HB.out | apply below_alloc | apply pw_below_drewN | apply below_drew1) | exact HB.out))) : w.heap.size ≤ gb113)); have n3_ := n2_; clear HB; have HB := n0_; have BK113 := n1_; have GW113 := n2_; have GE113 := n3_; clear n0_ n1_ n2_ n3_; clear hb hbox hg; obtain ⟨hcz11_0, hcz11_1, hcz11_2, hcz11_3, hcz11_4, hcz11_5, hcz11_6⟩ := cz7 BK113; obtain ⟨hfz11_0, hfz11_1, hfz11_2, hfz11_3, hfz11_4, hfz11_5, hfz11_6⟩ := fz7 BK113) | ((with_reducible refine gate_callee (f := 23) rfl ?_); refine goesL_ (some 8) rfl rfl Tryd.func23 (by kernel_rfl) rfl #[.agg #[.slice A0_0 l0_0.length c0_0], .int .i64 a1] rfl (by (try simp only [List.map_toArray, List.map_cons, List.map_nil]); first | done | rfl | (simp only [List.length_drop, List.length_take]; rfl)) ?_; (with_reducible refine (laws_szTable.calls k _ _ l0_0 a1 t114 _ ?side1 ?side2 A3.out).mono ?_); (case side1 => repeat (first | exact (Kd.C_below HR0_0.out HB.out) | (with_reducible refine Kd.C_alloc ?_ _) | (with_reducible refine Kd.C_drewN ?_ _) | (with_reducible refine Kd.C_drew ?_))); (case side2 => exact HC0_0.out); rintro e w12 ⟨rfl, hb⟩; refine ⟨_, rfl, ?_⟩; have n0_ := bX BK113 hb; have n1_ := bS HB hb; clear BK113; clear HB; have BK113 := n0_; have HB := n1_; clear n0_ n1_; (try clear hb); (try clear hb2); (try clear hk); (try clear hi); obtain ⟨hcz13_0, hcz13_1, hcz13_2, hcz13_3, hcz13_4, hcz13_5, hcz13_6⟩ := cz7 BK113; obtain ⟨hfz13_0, hfz13_1, hfz13_2, hfz13_3, hfz13_4, hfz13_5, hfz13_6⟩ := fz7 BK113) | ((with_reducible refine gate_callee (f := 24) rfl ?_); refine goesL_ (some 14) rfl rfl Tryd.func24 (by kernel_rfl) rfl #[.slice A0_1 l0_1.length c0_1, .int .i64 t114] rfl (by (try simp only [List.map_toArray, List.map_cons, List.map_nil]); first | done | rfl | (simp only [List.length_drop, List.length_take]; rfl)) ?_; (with_reducible refine (laws_szStringS.calls k _ _ l0_1 t114 t115 _ ?side1 ?side2 A8.out).mono ?_); (case side1 => repeat (first | exact (Kd.C_below HR0_1.out HB.out) | (with_reducible refine Kd.C_alloc ?_ _) | (with_reducible refine Kd.C_drewN ?_ _) | (with_reducible refine Kd.C_drew ?_))); (case side2 => exact HC0_1.out); rintro e w' ⟨rfl, ⟨nd, rfl⟩⟩; refine ⟨_, rfl, ?_⟩))
   go_ret
   exact ⟨by first | rfl | (simp [errW_none, errW_some] <;> rfl) | (simp [*, errW_none, errW_some] <;> rfl), by repeat (first | (with_reducible first | exact HB.out | apply below_alloc | apply pw_below_drewN | apply below_drew1 | refine below_set ?_ GE113.out) | exact HB.out)⟩
  ·rw [if_neg c9] at H
   have c9b0 : decide (t115 < 0) = false := decide_eq_false c9
   clear c9
   replace H := Option.bind_eq_some_iff.mp H
   obtain ⟨t116, A140, H⟩ := H
   replace H : (if t116 < 0 then (some (-1)) else (some t116)) = some r := H
   have A14 := Aside0.mk A140
   clear A140
   by_cases c15 : t116 < 0
   ·rw [if_pos c15] at H
    have c15b0 : decide (t116 < 0) = true := decide_eq_true c15
    clear c15
    obtain rfl := Option.some.inj H
    go_enter Tryd.func7, Tryd.ntmps7
    go_wp2_with (first | ((with_reducible refine gate_dst (N := 2) rfl ?_); refine box_event ?hg (N := 2) ?hd (cs := #[.slice A0_0 l0_0.length c0_0, .slice A0_1 l0_1.length c0_1, .int .i64 a0_2, .bool a0_3, .slice A0_4 l0_4.length c0_4, .int .i64 a0_5, .int .i64 a0_6]) (t := 27) ?hr ?_; (case hd => rfl); (case hg => rfl); (case hr => first | (go_simp; done) | (go_simp; rfl)); intro gb113 hg w16 hbox hb; have n0_ := bS HB hb; have n1_ := Aside0.mk (hbox); have n2_ := Aside0.mk ((by rw [hg]; exact (below_size (by repeat (first | (with_reducible first | exact HB.out | apply below_alloc | apply pw_below_drewN | apply below_drew1) | exact HB.out))) : w.heap.size ≤ gb113)); have n3_ := n2_; clear HB; have HB := n0_; have BK113 := n1_; have GW113 := n2_; have GE113 := n3_; clear n0_ n1_ n2_ n3_; clear hb hbox hg; obtain ⟨hcz17_0, hcz17_1, hcz17_2, hcz17_3, hcz17_4, hcz17_5, hcz17_6⟩ := cz7 BK113; obtain ⟨hfz17_0, hfz17_1, hfz17_2, hfz17_3, hfz17_4, hfz17_5, hfz17_6⟩ := fz7 BK113) | ((with_reducible refine gate_callee (f := 23) rfl ?_); refine goesL_ (some 8) rfl rfl Tryd.func23 (by kernel_rfl) rfl #[.agg #[.slice A0_0 l0_0.length c0_0], .int .i64 a1] rfl (by (try simp only [List.map_toArray, List.map_cons, List.map_nil]); first | done | rfl | (simp only [List.length_drop, List.length_take]; rfl)) ?_; (with_reducible refine (laws_szTable.calls k _ _ l0_0 a1 t114 _ ?side1 ?side2 A3.out).mono ?_); (case side1 => repeat (first | exact (Kd.C_below HR0_0.out HB.out) | (with_reducible refine Kd.C_alloc ?_ _) | (with_reducible refine Kd.C_drewN ?_ _) | (with_reducible refine Kd.C_drew ?_))); (case side2 => exact HC0_0.out); rintro e w18 ⟨rfl, hb⟩; refine ⟨_, rfl, ?_⟩; have n0_ := bX BK113 hb; have n1_ := bS HB hb; clear BK113; clear HB; have BK113 := n0_; have HB := n1_; clear n0_ n1_; (try clear hb); (try clear hb2); (try clear hk); (try clear hi); obtain ⟨hcz19_0, hcz19_1, hcz19_2, hcz19_3, hcz19_4, hcz19_5, hcz19_6⟩ := cz7 BK113; obtain ⟨hfz19_0, hfz19_1, hfz19_2, hfz19_3, hfz19_4, hfz19_5, hfz19_6⟩ := fz7 BK113) | ((with_reducible refine gate_callee (f := 24) rfl ?_); refine goesL_ (some 14) rfl rfl Tryd.func24 (by kernel_rfl) rfl #[.slice A0_1 l0_1.length c0_1, .int .i64 t114] rfl (by (try simp only [List.map_toArray, List.map_cons, List.map_nil]); first | done | rfl | (simp only [List.length_drop, List.length_take]; rfl)) ?_; (with_reducible refine (laws_szStringS.calls k _ _ l0_1 t114 t115 _ ?side1 ?side2 A8.out).mono ?_); (case side1 => repeat (first | exact (Kd.C_below HR0_1.out HB.out) | (with_reducible refine Kd.C_alloc ?_ _) | (with_reducible refine Kd.C_drewN ?_ _) | (with_reducible refine Kd.C_drew ?_))); (case side2 => exact HC0_1.out); rintro e w' ⟨rfl, ⟨nd, rfl⟩⟩; refine ⟨_, rfl, ?_⟩) | ((with_reducible refine gate_callee (f := 24) rfl ?_); refine goesL_ (some 20) rfl rfl Tryd.func24 (by kernel_rfl) rfl #[.slice A0_4 l0_4.length c0_4, .int .i64 t115] rfl (by (try simp only [List.map_toArray, List.map_cons, List.map_nil]); first | done | rfl | (simp only [List.length_drop, List.length_take]; rfl)) ?_; (with_reducible refine (laws_szStringS.calls k _ _ l0_4 t115 t116 _ ?side1 ?side2 A14.out).mono ?_); (case side1 => repeat (first | exact (Kd.C_below HR0_4.out (by repeat (first | (with_reducible first | exact HB.out | apply below_alloc | apply pw_below_drewN | apply below_drew1 | refine below_set ?_ GE113.out) | exact HB.out))) | (with_reducible refine Kd.C_alloc ?_ _) | (with_reducible refine Kd.C_drewN ?_ _) | (with_reducible refine Kd.C_drew ?_))); (case side2 => exact HC0_4.out); rintro e w' ⟨rfl, ⟨nd, rfl⟩⟩; refine ⟨_, rfl, ?_⟩))
    go_ret
    exact ⟨by first | rfl | (simp [errW_none, errW_some] <;> rfl) | (simp [*, errW_none, errW_some] <;> rfl), by repeat (first | (with_reducible first | exact HB.out | apply below_alloc | apply pw_below_drewN | apply below_drew1 | refine below_set ?_ GE113.out) | exact HB.out)⟩
   ·rw [if_neg c15] at H
    have c15b0 : decide (t116 < 0) = false := decide_eq_false c15
    clear c15
    obtain rfl := Option.some.inj H
    go_enter Tryd.func7, Tryd.ntmps7
    go_wp2_with (first | ((with_reducible refine gate_dst (N := 2) rfl ?_); refine box_event ?hg (N := 2) ?hd (cs := #[.slice A0_0 l0_0.length c0_0, .slice A0_1 l0_1.length c0_1, .int .i64 a0_2, .bool a0_3, .slice A0_4 l0_4.length c0_4, .int .i64 a0_5, .int .i64 a0_6]) (t := 27) ?hr ?_; (case hd => rfl); (case hg => rfl); (case hr => first | (go_simp; done) | (go_simp; rfl)); intro gb113 hg w20 hbox hb; have n0_ := bS HB hb; have n1_ := Aside0.mk (hbox); have n2_ := Aside0.mk ((by rw [hg]; exact (below_size (by repeat (first | (with_reducible first | exact HB.out | apply below_alloc | apply pw_below_drewN | apply below_drew1) | exact HB.out))) : w.heap.size ≤ gb113)); have n3_ := n2_; clear HB; have HB := n0_; have BK113 := n1_; have GW113 := n2_; have GE113 := n3_; clear n0_ n1_ n2_ n3_; clear hb hbox hg; obtain ⟨hcz21_0, hcz21_1, hcz21_2, hcz21_3, hcz21_4, hcz21_5, hcz21_6⟩ := cz7 BK113; obtain ⟨hfz21_0, hfz21_1, hfz21_2, hfz21_3, hfz21_4, hfz21_5, hfz21_6⟩ := fz7 BK113) | ((with_reducible refine gate_callee (f := 23) rfl ?_); refine goesL_ (some 8) rfl rfl Tryd.func23 (by kernel_rfl) rfl #[.agg #[.slice A0_0 l0_0.length c0_0], .int .i64 a1] rfl (by (try simp only [List.map_toArray, List.map_cons, List.map_nil]); first | done | rfl | (simp only [List.length_drop, List.length_take]; rfl)) ?_; (with_reducible refine (laws_szTable.calls k _ _ l0_0 a1 t114 _ ?side1 ?side2 A3.out).mono ?_); (case side1 => repeat (first | exact (Kd.C_below HR0_0.out HB.out) | (with_reducible refine Kd.C_alloc ?_ _) | (with_reducible refine Kd.C_drewN ?_ _) | (with_reducible refine Kd.C_drew ?_))); (case side2 => exact HC0_0.out); rintro e w22 ⟨rfl, hb⟩; refine ⟨_, rfl, ?_⟩; have n0_ := bX BK113 hb; have n1_ := bS HB hb; clear BK113; clear HB; have BK113 := n0_; have HB := n1_; clear n0_ n1_; (try clear hb); (try clear hb2); (try clear hk); (try clear hi); obtain ⟨hcz23_0, hcz23_1, hcz23_2, hcz23_3, hcz23_4, hcz23_5, hcz23_6⟩ := cz7 BK113; obtain ⟨hfz23_0, hfz23_1, hfz23_2, hfz23_3, hfz23_4, hfz23_5, hfz23_6⟩ := fz7 BK113) | ((with_reducible refine gate_callee (f := 24) rfl ?_); refine goesL_ (some 14) rfl rfl Tryd.func24 (by kernel_rfl) rfl #[.slice A0_1 l0_1.length c0_1, .int .i64 t114] rfl (by (try simp only [List.map_toArray, List.map_cons, List.map_nil]); first | done | rfl | (simp only [List.length_drop, List.length_take]; rfl)) ?_; (with_reducible refine (laws_szStringS.calls k _ _ l0_1 t114 t115 _ ?side1 ?side2 A8.out).mono ?_); (case side1 => repeat (first | exact (Kd.C_below HR0_1.out HB.out) | (with_reducible refine Kd.C_alloc ?_ _) | (with_reducible refine Kd.C_drewN ?_ _) | (with_reducible refine Kd.C_drew ?_))); (case side2 => exact HC0_1.out); rintro e w' ⟨rfl, ⟨nd, rfl⟩⟩; refine ⟨_, rfl, ?_⟩) | ((with_reducible refine gate_callee (f := 24) rfl ?_); refine goesL_ (some 20) rfl rfl Tryd.func24 (by kernel_rfl) rfl #[.slice A0_4 l0_4.length c0_4, .int .i64 t115] rfl (by (try simp only [List.map_toArray, List.map_cons, List.map_nil]); first | done | rfl | (simp only [List.length_drop, List.length_take]; rfl)) ?_; (with_reducible refine (laws_szStringS.calls k _ _ l0_4 t115 t116 _ ?side1 ?side2 A14.out).mono ?_); (case side1 => repeat (first | exact (Kd.C_below HR0_4.out (by repeat (first | (with_reducible first | exact HB.out | apply below_alloc | apply pw_below_drewN | apply below_drew1 | refine below_set ?_ GE113.out) | exact HB.out))) | (with_reducible refine Kd.C_alloc ?_ _) | (with_reducible refine Kd.C_drewN ?_ _) | (with_reducible refine Kd.C_drew ?_))); (case side2 => exact HC0_4.out); rintro e w' ⟨rfl, ⟨nd, rfl⟩⟩; refine ⟨_, rfl, ?_⟩))
    go_ret
    exact ⟨by first | rfl | (simp [errW_none, errW_some] <;> rfl) | (simp [*, errW_none, errW_some] <;> rfl), by repeat (first | (with_reducible first | exact HB.out | apply below_alloc | apply pw_below_drewN | apply below_drew1 | refine below_set ?_ GE113.out) | exact HB.out)⟩

/-! ### spec_l1In: function 27 -/
def spec_l1In.f (a0 : Int) (a1 : Int) (a2 : Int) : Option (Bool) := if a0 ≥ a1 then (some (decide (a0 ≤ a2))) else (some false)
set_option maxHeartbeats 64000000 in
set_option maxRecDepth 100000 in
theorem spec_l1In.calls (a0 : Int) (a1 : Int) (a2 : Int) (r : Bool) (w : World) (h : spec_l1In.f a0 a1 a2 = some r) :
  Calls Tryd.prog 27 #[.int .i64 a0, .int .i64 a1, .int .i64 a2] w fun e w' => e = .returned (.bool r) ∧ Drawn0 w w' := by
 have H : (if a0 ≥ a1 then (some (decide (a0 ≤ a2))) else (some false)) = some r := h
 clear h
 by_cases c4 : a0 ≥ a1
 ·rw [if_pos c4] at H
  have c4b0 : decide (a1 ≤ a0) = true := decide_eq_true c4
  clear c4
  obtain rfl := Option.some.inj H
  go_enter Tryd.func27, Tryd.ntmps27
  go_wp2
  go_ret
  exact ⟨by first | rfl | (simp; done) | (simp [*]; done), by repeat (first | exact Drawn0.refl _ | apply Drawn0.step)⟩
 ·rw [if_neg c4] at H
  have c4b0 : decide (a1 ≤ a0) = false := decide_eq_false c4
  clear c4
  obtain rfl := Option.some.inj H
  go_enter Tryd.func27, Tryd.ntmps27
  go_wp2
  go_ret
  exact ⟨by first | rfl | (simp; done) | (simp [*]; done), by repeat (first | exact Drawn0.refl _ | apply Drawn0.step)⟩

/-! ### spec_GoodConfig: function 63 -/
def spec_GoodConfig.f (a0_0 : Int) (a0_1 : Int) (a0_2 : Int) (a0_3 : ByteArray) (a0_4 : Bool) : Option (Bool) := (spec_l1In.f a0_0 0 6).bind fun t118 => (if t118 = true then ((spec_l1In.f a0_1 1 15).bind fun t119 => (if t119 = true then ((spec_l1In.f a0_2 4 18).bind fun t120 => (if t120 = true then (if (wrap64 (a0_1 + a0_2)) ≤ 19 then (if a0_3.toList = ([] : List UInt8) then (some true) else (some ((a0_3.size : Int) == 16))) else (some false)) else (some false))) else (some false))) else (some false))
set_option maxHeartbeats 64000000 in
set_option maxRecDepth 100000 in
theorem spec_GoodConfig.calls (a0_0 : Int) (a0_1 : Int) (a0_2 : Int) (a0_3 : ByteArray) (a0_4 : Bool) (r : Bool) (w : World) (h : spec_GoodConfig.f a0_0 a0_1 a0_2 a0_3 a0_4 = some r) :
  Calls Tryd.prog 63 #[.agg #[.int .i64 a0_0, .int .i64 a0_1, .int .i64 a0_2, .string a0_3, .bool a0_4]] w fun e w' => e = .returned (.bool r) ∧ Below w.heap.size w w' := by
 have hu87 := Tryd.underlying87
 have HB := Aside0.mk (Below.refl w.heap.size w)
 have H : ((spec_l1In.f a0_0 0 6).bind fun t118 => (if t118 = true then ((spec_l1In.f a0_1 1 15).bind fun t119 => (if t119 = true then ((spec_l1In.f a0_2 4 18).bind fun t120 => (if t120 = true then (if (wrap64 (a0_1 + a0_2)) ≤ 19 then (if a0_3.toList = ([] : List UInt8) then (some true) else (some ((a0_3.size : Int) == 16))) else (some false)) else (some false))) else (some false))) else (some false))) = some r := h
 clear h
 replace H := Option.bind_eq_some_iff.mp H
 obtain ⟨t118, A20, H⟩ := H
 replace H : (if t118 = true then ((spec_l1In.f a0_1 1 15).bind fun t119 => (if t119 = true then ((spec_l1In.f a0_2 4 18).bind fun t120 => (if t120 = true then (if (wrap64 (a0_1 + a0_2)) ≤ 19 then (if a0_3.toList = ([] : List UInt8) then (some true) else (some ((a0_3.size : Int) == 16))) else (some false)) else (some false))) else (some false))) else (some false)) = some r := H
 have A2 := Aside0.mk A20
 clear A20
 by_cases c3 : t118 = true
 ·subst c3
  have H1 : ((spec_l1In.f a0_1 1 15).bind fun t119 => (if t119 = true then ((spec_l1In.f a0_2 4 18).bind fun t120 => (if t120 = true then (if (wrap64 (a0_1 + a0_2)) ≤ 19 then (if a0_3.toList = ([] : List UInt8) then (some true) else (some ((a0_3.size : Int) == 16))) else (some false)) else (some false))) else (some false))) = some r := by rw [if_pos rfl] at H; exact H
  clear H
  have H := H1
  clear H1
  replace H := Option.bind_eq_some_iff.mp H
  obtain ⟨t119, A40, H⟩ := H
  replace H : (if t119 = true then ((spec_l1In.f a0_2 4 18).bind fun t120 => (if t120 = true then (if (wrap64 (a0_1 + a0_2)) ≤ 19 then (if a0_3.toList = ([] : List UInt8) then (some true) else (some ((a0_3.size : Int) == 16))) else (some false)) else (some false))) else (some false)) = some r := H
  have A4 := Aside0.mk A40
  clear A40
  by_cases c5 : t119 = true
  ·subst c5
   have H1 : ((spec_l1In.f a0_2 4 18).bind fun t120 => (if t120 = true then (if (wrap64 (a0_1 + a0_2)) ≤ 19 then (if a0_3.toList = ([] : List UInt8) then (some true) else (some ((a0_3.size : Int) == 16))) else (some false)) else (some false))) = some r := by rw [if_pos rfl] at H; exact H
   clear H
   have H := H1
   clear H1
   replace H := Option.bind_eq_some_iff.mp H
   obtain ⟨t120, A60, H⟩ := H
   replace H : (if t120 = true then (if (wrap64 (a0_1 + a0_2)) ≤ 19 then (if a0_3.toList = ([] : List UInt8) then (some true) else (some ((a0_3.size : Int) == 16))) else (some false)) else (some false)) = some r := H
   have A6 := Aside0.mk A60
   clear A60
   by_cases c7 : t120 = true
   ·subst c7
    have H1 : (if (wrap64 (a0_1 + a0_2)) ≤ 19 then (if a0_3.toList = ([] : List UInt8) then (some true) else (some ((a0_3.size : Int) == 16))) else (some false)) = some r := by rw [if_pos rfl] at H; exact H
    clear H
    have H := H1
    clear H1
    by_cases c8 : (wrap64 (a0_1 + a0_2)) ≤ 19
    ·rw [if_pos c8] at H
     have c8b0 : decide ((wrap64 (a0_1 + a0_2)) ≤ 19) = true := decide_eq_true c8
     (try (have c8b1 : decide ((IntKind.i64.wrap (a0_1 + a0_2)) ≤ 19) = true := by simp only [i64_w]; exact (decide_eq_true c8)))
     clear c8
     by_cases c9 : a0_3.toList = ([] : List UInt8)
     ·rw [if_pos c9] at H
      have c9b0 : (a0_3.toList == ([] : List UInt8)) = true := beq_iff_eq.mpr c9
      have c9b1 : (a0_3.toList != ([] : List UInt8)) = false := bne_eq_false_iff_eq.mpr c9
      clear c9
      obtain rfl := Option.some.inj H
      go_enter Tryd.func63, Tryd.ntmps63
      go_wp2_with (first | ((with_reducible refine gate_dst (N := 1) rfl ?_); (try (refine gate_guard (by rfl) ?_; dsimp only)); refine box_event ?hg (N := 1) ?hd (cs := #[.int .i64 a0_0, .int .i64 a0_1, .int .i64 a0_2, .string a0_3, .bool a0_4]) (t := 87) ?hr ?_; (case hd => rfl); (case hg => rfl); (case hr => first | (go_simp; done) | (go_simp; rfl)); intro gb117 hg w10 hbox hb; have n0_ := bS HB hb; have n1_ := Aside0.mk (hbox); have n2_ := Aside0.mk ((by rw [hg]; exact (below_size (by repeat (first | (with_reducible first | exact HB.out | apply below_alloc | apply pw_below_drewN | apply below_drew1) | exact HB.out))) : w.heap.size ≤ gb117)); have n3_ := n2_; clear HB; have HB := n0_; have BK117 := n1_; have GW117 := n2_; have GE117 := n3_; clear n0_ n1_ n2_ n3_; clear hb hbox hg; obtain ⟨hcz11_0, hcz11_1, hcz11_2, hcz11_3, hcz11_4⟩ := cz5 BK117; obtain ⟨hfz11_0, hfz11_1, hfz11_2, hfz11_3, hfz11_4⟩ := fz5 BK117) | ((with_reducible refine gate_callee (f := 27) rfl ?_); refine goesL_ (some 5) rfl rfl Tryd.func27 (by kernel_rfl) rfl #[.int .i64 a0_0, .int .i64 0, .int .i64 6] rfl (by (try simp only [List.map_toArray, List.map_cons, List.map_nil]); first | done | rfl | (simp only [List.length_drop, List.length_take]; rfl)) ?_; (with_reducible refine (spec_l1In.calls a0_0 0 6 true _ A2.out).mono ?_); rintro e w' ⟨rfl, ⟨nd, rfl⟩⟩; refine ⟨_, rfl, ?_⟩) | (go_at_call 27; (with_reducible refine (spec_l1In.calls a0_1 1 15 true _ A4.out).mono ?_); rintro e w' ⟨rfl, ⟨nd, rfl⟩⟩) | (go_at_call 27; (with_reducible refine (spec_l1In.calls a0_2 4 18 true _ A6.out).mono ?_); rintro e w' ⟨rfl, ⟨nd, rfl⟩⟩))
      go_ret
      exact ⟨by first | rfl | (simp only [Go.Proofs.YtilkginahmfagaaDoor.StoreK.ne_nil_b]; first | done | rfl | (simp; done)) | (simp [errW_none, errW_some] <;> rfl) | (simp [*, errW_none, errW_some] <;> rfl), by repeat (first | (with_reducible first | exact HB.out | apply below_alloc | apply pw_below_drewN | apply below_drew1 | refine below_set ?_ GE117.out) | exact HB.out)⟩
     ·rw [if_neg c9] at H
      have c9b0 : (a0_3.toList == ([] : List UInt8)) = false := beq_eq_false_iff_ne.mpr c9
      have c9b1 : (a0_3.toList != ([] : List UInt8)) = true := bne_iff_ne.mpr c9
      obtain rfl := Option.some.inj H
      go_enter Tryd.func63, Tryd.ntmps63
      go_wp2_with (first | ((with_reducible refine gate_dst (N := 1) rfl ?_); (try (refine gate_guard (by rfl) ?_; dsimp only)); refine box_event ?hg (N := 1) ?hd (cs := #[.int .i64 a0_0, .int .i64 a0_1, .int .i64 a0_2, .string a0_3, .bool a0_4]) (t := 87) ?hr ?_; (case hd => rfl); (case hg => rfl); (case hr => first | (go_simp; done) | (go_simp; rfl)); intro gb117 hg w12 hbox hb; have n0_ := bS HB hb; have n1_ := Aside0.mk (hbox); have n2_ := Aside0.mk ((by rw [hg]; exact (below_size (by repeat (first | (with_reducible first | exact HB.out | apply below_alloc | apply pw_below_drewN | apply below_drew1) | exact HB.out))) : w.heap.size ≤ gb117)); have n3_ := n2_; clear HB; have HB := n0_; have BK117 := n1_; have GW117 := n2_; have GE117 := n3_; clear n0_ n1_ n2_ n3_; clear hb hbox hg; obtain ⟨hcz13_0, hcz13_1, hcz13_2, hcz13_3, hcz13_4⟩ := cz5 BK117; obtain ⟨hfz13_0, hfz13_1, hfz13_2, hfz13_3, hfz13_4⟩ := fz5 BK117) | ((with_reducible refine gate_callee (f := 27) rfl ?_); refine goesL_ (some 5) rfl rfl Tryd.func27 (by kernel_rfl) rfl #[.int .i64 a0_0, .int .i64 0, .int .i64 6] rfl (by (try simp only [List.map_toArray, List.map_cons, List.map_nil]); first | done | rfl | (simp only [List.length_drop, List.length_take]; rfl)) ?_; (with_reducible refine (spec_l1In.calls a0_0 0 6 true _ A2.out).mono ?_); rintro e w' ⟨rfl, ⟨nd, rfl⟩⟩; refine ⟨_, rfl, ?_⟩) | (go_at_call 27; (with_reducible refine (spec_l1In.calls a0_1 1 15 true _ A4.out).mono ?_); rintro e w' ⟨rfl, ⟨nd, rfl⟩⟩) | (go_at_call 27; (with_reducible refine (spec_l1In.calls a0_2 4 18 true _ A6.out).mono ?_); rintro e w' ⟨rfl, ⟨nd, rfl⟩⟩))
      go_ret
      exact ⟨by first | rfl | (simp only [Go.Proofs.YtilkginahmfagaaDoor.StoreK.ne_nil_b]; first | done | rfl | (simp; done)) | (simp [errW_none, errW_some] <;> rfl) | (simp [*, errW_none, errW_some] <;> rfl), by repeat (first | (with_reducible first | exact HB.out | apply below_alloc | apply pw_below_drewN | apply below_drew1 | refine below_set ?_ GE117.out) | exact HB.out)⟩
    ·rw [if_neg c8] at H
     have c8b0 : decide ((wrap64 (a0_1 + a0_2)) ≤ 19) = false := decide_eq_false c8
     (try (have c8b1 : decide ((IntKind.i64.wrap (a0_1 + a0_2)) ≤ 19) = false := by simp only [i64_w]; exact (decide_eq_false c8)))
     clear c8
     obtain rfl := Option.some.inj H
     go_enter Tryd.func63, Tryd.ntmps63
     go_wp2_with (first | ((with_reducible refine gate_dst (N := 1) rfl ?_); (try (refine gate_guard (by rfl) ?_; dsimp only)); refine box_event ?hg (N := 1) ?hd (cs := #[.int .i64 a0_0, .int .i64 a0_1, .int .i64 a0_2, .string a0_3, .bool a0_4]) (t := 87) ?hr ?_; (case hd => rfl); (case hg => rfl); (case hr => first | (go_simp; done) | (go_simp; rfl)); intro gb117 hg w14 hbox hb; have n0_ := bS HB hb; have n1_ := Aside0.mk (hbox); have n2_ := Aside0.mk ((by rw [hg]; exact (below_size (by repeat (first | (with_reducible first | exact HB.out | apply below_alloc | apply pw_below_drewN | apply below_drew1) | exact HB.out))) : w.heap.size ≤ gb117)); have n3_ := n2_; clear HB; have HB := n0_; have BK117 := n1_; have GW117 := n2_; have GE117 := n3_; clear n0_ n1_ n2_ n3_; clear hb hbox hg; obtain ⟨hcz15_0, hcz15_1, hcz15_2, hcz15_3, hcz15_4⟩ := cz5 BK117; obtain ⟨hfz15_0, hfz15_1, hfz15_2, hfz15_3, hfz15_4⟩ := fz5 BK117) | ((with_reducible refine gate_callee (f := 27) rfl ?_); refine goesL_ (some 5) rfl rfl Tryd.func27 (by kernel_rfl) rfl #[.int .i64 a0_0, .int .i64 0, .int .i64 6] rfl (by (try simp only [List.map_toArray, List.map_cons, List.map_nil]); first | done | rfl | (simp only [List.length_drop, List.length_take]; rfl)) ?_; (with_reducible refine (spec_l1In.calls a0_0 0 6 true _ A2.out).mono ?_); rintro e w' ⟨rfl, ⟨nd, rfl⟩⟩; refine ⟨_, rfl, ?_⟩) | (go_at_call 27; (with_reducible refine (spec_l1In.calls a0_1 1 15 true _ A4.out).mono ?_); rintro e w' ⟨rfl, ⟨nd, rfl⟩⟩) | (go_at_call 27; (with_reducible refine (spec_l1In.calls a0_2 4 18 true _ A6.out).mono ?_); rintro e w' ⟨rfl, ⟨nd, rfl⟩⟩))
     go_ret
     exact ⟨by first | rfl | (simp only [Go.Proofs.YtilkginahmfagaaDoor.StoreK.ne_nil_b]; first | done | rfl | (simp; done)) | (simp [errW_none, errW_some] <;> rfl) | (simp [*, errW_none, errW_some] <;> rfl), by repeat (first | (with_reducible first | exact HB.out | apply below_alloc | apply pw_below_drewN | apply below_drew1 | refine below_set ?_ GE117.out) | exact HB.out)⟩
   ·replace c7 := Bool.eq_false_iff.mpr c7
    subst c7
    have H1 : (some false) = some r := by rw [if_neg (show ¬ (false = true) by decide)] at H; exact H
    clear H
    have H := H1
    clear H1
    obtain rfl := Option.some.inj H
    go_enter Tryd.func63, Tryd.ntmps63
    go_wp2_with (first | ((with_reducible refine gate_dst (N := 1) rfl ?_); (try (refine gate_guard (by rfl) ?_; dsimp only)); refine box_event ?hg (N := 1) ?hd (cs := #[.int .i64 a0_0, .int .i64 a0_1, .int .i64 a0_2, .string a0_3, .bool a0_4]) (t := 87) ?hr ?_; (case hd => rfl); (case hg => rfl); (case hr => first | (go_simp; done) | (go_simp; rfl)); intro gb117 hg w16 hbox hb; have n0_ := bS HB hb; have n1_ := Aside0.mk (hbox); have n2_ := Aside0.mk ((by rw [hg]; exact (below_size (by repeat (first | (with_reducible first | exact HB.out | apply below_alloc | apply pw_below_drewN | apply below_drew1) | exact HB.out))) : w.heap.size ≤ gb117)); have n3_ := n2_; clear HB; have HB := n0_; have BK117 := n1_; have GW117 := n2_; have GE117 := n3_; clear n0_ n1_ n2_ n3_; clear hb hbox hg; obtain ⟨hcz17_0, hcz17_1, hcz17_2, hcz17_3, hcz17_4⟩ := cz5 BK117; obtain ⟨hfz17_0, hfz17_1, hfz17_2, hfz17_3, hfz17_4⟩ := fz5 BK117) | ((with_reducible refine gate_callee (f := 27) rfl ?_); refine goesL_ (some 5) rfl rfl Tryd.func27 (by kernel_rfl) rfl #[.int .i64 a0_0, .int .i64 0, .int .i64 6] rfl (by (try simp only [List.map_toArray, List.map_cons, List.map_nil]); first | done | rfl | (simp only [List.length_drop, List.length_take]; rfl)) ?_; (with_reducible refine (spec_l1In.calls a0_0 0 6 true _ A2.out).mono ?_); rintro e w' ⟨rfl, ⟨nd, rfl⟩⟩; refine ⟨_, rfl, ?_⟩) | (go_at_call 27; (with_reducible refine (spec_l1In.calls a0_1 1 15 true _ A4.out).mono ?_); rintro e w' ⟨rfl, ⟨nd, rfl⟩⟩) | (go_at_call 27; (with_reducible refine (spec_l1In.calls a0_2 4 18 false _ A6.out).mono ?_); rintro e w' ⟨rfl, ⟨nd, rfl⟩⟩))
    go_ret
    exact ⟨by first | rfl | (simp only [Go.Proofs.YtilkginahmfagaaDoor.StoreK.ne_nil_b]; first | done | rfl | (simp; done)) | (simp [errW_none, errW_some] <;> rfl) | (simp [*, errW_none, errW_some] <;> rfl), by repeat (first | (with_reducible first | exact HB.out | apply below_alloc | apply pw_below_drewN | apply below_drew1 | refine below_set ?_ GE117.out) | exact HB.out)⟩
  ·replace c5 := Bool.eq_false_iff.mpr c5
   subst c5
   have H1 : (some false) = some r := by rw [if_neg (show ¬ (false = true) by decide)] at H; exact H
   clear H
   have H := H1
   clear H1
   obtain rfl := Option.some.inj H
   go_enter Tryd.func63, Tryd.ntmps63
   go_wp2_with (first | ((with_reducible refine gate_dst (N := 1) rfl ?_); (try (refine gate_guard (by rfl) ?_; dsimp only)); refine box_event ?hg (N := 1) ?hd (cs := #[.int .i64 a0_0, .int .i64 a0_1, .int .i64 a0_2, .string a0_3, .bool a0_4]) (t := 87) ?hr ?_; (case hd => rfl); (case hg => rfl); (case hr => first | (go_simp; done) | (go_simp; rfl)); intro gb117 hg w18 hbox hb; have n0_ := bS HB hb; have n1_ := Aside0.mk (hbox); have n2_ := Aside0.mk ((by rw [hg]; exact (below_size (by repeat (first | (with_reducible first | exact HB.out | apply below_alloc | apply pw_below_drewN | apply below_drew1) | exact HB.out))) : w.heap.size ≤ gb117)); have n3_ := n2_; clear HB; have HB := n0_; have BK117 := n1_; have GW117 := n2_; have GE117 := n3_; clear n0_ n1_ n2_ n3_; clear hb hbox hg; obtain ⟨hcz19_0, hcz19_1, hcz19_2, hcz19_3, hcz19_4⟩ := cz5 BK117; obtain ⟨hfz19_0, hfz19_1, hfz19_2, hfz19_3, hfz19_4⟩ := fz5 BK117) | ((with_reducible refine gate_callee (f := 27) rfl ?_); refine goesL_ (some 5) rfl rfl Tryd.func27 (by kernel_rfl) rfl #[.int .i64 a0_0, .int .i64 0, .int .i64 6] rfl (by (try simp only [List.map_toArray, List.map_cons, List.map_nil]); first | done | rfl | (simp only [List.length_drop, List.length_take]; rfl)) ?_; (with_reducible refine (spec_l1In.calls a0_0 0 6 true _ A2.out).mono ?_); rintro e w' ⟨rfl, ⟨nd, rfl⟩⟩; refine ⟨_, rfl, ?_⟩) | (go_at_call 27; (with_reducible refine (spec_l1In.calls a0_1 1 15 false _ A4.out).mono ?_); rintro e w' ⟨rfl, ⟨nd, rfl⟩⟩))
   go_ret
   exact ⟨by first | rfl | (simp only [Go.Proofs.YtilkginahmfagaaDoor.StoreK.ne_nil_b]; first | done | rfl | (simp; done)) | (simp [errW_none, errW_some] <;> rfl) | (simp [*, errW_none, errW_some] <;> rfl), by repeat (first | (with_reducible first | exact HB.out | apply below_alloc | apply pw_below_drewN | apply below_drew1 | refine below_set ?_ GE117.out) | exact HB.out)⟩
 ·replace c3 := Bool.eq_false_iff.mpr c3
  subst c3
  have H1 : (some false) = some r := by rw [if_neg (show ¬ (false = true) by decide)] at H; exact H
  clear H
  have H := H1
  clear H1
  obtain rfl := Option.some.inj H
  go_enter Tryd.func63, Tryd.ntmps63
  go_wp2_with (first | ((with_reducible refine gate_dst (N := 1) rfl ?_); (try (refine gate_guard (by rfl) ?_; dsimp only)); refine box_event ?hg (N := 1) ?hd (cs := #[.int .i64 a0_0, .int .i64 a0_1, .int .i64 a0_2, .string a0_3, .bool a0_4]) (t := 87) ?hr ?_; (case hd => rfl); (case hg => rfl); (case hr => first | (go_simp; done) | (go_simp; rfl)); intro gb117 hg w20 hbox hb; have n0_ := bS HB hb; have n1_ := Aside0.mk (hbox); have n2_ := Aside0.mk ((by rw [hg]; exact (below_size (by repeat (first | (with_reducible first | exact HB.out | apply below_alloc | apply pw_below_drewN | apply below_drew1) | exact HB.out))) : w.heap.size ≤ gb117)); have n3_ := n2_; clear HB; have HB := n0_; have BK117 := n1_; have GW117 := n2_; have GE117 := n3_; clear n0_ n1_ n2_ n3_; clear hb hbox hg; obtain ⟨hcz21_0, hcz21_1, hcz21_2, hcz21_3, hcz21_4⟩ := cz5 BK117; obtain ⟨hfz21_0, hfz21_1, hfz21_2, hfz21_3, hfz21_4⟩ := fz5 BK117) | ((with_reducible refine gate_callee (f := 27) rfl ?_); refine goesL_ (some 5) rfl rfl Tryd.func27 (by kernel_rfl) rfl #[.int .i64 a0_0, .int .i64 0, .int .i64 6] rfl (by (try simp only [List.map_toArray, List.map_cons, List.map_nil]); first | done | rfl | (simp only [List.length_drop, List.length_take]; rfl)) ?_; (with_reducible refine (spec_l1In.calls a0_0 0 6 false _ A2.out).mono ?_); rintro e w' ⟨rfl, ⟨nd, rfl⟩⟩; refine ⟨_, rfl, ?_⟩))
  go_ret
  exact ⟨by first | rfl | (simp only [Go.Proofs.YtilkginahmfagaaDoor.StoreK.ne_nil_b]; first | done | rfl | (simp; done)) | (simp [errW_none, errW_some] <;> rfl) | (simp [*, errW_none, errW_some] <;> rfl), by repeat (first | (with_reducible first | exact HB.out | apply below_alloc | apply pw_below_drewN | apply below_drew1 | refine below_set ?_ GE117.out) | exact HB.out)⟩

end Go.Proofs.YtilkginahmfagaaDoor.PFnExactGoodBalancer
