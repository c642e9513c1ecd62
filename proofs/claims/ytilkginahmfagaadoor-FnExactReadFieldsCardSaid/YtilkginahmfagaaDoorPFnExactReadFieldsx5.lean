-- Written by a program of this session (wip/xprint.py).
import Derived.Test.YtilkginahmfagaaDoorPFnExactReadFieldsx0
import Derived.Test.YtilkginahmfagaaDoorPFnExactReadFieldsx4
namespace Go.Proofs.YtilkginahmfagaaDoor.PFnExactReadFields
open Go.RowKit Go.Proofs.YtilkginahmfagaaDoorW.PrintWords Go.Proofs.YtilkginahmfagaaDoorW.PrintLast Go.Proofs.YtilkginahmfagaaDoorW.PrintMore
open Go.Proofs.YtilkginahmfagaaDoor.ShortK (bN bD bA sA sZ sS mR mB bX bLt bS cz2 fz2 cx2 cz3 fz3 cx3 cz4 fz4 cx4 cz5 fz5 cx5 cz6 fz6 cx6 cz7 fz7 cx7 cz8 fz8 cx8 cz9 fz9 cx9 cz10 fz10 cx10 cz11 fz11 cx11 cz12 fz12 cx12)
open Go.Proofs.YtilkginahmfagaaDoor.StoreK (bm)
attribute [local go_sem] Go.Proofs.YtilkginahmfagaaDoor.StoreK.isSome_setCell max2_int min2_int max_two min_two max_three min_three max_four min_four   -- for this text's walks alone
set_option linter.unusedVariables false
set_option linter.unusedSimpArgs false

/-! ### spec_l15Bytes: function 76 -/
def spec_l15Bytes.l0 : Nat → ByteArray → List (S65) → Int → Int → Option (ByteArray)
 | 0, _, _, _, _ => none
 | k + 1, x3, x9, x10, x11 => if x11 < x10 then (if 0 ≤ x11 then (if x11 < (x9.length : Int) then ((spec_l15At.f k ((rd_T65 x9 x11).f0) ((rd_T65 x9 x11).f1)).bind fun bt128 => ((spec_l15Prefix.f k (((rd_T65 x9 x11).f1).size : Int) 7 0).bind fun t130 => (if t130.size + ((rd_T65 x9 x11).f1).size ≤ 9223372036854775807 then (if bt128.1 ≥ 0 then ((spec_l15Prefix.f k bt128.1 6 192).bind fun t131 => (if x3.size + t131.size ≤ 9223372036854775807 then (spec_l15Bytes.l0 k (x3 ++ t131) x9 x10 (wrap64 (x11 + 1))) else (none))) else (if bt128.2 ≥ 0 then ((spec_l15Prefix.f k bt128.2 4 80).bind fun t132 => (if t132.size + (t130 ++ ((rd_T65 x9 x11).f1)).size ≤ 9223372036854775807 then (if x3.size + (t132 ++ (t130 ++ ((rd_T65 x9 x11).f1))).size ≤ 9223372036854775807 then (spec_l15Bytes.l0 k (x3 ++ (t132 ++ (t130 ++ ((rd_T65 x9 x11).f1)))) x9 x10 (wrap64 (x11 + 1))) else (none)) else (none))) else ((spec_l15Prefix.f k (((rd_T65 x9 x11).f0).size : Int) 3 32).bind fun t133 => (if t133.size + ((rd_T65 x9 x11).f0).size ≤ 9223372036854775807 then (if (t133 ++ ((rd_T65 x9 x11).f0)).size + (t130 ++ ((rd_T65 x9 x11).f1)).size ≤ 9223372036854775807 then (if x3.size + ((t133 ++ ((rd_T65 x9 x11).f0)) ++ (t130 ++ ((rd_T65 x9 x11).f1))).size ≤ 9223372036854775807 then (spec_l15Bytes.l0 k (x3 ++ ((t133 ++ ((rd_T65 x9 x11).f0)) ++ (t130 ++ ((rd_T65 x9 x11).f1)))) x9 x10 (wrap64 (x11 + 1))) else (none)) else (none)) else (none))))) else (none)))) else (none)) else (none)) else (some x3)
def spec_l15Bytes.f (k : Nat) (l0 : List (S65)) : Option (ByteArray) := spec_l15Bytes.l0 k (⟨#[0, 0]⟩ : ByteArray) l0 (l0.length : Int) 0
theorem spec_l15Bytes.mono_l : ∀ k, (∀ y0 y1 y2 y3, LeO (spec_l15Bytes.l0 k y0 y1 y2 y3) (spec_l15Bytes.l0 (k + 1) y0 y1 y2 y3))
 | 0 => fun _ _ _ _ r h => by simp [spec_l15Bytes.l0] at h
 | k + 1 => by
  have ih0 := spec_l15Bytes.mono_l k
  ·intro y0 y1 y2 y3
   unfold spec_l15Bytes.l0
   repeat' first
   | (with_reducible exact ih0 _ _ _ _)
   | (with_reducible exact spec_l15At.mono _ _ _)
   | (with_reducible exact spec_l15Prefix.mono _ _ _ _)
   | (with_reducible exact LeO.refl _)
   | (with_reducible exact LeO.none _)
   | (with_reducible refine LeO.ite ?_ ?_)
   | (with_reducible refine LeO.bind ?_ (fun _ => ?_))
   | exact ih0 _ _ _ _
   | exact spec_l15At.mono _ _ _
   | exact spec_l15Prefix.mono _ _ _ _
   | exact LeO.none _
   | refine LeO.ite ?_ ?_
   | refine LeO.bind ?_ (fun _ => ?_)
theorem spec_l15Bytes.mono : ∀ a0 k, LeO (spec_l15Bytes.f k a0) (spec_l15Bytes.f (k + 1) a0) := by
 intro a0 k
 have ih0 := spec_l15Bytes.mono_l k
 unfold spec_l15Bytes.f
 repeat' first
   | (with_reducible exact ih0 _ _ _ _)
   | (with_reducible exact spec_l15At.mono _ _ _)
   | (with_reducible exact spec_l15Prefix.mono _ _ _ _)
   | (with_reducible exact LeO.refl _)
   | (with_reducible exact LeO.none _)
   | (with_reducible refine LeO.ite ?_ ?_)
   | (with_reducible refine LeO.bind ?_ (fun _ => ?_))
   | exact ih0 _ _ _ _
   | exact spec_l15At.mono _ _ _
   | exact spec_l15Prefix.mono _ _ _ _
   | exact LeO.none _
   | refine LeO.ite ?_ ?_
   | refine LeO.bind ?_ (fun _ => ?_)
def spec_l15Bytes.T6 : Bool × List (List Nat × List Nat) := (true, [([], []), ([0], [0]), ([1], [1]), ([2], [2]), ([], []), ([4], [4]), ([3, 5], [3, 5]), ([6, 3, 0, 1, 2, 3, 4, 5, 6], [6])])
def spec_l15Bytes.B6 : List Nat := [0, 1, 3, 7, 0, 16, 63, 127]
theorem spec_l15Bytes.tab6 : rtab .any (opsOf Tryd.f76 6) = spec_l15Bytes.T6 := by kernel_rfl
theorem spec_l15Bytes.bits6 : waitsOk spec_l15Bytes.T6.2 spec_l15Bytes.B6 = true := by kernel_rfl
def spec_l15Bytes.T7 : Bool × List (List Nat × List Nat) := (true, [([], []), ([], []), ([1], [1]), ([2], [2]), ([3], [3]), ([], []), ([5], [5]), ([4, 6], [4, 6]), ([], []), ([7, 8], [7, 8]), ([0, 9], [0, 9]), ([10, 4, 0, 1, 2, 3, 4, 5, 6, 7, 8, 9, 10], [0, 10])])
def spec_l15Bytes.B7 : List Nat := [0, 0, 2, 6, 14, 0, 32, 126, 0, 510, 1023, 2047]
theorem spec_l15Bytes.tab7 : rtab .any (opsOf Tryd.f76 7) = spec_l15Bytes.T7 := by kernel_rfl
theorem spec_l15Bytes.bits7 : waitsOk spec_l15Bytes.T7.2 spec_l15Bytes.B7 = true := by kernel_rfl
set_option maxHeartbeats 64000000 in
set_option maxRecDepth 100000 in
theorem spec_l15Bytes.calls (k : Nat) (A0 : Option Addr) (c0 : Nat) (l0 : List (S65)) (r : ByteArray) (w : World) (hr0 : Kd.C k65 w A0 l0.length l0) (hc0 : l0.length ≤ c0) (h : spec_l15Bytes.f k l0 = some r) :
  Calls Tryd.prog 76 #[.slice A0 l0.length c0] w fun e w' => e = .returned (.string r) ∧ Below w.heap.size w w' := by
 have hu65 := Tryd.underlying65
 have HR0 := Aside0.mk hr0
 have HC0 := Aside0.mk hc0
 clear hr0 hc0
 have HB := Aside0.mk (Below.refl w.heap.size w)
 have H : (spec_l15Bytes.l0 k (⟨#[0, 0]⟩ : ByteArray) l0 (l0.length : Int) 0) = some r := h
 clear h
 have H' := Aside0.mk H
 clear H
 go_enter Tryd.func76, Tryd.ntmps76
 go_wp2
 go_loopg [3, 11] k (fun kq v3 v11 w' => ∃ (x3_1 : ByteArray) (x11_1 : Int), v3 = .string x3_1 ∧ v11 = .int .i64 x11_1 ∧ Aside0 (spec_l15Bytes.l0 kq x3_1 l0 (l0.length : Int) x11_1 = some r) ∧ Aside0 (kq ≤ k) ∧ Aside0 (Below w.heap.size w w'))
 case atStart => exact ⟨((⟨#[0, 0]⟩ : ByteArray)), (0), (by first | rfl | (simp; done) | (simp [*]; done)), (by first | rfl | (simp; done) | (simp [*]; done)), H', ⟨Nat.le_refl _⟩, ⟨by repeat (first | (with_reducible first | exact HB.out | apply below_alloc | apply pw_below_drewN | apply below_drew1) | exact HB.out)⟩⟩
 case round =>
  clear H'
  obtain ⟨x3_1, x11_1, rfl, rfl, HA, HK1, HB⟩ := hrel
  cases gk with
  | zero => exact absurd HA.out (by simp [spec_l15Bytes.l0])
  | succ k1 =>
   have H := HA.out
   clear HA
   simp only [spec_l15Bytes.l0] at H
   by_cases c2 : x11_1 < (l0.length : Int)
   ·rw [if_pos c2] at H
    have c2b0 : decide (x11_1 < (l0.length : Int)) = true := decide_eq_true c2
    clear c2
    by_cases c3 : 0 ≤ x11_1
    ·rw [if_pos c3] at H
     have c3b0 : decide (0 ≤ x11_1) = true := decide_eq_true c3
     clear c3
     by_cases c4 : x11_1 < (l0.length : Int)
     ·rw [if_pos c4] at H
      have c4b0 : decide (x11_1 < (l0.length : Int)) = true := decide_eq_true c4
      clear c4
      replace H := Option.bind_eq_some_iff.mp H
      obtain ⟨⟨t128, t129⟩, A50, H⟩ := H
      replace H : ((spec_l15Prefix.f k1 (((rd_T65 l0 x11_1).f1).size : Int) 7 0).bind fun t130 => (if t130.size + ((rd_T65 l0 x11_1).f1).size ≤ 9223372036854775807 then (if t128 ≥ 0 then ((spec_l15Prefix.f k1 t128 6 192).bind fun t131 => (if x3_1.size + t131.size ≤ 9223372036854775807 then (spec_l15Bytes.l0 k1 (x3_1 ++ t131) l0 (l0.length : Int) (wrap64 (x11_1 + 1))) else (none))) else (if t129 ≥ 0 then ((spec_l15Prefix.f k1 t129 4 80).bind fun t132 => (if t132.size + (t130 ++ ((rd_T65 l0 x11_1).f1)).size ≤ 9223372036854775807 then (if x3_1.size + (t132 ++ (t130 ++ ((rd_T65 l0 x11_1).f1))).size ≤ 9223372036854775807 then (spec_l15Bytes.l0 k1 (x3_1 ++ (t132 ++ (t130 ++ ((rd_T65 l0 x11_1).f1)))) l0 (l0.length : Int) (wrap64 (x11_1 + 1))) else (none)) else (none))) else ((spec_l15Prefix.f k1 (((rd_T65 l0 x11_1).f0).size : Int) 3 32).bind fun t133 => (if t133.size + ((rd_T65 l0 x11_1).f0).size ≤ 9223372036854775807 then (if (t133 ++ ((rd_T65 l0 x11_1).f0)).size + (t130 ++ ((rd_T65 l0 x11_1).f1)).size ≤ 9223372036854775807 then (if x3_1.size + ((t133 ++ ((rd_T65 l0 x11_1).f0)) ++ (t130 ++ ((rd_T65 l0 x11_1).f1))).size ≤ 9223372036854775807 then (spec_l15Bytes.l0 k1 (x3_1 ++ ((t133 ++ ((rd_T65 l0 x11_1).f0)) ++ (t130 ++ ((rd_T65 l0 x11_1).f1)))) l0 (l0.length : Int) (wrap64 (x11_1 + 1))) else (none)) else (none)) else (none))))) else (none))) = some r := H
      have A5 := Aside0.mk A50
      clear A50
      replace H := Option.bind_eq_some_iff.mp H
      obtain ⟨t130, A60, H⟩ := H
      replace H : (if t130.size + ((rd_T65 l0 x11_1).f1).size ≤ 9223372036854775807 then (if t128 ≥ 0 then ((spec_l15Prefix.f k1 t128 6 192).bind fun t131 => (if x3_1.size + t131.size ≤ 9223372036854775807 then (spec_l15Bytes.l0 k1 (x3_1 ++ t131) l0 (l0.length : Int) (wrap64 (x11_1 + 1))) else (none))) else (if t129 ≥ 0 then ((spec_l15Prefix.f k1 t129 4 80).bind fun t132 => (if t132.size + (t130 ++ ((rd_T65 l0 x11_1).f1)).size ≤ 9223372036854775807 then (if x3_1.size + (t132 ++ (t130 ++ ((rd_T65 l0 x11_1).f1))).size ≤ 9223372036854775807 then (spec_l15Bytes.l0 k1 (x3_1 ++ (t132 ++ (t130 ++ ((rd_T65 l0 x11_1).f1)))) l0 (l0.length : Int) (wrap64 (x11_1 + 1))) else (none)) else (none))) else ((spec_l15Prefix.f k1 (((rd_T65 l0 x11_1).f0).size : Int) 3 32).bind fun t133 => (if t133.size + ((rd_T65 l0 x11_1).f0).size ≤ 9223372036854775807 then (if (t133 ++ ((rd_T65 l0 x11_1).f0)).size + (t130 ++ ((rd_T65 l0 x11_1).f1)).size ≤ 9223372036854775807 then (if x3_1.size + ((t133 ++ ((rd_T65 l0 x11_1).f0)) ++ (t130 ++ ((rd_T65 l0 x11_1).f1))).size ≤ 9223372036854775807 then (spec_l15Bytes.l0 k1 (x3_1 ++ ((t133 ++ ((rd_T65 l0 x11_1).f0)) ++ (t130 ++ ((rd_T65 l0 x11_1).f1)))) l0 (l0.length : Int) (wrap64 (x11_1 + 1))) else (none)) else (none)) else (none))))) else (none)) = some r := H
      have A6 := Aside0.mk A60
      clear A60
      by_cases c7 : t130.size + ((rd_T65 l0 x11_1).f1).size ≤ 9223372036854775807
      ·rw [if_pos c7] at H
       have c7b0 := eq_true c7
       have c7b1 : decide (t130.size + ((rd_T65 l0 x11_1).f1).size ≤ 9223372036854775807) = true := decide_eq_true c7
       try have c7b2 : (9223372036854775807 < t130.size + ((rd_T65 l0 x11_1).f1).size) = False := eq_false (Nat.not_lt.2 c7)
       by_cases c8 : t128 ≥ 0
       ·rw [if_pos c8] at H
        have c8b0 : decide (0 ≤ t128) = true := decide_eq_true c8
        clear c8
        replace H := Option.bind_eq_some_iff.mp H
        obtain ⟨t131, A90, H⟩ := H
        replace H : (if x3_1.size + t131.size ≤ 9223372036854775807 then (spec_l15Bytes.l0 k1 (x3_1 ++ t131) l0 (l0.length : Int) (wrap64 (x11_1 + 1))) else (none)) = some r := H
        have A9 := Aside0.mk A90
        clear A90
        by_cases c10 : x3_1.size + t131.size ≤ 9223372036854775807
        ·rw [if_pos c10] at H
         have c10b0 := eq_true c10
         have c10b1 : decide (x3_1.size + t131.size ≤ 9223372036854775807) = true := decide_eq_true c10
         try have c10b2 : (9223372036854775807 < x3_1.size + t131.size) = False := eq_false (Nat.not_lt.2 c10)
         have H' := Aside0.mk H
         clear H
         have p126 : 0 ≤ (x11_1 : Int) := of_decide_eq_true (by first | (with_reducible assumption) | assumption)
         have q126 : x11_1 < (l0.length : Int) := of_decide_eq_true (by first | (with_reducible assumption) | assumption)
         obtain ⟨ad126, e126, hx126_0, hx126_1⟩ := at_T65 HR0.out x11_1 p126 q126
         cases e126
         replace hx126_0 := (HB.out.cell (World.block_lt_of_cell? w _ hx126_0)).trans hx126_0
         replace hx126_1 := (HB.out.cell (World.block_lt_of_cell? w _ hx126_1)).trans hx126_1
         replace p126 := eq_true p126
         replace q126 := eq_true q126
         try go_wp2_with (first | ((with_reducible refine gate_dst (N := 5) rfl ?_); refine box_event ?hg (N := 5) ?hd (cs := #[.string (⟨#[]⟩ : ByteArray), .string (⟨#[]⟩ : ByteArray)]) (t := 65) ?hr ?_; (case hd => rfl); (case hg => rfl); (case hr => first | (go_simp; done) | (go_simp; rfl)); intro gb127 hg w11 hbox hb; have n0_ := bS HB hb; have n1_ := Aside0.mk (hbox); have n2_ := Aside0.mk ((by rw [hg]; exact (below_size (by repeat (first | (with_reducible first | exact HB.out | apply below_alloc | apply pw_below_drewN | apply below_drew1) | exact HB.out))) : w.heap.size ≤ gb127)); have n3_ := n2_; clear HB; have HB := n0_; have BK127 := n1_; have GW127 := n2_; have GE127 := n3_; clear n0_ n1_ n2_ n3_; clear hb hbox hg; obtain ⟨hcz12_0, hcz12_1⟩ := cz2 BK127; obtain ⟨hfz12_0, hfz12_1⟩ := fz2 BK127) | ((with_reducible refine gate_callee (f := 105) rfl ?_); refine goesL_ (some 17) rfl rfl Tryd.func105 (by kernel_rfl) rfl #[.agg #[.string ((rd_T65 l0 x11_1).f0), .string ((rd_T65 l0 x11_1).f1)]] rfl (by (try simp only [List.map_toArray, List.map_cons, List.map_nil]); first | done | rfl | (simp only [List.length_drop, List.length_take]; rfl)) ?_; (with_reducible refine (spec_l15At.calls k1 ((rd_T65 l0 x11_1).f0) ((rd_T65 l0 x11_1).f1) t128 t129 _ A5.out).mono ?_); rintro e w13 ⟨rfl, hb⟩; refine ⟨_, rfl, ?_⟩; have n0_ := Aside0.mk (blk_below (g := gb127) (o := .cells #[.string ((rd_T65 l0 x11_1).f0), .string ((rd_T65 l0 x11_1).f1)] 65 (0, 0)) (by (with_reducible repeat (first | refine bN ?_ _ | refine bD ?_ | refine bA ?_ _)); refine blk_put (cs := #[.string ((rd_T65 l0 x11_1).f0), .string (⟨#[]⟩ : ByteArray)]) ?_ 1 _ rfl; (with_reducible repeat (first | refine bN ?_ _ | refine bD ?_ | refine bA ?_ _)); refine blk_put (cs := #[.string (⟨#[]⟩ : ByteArray), .string (⟨#[]⟩ : ByteArray)]) ?_ 0 _ rfl; (with_reducible repeat (first | refine bN ?_ _ | refine bD ?_ | refine bA ?_ _)); exact BK127.out) hb); have n1_ := bS HB hb; clear BK127; clear HB; have BK127 := n0_; have HB := n1_; clear n0_ n1_; (try clear hb); (try clear hb2); (try clear hk); (try clear hi)))
         have n0_ := Aside0.mk (blk_drew BK127.out)
         have n1_ := Aside0.mk (below_drew1 HB.out)
         clear BK127
         clear HB
         have BK127 := n0_
         have HB := n1_
         clear n0_ n1_
         refine start_ (n := 8) (S := fun w' => w'.cell? ⟨gb127, 0, none⟩ = some (.string ((rd_T65 l0 x11_1).f0)) ∧ w'.cell? ⟨gb127, 1, none⟩ = some (.string ((rd_T65 l0 x11_1).f1))) (ds := []) (bm 8 0) (by kernel_rfl) rfl rfl (cz2 BK127) (fun hHeld => ?_); refine with_tabW spec_l15Bytes.tab6 spec_l15Bytes.bits6 (fun HT_ HW_ => ?_)
         generalize w13.drew = w14 at BK127 HB hHeld ⊢
         refine pure_ (i := 0) (N := some 20) (v := ?_) (a' := ?_) (bm 8 1) rfl rfl (any_of HT_.out (by kernel_rfl)) (fun _ _ _ h => h) (Or.inl ⟨by rfl, ?_⟩) ?_ ?_
         rotate_left
         ·intro w'
          go_simp
          with_reducible rfl
         rotate_left
         ·simp only [Act.put, sA, sZ, sS, i64_w, i32_w]
          rfl
         refine pure_ (i := 4) (N := some 24) (v := ?_) (a' := ?_) (bm 8 17) rfl rfl (any_of HT_.out (by kernel_rfl)) (fun _ _ _ h => h) (Or.inl ⟨by rfl, ?_⟩) ?_ ?_
         rotate_left
         ·intro w'
          go_simp
          with_reducible rfl
         rotate_left
         ·simp only [Act.put, sA, sZ, sS, i64_w, i32_w]
          rfl
         refine take_ (i := 1) (N := some 21) (v := ?_) (a' := ?_) (bm 8 19) rfl rfl (take_ofW HT_.out HW_.out (by kernel_rfl)) (fun _ _ _ h => h) (Or.inl ⟨by rfl, ?_⟩) hHeld ?_ ?_
         rotate_left
         ·rintro w' ⟨s0, s1⟩
          go_simp
          with_reducible rfl
         rotate_left
         ·simp only [Act.put, sA, sZ, sS, i64_w, i32_w]
          rfl
         refine pure_ (i := 2) (N := some 22) (v := ?_) (a' := ?_) (bm 8 23) rfl rfl (any_of HT_.out (by kernel_rfl)) (fun _ _ _ h => h) (Or.inl ⟨by rfl, ?_⟩) ?_ ?_
         rotate_left
         ·intro w'
          go_simp
          with_reducible rfl
         rotate_left
         ·simp only [Act.put, sA, sZ, sS, i64_w, i32_w]
          rfl
         refine take_ (i := 5) (N := some 25) (v := ?_) (a' := ?_) (bm 8 55) rfl rfl (take_ofW HT_.out HW_.out (by kernel_rfl)) (fun _ _ _ h => h) (Or.inl ⟨by rfl, ?_⟩) hHeld ?_ ?_
         rotate_left
         ·rintro w' ⟨s0, s1⟩
          go_simp
          with_reducible rfl
         rotate_left
         ·simp only [Act.put, sA, sZ, sS, i64_w, i32_w]
          rfl
         refine one_ (i := 3) (N := some 23) (bm 8 63) rfl rfl (one_of HT_.out (by kernel_rfl)) (by decide) (fun K hK => ?_)
         refine goes_ Tryd.func106 (by kernel_rfl) rfl #[.int .i64 (((rd_T65 l0 x11_1).f1).size : Int), .int .i64 7, .int .i64 0] (by rfl) rfl rfl (by (try simp only [List.map_toArray, List.map_cons, List.map_nil]); first | done | rfl | (simp only [List.length_drop, List.length_take]; rfl)) ?_
         with_reducible refine (spec_l15Prefix.calls k1 (((rd_T65 l0 x11_1).f1).size : Int) 7 0 t130 _ A6.out).mono ?_
         rintro e w15 ⟨rfl, hb⟩
         refine ⟨_, rfl, ?_⟩
         have n0_ := bX BK127 hb
         have n1_ := bS HB hb
         clear BK127
         clear HB
         have BK127 := n0_
         have HB := n1_
         clear n0_ n1_
         (try clear hb)
         (try clear hb2)
         (try clear hk)
         (try clear hi)
         refine hK.out _ _ (cz2 BK127) (fun hHeld => ?_)
         clear hK K
         refine norm_ (a' := ?_) ?_ ?_
         rotate_left
         ·show Act.put _ (some 23) _ = _
          simp only [Act.put, sA, sZ, sS, i64_w, i32_w]
          rfl
         refine pure_ (i := 6) (N := some 26) (v := ?_) (a' := ?_) (bm 8 127) rfl rfl (any_of HT_.out (by kernel_rfl)) (fun _ _ _ h => h) (Or.inl ⟨by rfl, ?_⟩) ?_ ?_
         rotate_left
         ·intro w'
          go_simp
          with_reducible rfl
         rotate_left
         ·simp only [Act.put, sA, sZ, sS, i64_w, i32_w]
          rfl
         refine pure_ (i := 7) (N := some 8) (v := ?_) (a' := ?_) (bm 8 255) rfl rfl (any_of HT_.out (by kernel_rfl)) (fun _ _ _ h => h) (Or.inl ⟨by rfl, ?_⟩) ?_ ?_
         rotate_left
         ·intro w'
          go_simp
          with_reducible rfl
         rotate_left
         ·simp only [Act.put, sA, sZ, sS, i64_w, i32_w]
          rfl
         refine done_ (done_of HT_.out (by kernel_rfl)) ?_
         try go_wp2_with (first | ((with_reducible refine gate_callee (f := 106) rfl ?_); refine goesL_ (some 43) rfl rfl Tryd.func106 (by kernel_rfl) rfl #[.int .i64 t128, .int .i64 6, .int .i64 192] rfl (by (try simp only [List.map_toArray, List.map_cons, List.map_nil]); first | done | rfl | (simp only [List.length_drop, List.length_take]; rfl)) ?_; (with_reducible refine (spec_l15Prefix.calls k1 t128 6 192 t131 _ A9.out).mono ?_); rintro e w16 ⟨rfl, hb⟩; refine ⟨_, rfl, ?_⟩; have n0_ := bX BK127 hb; have n1_ := bS HB hb; clear BK127; clear HB; have BK127 := n0_; have HB := n1_; clear n0_ n1_; (try clear hb); (try clear hb2); (try clear hk); (try clear hi)))
         go_roundg k1
         case measure => have := HK1.out; omega
         case rel => exact ⟨(x3_1 ++ t131), (wrap64 (x11_1 + 1)), (by first | rfl | (simp; done) | (simp [*]; done)), (by first | rfl | (simp; done) | (simp [*]; done)), H', ⟨by have := HK1.out; omega⟩, ⟨by repeat (first | (with_reducible first | exact HB.out | apply below_alloc | apply pw_below_drewN | apply below_drew1 | refine below_set ?_ GE127.out) | exact HB.out)⟩⟩
        ·rw [if_neg c10] at H
         exact absurd H (by simp)
       ·rw [if_neg c8] at H
        have c8b0 : decide (0 ≤ t128) = false := decide_eq_false c8
        clear c8
        by_cases c17 : t129 ≥ 0
        ·rw [if_pos c17] at H
         have c17b0 : decide (0 ≤ t129) = true := decide_eq_true c17
         clear c17
         replace H := Option.bind_eq_some_iff.mp H
         obtain ⟨t132, A180, H⟩ := H
         replace H : (if t132.size + (t130 ++ ((rd_T65 l0 x11_1).f1)).size ≤ 9223372036854775807 then (if x3_1.size + (t132 ++ (t130 ++ ((rd_T65 l0 x11_1).f1))).size ≤ 9223372036854775807 then (spec_l15Bytes.l0 k1 (x3_1 ++ (t132 ++ (t130 ++ ((rd_T65 l0 x11_1).f1)))) l0 (l0.length : Int) (wrap64 (x11_1 + 1))) else (none)) else (none)) = some r := H
         have A18 := Aside0.mk A180
         clear A180
         by_cases c19 : t132.size + (t130 ++ ((rd_T65 l0 x11_1).f1)).size ≤ 9223372036854775807
         ·rw [if_pos c19] at H
          have c19b0 := eq_true c19
          have c19b1 : decide (t132.size + (t130 ++ ((rd_T65 l0 x11_1).f1)).size ≤ 9223372036854775807) = true := decide_eq_true c19
          try have c19b2 : (9223372036854775807 < t132.size + (t130 ++ ((rd_T65 l0 x11_1).f1)).size) = False := eq_false (Nat.not_lt.2 c19)
          try have c19b3 : (9223372036854775807 < _) = False := (by have sz_app := c19b2; simp only [ByteArray.size_append] at sz_app; exact sz_app)
          by_cases c20 : x3_1.size + (t132 ++ (t130 ++ ((rd_T65 l0 x11_1).f1))).size ≤ 9223372036854775807
          ·rw [if_pos c20] at H
           have c20b0 := eq_true c20
           have c20b1 : decide (x3_1.size + (t132 ++ (t130 ++ ((rd_T65 l0 x11_1).f1))).size ≤ 9223372036854775807) = true := decide_eq_true c20
           try have c20b2 : (9223372036854775807 < x3_1.size + (t132 ++ (t130 ++ ((rd_T65 l0 x11_1).f1))).size) = False := eq_false (Nat.not_lt.2 c20)
           try have c20b3 : (9223372036854775807 < _) = False := (by have sz_app := c20b2; simp only [ByteArray.size_append] at sz_app; exact sz_app)
           have H' := Aside0.mk H
           clear H
           have p126 : 0 ≤ (x11_1 : Int) := of_decide_eq_true (by first | (with_reducible assumption) | assumption)
           have q126 : x11_1 < (l0.length : Int) := of_decide_eq_true (by first | (with_reducible assumption) | assumption)
           obtain ⟨ad126, e126, hx126_0, hx126_1⟩ := at_T65 HR0.out x11_1 p126 q126
           cases e126
           replace hx126_0 := (HB.out.cell (World.block_lt_of_cell? w _ hx126_0)).trans hx126_0
           replace hx126_1 := (HB.out.cell (World.block_lt_of_cell? w _ hx126_1)).trans hx126_1
           replace p126 := eq_true p126
           replace q126 := eq_true q126
           try go_wp2_with (first | ((with_reducible refine gate_dst (N := 5) rfl ?_); refine box_event ?hg (N := 5) ?hd (cs := #[.string (⟨#[]⟩ : ByteArray), .string (⟨#[]⟩ : ByteArray)]) (t := 65) ?hr ?_; (case hd => rfl); (case hg => rfl); (case hr => first | (go_simp; done) | (go_simp; rfl)); intro gb127 hg w21 hbox hb; have n0_ := bS HB hb; have n1_ := Aside0.mk (hbox); have n2_ := Aside0.mk ((by rw [hg]; exact (below_size (by repeat (first | (with_reducible first | exact HB.out | apply below_alloc | apply pw_below_drewN | apply below_drew1) | exact HB.out))) : w.heap.size ≤ gb127)); have n3_ := n2_; clear HB; have HB := n0_; have BK127 := n1_; have GW127 := n2_; have GE127 := n3_; clear n0_ n1_ n2_ n3_; clear hb hbox hg; obtain ⟨hcz22_0, hcz22_1⟩ := cz2 BK127; obtain ⟨hfz22_0, hfz22_1⟩ := fz2 BK127) | ((with_reducible refine gate_callee (f := 105) rfl ?_); refine goesL_ (some 17) rfl rfl Tryd.func105 (by kernel_rfl) rfl #[.agg #[.string ((rd_T65 l0 x11_1).f0), .string ((rd_T65 l0 x11_1).f1)]] rfl (by (try simp only [List.map_toArray, List.map_cons, List.map_nil]); first | done | rfl | (simp only [List.length_drop, List.length_take]; rfl)) ?_; (with_reducible refine (spec_l15At.calls k1 ((rd_T65 l0 x11_1).f0) ((rd_T65 l0 x11_1).f1) t128 t129 _ A5.out).mono ?_); rintro e w23 ⟨rfl, hb⟩; refine ⟨_, rfl, ?_⟩; have n0_ := Aside0.mk (blk_below (g := gb127) (o := .cells #[.string ((rd_T65 l0 x11_1).f0), .string ((rd_T65 l0 x11_1).f1)] 65 (0, 0)) (by (with_reducible repeat (first | refine bN ?_ _ | refine bD ?_ | refine bA ?_ _)); refine blk_put (cs := #[.string ((rd_T65 l0 x11_1).f0), .string (⟨#[]⟩ : ByteArray)]) ?_ 1 _ rfl; (with_reducible repeat (first | refine bN ?_ _ | refine bD ?_ | refine bA ?_ _)); refine blk_put (cs := #[.string (⟨#[]⟩ : ByteArray), .string (⟨#[]⟩ : ByteArray)]) ?_ 0 _ rfl; (with_reducible repeat (first | refine bN ?_ _ | refine bD ?_ | refine bA ?_ _)); exact BK127.out) hb); have n1_ := bS HB hb; clear BK127; clear HB; have BK127 := n0_; have HB := n1_; clear n0_ n1_; (try clear hb); (try clear hb2); (try clear hk); (try clear hi)))
           have n0_ := Aside0.mk (blk_drew BK127.out)
           have n1_ := Aside0.mk (below_drew1 HB.out)
           clear BK127
           clear HB
           have BK127 := n0_
           have HB := n1_
           clear n0_ n1_
           refine start_ (n := 8) (S := fun w' => w'.cell? ⟨gb127, 0, none⟩ = some (.string ((rd_T65 l0 x11_1).f0)) ∧ w'.cell? ⟨gb127, 1, none⟩ = some (.string ((rd_T65 l0 x11_1).f1))) (ds := []) (bm 8 0) (by kernel_rfl) rfl rfl (cz2 BK127) (fun hHeld => ?_); refine with_tabW spec_l15Bytes.tab6 spec_l15Bytes.bits6 (fun HT_ HW_ => ?_)
           generalize w23.drew = w24 at BK127 HB hHeld ⊢
           refine pure_ (i := 0) (N := some 20) (v := ?_) (a' := ?_) (bm 8 1) rfl rfl (any_of HT_.out (by kernel_rfl)) (fun _ _ _ h => h) (Or.inl ⟨by rfl, ?_⟩) ?_ ?_
           rotate_left
           ·intro w'
            go_simp
            with_reducible rfl
           rotate_left
           ·simp only [Act.put, sA, sZ, sS, i64_w, i32_w]
            rfl
           refine pure_ (i := 4) (N := some 24) (v := ?_) (a' := ?_) (bm 8 17) rfl rfl (any_of HT_.out (by kernel_rfl)) (fun _ _ _ h => h) (Or.inl ⟨by rfl, ?_⟩) ?_ ?_
           rotate_left
           ·intro w'
            go_simp
            with_reducible rfl
           rotate_left
           ·simp only [Act.put, sA, sZ, sS, i64_w, i32_w]
            rfl
           refine take_ (i := 1) (N := some 21) (v := ?_) (a' := ?_) (bm 8 19) rfl rfl (take_ofW HT_.out HW_.out (by kernel_rfl)) (fun _ _ _ h => h) (Or.inl ⟨by rfl, ?_⟩) hHeld ?_ ?_
           rotate_left
           ·rintro w' ⟨s0, s1⟩
            go_simp
            with_reducible rfl
           rotate_left
           ·simp only [Act.put, sA, sZ, sS, i64_w, i32_w]
            rfl
           refine pure_ (i := 2) (N := some 22) (v := ?_) (a' := ?_) (bm 8 23) rfl rfl (any_of HT_.out (by kernel_rfl)) (fun _ _ _ h => h) (Or.inl ⟨by rfl, ?_⟩) ?_ ?_
           rotate_left
           ·intro w'
            go_simp
            with_reducible rfl
           rotate_left
           ·simp only [Act.put, sA, sZ, sS, i64_w, i32_w]
            rfl
           refine take_ (i := 5) (N := some 25) (v := ?_) (a' := ?_) (bm 8 55) rfl rfl (take_ofW HT_.out HW_.out (by kernel_rfl)) (fun _ _ _ h => h) (Or.inl ⟨by rfl, ?_⟩) hHeld ?_ ?_
           rotate_left
           ·rintro w' ⟨s0, s1⟩
            go_simp
            with_reducible rfl
           rotate_left
           ·simp only [Act.put, sA, sZ, sS, i64_w, i32_w]
            rfl
           refine one_ (i := 3) (N := some 23) (bm 8 63) rfl rfl (one_of HT_.out (by kernel_rfl)) (by decide) (fun K hK => ?_)
           refine goes_ Tryd.func106 (by kernel_rfl) rfl #[.int .i64 (((rd_T65 l0 x11_1).f1).size : Int), .int .i64 7, .int .i64 0] (by rfl) rfl rfl (by (try simp only [List.map_toArray, List.map_cons, List.map_nil]); first | done | rfl | (simp only [List.length_drop, List.length_take]; rfl)) ?_
           with_reducible refine (spec_l15Prefix.calls k1 (((rd_T65 l0 x11_1).f1).size : Int) 7 0 t130 _ A6.out).mono ?_
           rintro e w25 ⟨rfl, hb⟩
           refine ⟨_, rfl, ?_⟩
           have n0_ := bX BK127 hb
           have n1_ := bS HB hb
           clear BK127
           clear HB
           have BK127 := n0_
           have HB := n1_
           clear n0_ n1_
           (try clear hb)
           (try clear hb2)
           (try clear hk)
           (try clear hi)
           refine hK.out _ _ (cz2 BK127) (fun hHeld => ?_)
           clear hK K
           refine norm_ (a' := ?_) ?_ ?_
           rotate_left
           ·show Act.put _ (some 23) _ = _
            simp only [Act.put, sA, sZ, sS, i64_w, i32_w]
            rfl
           refine pure_ (i := 6) (N := some 26) (v := ?_) (a' := ?_) (bm 8 127) rfl rfl (any_of HT_.out (by kernel_rfl)) (fun _ _ _ h => h) (Or.inl ⟨by rfl, ?_⟩) ?_ ?_
           rotate_left
           ·intro w'
            go_simp
            with_reducible rfl
           rotate_left
           ·simp only [Act.put, sA, sZ, sS, i64_w, i32_w]
            rfl
           refine pure_ (i := 7) (N := some 8) (v := ?_) (a' := ?_) (bm 8 255) rfl rfl (any_of HT_.out (by kernel_rfl)) (fun _ _ _ h => h) (Or.inl ⟨by rfl, ?_⟩) ?_ ?_
           rotate_left
           ·intro w'
            go_simp
            with_reducible rfl
           rotate_left
           ·simp only [Act.put, sA, sZ, sS, i64_w, i32_w]
            rfl
           refine done_ (done_of HT_.out (by kernel_rfl)) ?_
           try go_wp2_with (first | ((with_reducible refine gate_callee (f := 106) rfl ?_); refine goesL_ (some 50) rfl rfl Tryd.func106 (by kernel_rfl) rfl #[.int .i64 t129, .int .i64 4, .int .i64 80] rfl (by (try simp only [List.map_toArray, List.map_cons, List.map_nil]); first | done | rfl | (simp only [List.length_drop, List.length_take]; rfl)) ?_; (with_reducible refine (spec_l15Prefix.calls k1 t129 4 80 t132 _ A18.out).mono ?_); rintro e w26 ⟨rfl, hb⟩; refine ⟨_, rfl, ?_⟩; have n0_ := bX BK127 hb; have n1_ := bS HB hb; clear BK127; clear HB; have BK127 := n0_; have HB := n1_; clear n0_ n1_; (try clear hb); (try clear hb2); (try clear hk); (try clear hi)))
           go_roundg k1
           case measure => have := HK1.out; omega
           case rel => exact ⟨(x3_1 ++ (t132 ++ (t130 ++ ((rd_T65 l0 x11_1).f1)))), (wrap64 (x11_1 + 1)), (by first | rfl | (simp; done) | (simp [*]; done)), (by first | rfl | (simp; done) | (simp [*]; done)), H', ⟨by have := HK1.out; omega⟩, ⟨by repeat (first | (with_reducible first | exact HB.out | apply below_alloc | apply pw_below_drewN | apply below_drew1 | refine below_set ?_ GE127.out) | exact HB.out)⟩⟩
          ·rw [if_neg c20] at H
           exact absurd H (by simp)
         ·rw [if_neg c19] at H
          exact absurd H (by simp)
        ·rw [if_neg c17] at H
         have c17b0 : decide (0 ≤ t129) = false := decide_eq_false c17
         clear c17
         replace H := Option.bind_eq_some_iff.mp H
         obtain ⟨t133, A270, H⟩ := H
         replace H : (if t133.size + ((rd_T65 l0 x11_1).f0).size ≤ 9223372036854775807 then (if (t133 ++ ((rd_T65 l0 x11_1).f0)).size + (t130 ++ ((rd_T65 l0 x11_1).f1)).size ≤ 9223372036854775807 then (if x3_1.size + ((t133 ++ ((rd_T65 l0 x11_1).f0)) ++ (t130 ++ ((rd_T65 l0 x11_1).f1))).size ≤ 9223372036854775807 then (spec_l15Bytes.l0 k1 (x3_1 ++ ((t133 ++ ((rd_T65 l0 x11_1).f0)) ++ (t130 ++ ((rd_T65 l0 x11_1).f1)))) l0 (l0.length : Int) (wrap64 (x11_1 + 1))) else (none)) else (none)) else (none)) = some r := H
         have A27 := Aside0.mk A270
         clear A270
         by_cases c28 : t133.size + ((rd_T65 l0 x11_1).f0).size ≤ 9223372036854775807
         ·rw [if_pos c28] at H
          have c28b0 := eq_true c28
          have c28b1 : decide (t133.size + ((rd_T65 l0 x11_1).f0).size ≤ 9223372036854775807) = true := decide_eq_true c28
          try have c28b2 : (9223372036854775807 < t133.size + ((rd_T65 l0 x11_1).f0).size) = False := eq_false (Nat.not_lt.2 c28)
          by_cases c29 : (t133 ++ ((rd_T65 l0 x11_1).f0)).size + (t130 ++ ((rd_T65 l0 x11_1).f1)).size ≤ 9223372036854775807
          ·rw [if_pos c29] at H
           have c29b0 := eq_true c29
           have c29b1 : decide ((t133 ++ ((rd_T65 l0 x11_1).f0)).size + (t130 ++ ((rd_T65 l0 x11_1).f1)).size ≤ 9223372036854775807) = true := decide_eq_true c29
           try have c29b2 : (9223372036854775807 < (t133 ++ ((rd_T65 l0 x11_1).f0)).size + (t130 ++ ((rd_T65 l0 x11_1).f1)).size) = False := eq_false (Nat.not_lt.2 c29)
           try have c29b3 : (9223372036854775807 < _) = False := (by have sz_app := c29b2; simp only [ByteArray.size_append] at sz_app; exact sz_app)
           by_cases c30 : x3_1.size + ((t133 ++ ((rd_T65 l0 x11_1).f0)) ++ (t130 ++ ((rd_T65 l0 x11_1).f1))).size ≤ 9223372036854775807
           ·rw [if_pos c30] at H
            have c30b0 := eq_true c30
            have c30b1 : decide (x3_1.size + ((t133 ++ ((rd_T65 l0 x11_1).f0)) ++ (t130 ++ ((rd_T65 l0 x11_1).f1))).size ≤ 9223372036854775807) = true := decide_eq_true c30
            try have c30b2 : (9223372036854775807 < x3_1.size + ((t133 ++ ((rd_T65 l0 x11_1).f0)) ++ (t130 ++ ((rd_T65 l0 x11_1).f1))).size) = False := eq_false (Nat.not_lt.2 c30)
            try have c30b3 : (9223372036854775807 < _) = False := (by have sz_app := c30b2; simp only [ByteArray.size_append] at sz_app; exact sz_app)
            have H' := Aside0.mk H
            clear H
            have p126 : 0 ≤ (x11_1 : Int) := of_decide_eq_true (by first | (with_reducible assumption) | assumption)
            have q126 : x11_1 < (l0.length : Int) := of_decide_eq_true (by first | (with_reducible assumption) | assumption)
            obtain ⟨ad126, e126, hx126_0, hx126_1⟩ := at_T65 HR0.out x11_1 p126 q126
            cases e126
            replace hx126_0 := (HB.out.cell (World.block_lt_of_cell? w _ hx126_0)).trans hx126_0
            replace hx126_1 := (HB.out.cell (World.block_lt_of_cell? w _ hx126_1)).trans hx126_1
            replace p126 := eq_true p126
            replace q126 := eq_true q126
            try go_wp2_with (first | ((with_reducible refine gate_dst (N := 5) rfl ?_); refine box_event ?hg (N := 5) ?hd (cs := #[.string (⟨#[]⟩ : ByteArray), .string (⟨#[]⟩ : ByteArray)]) (t := 65) ?hr ?_; (case hd => rfl); (case hg => rfl); (case hr => first | (go_simp; done) | (go_simp; rfl)); intro gb127 hg w31 hbox hb; have n0_ := bS HB hb; have n1_ := Aside0.mk (hbox); have n2_ := Aside0.mk ((by rw [hg]; exact (below_size (by repeat (first | (with_reducible first | exact HB.out | apply below_alloc | apply pw_below_drewN | apply below_drew1) | exact HB.out))) : w.heap.size ≤ gb127)); have n3_ := n2_; clear HB; have HB := n0_; have BK127 := n1_; have GW127 := n2_; have GE127 := n3_; clear n0_ n1_ n2_ n3_; clear hb hbox hg; obtain ⟨hcz32_0, hcz32_1⟩ := cz2 BK127; obtain ⟨hfz32_0, hfz32_1⟩ := fz2 BK127) | ((with_reducible refine gate_callee (f := 105) rfl ?_); refine goesL_ (some 17) rfl rfl Tryd.func105 (by kernel_rfl) rfl #[.agg #[.string ((rd_T65 l0 x11_1).f0), .string ((rd_T65 l0 x11_1).f1)]] rfl (by (try simp only [List.map_toArray, List.map_cons, List.map_nil]); first | done | rfl | (simp only [List.length_drop, List.length_take]; rfl)) ?_; (with_reducible refine (spec_l15At.calls k1 ((rd_T65 l0 x11_1).f0) ((rd_T65 l0 x11_1).f1) t128 t129 _ A5.out).mono ?_); rintro e w33 ⟨rfl, hb⟩; refine ⟨_, rfl, ?_⟩; have n0_ := Aside0.mk (blk_below (g := gb127) (o := .cells #[.string ((rd_T65 l0 x11_1).f0), .string ((rd_T65 l0 x11_1).f1)] 65 (0, 0)) (by (with_reducible repeat (first | refine bN ?_ _ | refine bD ?_ | refine bA ?_ _)); refine blk_put (cs := #[.string ((rd_T65 l0 x11_1).f0), .string (⟨#[]⟩ : ByteArray)]) ?_ 1 _ rfl; (with_reducible repeat (first | refine bN ?_ _ | refine bD ?_ | refine bA ?_ _)); refine blk_put (cs := #[.string (⟨#[]⟩ : ByteArray), .string (⟨#[]⟩ : ByteArray)]) ?_ 0 _ rfl; (with_reducible repeat (first | refine bN ?_ _ | refine bD ?_ | refine bA ?_ _)); exact BK127.out) hb); have n1_ := bS HB hb; clear BK127; clear HB; have BK127 := n0_; have HB := n1_; clear n0_ n1_; (try clear hb); (try clear hb2); (try clear hk); (try clear hi)))
            have n0_ := Aside0.mk (blk_drew BK127.out)
            have n1_ := Aside0.mk (below_drew1 HB.out)
            clear BK127
            clear HB
            have BK127 := n0_
            have HB := n1_
            clear n0_ n1_
            refine start_ (n := 8) (S := fun w' => w'.cell? ⟨gb127, 0, none⟩ = some (.string ((rd_T65 l0 x11_1).f0)) ∧ w'.cell? ⟨gb127, 1, none⟩ = some (.string ((rd_T65 l0 x11_1).f1))) (ds := []) (bm 8 0) (by kernel_rfl) rfl rfl (cz2 BK127) (fun hHeld => ?_); refine with_tabW spec_l15Bytes.tab6 spec_l15Bytes.bits6 (fun HT_ HW_ => ?_)
            generalize w33.drew = w34 at BK127 HB hHeld ⊢
            refine pure_ (i := 0) (N := some 20) (v := ?_) (a' := ?_) (bm 8 1) rfl rfl (any_of HT_.out (by kernel_rfl)) (fun _ _ _ h => h) (Or.inl ⟨by rfl, ?_⟩) ?_ ?_
            rotate_left
            ·intro w'
             go_simp
             with_reducible rfl
            rotate_left
            ·simp only [Act.put, sA, sZ, sS, i64_w, i32_w]
             rfl
            refine pure_ (i := 4) (N := some 24) (v := ?_) (a' := ?_) (bm 8 17) rfl rfl (any_of HT_.out (by kernel_rfl)) (fun _ _ _ h => h) (Or.inl ⟨by rfl, ?_⟩) ?_ ?_
            rotate_left
            ·intro w'
             go_simp
             with_reducible rfl
            rotate_left
            ·simp only [Act.put, sA, sZ, sS, i64_w, i32_w]
             rfl
            refine take_ (i := 1) (N := some 21) (v := ?_) (a' := ?_) (bm 8 19) rfl rfl (take_ofW HT_.out HW_.out (by kernel_rfl)) (fun _ _ _ h => h) (Or.inl ⟨by rfl, ?_⟩) hHeld ?_ ?_
            rotate_left
            ·rintro w' ⟨s0, s1⟩
             go_simp
             with_reducible rfl
            rotate_left
            ·simp only [Act.put, sA, sZ, sS, i64_w, i32_w]
             rfl
            refine pure_ (i := 2) (N := some 22) (v := ?_) (a' := ?_) (bm 8 23) rfl rfl (any_of HT_.out (by kernel_rfl)) (fun _ _ _ h => h) (Or.inl ⟨by rfl, ?_⟩) ?_ ?_
            rotate_left
            ·intro w'
             go_simp
             with_reducible rfl
            rotate_left
            ·simp only [Act.put, sA, sZ, sS, i64_w, i32_w]
             rfl
            refine take_ (i := 5) (N := some 25) (v := ?_) (a' := ?_) (bm 8 55) rfl rfl (take_ofW HT_.out HW_.out (by kernel_rfl)) (fun _ _ _ h => h) (Or.inl ⟨by rfl, ?_⟩) hHeld ?_ ?_
            rotate_left
            ·rintro w' ⟨s0, s1⟩
             go_simp
             with_reducible rfl
            rotate_left
            ·simp only [Act.put, sA, sZ, sS, i64_w, i32_w]
             rfl
            refine one_ (i := 3) (N := some 23) (bm 8 63) rfl rfl (one_of HT_.out (by kernel_rfl)) (by decide) (fun K hK => ?_)
            refine goes_ Tryd.func106 (by kernel_rfl) rfl #[.int .i64 (((rd_T65 l0 x11_1).f1).size : Int), .int .i64 7, .int .i64 0] (by rfl) rfl rfl (by (try simp only [List.map_toArray, List.map_cons, List.map_nil]); first | done | rfl | (simp only [List.length_drop, List.length_take]; rfl)) ?_
            with_reducible refine (spec_l15Prefix.calls k1 (((rd_T65 l0 x11_1).f1).size : Int) 7 0 t130 _ A6.out).mono ?_
            rintro e w35 ⟨rfl, hb⟩
            refine ⟨_, rfl, ?_⟩
            have n0_ := bX BK127 hb
            have n1_ := bS HB hb
            clear BK127
            clear HB
            have BK127 := n0_
            have HB := n1_
            clear n0_ n1_
            (try clear hb)
            (try clear hb2)
            (try clear hk)
            (try clear hi)
            refine hK.out _ _ (cz2 BK127) (fun hHeld => ?_)
            clear hK K
            refine norm_ (a' := ?_) ?_ ?_
            rotate_left
            ·show Act.put _ (some 23) _ = _
             simp only [Act.put, sA, sZ, sS, i64_w, i32_w]
             rfl
            refine pure_ (i := 6) (N := some 26) (v := ?_) (a' := ?_) (bm 8 127) rfl rfl (any_of HT_.out (by kernel_rfl)) (fun _ _ _ h => h) (Or.inl ⟨by rfl, ?_⟩) ?_ ?_
            rotate_left
            ·intro w'
             go_simp
             with_reducible rfl
            rotate_left
            ·simp only [Act.put, sA, sZ, sS, i64_w, i32_w]
             rfl
            refine pure_ (i := 7) (N := some 8) (v := ?_) (a' := ?_) (bm 8 255) rfl rfl (any_of HT_.out (by kernel_rfl)) (fun _ _ _ h => h) (Or.inl ⟨by rfl, ?_⟩) ?_ ?_
            rotate_left
            ·intro w'
             go_simp
             with_reducible rfl
            rotate_left
            ·simp only [Act.put, sA, sZ, sS, i64_w, i32_w]
             rfl
            refine done_ (done_of HT_.out (by kernel_rfl)) ?_
            try go_wp2
            have n0_ := Aside0.mk (blk_drew BK127.out)
            have n1_ := Aside0.mk (below_drew1 HB.out)
            clear BK127
            clear HB
            have BK127 := n0_
            have HB := n1_
            clear n0_ n1_
            refine start_ (n := 12) (S := fun w' => w'.cell? ⟨gb127, 0, none⟩ = some (.string ((rd_T65 l0 x11_1).f0)) ∧ w'.cell? ⟨gb127, 1, none⟩ = some (.string ((rd_T65 l0 x11_1).f1))) (ds := []) (bm 12 0) (by kernel_rfl) rfl rfl (cz2 BK127) (fun hHeld => ?_); refine with_tabW spec_l15Bytes.tab7 spec_l15Bytes.bits7 (fun HT_ HW_ => ?_)
            generalize w35.drew = w36 at BK127 HB hHeld ⊢
            refine pure_ (i := 0) (N := some 27) (v := ?_) (a' := ?_) (bm 12 1) rfl rfl (any_of HT_.out (by kernel_rfl)) (fun _ _ _ h => h) (Or.inl ⟨by rfl, ?_⟩) ?_ ?_
            rotate_left
            ·intro w'
             go_simp
             with_reducible rfl
            rotate_left
            ·simp only [Act.put, sA, sZ, sS, i64_w, i32_w]
             rfl
            refine pure_ (i := 1) (N := some 28) (v := ?_) (a' := ?_) (bm 12 3) rfl rfl (any_of HT_.out (by kernel_rfl)) (fun _ _ _ h => h) (Or.inl ⟨by rfl, ?_⟩) ?_ ?_
            rotate_left
            ·intro w'
             go_simp
             with_reducible rfl
            rotate_left
            ·simp only [Act.put, sA, sZ, sS, i64_w, i32_w]
             rfl
            refine pure_ (i := 5) (N := some 32) (v := ?_) (a' := ?_) (bm 12 35) rfl rfl (any_of HT_.out (by kernel_rfl)) (fun _ _ _ h => h) (Or.inl ⟨by rfl, ?_⟩) ?_ ?_
            rotate_left
            ·intro w'
             go_simp
             with_reducible rfl
            rotate_left
            ·simp only [Act.put, sA, sZ, sS, i64_w, i32_w]
             rfl
            refine pure_ (i := 8) (N := some 35) (v := ?_) (a' := ?_) (bm 12 291) rfl rfl (any_of HT_.out (by kernel_rfl)) (fun _ _ _ h => h) (Or.inl ⟨by rfl, ?_⟩) ?_ ?_
            rotate_left
            ·intro w'
             go_simp
             with_reducible rfl
            rotate_left
            ·simp only [Act.put, sA, sZ, sS, i64_w, i32_w]
             rfl
            refine take_ (i := 2) (N := some 29) (v := ?_) (a' := ?_) (bm 12 295) rfl rfl (take_ofW HT_.out HW_.out (by kernel_rfl)) (fun _ _ _ h => h) (Or.inl ⟨by rfl, ?_⟩) hHeld ?_ ?_
            rotate_left
            ·rintro w' ⟨s0, s1⟩
             go_simp
             with_reducible rfl
            rotate_left
            ·simp only [Act.put, sA, sZ, sS, i64_w, i32_w]
             rfl
            refine pure_ (i := 3) (N := some 30) (v := ?_) (a' := ?_) (bm 12 303) rfl rfl (any_of HT_.out (by kernel_rfl)) (fun _ _ _ h => h) (Or.inl ⟨by rfl, ?_⟩) ?_ ?_
            rotate_left
            ·intro w'
             go_simp
             with_reducible rfl
            rotate_left
            ·simp only [Act.put, sA, sZ, sS, i64_w, i32_w]
             rfl
            refine take_ (i := 6) (N := some 33) (v := ?_) (a' := ?_) (bm 12 367) rfl rfl (take_ofW HT_.out HW_.out (by kernel_rfl)) (fun _ _ _ h => h) (Or.inl ⟨by rfl, ?_⟩) hHeld ?_ ?_
            rotate_left
            ·rintro w' ⟨s0, s1⟩
             go_simp
             with_reducible rfl
            rotate_left
            ·simp only [Act.put, sA, sZ, sS, i64_w, i32_w]
             rfl
            refine one_ (i := 4) (N := some 31) (bm 12 383) rfl rfl (one_of HT_.out (by kernel_rfl)) (by decide) (fun K hK => ?_)
            refine goes_ Tryd.func106 (by kernel_rfl) rfl #[.int .i64 (((rd_T65 l0 x11_1).f0).size : Int), .int .i64 3, .int .i64 32] (by rfl) rfl rfl (by (try simp only [List.map_toArray, List.map_cons, List.map_nil]); first | done | rfl | (simp only [List.length_drop, List.length_take]; rfl)) ?_
            with_reducible refine (spec_l15Prefix.calls k1 (((rd_T65 l0 x11_1).f0).size : Int) 3 32 t133 _ A27.out).mono ?_
            rintro e w37 ⟨rfl, hb⟩
            refine ⟨_, rfl, ?_⟩
            have n0_ := bX BK127 hb
            have n1_ := bS HB hb
            clear BK127
            clear HB
            have BK127 := n0_
            have HB := n1_
            clear n0_ n1_
            (try clear hb)
            (try clear hb2)
            (try clear hk)
            (try clear hi)
            refine hK.out _ _ (cz2 BK127) (fun hHeld => ?_)
            clear hK K
            refine norm_ (a' := ?_) ?_ ?_
            rotate_left
            ·show Act.put _ (some 31) _ = _
             simp only [Act.put, sA, sZ, sS, i64_w, i32_w]
             rfl
            refine pure_ (i := 7) (N := some 34) (v := ?_) (a' := ?_) (bm 12 511) rfl rfl (any_of HT_.out (by kernel_rfl)) (fun _ _ _ h => h) (Or.inl ⟨by rfl, ?_⟩) ?_ ?_
            rotate_left
            ·intro w'
             go_simp
             with_reducible rfl
            rotate_left
            ·simp only [Act.put, sA, sZ, sS, i64_w, i32_w]
             rfl
            refine pure_ (i := 9) (N := some 36) (v := ?_) (a' := ?_) (bm 12 1023) rfl rfl (any_of HT_.out (by kernel_rfl)) (fun _ _ _ h => h) (Or.inl ⟨by rfl, ?_⟩) ?_ ?_
            rotate_left
            ·intro w'
             go_simp
             with_reducible rfl
            rotate_left
            ·simp only [Act.put, sA, sZ, sS, i64_w, i32_w]
             rfl
            refine pure_ (i := 10) (N := some 37) (v := ?_) (a' := ?_) (bm 12 2047) rfl rfl (any_of HT_.out (by kernel_rfl)) (fun _ _ _ h => h) (Or.inl ⟨by rfl, ?_⟩) ?_ ?_
            rotate_left
            ·intro w'
             go_simp
             with_reducible rfl
            rotate_left
            ·simp only [Act.put, sA, sZ, sS, i64_w, i32_w]
             rfl
            refine pure_ (i := 11) (N := some 3) (v := ?_) (a' := ?_) (bm 12 4095) rfl rfl (any_of HT_.out (by kernel_rfl)) (fun _ _ _ h => h) (Or.inl ⟨by rfl, ?_⟩) ?_ ?_
            rotate_left
            ·intro w'
             go_simp
             with_reducible rfl
            rotate_left
            ·simp only [Act.put, sA, sZ, sS, i64_w, i32_w]
             rfl
            refine done_ (done_of HT_.out (by kernel_rfl)) ?_
            try go_wp2
            go_roundg k1
            case measure => have := HK1.out; omega
            case rel => exact ⟨(x3_1 ++ ((t133 ++ ((rd_T65 l0 x11_1).f0)) ++ (t130 ++ ((rd_T65 l0 x11_1).f1)))), (wrap64 (x11_1 + 1)), (by first | rfl | (simp; done) | (simp [*]; done)), (by first | rfl | (simp; done) | (simp [*]; done)), H', ⟨by have := HK1.out; omega⟩, ⟨by repeat (first | (with_reducible first | exact HB.out | apply below_alloc | apply pw_below_drewN | apply below_drew1 | refine below_set ?_ GE127.out) | exact HB.out)⟩⟩
           ·rw [if_neg c30] at H
            exact absurd H (by simp)
          ·rw [if_neg c29] at H
           exact absurd H (by simp)
         ·rw [if_neg c28] at H
          exact absurd H (by simp)
      ·rw [if_neg c7] at H
       exact absurd H (by simp)
     ·rw [if_neg c4] at H
      exact absurd H (by simp)
    ·rw [if_neg c3] at H
     exact absurd H (by simp)
   ·rw [if_neg c2] at H
    have c2b0 : decide (x11_1 < (l0.length : Int)) = false := decide_eq_false c2
    clear c2
    obtain rfl := Option.some.inj H
    go_wp2
    go_ret
    exact ⟨by first | rfl | (simp [errW_none, errW_some] <;> rfl) | (simp [*, errW_none, errW_some] <;> rfl), by repeat (first | (with_reducible first | exact HB.out | apply below_alloc | apply pw_below_drewN | apply below_drew1) | exact HB.out)⟩

end Go.Proofs.YtilkginahmfagaaDoor.PFnExactReadFields
