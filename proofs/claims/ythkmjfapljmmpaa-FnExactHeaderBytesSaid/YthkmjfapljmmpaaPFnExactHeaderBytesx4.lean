-- Written by a program of this session (wip/xprint.py).
import Derived.Test.YthkmjfapljmmpaaPFnExactHeaderBytesx0
import Derived.Test.YthkmjfapljmmpaaPFnExactHeaderBytesx3
namespace Go.Proofs.Ythkmjfapljmmpaa.PFnExactHeaderBytes
open Go.RowKit Go.Proofs.YthkmjfapljmmpaaW.PrintWords Go.Proofs.YthkmjfapljmmpaaW.PrintLast Go.Proofs.YthkmjfapljmmpaaW.PrintMore
open Go.Proofs.Ythkmjfapljmmpaa.ShortK (bN bD bA sA sZ sS cz2 fz2 cz3 fz3 cz4 fz4 cz5 fz5 cz6 fz6 cz7 fz7 cz8 fz8 cz9 fz9 cz10 fz10 cz11 fz11 cz12 fz12)
open Go.Proofs.Ythkmjfapljmmpaa.StoreK (bm)
attribute [local go_sem] Go.Proofs.Ythkmjfapljmmpaa.StoreK.isSome_setCell max2_int min2_int max_two min_two max_three min_three max_four min_four   -- for this text's walks alone
set_option linter.unusedVariables false
set_option linter.unusedSimpArgs false

/-! ### spec_l2Bytes: function 131 -/
mutual
def spec_l2Bytes.l0 : Nat → ByteArray → List Int → Int → Int → Option (ByteArray)
 | 0, _, _, _, _ => none
 | k + 1, x3, x38, x39, x40 => if x40 < x39 then (if 0 ≤ x40 then (if x40 < (x38.length : Int) then ((spec_l1Fixed.f k (rd x38 x40) 4).bind fun t126 => (if x3.size + t126.size ≤ 9223372036854775807 then (spec_l2Bytes.l0 k (x3 ++ t126) x38 x39 (wrap64 (x40 + 1))) else (none))) else (none)) else (none)) else (some x3)
def spec_l2Bytes.j1 : Nat → ByteArray → Int → Int → Int → ByteArray → ByteArray → ByteArray → ByteArray → List Int → Option (ByteArray)
 | 0, _, _, _, _, _, _, _, _, _ => none
 | k + 1, x6, x120000, x120001, x120002, x120003, x120004, x120005, x120006, x120007 => if x120000 = 3 then (if x6.size + x120006.size ≤ 9223372036854775807 then (some (x6 ++ x120006)) else (none)) else ((spec_l1Fixed.f k (Go.bits .or .i64 (x120006.size : Int) 16384) 2).bind fun t132 => (if x6.size + t132.size ≤ 9223372036854775807 then (if (x6 ++ t132).size + x120006.size ≤ 9223372036854775807 then (some ((x6 ++ t132) ++ x120006)) else (none)) else (none)))
end
def spec_l2Bytes.f (k : Nat) (a0_0 : Int) (a0_1 : Int) (a0_2 : Int) (a0_3 : ByteArray) (a0_4 : ByteArray) (a0_5 : ByteArray) (a0_6 : ByteArray) (l0_7 : List Int) : Option (ByteArray) := if a0_0 = 5 then ((spec_l1Fixed.f k (Go.bits .or .i64 64 a0_1) 1).bind fun t120 => (if t120.size + a0_3.size ≤ 9223372036854775807 then (if (t120 ++ a0_3).size + a0_6.size ≤ 9223372036854775807 then (some ((t120 ++ a0_3) ++ a0_6)) else (none)) else (none))) else (if a0_0 = 4 then ((spec_l1Fixed.f k (Go.bits .or .i64 192 a0_1) 1).bind fun t121 => ((spec_l1Fixed.f k 0 4).bind fun t122 => (if t121.size + t122.size ≤ 9223372036854775807 then ((spec_l2Id.f k a0_3).bind fun t123 => (if (t121 ++ t122).size + t123.size ≤ 9223372036854775807 then ((spec_l2Id.f k a0_4).bind fun t124 => (if ((t121 ++ t122) ++ t123).size + t124.size ≤ 9223372036854775807 then (spec_l2Bytes.l0 k (((t121 ++ t122) ++ t123) ++ t124) l0_7 (l0_7.length : Int) 0) else (none))) else (none))) else (none)))) else ((spec_l1Fixed.f k (Go.bits .or .i64 (Go.bits .or .i64 192 (wrap64 (a0_0 * 16))) a0_1) 1).bind fun t127 => ((spec_l1Fixed.f k a0_2 4).bind fun t128 => (if t127.size + t128.size ≤ 9223372036854775807 then ((spec_l2Id.f k a0_3).bind fun t129 => (if (t127 ++ t128).size + t129.size ≤ 9223372036854775807 then ((spec_l2Id.f k a0_4).bind fun t130 => (if ((t127 ++ t128) ++ t129).size + t130.size ≤ 9223372036854775807 then (if a0_0 = 0 then ((spec_l1Var.f k (a0_5.size : Int)).bind fun t131 => (if t131.size + a0_5.size ≤ 9223372036854775807 then (if (((t127 ++ t128) ++ t129) ++ t130).size + (t131 ++ a0_5).size ≤ 9223372036854775807 then (spec_l2Bytes.j1 k ((((t127 ++ t128) ++ t129) ++ t130) ++ (t131 ++ a0_5)) a0_0 a0_1 a0_2 a0_3 a0_4 a0_5 a0_6 l0_7) else (none)) else (none))) else (spec_l2Bytes.j1 k (((t127 ++ t128) ++ t129) ++ t130) a0_0 a0_1 a0_2 a0_3 a0_4 a0_5 a0_6 l0_7)) else (none))) else (none))) else (none)))))
theorem spec_l2Bytes.mono_l : ∀ k, (∀ y0 y1 y2 y3, LeO (spec_l2Bytes.l0 k y0 y1 y2 y3) (spec_l2Bytes.l0 (k + 1) y0 y1 y2 y3)) ∧ (∀ y0 y1 y2 y3 y4 y5 y6 y7 y8, LeO (spec_l2Bytes.j1 k y0 y1 y2 y3 y4 y5 y6 y7 y8) (spec_l2Bytes.j1 (k + 1) y0 y1 y2 y3 y4 y5 y6 y7 y8))
 | 0 => ⟨fun _ _ _ _ r h => by simp [spec_l2Bytes.l0] at h, fun _ _ _ _ _ _ _ _ _ r h => by simp [spec_l2Bytes.j1] at h⟩
 | k + 1 => by
  obtain ⟨ih0, ih1⟩ := spec_l2Bytes.mono_l k
  refine ⟨?_, ?_⟩
  ·intro y0 y1 y2 y3
   unfold spec_l2Bytes.l0
   repeat' first
   | (with_reducible exact ih0 _ _ _ _)
   | (with_reducible exact ih1 _ _ _ _ _ _ _ _ _)
   | (with_reducible exact spec_l1Fixed.mono _ _ _)
   | (with_reducible exact spec_l1Var.mono _ _)
   | (with_reducible exact spec_l2Id.mono _ _)
   | (with_reducible exact LeO.refl _)
   | (with_reducible exact LeO.none _)
   | (with_reducible refine LeO.ite ?_ ?_)
   | (with_reducible refine LeO.bind ?_ (fun _ => ?_))
   | exact ih0 _ _ _ _
   | exact ih1 _ _ _ _ _ _ _ _ _
   | exact spec_l1Fixed.mono _ _ _
   | exact spec_l1Var.mono _ _
   | exact spec_l2Id.mono _ _
   | exact LeO.none _
   | refine LeO.ite ?_ ?_
   | refine LeO.bind ?_ (fun _ => ?_)
  ·intro y0 y1 y2 y3 y4 y5 y6 y7 y8
   unfold spec_l2Bytes.j1
   repeat' first
   | (with_reducible exact ih0 _ _ _ _)
   | (with_reducible exact ih1 _ _ _ _ _ _ _ _ _)
   | (with_reducible exact spec_l1Fixed.mono _ _ _)
   | (with_reducible exact spec_l1Var.mono _ _)
   | (with_reducible exact spec_l2Id.mono _ _)
   | (with_reducible exact LeO.refl _)
   | (with_reducible exact LeO.none _)
   | (with_reducible refine LeO.ite ?_ ?_)
   | (with_reducible refine LeO.bind ?_ (fun _ => ?_))
   | exact ih0 _ _ _ _
   | exact ih1 _ _ _ _ _ _ _ _ _
   | exact spec_l1Fixed.mono _ _ _
   | exact spec_l1Var.mono _ _
   | exact spec_l2Id.mono _ _
   | exact LeO.none _
   | refine LeO.ite ?_ ?_
   | refine LeO.bind ?_ (fun _ => ?_)
theorem spec_l2Bytes.mono : ∀ a0 a1 a2 a3 a4 a5 a6 a7 k, LeO (spec_l2Bytes.f k a0 a1 a2 a3 a4 a5 a6 a7) (spec_l2Bytes.f (k + 1) a0 a1 a2 a3 a4 a5 a6 a7) := by
 intro a0 a1 a2 a3 a4 a5 a6 a7 k
 obtain ⟨ih0, ih1⟩ := spec_l2Bytes.mono_l k
 unfold spec_l2Bytes.f
 repeat' first
   | (with_reducible exact ih0 _ _ _ _)
   | (with_reducible exact ih1 _ _ _ _ _ _ _ _ _)
   | (with_reducible exact spec_l1Fixed.mono _ _ _)
   | (with_reducible exact spec_l1Var.mono _ _)
   | (with_reducible exact spec_l2Id.mono _ _)
   | (with_reducible exact LeO.refl _)
   | (with_reducible exact LeO.none _)
   | (with_reducible refine LeO.ite ?_ ?_)
   | (with_reducible refine LeO.bind ?_ (fun _ => ?_))
   | exact ih0 _ _ _ _
   | exact ih1 _ _ _ _ _ _ _ _ _
   | exact spec_l1Fixed.mono _ _ _
   | exact spec_l1Var.mono _ _
   | exact spec_l2Id.mono _ _
   | exact LeO.none _
   | refine LeO.ite ?_ ?_
   | refine LeO.bind ?_ (fun _ => ?_)
def spec_l2Bytes.T3 : Bool × List (List Nat × List Nat) := (true, [([], []), ([0], [0]), ([1], [1]), ([2], [2]), ([], []), ([4], [4]), ([3, 5], [3, 5]), ([], []), ([7], [7]), ([6, 8], [6, 8]), ([9, 3, 0, 1, 2, 3, 4, 5, 6, 7, 8, 9], [9])])
def spec_l2Bytes.B3 : List Nat := [0, 1, 3, 7, 0, 16, 63, 0, 128, 511, 1023]
theorem spec_l2Bytes.tab3 : rtab .any (opsOf Try.f131 3) = spec_l2Bytes.T3 := by kernel_rfl
theorem spec_l2Bytes.bits3 : waitsOk spec_l2Bytes.T3.2 spec_l2Bytes.B3 = true := by kernel_rfl
def spec_l2Bytes.T5 : Bool × List (List Nat × List Nat) := (true, [([], []), ([0], [0]), ([1], [1]), ([2], [2]), ([3], []), ([3, 4], [3, 4]), ([], []), ([6], [6]), ([7, 4], [7]), ([5, 8], [5, 8]), ([], []), ([10], [10]), ([11, 8], [11]), ([9, 12], [9, 12]), ([13, 12, 0, 1, 2, 3, 4, 5, 6, 7, 8, 9, 10, 11, 12, 13], [13])])
def spec_l2Bytes.B5 : List Nat := [0, 1, 3, 7, 15, 31, 0, 64, 223, 511, 0, 1024, 3551, 8191, 16383]
theorem spec_l2Bytes.tab5 : rtab .any (opsOf Try.f131 5) = spec_l2Bytes.T5 := by kernel_rfl
theorem spec_l2Bytes.bits5 : waitsOk spec_l2Bytes.T5.2 spec_l2Bytes.B5 = true := by kernel_rfl
def spec_l2Bytes.T12 : Bool × List (List Nat × List Nat) := (true, [([], []), ([0], [0]), ([1], [1]), ([2], [2]), ([], []), ([4], [4]), ([3, 5], [3, 5]), ([6], [6]), ([], []), ([8], [8]), ([9, 7], [9]), ([7, 10], [7, 10]), ([], []), ([12], [12]), ([13, 10], [13]), ([11, 14], [11, 14]), ([], []), ([16], [16]), ([17, 14], [17]), ([15, 18], [15, 18]), ([19, 18, 0, 1, 2, 3, 4, 5, 6, 7, 8, 9, 10, 11, 12, 13, 14, 15, 16, 17, 18, 19], [19])])
def spec_l2Bytes.B12 : List Nat := [0, 1, 3, 7, 0, 16, 63, 127, 0, 256, 1023, 2047, 0, 4096, 14335, 32767, 0, 65536, 227327, 524287, 1048575]
theorem spec_l2Bytes.tab12 : rtab .any (opsOf Try.f131 12) = spec_l2Bytes.T12 := by kernel_rfl
theorem spec_l2Bytes.bits12 : waitsOk spec_l2Bytes.T12.2 spec_l2Bytes.B12 = true := by kernel_rfl
def spec_l2Bytes.T14 : Bool × List (List Nat × List Nat) := (true, [([], []), ([], []), ([1], [1]), ([2], [2]), ([3], [3]), ([], []), ([5], [5]), ([4, 6], [4, 6]), ([0, 7], [0, 7]), ([8, 4, 0, 1, 2, 3, 4, 5, 6, 7, 8], [0, 8])])
def spec_l2Bytes.B14 : List Nat := [0, 0, 2, 6, 14, 0, 32, 126, 255, 511]
theorem spec_l2Bytes.tab14 : rtab .any (opsOf Try.f131 14) = spec_l2Bytes.T14 := by kernel_rfl
theorem spec_l2Bytes.bits14 : waitsOk spec_l2Bytes.T14.2 spec_l2Bytes.B14 = true := by kernel_rfl
set_option maxHeartbeats 64000000 in
set_option maxRecDepth 100000 in
theorem spec_l2Bytes.calls (k : Nat) (a0_0 : Int) (a0_1 : Int) (a0_2 : Int) (a0_3 : ByteArray) (a0_4 : ByteArray) (a0_5 : ByteArray) (a0_6 : ByteArray) (A0_7 : Option Addr) (c0_7 : Nat) (l0_7 : List Int) (r : ByteArray) (w : World) (hr0_7 : Kd.C (Kd.int .i64) w A0_7 l0_7.length l0_7) (hc0_7 : l0_7.length ≤ c0_7) (h : spec_l2Bytes.f k a0_0 a0_1 a0_2 a0_3 a0_4 a0_5 a0_6 l0_7 = some r) :
  Calls Try.prog 131 #[.agg #[.int .i64 a0_0, .int .i64 a0_1, .int .i64 a0_2, .string a0_3, .string a0_4, .string a0_5, .string a0_6, .slice A0_7 l0_7.length c0_7]] w fun e w' => e = .returned (.string r) ∧ Below w.heap.size w w' := by
 have hu95 := Try.underlying95
 have HR0_7 := Aside0.mk hr0_7
 have HC0_7 := Aside0.mk hc0_7
 clear hr0_7 hc0_7
 have HB := Aside0.mk (Below.refl w.heap.size w)
 have H : (if a0_0 = 5 then ((spec_l1Fixed.f k (Go.bits .or .i64 64 a0_1) 1).bind fun t120 => (if t120.size + a0_3.size ≤ 9223372036854775807 then (if (t120 ++ a0_3).size + a0_6.size ≤ 9223372036854775807 then (some ((t120 ++ a0_3) ++ a0_6)) else (none)) else (none))) else (if a0_0 = 4 then ((spec_l1Fixed.f k (Go.bits .or .i64 192 a0_1) 1).bind fun t121 => ((spec_l1Fixed.f k 0 4).bind fun t122 => (if t121.size + t122.size ≤ 9223372036854775807 then ((spec_l2Id.f k a0_3).bind fun t123 => (if (t121 ++ t122).size + t123.size ≤ 9223372036854775807 then ((spec_l2Id.f k a0_4).bind fun t124 => (if ((t121 ++ t122) ++ t123).size + t124.size ≤ 9223372036854775807 then (spec_l2Bytes.l0 k (((t121 ++ t122) ++ t123) ++ t124) l0_7 (l0_7.length : Int) 0) else (none))) else (none))) else (none)))) else ((spec_l1Fixed.f k (Go.bits .or .i64 (Go.bits .or .i64 192 (wrap64 (a0_0 * 16))) a0_1) 1).bind fun t127 => ((spec_l1Fixed.f k a0_2 4).bind fun t128 => (if t127.size + t128.size ≤ 9223372036854775807 then ((spec_l2Id.f k a0_3).bind fun t129 => (if (t127 ++ t128).size + t129.size ≤ 9223372036854775807 then ((spec_l2Id.f k a0_4).bind fun t130 => (if ((t127 ++ t128) ++ t129).size + t130.size ≤ 9223372036854775807 then (if a0_0 = 0 then ((spec_l1Var.f k (a0_5.size : Int)).bind fun t131 => (if t131.size + a0_5.size ≤ 9223372036854775807 then (if (((t127 ++ t128) ++ t129) ++ t130).size + (t131 ++ a0_5).size ≤ 9223372036854775807 then (spec_l2Bytes.j1 k ((((t127 ++ t128) ++ t129) ++ t130) ++ (t131 ++ a0_5)) a0_0 a0_1 a0_2 a0_3 a0_4 a0_5 a0_6 l0_7) else (none)) else (none))) else (spec_l2Bytes.j1 k (((t127 ++ t128) ++ t129) ++ t130) a0_0 a0_1 a0_2 a0_3 a0_4 a0_5 a0_6 l0_7)) else (none))) else (none))) else (none)))))) = some r := h
 clear h
 by_cases c2 : a0_0 = 5
 ·rw [if_pos c2] at H
  have c2b0 : (a0_0 == 5) = true := beq_iff_eq.mpr c2
  have c2b1 : (a0_0 != 5) = false := bne_eq_false_iff_eq.mpr c2
  clear c2
  replace H := Option.bind_eq_some_iff.mp H
  obtain ⟨t120, A30, H⟩ := H
  replace H : (if t120.size + a0_3.size ≤ 9223372036854775807 then (if (t120 ++ a0_3).size + a0_6.size ≤ 9223372036854775807 then (some ((t120 ++ a0_3) ++ a0_6)) else (none)) else (none)) = some r := H
  have A3 := Aside0.mk A30
  clear A30
  by_cases c4 : t120.size + a0_3.size ≤ 9223372036854775807
  ·rw [if_pos c4] at H
   have c4b0 := eq_true c4
   have c4b1 : decide (t120.size + a0_3.size ≤ 9223372036854775807) = true := decide_eq_true c4
   try have c4b2 : (9223372036854775807 < t120.size + a0_3.size) = False := eq_false (Nat.not_lt.2 c4)
   by_cases c5 : (t120 ++ a0_3).size + a0_6.size ≤ 9223372036854775807
   ·rw [if_pos c5] at H
    have c5b0 := eq_true c5
    have c5b1 : decide ((t120 ++ a0_3).size + a0_6.size ≤ 9223372036854775807) = true := decide_eq_true c5
    try have c5b2 : (9223372036854775807 < (t120 ++ a0_3).size + a0_6.size) = False := eq_false (Nat.not_lt.2 c5)
    try have c5b3 : (9223372036854775807 < _) = False := (by have sz_app := c5b2; simp only [ByteArray.size_append] at sz_app; exact sz_app)
    obtain rfl := Option.some.inj H
    go_enter Try.func131, Try.ntmps131
    try go_wp2_with (first | ((with_reducible refine gate_dst (N := 1) rfl ?_); refine box_event ?hg (N := 1) ?hd (cs := #[.int .i64 a0_0, .int .i64 a0_1, .int .i64 a0_2, .string a0_3, .string a0_4, .string a0_5, .string a0_6, .slice A0_7 l0_7.length c0_7]) (t := 95) ?hr ?_; (case hd => rfl); (case hg => rfl); (case hr => first | (go_simp; done) | (go_simp; rfl)); intro gb119 hg w6 hbox hb; have n0_ := Aside0.mk (below_step (by repeat (first | (with_reducible first | exact HB.out | apply below_alloc | apply pw_below_drewN | apply below_drew1) | exact HB.out)) hb); have n1_ := Aside0.mk (hbox); have n2_ := Aside0.mk ((by rw [hg]; exact (below_size (by repeat (first | (with_reducible first | exact HB.out | apply below_alloc | apply pw_below_drewN | apply below_drew1) | exact HB.out))) : w.heap.size ≤ gb119)); have n3_ := n2_; clear HB; have HB := n0_; have BK119 := n1_; have GW119 := n2_; have GE119 := n3_; clear n0_ n1_ n2_ n3_; clear hb hbox hg; obtain ⟨hcz7_0, hcz7_1, hcz7_2, hcz7_3, hcz7_4, hcz7_5, hcz7_6, hcz7_7⟩ := cz8 BK119; obtain ⟨hfz7_0, hfz7_1, hfz7_2, hfz7_3, hfz7_4, hfz7_5, hfz7_6, hfz7_7⟩ := fz8 BK119))
    have n0_ := Aside0.mk (blk_drew BK119.out)
    have n1_ := Aside0.mk (below_drew1 HB.out)
    clear BK119
    clear HB
    have BK119 := n0_
    have HB := n1_
    clear n0_ n1_
    refine start_ (n := 11) (S := fun w' => w'.cell? ⟨gb119, 0, none⟩ = some (.int .i64 a0_0) ∧ w'.cell? ⟨gb119, 1, none⟩ = some (.int .i64 a0_1) ∧ w'.cell? ⟨gb119, 2, none⟩ = some (.int .i64 a0_2) ∧ w'.cell? ⟨gb119, 3, none⟩ = some (.string a0_3) ∧ w'.cell? ⟨gb119, 4, none⟩ = some (.string a0_4) ∧ w'.cell? ⟨gb119, 5, none⟩ = some (.string a0_5) ∧ w'.cell? ⟨gb119, 6, none⟩ = some (.string a0_6) ∧ w'.cell? ⟨gb119, 7, none⟩ = some (.slice A0_7 l0_7.length c0_7)) (ds := []) (bm 11 0) (by kernel_rfl) rfl rfl ⟨(blk_cell BK119.out 0).trans rfl, (blk_cell BK119.out 1).trans rfl, (blk_cell BK119.out 2).trans rfl, (blk_cell BK119.out 3).trans rfl, (blk_cell BK119.out 4).trans rfl, (blk_cell BK119.out 5).trans rfl, (blk_cell BK119.out 6).trans rfl, (blk_cell BK119.out 7).trans rfl⟩ (fun hHeld => ?_); refine with_tabW spec_l2Bytes.tab3 spec_l2Bytes.bits3 (fun HT_ HW_ => ?_)
    generalize w6.drew = w8 at BK119 HB hHeld ⊢
    refine pure_ (i := 0) (N := some 11) (v := ?_) (a' := ?_) (bm 11 1) rfl rfl (any_of HT_.out (by kernel_rfl)) (fun _ _ _ h => h) (Or.inl ⟨by rfl, ?_⟩) ?_ ?_
    rotate_left
    ·intro w'
     go_simp
     with_reducible rfl
    rotate_left
    ·simp only [Act.put, sA, sZ, sS, i64_w, i32_w]
     rfl
    refine pure_ (i := 4) (N := some 15) (v := ?_) (a' := ?_) (bm 11 17) rfl rfl (any_of HT_.out (by kernel_rfl)) (fun _ _ _ h => h) (Or.inl ⟨by rfl, ?_⟩) ?_ ?_
    rotate_left
    ·intro w'
     go_simp
     with_reducible rfl
    rotate_left
    ·simp only [Act.put, sA, sZ, sS, i64_w, i32_w]
     rfl
    refine pure_ (i := 7) (N := some 18) (v := ?_) (a' := ?_) (bm 11 145) rfl rfl (any_of HT_.out (by kernel_rfl)) (fun _ _ _ h => h) (Or.inl ⟨by rfl, ?_⟩) ?_ ?_
    rotate_left
    ·intro w'
     go_simp
     with_reducible rfl
    rotate_left
    ·simp only [Act.put, sA, sZ, sS, i64_w, i32_w]
     rfl
    refine take_ (i := 1) (N := some 12) (v := ?_) (a' := ?_) (bm 11 147) rfl rfl (take_ofW HT_.out HW_.out (by kernel_rfl)) (fun _ _ _ h => h) (Or.inl ⟨by rfl, ?_⟩) hHeld ?_ ?_
    rotate_left
    ·rintro w' ⟨s0, s1, s2, s3, s4, s5, s6, s7⟩
     go_simp
     with_reducible rfl
    rotate_left
    ·simp only [Act.put, sA, sZ, sS, i64_w, i32_w]
     rfl
    refine pure_ (i := 2) (N := some 13) (v := ?_) (a' := ?_) (bm 11 151) rfl rfl (any_of HT_.out (by kernel_rfl)) (fun _ _ _ h => h) (Or.inl ⟨by rfl, ?_⟩) ?_ ?_
    rotate_left
    ·intro w'
     go_simp
     with_reducible rfl
    rotate_left
    ·simp only [Act.put, sA, sZ, sS, i64_w, i32_w]
     rfl
    refine take_ (i := 5) (N := some 16) (v := ?_) (a' := ?_) (bm 11 183) rfl rfl (take_ofW HT_.out HW_.out (by kernel_rfl)) (fun _ _ _ h => h) (Or.inl ⟨by rfl, ?_⟩) hHeld ?_ ?_
    rotate_left
    ·rintro w' ⟨s0, s1, s2, s3, s4, s5, s6, s7⟩
     go_simp
     with_reducible rfl
    rotate_left
    ·simp only [Act.put, sA, sZ, sS, i64_w, i32_w]
     rfl
    refine take_ (i := 8) (N := some 19) (v := ?_) (a' := ?_) (bm 11 439) rfl rfl (take_ofW HT_.out HW_.out (by kernel_rfl)) (fun _ _ _ h => h) (Or.inl ⟨by rfl, ?_⟩) hHeld ?_ ?_
    rotate_left
    ·rintro w' ⟨s0, s1, s2, s3, s4, s5, s6, s7⟩
     go_simp
     with_reducible rfl
    rotate_left
    ·simp only [Act.put, sA, sZ, sS, i64_w, i32_w]
     rfl
    refine one_ (i := 3) (N := some 14) (bm 11 447) rfl rfl (one_of HT_.out (by kernel_rfl)) (by decide) (fun K hK => ?_)
    refine goes_ Try.func180 (by kernel_rfl) rfl #[.int .i64 (Go.bits .or .i64 64 a0_1), .int .i64 1] (by rfl) rfl rfl (by (try simp only [List.map_toArray, List.map_cons, List.map_nil]); first | done | rfl | (simp only [List.length_drop, List.length_take]; rfl)) ?_
    with_reducible refine (spec_l1Fixed.calls k (Go.bits .or .i64 64 a0_1) 1 t120 _ A3.out).mono ?_
    rintro e w9 ⟨rfl, hb⟩
    refine ⟨_, rfl, ?_⟩
    have n0_ := Aside0.mk (blk_below (g := gb119) (o := .cells #[.int .i64 a0_0, .int .i64 a0_1, .int .i64 a0_2, .string a0_3, .string a0_4, .string a0_5, .string a0_6, .slice A0_7 l0_7.length c0_7] 95 (0, 0)) (by (with_reducible repeat (first | refine bN ?_ _ | refine bD ?_ | refine bA ?_ _)); exact BK119.out) hb)
    have n1_ := Aside0.mk (below_step (by repeat (first | (with_reducible first | exact HB.out | apply below_alloc | apply pw_below_drewN | apply below_drew1 | refine below_set ?_ GE119.out) | exact HB.out)) hb)
    clear BK119
    clear HB
    have BK119 := n0_
    have HB := n1_
    clear n0_ n1_
    (try clear hb)
    (try clear hb2)
    (try clear hk)
    (try clear hi)
    refine hK.out _ _ ⟨(blk_cell BK119.out 0).trans rfl, (blk_cell BK119.out 1).trans rfl, (blk_cell BK119.out 2).trans rfl, (blk_cell BK119.out 3).trans rfl, (blk_cell BK119.out 4).trans rfl, (blk_cell BK119.out 5).trans rfl, (blk_cell BK119.out 6).trans rfl, (blk_cell BK119.out 7).trans rfl⟩ (fun hHeld => ?_)
    clear hK K
    refine norm_ (a' := ?_) ?_ ?_
    rotate_left
    ·show Act.put _ (some 14) _ = _
     simp only [Act.put, sA, sZ, sS, i64_w, i32_w]
     rfl
    refine pure_ (i := 6) (N := some 17) (v := ?_) (a' := ?_) (bm 11 511) rfl rfl (any_of HT_.out (by kernel_rfl)) (fun _ _ _ h => h) (Or.inl ⟨by rfl, ?_⟩) ?_ ?_
    rotate_left
    ·intro w'
     go_simp
     with_reducible rfl
    rotate_left
    ·simp only [Act.put, sA, sZ, sS, i64_w, i32_w]
     rfl
    refine pure_ (i := 9) (N := some 20) (v := ?_) (a' := ?_) (bm 11 1023) rfl rfl (any_of HT_.out (by kernel_rfl)) (fun _ _ _ h => h) (Or.inl ⟨by rfl, ?_⟩) ?_ ?_
    rotate_left
    ·intro w'
     go_simp
     with_reducible rfl
    rotate_left
    ·simp only [Act.put, sA, sZ, sS, i64_w, i32_w]
     rfl
    refine pure_ (i := 10) (N := some 2) (v := ?_) (a' := ?_) (bm 11 2047) rfl rfl (any_of HT_.out (by kernel_rfl)) (fun _ _ _ h => h) (Or.inl ⟨by rfl, ?_⟩) ?_ ?_
    rotate_left
    ·intro w'
     go_simp
     with_reducible rfl
    rotate_left
    ·simp only [Act.put, sA, sZ, sS, i64_w, i32_w]
     rfl
    refine done_ (done_of HT_.out (by kernel_rfl)) ?_
    try go_wp2
    go_ret
    exact ⟨by first | rfl | (simp [errW_none, errW_some] <;> rfl) | (simp [*, errW_none, errW_some] <;> rfl), by repeat (first | (with_reducible first | exact HB.out | apply below_alloc | apply pw_below_drewN | apply below_drew1 | refine below_set ?_ GE119.out) | exact HB.out)⟩
   ·rw [if_neg c5] at H
    exact absurd H (by simp)
  ·rw [if_neg c4] at H
   exact absurd H (by simp)
 ·rw [if_neg c2] at H
  have c2b0 : (a0_0 == 5) = false := beq_eq_false_iff_ne.mpr c2
  have c2b1 : (a0_0 != 5) = true := bne_iff_ne.mpr c2
  by_cases c10 : a0_0 = 4
  ·rw [if_pos c10] at H
   have c10b0 : (a0_0 == 4) = true := beq_iff_eq.mpr c10
   have c10b1 : (a0_0 != 4) = false := bne_eq_false_iff_eq.mpr c10
   clear c10
   replace H := Option.bind_eq_some_iff.mp H
   obtain ⟨t121, A110, H⟩ := H
   replace H : ((spec_l1Fixed.f k 0 4).bind fun t122 => (if t121.size + t122.size ≤ 9223372036854775807 then ((spec_l2Id.f k a0_3).bind fun t123 => (if (t121 ++ t122).size + t123.size ≤ 9223372036854775807 then ((spec_l2Id.f k a0_4).bind fun t124 => (if ((t121 ++ t122) ++ t123).size + t124.size ≤ 9223372036854775807 then (spec_l2Bytes.l0 k (((t121 ++ t122) ++ t123) ++ t124) l0_7 (l0_7.length : Int) 0) else (none))) else (none))) else (none))) = some r := H
   have A11 := Aside0.mk A110
   clear A110
   replace H := Option.bind_eq_some_iff.mp H
   obtain ⟨t122, A120, H⟩ := H
   replace H : (if t121.size + t122.size ≤ 9223372036854775807 then ((spec_l2Id.f k a0_3).bind fun t123 => (if (t121 ++ t122).size + t123.size ≤ 9223372036854775807 then ((spec_l2Id.f k a0_4).bind fun t124 => (if ((t121 ++ t122) ++ t123).size + t124.size ≤ 9223372036854775807 then (spec_l2Bytes.l0 k (((t121 ++ t122) ++ t123) ++ t124) l0_7 (l0_7.length : Int) 0) else (none))) else (none))) else (none)) = some r := H
   have A12 := Aside0.mk A120
   clear A120
   by_cases c13 : t121.size + t122.size ≤ 9223372036854775807
   ·rw [if_pos c13] at H
    have c13b0 := eq_true c13
    have c13b1 : decide (t121.size + t122.size ≤ 9223372036854775807) = true := decide_eq_true c13
    try have c13b2 : (9223372036854775807 < t121.size + t122.size) = False := eq_false (Nat.not_lt.2 c13)
    replace H := Option.bind_eq_some_iff.mp H
    obtain ⟨t123, A140, H⟩ := H
    replace H : (if (t121 ++ t122).size + t123.size ≤ 9223372036854775807 then ((spec_l2Id.f k a0_4).bind fun t124 => (if ((t121 ++ t122) ++ t123).size + t124.size ≤ 9223372036854775807 then (spec_l2Bytes.l0 k (((t121 ++ t122) ++ t123) ++ t124) l0_7 (l0_7.length : Int) 0) else (none))) else (none)) = some r := H
    have A14 := Aside0.mk A140
    clear A140
    by_cases c15 : (t121 ++ t122).size + t123.size ≤ 9223372036854775807
    ·rw [if_pos c15] at H
     have c15b0 := eq_true c15
     have c15b1 : decide ((t121 ++ t122).size + t123.size ≤ 9223372036854775807) = true := decide_eq_true c15
     try have c15b2 : (9223372036854775807 < (t121 ++ t122).size + t123.size) = False := eq_false (Nat.not_lt.2 c15)
     try have c15b3 : (9223372036854775807 < _) = False := (by have sz_app := c15b2; simp only [ByteArray.size_append] at sz_app; exact sz_app)
     replace H := Option.bind_eq_some_iff.mp H
     obtain ⟨t124, A160, H⟩ := H
     replace H : (if ((t121 ++ t122) ++ t123).size + t124.size ≤ 9223372036854775807 then (spec_l2Bytes.l0 k (((t121 ++ t122) ++ t123) ++ t124) l0_7 (l0_7.length : Int) 0) else (none)) = some r := H
     have A16 := Aside0.mk A160
     clear A160
     by_cases c17 : ((t121 ++ t122) ++ t123).size + t124.size ≤ 9223372036854775807
     ·rw [if_pos c17] at H
      have c17b0 := eq_true c17
      have c17b1 : decide (((t121 ++ t122) ++ t123).size + t124.size ≤ 9223372036854775807) = true := decide_eq_true c17
      try have c17b2 : (9223372036854775807 < ((t121 ++ t122) ++ t123).size + t124.size) = False := eq_false (Nat.not_lt.2 c17)
      try have c17b3 : (9223372036854775807 < _) = False := (by have sz_app := c17b2; simp only [ByteArray.size_append] at sz_app; exact sz_app)
      have H' := Aside0.mk H
      clear H
      go_enter Try.func131, Try.ntmps131
      try go_wp2_with (first | ((with_reducible refine gate_dst (N := 1) rfl ?_); refine box_event ?hg (N := 1) ?hd (cs := #[.int .i64 a0_0, .int .i64 a0_1, .int .i64 a0_2, .string a0_3, .string a0_4, .string a0_5, .string a0_6, .slice A0_7 l0_7.length c0_7]) (t := 95) ?hr ?_; (case hd => rfl); (case hg => rfl); (case hr => first | (go_simp; done) | (go_simp; rfl)); intro gb119 hg w18 hbox hb; have n0_ := Aside0.mk (below_step (by repeat (first | (with_reducible first | exact HB.out | apply below_alloc | apply pw_below_drewN | apply below_drew1) | exact HB.out)) hb); have n1_ := Aside0.mk (hbox); have n2_ := Aside0.mk ((by rw [hg]; exact (below_size (by repeat (first | (with_reducible first | exact HB.out | apply below_alloc | apply pw_below_drewN | apply below_drew1) | exact HB.out))) : w.heap.size ≤ gb119)); have n3_ := n2_; clear HB; have HB := n0_; have BK119 := n1_; have GW119 := n2_; have GE119 := n3_; clear n0_ n1_ n2_ n3_; clear hb hbox hg; obtain ⟨hcz19_0, hcz19_1, hcz19_2, hcz19_3, hcz19_4, hcz19_5, hcz19_6, hcz19_7⟩ := cz8 BK119; obtain ⟨hfz19_0, hfz19_1, hfz19_2, hfz19_3, hfz19_4, hfz19_5, hfz19_6, hfz19_7⟩ := fz8 BK119))
      have n0_ := Aside0.mk (blk_drew BK119.out)
      have n1_ := Aside0.mk (below_drew1 HB.out)
      clear BK119
      clear HB
      have BK119 := n0_
      have HB := n1_
      clear n0_ n1_
      refine start_ (n := 15) (S := fun w' => w'.cell? ⟨gb119, 0, none⟩ = some (.int .i64 a0_0) ∧ w'.cell? ⟨gb119, 1, none⟩ = some (.int .i64 a0_1) ∧ w'.cell? ⟨gb119, 2, none⟩ = some (.int .i64 a0_2) ∧ w'.cell? ⟨gb119, 3, none⟩ = some (.string a0_3) ∧ w'.cell? ⟨gb119, 4, none⟩ = some (.string a0_4) ∧ w'.cell? ⟨gb119, 5, none⟩ = some (.string a0_5) ∧ w'.cell? ⟨gb119, 6, none⟩ = some (.string a0_6) ∧ w'.cell? ⟨gb119, 7, none⟩ = some (.slice A0_7 l0_7.length c0_7)) (ds := []) (bm 15 0) (by kernel_rfl) rfl rfl ⟨(blk_cell BK119.out 0).trans rfl, (blk_cell BK119.out 1).trans rfl, (blk_cell BK119.out 2).trans rfl, (blk_cell BK119.out 3).trans rfl, (blk_cell BK119.out 4).trans rfl, (blk_cell BK119.out 5).trans rfl, (blk_cell BK119.out 6).trans rfl, (blk_cell BK119.out 7).trans rfl⟩ (fun hHeld => ?_); refine with_tabW spec_l2Bytes.tab5 spec_l2Bytes.bits5 (fun HT_ HW_ => ?_)
      generalize w18.drew = w20 at BK119 HB hHeld ⊢
      refine pure_ (i := 0) (N := some 23) (v := ?_) (a' := ?_) (bm 15 1) rfl rfl (any_of HT_.out (by kernel_rfl)) (fun _ _ _ h => h) (Or.inl ⟨by rfl, ?_⟩) ?_ ?_
      rotate_left
      ·intro w'
       go_simp
       with_reducible rfl
      rotate_left
      ·simp only [Act.put, sA, sZ, sS, i64_w, i32_w]
       rfl
      refine pure_ (i := 6) (N := some 29) (v := ?_) (a' := ?_) (bm 15 65) rfl rfl (any_of HT_.out (by kernel_rfl)) (fun _ _ _ h => h) (Or.inl ⟨by rfl, ?_⟩) ?_ ?_
      rotate_left
      ·intro w'
       go_simp
       with_reducible rfl
      rotate_left
      ·simp only [Act.put, sA, sZ, sS, i64_w, i32_w]
       rfl
      refine pure_ (i := 10) (N := some 33) (v := ?_) (a' := ?_) (bm 15 1089) rfl rfl (any_of HT_.out (by kernel_rfl)) (fun _ _ _ h => h) (Or.inl ⟨by rfl, ?_⟩) ?_ ?_
      rotate_left
      ·intro w'
       go_simp
       with_reducible rfl
      rotate_left
      ·simp only [Act.put, sA, sZ, sS, i64_w, i32_w]
       rfl
      refine take_ (i := 1) (N := some 24) (v := ?_) (a' := ?_) (bm 15 1091) rfl rfl (take_ofW HT_.out HW_.out (by kernel_rfl)) (fun _ _ _ h => h) (Or.inl ⟨by rfl, ?_⟩) hHeld ?_ ?_
      rotate_left
      ·rintro w' ⟨s0, s1, s2, s3, s4, s5, s6, s7⟩
       go_simp
       with_reducible rfl
      rotate_left
      ·simp only [Act.put, sA, sZ, sS, i64_w, i32_w]
       rfl
      refine pure_ (i := 2) (N := some 25) (v := ?_) (a' := ?_) (bm 15 1095) rfl rfl (any_of HT_.out (by kernel_rfl)) (fun _ _ _ h => h) (Or.inl ⟨by rfl, ?_⟩) ?_ ?_
      rotate_left
      ·intro w'
       go_simp
       with_reducible rfl
      rotate_left
      ·simp only [Act.put, sA, sZ, sS, i64_w, i32_w]
       rfl
      refine take_ (i := 7) (N := some 30) (v := ?_) (a' := ?_) (bm 15 1223) rfl rfl (take_ofW HT_.out HW_.out (by kernel_rfl)) (fun _ _ _ h => h) (Or.inl ⟨by rfl, ?_⟩) hHeld ?_ ?_
      rotate_left
      ·rintro w' ⟨s0, s1, s2, s3, s4, s5, s6, s7⟩
       go_simp
       with_reducible rfl
      rotate_left
      ·simp only [Act.put, sA, sZ, sS, i64_w, i32_w]
       rfl
      refine take_ (i := 11) (N := some 34) (v := ?_) (a' := ?_) (bm 15 3271) rfl rfl (take_ofW HT_.out HW_.out (by kernel_rfl)) (fun _ _ _ h => h) (Or.inl ⟨by rfl, ?_⟩) hHeld ?_ ?_
      rotate_left
      ·rintro w' ⟨s0, s1, s2, s3, s4, s5, s6, s7⟩
       go_simp
       with_reducible rfl
      rotate_left
      ·simp only [Act.put, sA, sZ, sS, i64_w, i32_w]
       rfl
      refine one_ (i := 3) (N := some 26) (bm 15 3279) rfl rfl (one_of HT_.out (by kernel_rfl)) (by decide) (fun K hK => ?_)
      refine goes_ Try.func180 (by kernel_rfl) rfl #[.int .i64 (Go.bits .or .i64 192 a0_1), .int .i64 1] (by rfl) rfl rfl (by (try simp only [List.map_toArray, List.map_cons, List.map_nil]); first | done | rfl | (simp only [List.length_drop, List.length_take]; rfl)) ?_
      with_reducible refine (spec_l1Fixed.calls k (Go.bits .or .i64 192 a0_1) 1 t121 _ A11.out).mono ?_
      rintro e w21 ⟨rfl, hb⟩
      refine ⟨_, rfl, ?_⟩
      have n0_ := Aside0.mk (blk_below (g := gb119) (o := .cells #[.int .i64 a0_0, .int .i64 a0_1, .int .i64 a0_2, .string a0_3, .string a0_4, .string a0_5, .string a0_6, .slice A0_7 l0_7.length c0_7] 95 (0, 0)) (by (with_reducible repeat (first | refine bN ?_ _ | refine bD ?_ | refine bA ?_ _)); exact BK119.out) hb)
      have n1_ := Aside0.mk (below_step (by repeat (first | (with_reducible first | exact HB.out | apply below_alloc | apply pw_below_drewN | apply below_drew1 | refine below_set ?_ GE119.out) | exact HB.out)) hb)
      clear BK119
      clear HB
      have BK119 := n0_
      have HB := n1_
      clear n0_ n1_
      (try clear hb)
      (try clear hb2)
      (try clear hk)
      (try clear hi)
      refine hK.out _ _ ⟨(blk_cell BK119.out 0).trans rfl, (blk_cell BK119.out 1).trans rfl, (blk_cell BK119.out 2).trans rfl, (blk_cell BK119.out 3).trans rfl, (blk_cell BK119.out 4).trans rfl, (blk_cell BK119.out 5).trans rfl, (blk_cell BK119.out 6).trans rfl, (blk_cell BK119.out 7).trans rfl⟩ (fun hHeld => ?_)
      clear hK K
      refine norm_ (a' := ?_) ?_ ?_
      rotate_left
      ·show Act.put _ (some 26) _ = _
       simp only [Act.put, sA, sZ, sS, i64_w, i32_w]
       rfl
      refine one_ (i := 4) (N := some 27) (bm 15 3295) rfl rfl (one_of HT_.out (by kernel_rfl)) (by decide) (fun K hK => ?_)
      refine goes_ Try.func180 (by kernel_rfl) rfl #[.int .i64 0, .int .i64 4] (by rfl) rfl rfl (by (try simp only [List.map_toArray, List.map_cons, List.map_nil]); first | done | rfl | (simp only [List.length_drop, List.length_take]; rfl)) ?_
      with_reducible refine (spec_l1Fixed.calls k 0 4 t122 _ A12.out).mono ?_
      rintro e w22 ⟨rfl, hb⟩
      refine ⟨_, rfl, ?_⟩
      have n0_ := Aside0.mk (blk_below (g := gb119) (o := .cells #[.int .i64 a0_0, .int .i64 a0_1, .int .i64 a0_2, .string a0_3, .string a0_4, .string a0_5, .string a0_6, .slice A0_7 l0_7.length c0_7] 95 (0, 0)) (by (with_reducible repeat (first | refine bN ?_ _ | refine bD ?_ | refine bA ?_ _)); exact BK119.out) hb)
      have n1_ := Aside0.mk (below_step (by repeat (first | (with_reducible first | exact HB.out | apply below_alloc | apply pw_below_drewN | apply below_drew1 | refine below_set ?_ GE119.out) | exact HB.out)) hb)
      clear BK119
      clear HB
      have BK119 := n0_
      have HB := n1_
      clear n0_ n1_
      (try clear hb)
      (try clear hb2)
      (try clear hk)
      (try clear hi)
      refine hK.out _ _ ⟨(blk_cell BK119.out 0).trans rfl, (blk_cell BK119.out 1).trans rfl, (blk_cell BK119.out 2).trans rfl, (blk_cell BK119.out 3).trans rfl, (blk_cell BK119.out 4).trans rfl, (blk_cell BK119.out 5).trans rfl, (blk_cell BK119.out 6).trans rfl, (blk_cell BK119.out 7).trans rfl⟩ (fun hHeld => ?_)
      clear hK K
      refine norm_ (a' := ?_) ?_ ?_
      rotate_left
      ·show Act.put _ (some 27) _ = _
       simp only [Act.put, sA, sZ, sS, i64_w, i32_w]
       rfl
      refine pure_ (i := 5) (N := some 28) (v := ?_) (a' := ?_) (bm 15 3327) rfl rfl (any_of HT_.out (by kernel_rfl)) (fun _ _ _ h => h) (Or.inl ⟨by rfl, ?_⟩) ?_ ?_
      rotate_left
      ·intro w'
       go_simp
       with_reducible rfl
      rotate_left
      ·simp only [Act.put, sA, sZ, sS, i64_w, i32_w]
       rfl
      refine one_ (i := 8) (N := some 31) (bm 15 3583) rfl rfl (one_of HT_.out (by kernel_rfl)) (by decide) (fun K hK => ?_)
      refine goes_ Try.func181 (by kernel_rfl) rfl #[.string a0_3] (by rfl) rfl rfl (by (try simp only [List.map_toArray, List.map_cons, List.map_nil]); first | done | rfl | (simp only [List.length_drop, List.length_take]; rfl)) ?_
      with_reducible refine (spec_l2Id.calls k a0_3 t123 _ A14.out).mono ?_
      rintro e w23 ⟨rfl, hb⟩
      refine ⟨_, rfl, ?_⟩
      have n0_ := Aside0.mk (blk_below (g := gb119) (o := .cells #[.int .i64 a0_0, .int .i64 a0_1, .int .i64 a0_2, .string a0_3, .string a0_4, .string a0_5, .string a0_6, .slice A0_7 l0_7.length c0_7] 95 (0, 0)) (by (with_reducible repeat (first | refine bN ?_ _ | refine bD ?_ | refine bA ?_ _)); exact BK119.out) hb)
      have n1_ := Aside0.mk (below_step (by repeat (first | (with_reducible first | exact HB.out | apply below_alloc | apply pw_below_drewN | apply below_drew1 | refine below_set ?_ GE119.out) | exact HB.out)) hb)
      clear BK119
      clear HB
      have BK119 := n0_
      have HB := n1_
      clear n0_ n1_
      (try clear hb)
      (try clear hb2)
      (try clear hk)
      (try clear hi)
      refine hK.out _ _ ⟨(blk_cell BK119.out 0).trans rfl, (blk_cell BK119.out 1).trans rfl, (blk_cell BK119.out 2).trans rfl, (blk_cell BK119.out 3).trans rfl, (blk_cell BK119.out 4).trans rfl, (blk_cell BK119.out 5).trans rfl, (blk_cell BK119.out 6).trans rfl, (blk_cell BK119.out 7).trans rfl⟩ (fun hHeld => ?_)
      clear hK K
      refine norm_ (a' := ?_) ?_ ?_
      rotate_left
      ·show Act.put _ (some 31) _ = _
       simp only [Act.put, sA, sZ, sS, i64_w, i32_w]
       rfl
      refine pure_ (i := 9) (N := some 32) (v := ?_) (a' := ?_) (bm 15 4095) rfl rfl (any_of HT_.out (by kernel_rfl)) (fun _ _ _ h => h) (Or.inl ⟨by rfl, ?_⟩) ?_ ?_
      rotate_left
      ·intro w'
       go_simp
       with_reducible rfl
      rotate_left
      ·simp only [Act.put, sA, sZ, sS, i64_w, i32_w]
       rfl
      refine one_ (i := 12) (N := some 35) (bm 15 8191) rfl rfl (one_of HT_.out (by kernel_rfl)) (by decide) (fun K hK => ?_)
      refine goes_ Try.func181 (by kernel_rfl) rfl #[.string a0_4] (by rfl) rfl rfl (by (try simp only [List.map_toArray, List.map_cons, List.map_nil]); first | done | rfl | (simp only [List.length_drop, List.length_take]; rfl)) ?_
      with_reducible refine (spec_l2Id.calls k a0_4 t124 _ A16.out).mono ?_
      rintro e w24 ⟨rfl, hb⟩
      refine ⟨_, rfl, ?_⟩
      have n0_ := Aside0.mk (blk_below (g := gb119) (o := .cells #[.int .i64 a0_0, .int .i64 a0_1, .int .i64 a0_2, .string a0_3, .string a0_4, .string a0_5, .string a0_6, .slice A0_7 l0_7.length c0_7] 95 (0, 0)) (by (with_reducible repeat (first | refine bN ?_ _ | refine bD ?_ | refine bA ?_ _)); exact BK119.out) hb)
      have n1_ := Aside0.mk (below_step (by repeat (first | (with_reducible first | exact HB.out | apply below_alloc | apply pw_below_drewN | apply below_drew1 | refine below_set ?_ GE119.out) | exact HB.out)) hb)
      clear BK119
      clear HB
      have BK119 := n0_
      have HB := n1_
      clear n0_ n1_
      (try clear hb)
      (try clear hb2)
      (try clear hk)
      (try clear hi)
      refine hK.out _ _ ⟨(blk_cell BK119.out 0).trans rfl, (blk_cell BK119.out 1).trans rfl, (blk_cell BK119.out 2).trans rfl, (blk_cell BK119.out 3).trans rfl, (blk_cell BK119.out 4).trans rfl, (blk_cell BK119.out 5).trans rfl, (blk_cell BK119.out 6).trans rfl, (blk_cell BK119.out 7).trans rfl⟩ (fun hHeld => ?_)
      clear hK K
      refine norm_ (a' := ?_) ?_ ?_
      rotate_left
      ·show Act.put _ (some 35) _ = _
       simp only [Act.put, sA, sZ, sS, i64_w, i32_w]
       rfl
      refine pure_ (i := 13) (N := some 36) (v := ?_) (a' := ?_) (bm 15 16383) rfl rfl (any_of HT_.out (by kernel_rfl)) (fun _ _ _ h => h) (Or.inl ⟨by rfl, ?_⟩) ?_ ?_
      rotate_left
      ·intro w'
       go_simp
       with_reducible rfl
      rotate_left
      ·simp only [Act.put, sA, sZ, sS, i64_w, i32_w]
       rfl
      refine pure_ (i := 14) (N := some 3) (v := ?_) (a' := ?_) (bm 15 32767) rfl rfl (any_of HT_.out (by kernel_rfl)) (fun _ _ _ h => h) (Or.inl ⟨by rfl, ?_⟩) ?_ ?_
      rotate_left
      ·intro w'
       go_simp
       with_reducible rfl
      rotate_left
      ·simp only [Act.put, sA, sZ, sS, i64_w, i32_w]
       rfl
      refine done_ (done_of HT_.out (by kernel_rfl)) ?_
      obtain ⟨hcz25_0, hcz25_1, hcz25_2, hcz25_3, hcz25_4, hcz25_5, hcz25_6, hcz25_7⟩ := cz8 BK119
      obtain ⟨hfz25_0, hfz25_1, hfz25_2, hfz25_3, hfz25_4, hfz25_5, hfz25_6, hfz25_7⟩ := fz8 BK119
      try go_wp2
      go_loopg [3, 40] k (fun kq v3 v40 w' => ∃ (x3_1 : ByteArray) (x40_1 : Int), v3 = .string x3_1 ∧ v40 = .int .i64 x40_1 ∧ Aside0 (spec_l2Bytes.l0 kq x3_1 l0_7 (l0_7.length : Int) x40_1 = some r) ∧ Aside0 (kq ≤ k) ∧ Aside0 (w'.heap[gb119]? = some (.cells #[.int .i64 a0_0, .int .i64 a0_1, .int .i64 a0_2, .string a0_3, .string a0_4, .string a0_5, .string a0_6, (.slice A0_7 l0_7.length c0_7)] 95 (0, 0))) ∧ Aside0 (Below w.heap.size w w'))
      case atStart => exact ⟨(((t121 ++ t122) ++ t123) ++ t124), (0), (by first | rfl | (simp; done) | (simp [*]; done)), (by first | rfl | (simp; done) | (simp [*]; done)), H', ⟨Nat.le_refl _⟩, ⟨by (with_reducible repeat (first | refine bN ?_ _ | refine bD ?_ | refine bA ?_ _)); exact BK119.out⟩, ⟨by repeat (first | (with_reducible first | exact HB.out | apply below_alloc | apply pw_below_drewN | apply below_drew1 | refine below_set ?_ GE119.out) | exact HB.out)⟩⟩
      case round =>
       clear H'
       try clear c1
       try clear c2
       try clear c2b0
       try clear c2b1
       try clear p2
       try clear c4
       try clear c4b0
       try clear c4b1
       try clear c4b2
       try clear c5
       try clear c5b0
       try clear c5b1
       try clear c5b2
       try clear p6
       try clear c10
       try clear c10b0
       try clear c10b1
       try clear c13
       try clear c13b0
       try clear c13b1
       try clear c13b2
       try clear c15
       try clear c15b0
       try clear c15b1
       try clear c15b2
       try clear c17
       try clear c17b0
       try clear c17b1
       try clear c17b2
       try clear c18
       try clear hcz19_0
       try clear hcz19_1
       try clear hcz19_2
       try clear hcz19_3
       try clear hcz19_4
       try clear hcz19_5
       try clear hcz19_6
       try clear hcz19_7
       try clear hcz25_0
       try clear hcz25_1
       try clear hcz25_2
       try clear hcz25_3
       try clear hcz25_4
       try clear hcz25_5
       try clear hcz25_6
       try clear hcz25_7
       try clear hcz7_0
       try clear hcz7_1
       try clear hcz7_2
       try clear hcz7_3
       try clear hcz7_4
       try clear hcz7_5
       try clear hcz7_6
       try clear hcz7_7
       try clear hfz19_0
       try clear hfz19_1
       try clear hfz19_2
       try clear hfz19_3
       try clear hfz19_4
       try clear hfz19_5
       try clear hfz19_6
       try clear hfz19_7
       try clear hfz25_0
       try clear hfz25_1
       try clear hfz25_2
       try clear hfz25_3
       try clear hfz25_4
       try clear hfz25_5
       try clear hfz25_6
       try clear hfz25_7
       try clear hfz7_0
       try clear hfz7_1
       try clear hfz7_2
       try clear hfz7_3
       try clear hfz7_4
       try clear hfz7_5
       try clear hfz7_6
       try clear hfz7_7
       obtain ⟨x3_1, x40_1, rfl, rfl, HA, HK1, BK119, HB⟩ := hrel
       cases gk with
       | zero => exact absurd HA.out (by simp [spec_l2Bytes.l0])
       | succ k1 =>
        have H := HA.out
        clear HA
        simp only [spec_l2Bytes.l0] at H
        by_cases c26 : x40_1 < (l0_7.length : Int)
        ·rw [if_pos c26] at H
         have c26b0 : decide (x40_1 < (l0_7.length : Int)) = true := decide_eq_true c26
         clear c26
         by_cases c27 : 0 ≤ x40_1
         ·rw [if_pos c27] at H
          have c27b0 : decide (0 ≤ x40_1) = true := decide_eq_true c27
          clear c27
          by_cases c28 : x40_1 < (l0_7.length : Int)
          ·rw [if_pos c28] at H
           have c28b0 : decide (x40_1 < (l0_7.length : Int)) = true := decide_eq_true c28
           clear c28
           replace H := Option.bind_eq_some_iff.mp H
           obtain ⟨t126, A290, H⟩ := H
           replace H : (if x3_1.size + t126.size ≤ 9223372036854775807 then (spec_l2Bytes.l0 k1 (x3_1 ++ t126) l0_7 (l0_7.length : Int) (wrap64 (x40_1 + 1))) else (none)) = some r := H
           have A29 := Aside0.mk A290
           clear A290
           by_cases c30 : x3_1.size + t126.size ≤ 9223372036854775807
           ·rw [if_pos c30] at H
            have c30b0 := eq_true c30
            have c30b1 : decide (x3_1.size + t126.size ≤ 9223372036854775807) = true := decide_eq_true c30
            try have c30b2 : (9223372036854775807 < x3_1.size + t126.size) = False := eq_false (Nat.not_lt.2 c30)
            have H' := Aside0.mk H
            clear H
            have p125 : 0 ≤ (x40_1 : Int) := of_decide_eq_true (by first | (with_reducible assumption) | assumption)
            have q125 : x40_1 < (l0_7.length : Int) := of_decide_eq_true (by first | (with_reducible assumption) | assumption)
            obtain ⟨ad125, e125, hx125_0⟩ := Kd.at_int HR0_7.out x40_1 p125 q125
            cases e125
            replace hx125_0 := (HB.out.cell (World.block_lt_of_cell? w _ hx125_0)).trans hx125_0
            replace p125 := eq_true p125
            replace q125 := eq_true q125
            go_wp2_with (first | ((with_reducible refine gate_callee (f := 180) rfl ?_); refine goesL_ (some 46) rfl rfl Try.func180 (by kernel_rfl) rfl #[.int .i64 (rd l0_7 x40_1), .int .i64 4] rfl (by (try simp only [List.map_toArray, List.map_cons, List.map_nil]); first | done | rfl | (simp only [List.length_drop, List.length_take]; rfl)) ?_; (with_reducible refine (spec_l1Fixed.calls k1 (rd l0_7 x40_1) 4 t126 _ A29.out).mono ?_); rintro e w31 ⟨rfl, hb⟩; refine ⟨_, rfl, ?_⟩; have n0_ := Aside0.mk (blk_below (g := gb119) (o := .cells #[.int .i64 a0_0, .int .i64 a0_1, .int .i64 a0_2, .string a0_3, .string a0_4, .string a0_5, .string a0_6, .slice (some ad125) l0_7.length c0_7] 95 (0, 0)) (by (with_reducible repeat (first | refine bN ?_ _ | refine bD ?_ | refine bA ?_ _)); exact BK119.out) hb); have n1_ := Aside0.mk (below_step (by repeat (first | (with_reducible first | exact HB.out | apply below_alloc | apply pw_below_drewN | apply below_drew1 | refine below_set ?_ GE119.out) | exact HB.out)) hb); clear BK119; clear HB; have BK119 := n0_; have HB := n1_; clear n0_ n1_; (try clear hb); (try clear hb2); (try clear hk); (try clear hi)))
            go_roundg k1
            case measure => have := HK1.out; omega
            case rel => exact ⟨(x3_1 ++ t126), (wrap64 (x40_1 + 1)), (by first | rfl | (simp; done) | (simp [*]; done)), (by first | rfl | (simp; done) | (simp [*]; done)), H', ⟨by have := HK1.out; omega⟩, ⟨by (with_reducible repeat (first | refine bN ?_ _ | refine bD ?_ | refine bA ?_ _)); exact BK119.out⟩, ⟨by repeat (first | (with_reducible first | exact HB.out | apply below_alloc | apply pw_below_drewN | apply below_drew1 | refine below_set ?_ GE119.out) | exact HB.out)⟩⟩
           ·rw [if_neg c30] at H
            exact absurd H (by simp)
          ·rw [if_neg c28] at H
           exact absurd H (by simp)
         ·rw [if_neg c27] at H
          exact absurd H (by simp)
        ·rw [if_neg c26] at H
         have c26b0 : decide (x40_1 < (l0_7.length : Int)) = false := decide_eq_false c26
         clear c26
         obtain rfl := Option.some.inj H
         go_wp2
         go_ret
         exact ⟨by first | rfl | (simp [errW_none, errW_some] <;> rfl) | (simp [*, errW_none, errW_some] <;> rfl), by repeat (first | (with_reducible first | exact HB.out | apply below_alloc | apply pw_below_drewN | apply below_drew1 | refine below_set ?_ GE119.out) | exact HB.out)⟩
     ·rw [if_neg c17] at H
      exact absurd H (by simp)
    ·rw [if_neg c15] at H
     exact absurd H (by simp)
   ·rw [if_neg c13] at H
    exact absurd H (by simp)
  ·rw [if_neg c10] at H
   have c10b0 : (a0_0 == 4) = false := beq_eq_false_iff_ne.mpr c10
   have c10b1 : (a0_0 != 4) = true := bne_iff_ne.mpr c10
   replace H := Option.bind_eq_some_iff.mp H
   obtain ⟨t127, A320, H⟩ := H
   replace H : ((spec_l1Fixed.f k a0_2 4).bind fun t128 => (if t127.size + t128.size ≤ 9223372036854775807 then ((spec_l2Id.f k a0_3).bind fun t129 => (if (t127 ++ t128).size + t129.size ≤ 9223372036854775807 then ((spec_l2Id.f k a0_4).bind fun t130 => (if ((t127 ++ t128) ++ t129).size + t130.size ≤ 9223372036854775807 then (if a0_0 = 0 then ((spec_l1Var.f k (a0_5.size : Int)).bind fun t131 => (if t131.size + a0_5.size ≤ 9223372036854775807 then (if (((t127 ++ t128) ++ t129) ++ t130).size + (t131 ++ a0_5).size ≤ 9223372036854775807 then (spec_l2Bytes.j1 k ((((t127 ++ t128) ++ t129) ++ t130) ++ (t131 ++ a0_5)) a0_0 a0_1 a0_2 a0_3 a0_4 a0_5 a0_6 l0_7) else (none)) else (none))) else (spec_l2Bytes.j1 k (((t127 ++ t128) ++ t129) ++ t130) a0_0 a0_1 a0_2 a0_3 a0_4 a0_5 a0_6 l0_7)) else (none))) else (none))) else (none))) = some r := H
   have A32 := Aside0.mk A320
   clear A320
   replace H := Option.bind_eq_some_iff.mp H
   obtain ⟨t128, A330, H⟩ := H
   replace H : (if t127.size + t128.size ≤ 9223372036854775807 then ((spec_l2Id.f k a0_3).bind fun t129 => (if (t127 ++ t128).size + t129.size ≤ 9223372036854775807 then ((spec_l2Id.f k a0_4).bind fun t130 => (if ((t127 ++ t128) ++ t129).size + t130.size ≤ 9223372036854775807 then (if a0_0 = 0 then ((spec_l1Var.f k (a0_5.size : Int)).bind fun t131 => (if t131.size + a0_5.size ≤ 9223372036854775807 then (if (((t127 ++ t128) ++ t129) ++ t130).size + (t131 ++ a0_5).size ≤ 9223372036854775807 then (spec_l2Bytes.j1 k ((((t127 ++ t128) ++ t129) ++ t130) ++ (t131 ++ a0_5)) a0_0 a0_1 a0_2 a0_3 a0_4 a0_5 a0_6 l0_7) else (none)) else (none))) else (spec_l2Bytes.j1 k (((t127 ++ t128) ++ t129) ++ t130) a0_0 a0_1 a0_2 a0_3 a0_4 a0_5 a0_6 l0_7)) else (none))) else (none))) else (none)) = some r := H
   have A33 := Aside0.mk A330
   clear A330
   by_cases c34 : t127.size + t128.size ≤ 9223372036854775807
   ·rw [if_pos c34] at H
    have c34b0 := eq_true c34
    have c34b1 : decide (t127.size + t128.size ≤ 9223372036854775807) = true := decide_eq_true c34
    try have c34b2 : (9223372036854775807 < t127.size + t128.size) = False := eq_false (Nat.not_lt.2 c34)
    replace H := Option.bind_eq_some_iff.mp H
    obtain ⟨t129, A350, H⟩ := H
    replace H : (if (t127 ++ t128).size + t129.size ≤ 9223372036854775807 then ((spec_l2Id.f k a0_4).bind fun t130 => (if ((t127 ++ t128) ++ t129).size + t130.size ≤ 9223372036854775807 then (if a0_0 = 0 then ((spec_l1Var.f k (a0_5.size : Int)).bind fun t131 => (if t131.size + a0_5.size ≤ 9223372036854775807 then (if (((t127 ++ t128) ++ t129) ++ t130).size + (t131 ++ a0_5).size ≤ 9223372036854775807 then (spec_l2Bytes.j1 k ((((t127 ++ t128) ++ t129) ++ t130) ++ (t131 ++ a0_5)) a0_0 a0_1 a0_2 a0_3 a0_4 a0_5 a0_6 l0_7) else (none)) else (none))) else (spec_l2Bytes.j1 k (((t127 ++ t128) ++ t129) ++ t130) a0_0 a0_1 a0_2 a0_3 a0_4 a0_5 a0_6 l0_7)) else (none))) else (none)) = some r := H
    have A35 := Aside0.mk A350
    clear A350
    by_cases c36 : (t127 ++ t128).size + t129.size ≤ 9223372036854775807
    ·rw [if_pos c36] at H
     have c36b0 := eq_true c36
     have c36b1 : decide ((t127 ++ t128).size + t129.size ≤ 9223372036854775807) = true := decide_eq_true c36
     try have c36b2 : (9223372036854775807 < (t127 ++ t128).size + t129.size) = False := eq_false (Nat.not_lt.2 c36)
     try have c36b3 : (9223372036854775807 < _) = False := (by have sz_app := c36b2; simp only [ByteArray.size_append] at sz_app; exact sz_app)
     replace H := Option.bind_eq_some_iff.mp H
     obtain ⟨t130, A370, H⟩ := H
     replace H : (if ((t127 ++ t128) ++ t129).size + t130.size ≤ 9223372036854775807 then (if a0_0 = 0 then ((spec_l1Var.f k (a0_5.size : Int)).bind fun t131 => (if t131.size + a0_5.size ≤ 9223372036854775807 then (if (((t127 ++ t128) ++ t129) ++ t130).size + (t131 ++ a0_5).size ≤ 9223372036854775807 then (spec_l2Bytes.j1 k ((((t127 ++ t128) ++ t129) ++ t130) ++ (t131 ++ a0_5)) a0_0 a0_1 a0_2 a0_3 a0_4 a0_5 a0_6 l0_7) else (none)) else (none))) else (spec_l2Bytes.j1 k (((t127 ++ t128) ++ t129) ++ t130) a0_0 a0_1 a0_2 a0_3 a0_4 a0_5 a0_6 l0_7)) else (none)) = some r := H
     have A37 := Aside0.mk A370
     clear A370
     by_cases c38 : ((t127 ++ t128) ++ t129).size + t130.size ≤ 9223372036854775807
     ·rw [if_pos c38] at H
      have c38b0 := eq_true c38
      have c38b1 : decide (((t127 ++ t128) ++ t129).size + t130.size ≤ 9223372036854775807) = true := decide_eq_true c38
      try have c38b2 : (9223372036854775807 < ((t127 ++ t128) ++ t129).size + t130.size) = False := eq_false (Nat.not_lt.2 c38)
      try have c38b3 : (9223372036854775807 < _) = False := (by have sz_app := c38b2; simp only [ByteArray.size_append] at sz_app; exact sz_app)
      have HC39 := Aside0.mk H
      clear H
      go_enter Try.func131, Try.ntmps131
      try go_wp2_with (first | ((with_reducible refine gate_dst (N := 1) rfl ?_); refine box_event ?hg (N := 1) ?hd (cs := #[.int .i64 a0_0, .int .i64 a0_1, .int .i64 a0_2, .string a0_3, .string a0_4, .string a0_5, .string a0_6, .slice A0_7 l0_7.length c0_7]) (t := 95) ?hr ?_; (case hd => rfl); (case hg => rfl); (case hr => first | (go_simp; done) | (go_simp; rfl)); intro gb119 hg w40 hbox hb; have n0_ := Aside0.mk (below_step (by repeat (first | (with_reducible first | exact HB.out | apply below_alloc | apply pw_below_drewN | apply below_drew1) | exact HB.out)) hb); have n1_ := Aside0.mk (hbox); have n2_ := Aside0.mk ((by rw [hg]; exact (below_size (by repeat (first | (with_reducible first | exact HB.out | apply below_alloc | apply pw_below_drewN | apply below_drew1) | exact HB.out))) : w.heap.size ≤ gb119)); have n3_ := n2_; clear HB; have HB := n0_; have BK119 := n1_; have GW119 := n2_; have GE119 := n3_; clear n0_ n1_ n2_ n3_; clear hb hbox hg; obtain ⟨hcz41_0, hcz41_1, hcz41_2, hcz41_3, hcz41_4, hcz41_5, hcz41_6, hcz41_7⟩ := cz8 BK119; obtain ⟨hfz41_0, hfz41_1, hfz41_2, hfz41_3, hfz41_4, hfz41_5, hfz41_6, hfz41_7⟩ := fz8 BK119))
      have n0_ := Aside0.mk (blk_drew BK119.out)
      have n1_ := Aside0.mk (below_drew1 HB.out)
      clear BK119
      clear HB
      have BK119 := n0_
      have HB := n1_
      clear n0_ n1_
      refine start_ (n := 21) (S := fun w' => w'.cell? ⟨gb119, 0, none⟩ = some (.int .i64 a0_0) ∧ w'.cell? ⟨gb119, 1, none⟩ = some (.int .i64 a0_1) ∧ w'.cell? ⟨gb119, 2, none⟩ = some (.int .i64 a0_2) ∧ w'.cell? ⟨gb119, 3, none⟩ = some (.string a0_3) ∧ w'.cell? ⟨gb119, 4, none⟩ = some (.string a0_4) ∧ w'.cell? ⟨gb119, 5, none⟩ = some (.string a0_5) ∧ w'.cell? ⟨gb119, 6, none⟩ = some (.string a0_6) ∧ w'.cell? ⟨gb119, 7, none⟩ = some (.slice A0_7 l0_7.length c0_7)) (ds := []) (bm 21 0) (by kernel_rfl) rfl rfl ⟨(blk_cell BK119.out 0).trans rfl, (blk_cell BK119.out 1).trans rfl, (blk_cell BK119.out 2).trans rfl, (blk_cell BK119.out 3).trans rfl, (blk_cell BK119.out 4).trans rfl, (blk_cell BK119.out 5).trans rfl, (blk_cell BK119.out 6).trans rfl, (blk_cell BK119.out 7).trans rfl⟩ (fun hHeld => ?_); refine with_tabW spec_l2Bytes.tab12 spec_l2Bytes.bits12 (fun HT_ HW_ => ?_)
      generalize w40.drew = w42 at BK119 HB hHeld ⊢
      refine pure_ (i := 0) (N := some 50) (v := ?_) (a' := ?_) (bm 21 1) rfl rfl (any_of HT_.out (by kernel_rfl)) (fun _ _ _ h => h) (Or.inl ⟨by rfl, ?_⟩) ?_ ?_
      rotate_left
      ·intro w'
       go_simp
       with_reducible rfl
      rotate_left
      ·simp only [Act.put, sA, sZ, sS, i64_w, i32_w]
       rfl
      refine pure_ (i := 4) (N := some 54) (v := ?_) (a' := ?_) (bm 21 17) rfl rfl (any_of HT_.out (by kernel_rfl)) (fun _ _ _ h => h) (Or.inl ⟨by rfl, ?_⟩) ?_ ?_
      rotate_left
      ·intro w'
       go_simp
       with_reducible rfl
      rotate_left
      ·simp only [Act.put, sA, sZ, sS, i64_w, i32_w]
       rfl
      refine pure_ (i := 8) (N := some 58) (v := ?_) (a' := ?_) (bm 21 273) rfl rfl (any_of HT_.out (by kernel_rfl)) (fun _ _ _ h => h) (Or.inl ⟨by rfl, ?_⟩) ?_ ?_
      rotate_left
      ·intro w'
       go_simp
       with_reducible rfl
      rotate_left
      ·simp only [Act.put, sA, sZ, sS, i64_w, i32_w]
       rfl
      refine pure_ (i := 12) (N := some 62) (v := ?_) (a' := ?_) (bm 21 4369) rfl rfl (any_of HT_.out (by kernel_rfl)) (fun _ _ _ h => h) (Or.inl ⟨by rfl, ?_⟩) ?_ ?_
      rotate_left
      ·intro w'
       go_simp
       with_reducible rfl
      rotate_left
      ·simp only [Act.put, sA, sZ, sS, i64_w, i32_w]
       rfl
      refine pure_ (i := 16) (N := some 66) (v := ?_) (a' := ?_) (bm 21 69905) rfl rfl (any_of HT_.out (by kernel_rfl)) (fun _ _ _ h => h) (Or.inl ⟨by rfl, ?_⟩) ?_ ?_
      rotate_left
      ·intro w'
       go_simp
       with_reducible rfl
      rotate_left
      ·simp only [Act.put, sA, sZ, sS, i64_w, i32_w]
       rfl
      refine take_ (i := 1) (N := some 51) (v := ?_) (a' := ?_) (bm 21 69907) rfl rfl (take_ofW HT_.out HW_.out (by kernel_rfl)) (fun _ _ _ h => h) (Or.inl ⟨by rfl, ?_⟩) hHeld ?_ ?_
      rotate_left
      ·rintro w' ⟨s0, s1, s2, s3, s4, s5, s6, s7⟩
       go_simp
       with_reducible rfl
      rotate_left
      ·simp only [Act.put, sA, sZ, sS, i64_w, i32_w]
       rfl
      refine pure_ (i := 2) (N := some 52) (v := ?_) (a' := ?_) (bm 21 69911) rfl rfl (any_of HT_.out (by kernel_rfl)) (fun _ _ _ h => h) (Or.inl ⟨by rfl, ?_⟩) ?_ ?_
      rotate_left
      ·intro w'
       go_simp
       with_reducible rfl
      rotate_left
      ·simp only [Act.put, sA, sZ, sS, i64_w, i32_w]
       rfl
      refine pure_ (i := 3) (N := some 53) (v := ?_) (a' := ?_) (bm 21 69919) rfl rfl (any_of HT_.out (by kernel_rfl)) (fun _ _ _ h => h) (Or.inl ⟨by rfl, ?_⟩) ?_ ?_
      rotate_left
      ·intro w'
       go_simp
       with_reducible rfl
      rotate_left
      ·simp only [Act.put, sA, sZ, sS, i64_w, i32_w]
       rfl
      refine take_ (i := 5) (N := some 55) (v := ?_) (a' := ?_) (bm 21 69951) rfl rfl (take_ofW HT_.out HW_.out (by kernel_rfl)) (fun _ _ _ h => h) (Or.inl ⟨by rfl, ?_⟩) hHeld ?_ ?_
      rotate_left
      ·rintro w' ⟨s0, s1, s2, s3, s4, s5, s6, s7⟩
       go_simp
       with_reducible rfl
      rotate_left
      ·simp only [Act.put, sA, sZ, sS, i64_w, i32_w]
       rfl
      refine pure_ (i := 6) (N := some 56) (v := ?_) (a' := ?_) (bm 21 70015) rfl rfl (any_of HT_.out (by kernel_rfl)) (fun _ _ _ h => h) (Or.inl ⟨by rfl, ?_⟩) ?_ ?_
      rotate_left
      ·intro w'
       go_simp
       with_reducible rfl
      rotate_left
      ·simp only [Act.put, sA, sZ, sS, i64_w, i32_w]
       rfl
      refine take_ (i := 9) (N := some 59) (v := ?_) (a' := ?_) (bm 21 70527) rfl rfl (take_ofW HT_.out HW_.out (by kernel_rfl)) (fun _ _ _ h => h) (Or.inl ⟨by rfl, ?_⟩) hHeld ?_ ?_
      rotate_left
      ·rintro w' ⟨s0, s1, s2, s3, s4, s5, s6, s7⟩
       go_simp
       with_reducible rfl
      rotate_left
      ·simp only [Act.put, sA, sZ, sS, i64_w, i32_w]
       rfl
      refine take_ (i := 13) (N := some 63) (v := ?_) (a' := ?_) (bm 21 78719) rfl rfl (take_ofW HT_.out HW_.out (by kernel_rfl)) (fun _ _ _ h => h) (Or.inl ⟨by rfl, ?_⟩) hHeld ?_ ?_
      rotate_left
      ·rintro w' ⟨s0, s1, s2, s3, s4, s5, s6, s7⟩
       go_simp
       with_reducible rfl
      rotate_left
      ·simp only [Act.put, sA, sZ, sS, i64_w, i32_w]
       rfl
      refine take_ (i := 17) (N := some 67) (v := ?_) (a' := ?_) (bm 21 209791) rfl rfl (take_ofW HT_.out HW_.out (by kernel_rfl)) (fun _ _ _ h => h) (Or.inl ⟨by rfl, ?_⟩) hHeld ?_ ?_
      rotate_left
      ·rintro w' ⟨s0, s1, s2, s3, s4, s5, s6, s7⟩
       go_simp
       with_reducible rfl
      rotate_left
      ·simp only [Act.put, sA, sZ, sS, i64_w, i32_w]
       rfl
      refine one_ (i := 7) (N := some 57) (bm 21 209919) rfl rfl (one_of HT_.out (by kernel_rfl)) (by decide) (fun K hK => ?_)
      refine goes_ Try.func180 (by kernel_rfl) rfl #[.int .i64 (Go.bits .or .i64 (Go.bits .or .i64 192 (wrap64 (a0_0 * 16))) a0_1), .int .i64 1] (by rfl) rfl rfl (by (try simp only [List.map_toArray, List.map_cons, List.map_nil]); first | done | rfl | (simp only [List.length_drop, List.length_take]; rfl)) ?_
      with_reducible refine (spec_l1Fixed.calls k (Go.bits .or .i64 (Go.bits .or .i64 192 (wrap64 (a0_0 * 16))) a0_1) 1 t127 _ A32.out).mono ?_
      rintro e w43 ⟨rfl, hb⟩
      refine ⟨_, rfl, ?_⟩
      have n0_ := Aside0.mk (blk_below (g := gb119) (o := .cells #[.int .i64 a0_0, .int .i64 a0_1, .int .i64 a0_2, .string a0_3, .string a0_4, .string a0_5, .string a0_6, .slice A0_7 l0_7.length c0_7] 95 (0, 0)) (by (with_reducible repeat (first | refine bN ?_ _ | refine bD ?_ | refine bA ?_ _)); exact BK119.out) hb)
      have n1_ := Aside0.mk (below_step (by repeat (first | (with_reducible first | exact HB.out | apply below_alloc | apply pw_below_drewN | apply below_drew1 | refine below_set ?_ GE119.out) | exact HB.out)) hb)
      clear BK119
      clear HB
      have BK119 := n0_
      have HB := n1_
      clear n0_ n1_
      (try clear hb)
      (try clear hb2)
      (try clear hk)
      (try clear hi)
      refine hK.out _ _ ⟨(blk_cell BK119.out 0).trans rfl, (blk_cell BK119.out 1).trans rfl, (blk_cell BK119.out 2).trans rfl, (blk_cell BK119.out 3).trans rfl, (blk_cell BK119.out 4).trans rfl, (blk_cell BK119.out 5).trans rfl, (blk_cell BK119.out 6).trans rfl, (blk_cell BK119.out 7).trans rfl⟩ (fun hHeld => ?_)
      clear hK K
      refine norm_ (a' := ?_) ?_ ?_
      rotate_left
      ·show Act.put _ (some 57) _ = _
       simp only [Act.put, sA, sZ, sS, i64_w, i32_w]
       rfl
      refine one_ (i := 10) (N := some 60) (bm 21 210943) rfl rfl (one_of HT_.out (by kernel_rfl)) (by decide) (fun K hK => ?_)
      refine goes_ Try.func180 (by kernel_rfl) rfl #[.int .i64 a0_2, .int .i64 4] (by rfl) rfl rfl (by (try simp only [List.map_toArray, List.map_cons, List.map_nil]); first | done | rfl | (simp only [List.length_drop, List.length_take]; rfl)) ?_
      with_reducible refine (spec_l1Fixed.calls k a0_2 4 t128 _ A33.out).mono ?_
      rintro e w44 ⟨rfl, hb⟩
      refine ⟨_, rfl, ?_⟩
      have n0_ := Aside0.mk (blk_below (g := gb119) (o := .cells #[.int .i64 a0_0, .int .i64 a0_1, .int .i64 a0_2, .string a0_3, .string a0_4, .string a0_5, .string a0_6, .slice A0_7 l0_7.length c0_7] 95 (0, 0)) (by (with_reducible repeat (first | refine bN ?_ _ | refine bD ?_ | refine bA ?_ _)); exact BK119.out) hb)
      have n1_ := Aside0.mk (below_step (by repeat (first | (with_reducible first | exact HB.out | apply below_alloc | apply pw_below_drewN | apply below_drew1 | refine below_set ?_ GE119.out) | exact HB.out)) hb)
      clear BK119
      clear HB
      have BK119 := n0_
      have HB := n1_
      clear n0_ n1_
      (try clear hb)
      (try clear hb2)
      (try clear hk)
      (try clear hi)
      refine hK.out _ _ ⟨(blk_cell BK119.out 0).trans rfl, (blk_cell BK119.out 1).trans rfl, (blk_cell BK119.out 2).trans rfl, (blk_cell BK119.out 3).trans rfl, (blk_cell BK119.out 4).trans rfl, (blk_cell BK119.out 5).trans rfl, (blk_cell BK119.out 6).trans rfl, (blk_cell BK119.out 7).trans rfl⟩ (fun hHeld => ?_)
      clear hK K
      refine norm_ (a' := ?_) ?_ ?_
      rotate_left
      ·show Act.put _ (some 60) _ = _
       simp only [Act.put, sA, sZ, sS, i64_w, i32_w]
       rfl
      refine pure_ (i := 11) (N := some 61) (v := ?_) (a' := ?_) (bm 21 212991) rfl rfl (any_of HT_.out (by kernel_rfl)) (fun _ _ _ h => h) (Or.inl ⟨by rfl, ?_⟩) ?_ ?_
      rotate_left
      ·intro w'
       go_simp
       with_reducible rfl
      rotate_left
      ·simp only [Act.put, sA, sZ, sS, i64_w, i32_w]
       rfl
      refine one_ (i := 14) (N := some 64) (bm 21 229375) rfl rfl (one_of HT_.out (by kernel_rfl)) (by decide) (fun K hK => ?_)
      refine goes_ Try.func181 (by kernel_rfl) rfl #[.string a0_3] (by rfl) rfl rfl (by (try simp only [List.map_toArray, List.map_cons, List.map_nil]); first | done | rfl | (simp only [List.length_drop, List.length_take]; rfl)) ?_
      with_reducible refine (spec_l2Id.calls k a0_3 t129 _ A35.out).mono ?_
      rintro e w45 ⟨rfl, hb⟩
      refine ⟨_, rfl, ?_⟩
      have n0_ := Aside0.mk (blk_below (g := gb119) (o := .cells #[.int .i64 a0_0, .int .i64 a0_1, .int .i64 a0_2, .string a0_3, .string a0_4, .string a0_5, .string a0_6, .slice A0_7 l0_7.length c0_7] 95 (0, 0)) (by (with_reducible repeat (first | refine bN ?_ _ | refine bD ?_ | refine bA ?_ _)); exact BK119.out) hb)
      have n1_ := Aside0.mk (below_step (by repeat (first | (with_reducible first | exact HB.out | apply below_alloc | apply pw_below_drewN | apply below_drew1 | refine below_set ?_ GE119.out) | exact HB.out)) hb)
      clear BK119
      clear HB
      have BK119 := n0_
      have HB := n1_
      clear n0_ n1_
      (try clear hb)
      (try clear hb2)
      (try clear hk)
      (try clear hi)
      refine hK.out _ _ ⟨(blk_cell BK119.out 0).trans rfl, (blk_cell BK119.out 1).trans rfl, (blk_cell BK119.out 2).trans rfl, (blk_cell BK119.out 3).trans rfl, (blk_cell BK119.out 4).trans rfl, (blk_cell BK119.out 5).trans rfl, (blk_cell BK119.out 6).trans rfl, (blk_cell BK119.out 7).trans rfl⟩ (fun hHeld => ?_)
      clear hK K
      refine norm_ (a' := ?_) ?_ ?_
      rotate_left
      ·show Act.put _ (some 64) _ = _
       simp only [Act.put, sA, sZ, sS, i64_w, i32_w]
       rfl
      refine pure_ (i := 15) (N := some 65) (v := ?_) (a' := ?_) (bm 21 262143) rfl rfl (any_of HT_.out (by kernel_rfl)) (fun _ _ _ h => h) (Or.inl ⟨by rfl, ?_⟩) ?_ ?_
      rotate_left
      ·intro w'
       go_simp
       with_reducible rfl
      rotate_left
      ·simp only [Act.put, sA, sZ, sS, i64_w, i32_w]
       rfl
      refine one_ (i := 18) (N := some 68) (bm 21 524287) rfl rfl (one_of HT_.out (by kernel_rfl)) (by decide) (fun K hK => ?_)
      refine goes_ Try.func181 (by kernel_rfl) rfl #[.string a0_4] (by rfl) rfl rfl (by (try simp only [List.map_toArray, List.map_cons, List.map_nil]); first | done | rfl | (simp only [List.length_drop, List.length_take]; rfl)) ?_
      with_reducible refine (spec_l2Id.calls k a0_4 t130 _ A37.out).mono ?_
      rintro e w46 ⟨rfl, hb⟩
      refine ⟨_, rfl, ?_⟩
      have n0_ := Aside0.mk (blk_below (g := gb119) (o := .cells #[.int .i64 a0_0, .int .i64 a0_1, .int .i64 a0_2, .string a0_3, .string a0_4, .string a0_5, .string a0_6, .slice A0_7 l0_7.length c0_7] 95 (0, 0)) (by (with_reducible repeat (first | refine bN ?_ _ | refine bD ?_ | refine bA ?_ _)); exact BK119.out) hb)
      have n1_ := Aside0.mk (below_step (by repeat (first | (with_reducible first | exact HB.out | apply below_alloc | apply pw_below_drewN | apply below_drew1 | refine below_set ?_ GE119.out) | exact HB.out)) hb)
      clear BK119
      clear HB
      have BK119 := n0_
      have HB := n1_
      clear n0_ n1_
      (try clear hb)
      (try clear hb2)
      (try clear hk)
      (try clear hi)
      refine hK.out _ _ ⟨(blk_cell BK119.out 0).trans rfl, (blk_cell BK119.out 1).trans rfl, (blk_cell BK119.out 2).trans rfl, (blk_cell BK119.out 3).trans rfl, (blk_cell BK119.out 4).trans rfl, (blk_cell BK119.out 5).trans rfl, (blk_cell BK119.out 6).trans rfl, (blk_cell BK119.out 7).trans rfl⟩ (fun hHeld => ?_)
      clear hK K
      refine norm_ (a' := ?_) ?_ ?_
      rotate_left
      ·show Act.put _ (some 68) _ = _
       simp only [Act.put, sA, sZ, sS, i64_w, i32_w]
       rfl
      refine pure_ (i := 19) (N := some 69) (v := ?_) (a' := ?_) (bm 21 1048575) rfl rfl (any_of HT_.out (by kernel_rfl)) (fun _ _ _ h => h) (Or.inl ⟨by rfl, ?_⟩) ?_ ?_
      rotate_left
      ·intro w'
       go_simp
       with_reducible rfl
      rotate_left
      ·simp only [Act.put, sA, sZ, sS, i64_w, i32_w]
       rfl
      refine pure_ (i := 20) (N := some 6) (v := ?_) (a' := ?_) (bm 21 2097151) rfl rfl (any_of HT_.out (by kernel_rfl)) (fun _ _ _ h => h) (Or.inl ⟨by rfl, ?_⟩) ?_ ?_
      rotate_left
      ·intro w'
       go_simp
       with_reducible rfl
      rotate_left
      ·simp only [Act.put, sA, sZ, sS, i64_w, i32_w]
       rfl
      refine done_ (done_of HT_.out (by kernel_rfl)) ?_
      obtain ⟨hcz47_0, hcz47_1, hcz47_2, hcz47_3, hcz47_4, hcz47_5, hcz47_6, hcz47_7⟩ := cz8 BK119
      obtain ⟨hfz47_0, hfz47_1, hfz47_2, hfz47_3, hfz47_4, hfz47_5, hfz47_6, hfz47_7⟩ := fz8 BK119
      go_upto_if 72 with (fail)
      go_cut [6] (fun v6 wc => ∃ (kq : Nat) (x6_38 : ByteArray), v6 = .string x6_38 ∧ Aside0 (spec_l2Bytes.j1 kq x6_38 a0_0 a0_1 a0_2 a0_3 a0_4 a0_5 a0_6 l0_7 = some r) ∧ Aside0 (kq ≤ k) ∧ Aside0 (wc.heap[gb119]? = some (.cells #[.int .i64 a0_0, .int .i64 a0_1, .int .i64 a0_2, .string a0_3, .string a0_4, .string a0_5, .string a0_6, (.slice A0_7 l0_7.length c0_7)] 95 (0, 0))) ∧ Aside0 (Below w.heap.size w wc))
      case first =>
       have H := HC39.out
       clear HC39
       by_cases c48 : a0_0 = 0
       ·rw [if_pos c48] at H
        have c48b0 : (a0_0 == 0) = true := beq_iff_eq.mpr c48
        have c48b1 : (a0_0 != 0) = false := bne_eq_false_iff_eq.mpr c48
        clear c48
        (first | rw [c48b0] | (simp only [i64_w, i32_w]; rw [c48b0]) | skip)
        replace H := Option.bind_eq_some_iff.mp H
        obtain ⟨t131, A490, H⟩ := H
        replace H : (if t131.size + a0_5.size ≤ 9223372036854775807 then (if (((t127 ++ t128) ++ t129) ++ t130).size + (t131 ++ a0_5).size ≤ 9223372036854775807 then (spec_l2Bytes.j1 k ((((t127 ++ t128) ++ t129) ++ t130) ++ (t131 ++ a0_5)) a0_0 a0_1 a0_2 a0_3 a0_4 a0_5 a0_6 l0_7) else (none)) else (none)) = some r := H
        have A49 := Aside0.mk A490
        clear A490
        by_cases c50 : t131.size + a0_5.size ≤ 9223372036854775807
        ·rw [if_pos c50] at H
         have c50b0 := eq_true c50
         have c50b1 : decide (t131.size + a0_5.size ≤ 9223372036854775807) = true := decide_eq_true c50
         try have c50b2 : (9223372036854775807 < t131.size + a0_5.size) = False := eq_false (Nat.not_lt.2 c50)
         by_cases c51 : (((t127 ++ t128) ++ t129) ++ t130).size + (t131 ++ a0_5).size ≤ 9223372036854775807
         ·rw [if_pos c51] at H
          have c51b0 := eq_true c51
          have c51b1 : decide ((((t127 ++ t128) ++ t129) ++ t130).size + (t131 ++ a0_5).size ≤ 9223372036854775807) = true := decide_eq_true c51
          try have c51b2 : (9223372036854775807 < (((t127 ++ t128) ++ t129) ++ t130).size + (t131 ++ a0_5).size) = False := eq_false (Nat.not_lt.2 c51)
          try have c51b3 : (9223372036854775807 < _) = False := (by have sz_app := c51b2; simp only [ByteArray.size_append] at sz_app; exact sz_app)
          have H' := Aside0.mk H
          clear H
          try go_wp2
          have n0_ := Aside0.mk (blk_drew BK119.out)
          have n1_ := Aside0.mk (below_drew1 HB.out)
          clear BK119
          clear HB
          have BK119 := n0_
          have HB := n1_
          clear n0_ n1_
          refine start_ (n := 10) (S := fun w' => w'.cell? ⟨gb119, 0, none⟩ = some (.int .i64 a0_0) ∧ w'.cell? ⟨gb119, 1, none⟩ = some (.int .i64 a0_1) ∧ w'.cell? ⟨gb119, 2, none⟩ = some (.int .i64 a0_2) ∧ w'.cell? ⟨gb119, 3, none⟩ = some (.string a0_3) ∧ w'.cell? ⟨gb119, 4, none⟩ = some (.string a0_4) ∧ w'.cell? ⟨gb119, 5, none⟩ = some (.string a0_5) ∧ w'.cell? ⟨gb119, 6, none⟩ = some (.string a0_6) ∧ w'.cell? ⟨gb119, 7, none⟩ = some (.slice A0_7 l0_7.length c0_7)) (ds := []) (bm 10 0) (by kernel_rfl) rfl rfl ⟨(blk_cell BK119.out 0).trans rfl, (blk_cell BK119.out 1).trans rfl, (blk_cell BK119.out 2).trans rfl, (blk_cell BK119.out 3).trans rfl, (blk_cell BK119.out 4).trans rfl, (blk_cell BK119.out 5).trans rfl, (blk_cell BK119.out 6).trans rfl, (blk_cell BK119.out 7).trans rfl⟩ (fun hHeld => ?_); refine with_tabW spec_l2Bytes.tab14 spec_l2Bytes.bits14 (fun HT_ HW_ => ?_)
          generalize w46.drew = w52 at BK119 HB hHeld ⊢
          refine pure_ (i := 0) (N := some 73) (v := ?_) (a' := ?_) (bm 10 1) rfl rfl (any_of HT_.out (by kernel_rfl)) (fun _ _ _ h => h) (Or.inl ⟨by rfl, ?_⟩) ?_ ?_
          rotate_left
          ·intro w'
           go_simp
           with_reducible rfl
          rotate_left
          ·simp only [Act.put, sA, sZ, sS, i64_w, i32_w]
           rfl
          refine pure_ (i := 1) (N := some 74) (v := ?_) (a' := ?_) (bm 10 3) rfl rfl (any_of HT_.out (by kernel_rfl)) (fun _ _ _ h => h) (Or.inl ⟨by rfl, ?_⟩) ?_ ?_
          rotate_left
          ·intro w'
           go_simp
           with_reducible rfl
          rotate_left
          ·simp only [Act.put, sA, sZ, sS, i64_w, i32_w]
           rfl
          refine pure_ (i := 5) (N := some 78) (v := ?_) (a' := ?_) (bm 10 35) rfl rfl (any_of HT_.out (by kernel_rfl)) (fun _ _ _ h => h) (Or.inl ⟨by rfl, ?_⟩) ?_ ?_
          rotate_left
          ·intro w'
           go_simp
           with_reducible rfl
          rotate_left
          ·simp only [Act.put, sA, sZ, sS, i64_w, i32_w]
           rfl
          refine take_ (i := 2) (N := some 75) (v := ?_) (a' := ?_) (bm 10 39) rfl rfl (take_ofW HT_.out HW_.out (by kernel_rfl)) (fun _ _ _ h => h) (Or.inl ⟨by rfl, ?_⟩) hHeld ?_ ?_
          rotate_left
          ·rintro w' ⟨s0, s1, s2, s3, s4, s5, s6, s7⟩
           go_simp
           with_reducible rfl
          rotate_left
          ·simp only [Act.put, sA, sZ, sS, i64_w, i32_w]
           rfl
          refine pure_ (i := 3) (N := some 76) (v := ?_) (a' := ?_) (bm 10 47) rfl rfl (any_of HT_.out (by kernel_rfl)) (fun _ _ _ h => h) (Or.inl ⟨by rfl, ?_⟩) ?_ ?_
          rotate_left
          ·intro w'
           go_simp
           with_reducible rfl
          rotate_left
          ·simp only [Act.put, sA, sZ, sS, i64_w, i32_w]
           rfl
          refine take_ (i := 6) (N := some 79) (v := ?_) (a' := ?_) (bm 10 111) rfl rfl (take_ofW HT_.out HW_.out (by kernel_rfl)) (fun _ _ _ h => h) (Or.inl ⟨by rfl, ?_⟩) hHeld ?_ ?_
          rotate_left
          ·rintro w' ⟨s0, s1, s2, s3, s4, s5, s6, s7⟩
           go_simp
           with_reducible rfl
          rotate_left
          ·simp only [Act.put, sA, sZ, sS, i64_w, i32_w]
           rfl
          refine one_ (i := 4) (N := some 77) (bm 10 127) rfl rfl (one_of HT_.out (by kernel_rfl)) (by decide) (fun K hK => ?_)
          refine goes_ Try.func160 (by kernel_rfl) rfl #[.int .i64 (a0_5.size : Int)] (by rfl) rfl rfl (by (try simp only [List.map_toArray, List.map_cons, List.map_nil]); first | done | rfl | (simp only [List.length_drop, List.length_take]; rfl)) ?_
          with_reducible refine (spec_l1Var.calls k (a0_5.size : Int) t131 _ A49.out).mono ?_
          rintro e w53 ⟨rfl, hb⟩
          refine ⟨_, rfl, ?_⟩
          have n0_ := Aside0.mk (blk_below (g := gb119) (o := .cells #[.int .i64 a0_0, .int .i64 a0_1, .int .i64 a0_2, .string a0_3, .string a0_4, .string a0_5, .string a0_6, .slice A0_7 l0_7.length c0_7] 95 (0, 0)) (by (with_reducible repeat (first | refine bN ?_ _ | refine bD ?_ | refine bA ?_ _)); exact BK119.out) hb)
          have n1_ := Aside0.mk (below_step (by repeat (first | (with_reducible first | exact HB.out | apply below_alloc | apply pw_below_drewN | apply below_drew1 | refine below_set ?_ GE119.out) | exact HB.out)) hb)
          clear BK119
          clear HB
          have BK119 := n0_
          have HB := n1_
          clear n0_ n1_
          (try clear hb)
          (try clear hb2)
          (try clear hk)
          (try clear hi)
          refine hK.out _ _ ⟨(blk_cell BK119.out 0).trans rfl, (blk_cell BK119.out 1).trans rfl, (blk_cell BK119.out 2).trans rfl, (blk_cell BK119.out 3).trans rfl, (blk_cell BK119.out 4).trans rfl, (blk_cell BK119.out 5).trans rfl, (blk_cell BK119.out 6).trans rfl, (blk_cell BK119.out 7).trans rfl⟩ (fun hHeld => ?_)
          clear hK K
          refine norm_ (a' := ?_) ?_ ?_
          rotate_left
          ·show Act.put _ (some 77) _ = _
           simp only [Act.put, sA, sZ, sS, i64_w, i32_w]
           rfl
          refine pure_ (i := 7) (N := some 80) (v := ?_) (a' := ?_) (bm 10 255) rfl rfl (any_of HT_.out (by kernel_rfl)) (fun _ _ _ h => h) (Or.inl ⟨by rfl, ?_⟩) ?_ ?_
          rotate_left
          ·intro w'
           go_simp
           with_reducible rfl
          rotate_left
          ·simp only [Act.put, sA, sZ, sS, i64_w, i32_w]
           rfl
          refine pure_ (i := 8) (N := some 81) (v := ?_) (a' := ?_) (bm 10 511) rfl rfl (any_of HT_.out (by kernel_rfl)) (fun _ _ _ h => h) (Or.inl ⟨by rfl, ?_⟩) ?_ ?_
          rotate_left
          ·intro w'
           go_simp
           with_reducible rfl
          rotate_left
          ·simp only [Act.put, sA, sZ, sS, i64_w, i32_w]
           rfl
          refine pure_ (i := 9) (N := some 6) (v := ?_) (a' := ?_) (bm 10 1023) rfl rfl (any_of HT_.out (by kernel_rfl)) (fun _ _ _ h => h) (Or.inl ⟨by rfl, ?_⟩) ?_ ?_
          rotate_left
          ·intro w'
           go_simp
           with_reducible rfl
          rotate_left
          ·simp only [Act.put, sA, sZ, sS, i64_w, i32_w]
           rfl
          refine done_ (done_of HT_.out (by kernel_rfl)) ?_
          try go_wp2
          go_meet
          case rel => exact ⟨_, ((((t127 ++ t128) ++ t129) ++ t130) ++ (t131 ++ a0_5)), (by first | rfl | (simp; done) | (simp [*]; done)), H', ⟨by first | omega | exact Nat.le_refl _⟩, ⟨by (with_reducible repeat (first | refine bN ?_ _ | refine bD ?_ | refine bA ?_ _)); exact BK119.out⟩, ⟨by repeat (first | (with_reducible first | exact HB.out | apply below_alloc | apply pw_below_drewN | apply below_drew1 | refine below_set ?_ GE119.out) | exact HB.out)⟩⟩
         ·rw [if_neg c51] at H
          exact absurd H (by simp)
        ·rw [if_neg c50] at H
         exact absurd H (by simp)
       ·rw [if_neg c48] at H
        have c48b0 : (a0_0 == 0) = false := beq_eq_false_iff_ne.mpr c48
        have c48b1 : (a0_0 != 0) = true := bne_iff_ne.mpr c48
        (first | rw [c48b0] | (simp only [i64_w, i32_w]; rw [c48b0]) | skip)
        have H' := Aside0.mk H
        clear H
        go_wp2
        go_meet
        case rel => exact ⟨_, (((t127 ++ t128) ++ t129) ++ t130), (by first | rfl | (simp; done) | (simp [*]; done)), H', ⟨by first | omega | exact Nat.le_refl _⟩, ⟨by (with_reducible repeat (first | refine bN ?_ _ | refine bD ?_ | refine bA ?_ _)); exact BK119.out⟩, ⟨by repeat (first | (with_reducible first | exact HB.out | apply below_alloc | apply pw_below_drewN | apply below_drew1 | refine below_set ?_ GE119.out) | exact HB.out)⟩⟩
      case rest =>
       clear HC39
       try clear c1
       try clear p1
       try clear q1
       try clear hx1
       try clear c2
       try clear c2b0
       try clear c2b1
       try clear p2
       try clear c3
       try clear c4
       try clear c4b0
       try clear c4b1
       try clear c4b2
       try clear c5
       try clear c5b0
       try clear c5b1
       try clear c5b2
       try clear p6
       try clear c10
       try clear c10b0
       try clear c10b1
       try clear p12
       try clear q12
       try clear hx12
       try clear c13
       try clear c13b0
       try clear c13b1
       try clear c13b2
       try clear c15
       try clear c15b0
       try clear c15b1
       try clear c15b2
       try clear c16
       try clear c17
       try clear c17b0
       try clear c17b1
       try clear c17b2
       try clear c18
       try clear c26
       try clear c26b0
       try clear c27
       try clear c27b0
       try clear c28
       try clear c28b0
       try clear c30
       try clear c30b0
       try clear c30b1
       try clear c30b2
       try clear c34
       try clear c34b0
       try clear c34b1
       try clear c34b2
       try clear c36
       try clear c36b0
       try clear c36b1
       try clear c36b2
       try clear c38
       try clear c38b0
       try clear c38b1
       try clear c38b2
       try clear c48
       try clear c48b0
       try clear c48b1
       try clear c50
       try clear c50b0
       try clear c50b1
       try clear c50b2
       try clear c51
       try clear c51b0
       try clear c51b1
       try clear c51b2
       try clear hcz19_0
       try clear hcz19_1
       try clear hcz19_2
       try clear hcz19_3
       try clear hcz19_4
       try clear hcz19_5
       try clear hcz19_6
       try clear hcz19_7
       try clear hcz25_0
       try clear hcz25_1
       try clear hcz25_2
       try clear hcz25_3
       try clear hcz25_4
       try clear hcz25_5
       try clear hcz25_6
       try clear hcz25_7
       try clear hcz41_0
       try clear hcz41_1
       try clear hcz41_2
       try clear hcz41_3
       try clear hcz41_4
       try clear hcz41_5
       try clear hcz41_6
       try clear hcz41_7
       try clear hcz47_0
       try clear hcz47_1
       try clear hcz47_2
       try clear hcz47_3
       try clear hcz47_4
       try clear hcz47_5
       try clear hcz47_6
       try clear hcz47_7
       try clear hcz7_0
       try clear hcz7_1
       try clear hcz7_2
       try clear hcz7_3
       try clear hcz7_4
       try clear hcz7_5
       try clear hcz7_6
       try clear hcz7_7
       try clear hfz19_0
       try clear hfz19_1
       try clear hfz19_2
       try clear hfz19_3
       try clear hfz19_4
       try clear hfz19_5
       try clear hfz19_6
       try clear hfz19_7
       try clear hfz25_0
       try clear hfz25_1
       try clear hfz25_2
       try clear hfz25_3
       try clear hfz25_4
       try clear hfz25_5
       try clear hfz25_6
       try clear hfz25_7
       try clear hfz41_0
       try clear hfz41_1
       try clear hfz41_2
       try clear hfz41_3
       try clear hfz41_4
       try clear hfz41_5
       try clear hfz41_6
       try clear hfz41_7
       try clear hfz47_0
       try clear hfz47_1
       try clear hfz47_2
       try clear hfz47_3
       try clear hfz47_4
       try clear hfz47_5
       try clear hfz47_6
       try clear hfz47_7
       try clear hfz7_0
       try clear hfz7_1
       try clear hfz7_2
       try clear hfz7_3
       try clear hfz7_4
       try clear hfz7_5
       try clear hfz7_6
       try clear hfz7_7
       try clear hx125_0
       try clear p125
       try clear p2
       try clear p6
       try clear q125
       obtain ⟨kq, x6_38, rfl, HA, HJ38, BK119, HB⟩ := hcut
       cases kq with
       | zero => exact absurd HA.out (by simp [spec_l2Bytes.j1])
       | succ kj38 =>
        have H := HA.out
        clear HA
        simp only [spec_l2Bytes.j1] at H
        by_cases c54 : a0_0 = 3
        ·rw [if_pos c54] at H
         have c54b0 : (a0_0 == 3) = true := beq_iff_eq.mpr c54
         have c54b1 : (a0_0 != 3) = false := bne_eq_false_iff_eq.mpr c54
         clear c54
         by_cases c55 : x6_38.size + a0_6.size ≤ 9223372036854775807
         ·rw [if_pos c55] at H
          have c55b0 := eq_true c55
          have c55b1 : decide (x6_38.size + a0_6.size ≤ 9223372036854775807) = true := decide_eq_true c55
          try have c55b2 : (9223372036854775807 < x6_38.size + a0_6.size) = False := eq_false (Nat.not_lt.2 c55)
          obtain rfl := Option.some.inj H
          obtain ⟨hcz56_0, hcz56_1, hcz56_2, hcz56_3, hcz56_4, hcz56_5, hcz56_6, hcz56_7⟩ := cz8 BK119
          obtain ⟨hfz56_0, hfz56_1, hfz56_2, hfz56_3, hfz56_4, hfz56_5, hfz56_6, hfz56_7⟩ := fz8 BK119
          go_wp2
          go_ret
          exact ⟨by first | rfl | (simp [errW_none, errW_some] <;> rfl) | (simp [*, errW_none, errW_some] <;> rfl), by repeat (first | (with_reducible first | exact HB.out | apply below_alloc | apply pw_below_drewN | apply below_drew1 | refine below_set ?_ GE119.out) | exact HB.out)⟩
         ·rw [if_neg c55] at H
          exact absurd H (by simp)
        ·rw [if_neg c54] at H
         have c54b0 : (a0_0 == 3) = false := beq_eq_false_iff_ne.mpr c54
         have c54b1 : (a0_0 != 3) = true := bne_iff_ne.mpr c54
         replace H := Option.bind_eq_some_iff.mp H
         obtain ⟨t132, A570, H⟩ := H
         replace H : (if x6_38.size + t132.size ≤ 9223372036854775807 then (if (x6_38 ++ t132).size + a0_6.size ≤ 9223372036854775807 then (some ((x6_38 ++ t132) ++ a0_6)) else (none)) else (none)) = some r := H
         have A57 := Aside0.mk A570
         clear A570
         by_cases c58 : x6_38.size + t132.size ≤ 9223372036854775807
         ·rw [if_pos c58] at H
          have c58b0 := eq_true c58
          have c58b1 : decide (x6_38.size + t132.size ≤ 9223372036854775807) = true := decide_eq_true c58
          try have c58b2 : (9223372036854775807 < x6_38.size + t132.size) = False := eq_false (Nat.not_lt.2 c58)
          by_cases c59 : (x6_38 ++ t132).size + a0_6.size ≤ 9223372036854775807
          ·rw [if_pos c59] at H
           have c59b0 := eq_true c59
           have c59b1 : decide ((x6_38 ++ t132).size + a0_6.size ≤ 9223372036854775807) = true := decide_eq_true c59
           try have c59b2 : (9223372036854775807 < (x6_38 ++ t132).size + a0_6.size) = False := eq_false (Nat.not_lt.2 c59)
           try have c59b3 : (9223372036854775807 < _) = False := (by have sz_app := c59b2; simp only [ByteArray.size_append] at sz_app; exact sz_app)
           obtain rfl := Option.some.inj H
           obtain ⟨hcz60_0, hcz60_1, hcz60_2, hcz60_3, hcz60_4, hcz60_5, hcz60_6, hcz60_7⟩ := cz8 BK119
           obtain ⟨hfz60_0, hfz60_1, hfz60_2, hfz60_3, hfz60_4, hfz60_5, hfz60_6, hfz60_7⟩ := fz8 BK119
           go_wp2_with (first | ((with_reducible refine gate_callee (f := 180) rfl ?_); refine goesL_ (some 90) rfl rfl Try.func180 (by kernel_rfl) rfl #[.int .i64 (Go.bits .or .i64 (a0_6.size : Int) 16384), .int .i64 2] rfl (by (try simp only [List.map_toArray, List.map_cons, List.map_nil]); first | done | rfl | (simp only [List.length_drop, List.length_take]; rfl)) ?_; (with_reducible refine (spec_l1Fixed.calls kj38 (Go.bits .or .i64 (a0_6.size : Int) 16384) 2 t132 _ A57.out).mono ?_); rintro e w61 ⟨rfl, hb⟩; refine ⟨_, rfl, ?_⟩; have n0_ := Aside0.mk (blk_below (g := gb119) (o := .cells #[.int .i64 a0_0, .int .i64 a0_1, .int .i64 a0_2, .string a0_3, .string a0_4, .string a0_5, .string a0_6, .slice A0_7 l0_7.length c0_7] 95 (0, 0)) (by (with_reducible repeat (first | refine bN ?_ _ | refine bD ?_ | refine bA ?_ _)); exact BK119.out) hb); have n1_ := Aside0.mk (below_step (by repeat (first | (with_reducible first | exact HB.out | apply below_alloc | apply pw_below_drewN | apply below_drew1 | refine below_set ?_ GE119.out) | exact HB.out)) hb); clear BK119; clear HB; have BK119 := n0_; have HB := n1_; clear n0_ n1_; (try clear hb); (try clear hb2); (try clear hk); (try clear hi); obtain ⟨hcz62_0, hcz62_1, hcz62_2, hcz62_3, hcz62_4, hcz62_5, hcz62_6, hcz62_7⟩ := cz8 BK119; obtain ⟨hfz62_0, hfz62_1, hfz62_2, hfz62_3, hfz62_4, hfz62_5, hfz62_6, hfz62_7⟩ := fz8 BK119))
           go_ret
           exact ⟨by first | rfl | (simp [errW_none, errW_some] <;> rfl) | (simp [*, errW_none, errW_some] <;> rfl), by repeat (first | (with_reducible first | exact HB.out | apply below_alloc | apply pw_below_drewN | apply below_drew1 | refine below_set ?_ GE119.out) | exact HB.out)⟩
          ·rw [if_neg c59] at H
           exact absurd H (by simp)
         ·rw [if_neg c58] at H
          exact absurd H (by simp)
     ·rw [if_neg c38] at H
      exact absurd H (by simp)
    ·rw [if_neg c36] at H
     exact absurd H (by simp)
   ·rw [if_neg c34] at H
    exact absurd H (by simp)

end Go.Proofs.Ythkmjfapljmmpaa.PFnExactHeaderBytes
