-- Written by a program of this session (wip/xprint.py).
import Derived.Test.YthkmjfapljmmpaaPFnExactNextPiecex0
import Derived.Test.YthkmjfapljmmpaaPFnExactNextPiecex1
namespace Go.Proofs.Ythkmjfapljmmpaa.PFnExactNextPiece
open Go.RowKit Go.Proofs.YthkmjfapljmmpaaW.PrintWords Go.Proofs.YthkmjfapljmmpaaW.PrintLast Go.Proofs.YthkmjfapljmmpaaW.PrintMore
open Go.Proofs.Ythkmjfapljmmpaa.ShortK (bN bD bA sA sZ sS mR mB bX bLt bS cz2 fz2 cx2 cz3 fz3 cx3 cz4 fz4 cx4 cz5 fz5 cx5 cz6 fz6 cx6 cz7 fz7 cx7 cz8 fz8 cx8 cz9 fz9 cx9 cz10 fz10 cx10 cz11 fz11 cx11 cz12 fz12 cx12)
open Go.Proofs.Ythkmjfapljmmpaa.StoreK (bm)
attribute [local go_sem] Go.Proofs.Ythkmjfapljmmpaa.StoreK.isSome_setCell max2_int min2_int max_two min_two max_three min_three max_four min_four   -- for this text's walks alone
set_option linter.unusedVariables false
set_option linter.unusedSimpArgs false

/-! ### spec_NextPiece: function 15 -/
mutual
def spec_NextPiece.j0 : Nat → Int → Bool → Int → Int → ByteArray → Bool → Option (Int × Int × ByteArray × Bool × Int × Int × Int × Int × Bool × ByteArray × (List (S203)) × Bool)
 | 0, _, _, _, _, _, _ => none
 | k + 1, x1, x16, x107000, x107001, x107002, x107003 => if x16 = true then (some (0, 0, (⟨#[]⟩ : ByteArray), false, 0, 0, 0, 0, false, (⟨#[]⟩ : ByteArray), ([] : List (S203)), false)) else (if (wrap64 (x107001 + x1)) > (x107002.size : Int) then (spec_NextPiece.j1 k (x107002.size : Int) x107000 x107001 x107002 x107003) else (spec_NextPiece.j1 k (wrap64 (x107001 + x1)) x107000 x107001 x107002 x107003))
def spec_NextPiece.j1 : Nat → Int → Int → Int → ByteArray → Bool → Option (Int × Int × ByteArray × Bool × Int × Int × Int × Int × Bool × ByteArray × (List (S203)) × Bool)
 | 0, _, _, _, _, _ => none
 | k + 1, x7, x107000, x107001, x107002, x107003 => if x7 > x107000 then (spec_NextPiece.j2 k x107000 x107000 x107001 x107002 x107003) else (spec_NextPiece.j2 k x7 x107000 x107001 x107002 x107003)
def spec_NextPiece.j2 : Nat → Int → Int → Int → ByteArray → Bool → Option (Int × Int × ByteArray × Bool × Int × Int × Int × Int × Bool × ByteArray × (List (S203)) × Bool)
 | 0, _, _, _, _, _ => none
 | k + 1, x7, x107000, x107001, x107002, x107003 => if 0 ≤ x107001 then (if x107001 ≤ x7 then (if x7 ≤ (x107002.size : Int) then (if x107003 = true then (if (x107002.extract (x107001 : Int).toNat (x7 : Int).toNat).toList = ([] : List UInt8) then (if (x7 = (x107002.size : Int)) then (some (x107000, x7, x107002, x107003, 8, 0, x107001, 0, (x7 == (x107002.size : Int)), x107002.extract (x107001 : Int).toNat (x7 : Int).toNat, ([] : List (S203)), true)) else (some (0, 0, (⟨#[]⟩ : ByteArray), false, 0, 0, 0, 0, false, (⟨#[]⟩ : ByteArray), ([] : List (S203)), false))) else (some (x107000, x7, x107002, x107003, 8, 0, x107001, 0, (x7 == (x107002.size : Int)), x107002.extract (x107001 : Int).toNat (x7 : Int).toNat, ([] : List (S203)), true))) else (if (x107002.extract (x107001 : Int).toNat (x7 : Int).toNat).toList = ([] : List UInt8) then (some (0, 0, (⟨#[]⟩ : ByteArray), false, 0, 0, 0, 0, false, (⟨#[]⟩ : ByteArray), ([] : List (S203)), false)) else (some (x107000, x7, x107002, x107003, 8, 0, x107001, 0, false, x107002.extract (x107001 : Int).toNat (x7 : Int).toNat, ([] : List (S203)), true)))) else (none)) else (none)) else (none)
end
def spec_NextPiece.f (k : Nat) (a0_0 : Int) (a0_1 : Int) (a0_2 : ByteArray) (a0_3 : Bool) (a1 : Int) : Option (Int × Int × ByteArray × Bool × Int × Int × Int × Int × Bool × ByteArray × (List (S203)) × Bool) := (spec_GoodOutflow.f a0_0 a0_1 a0_2 a0_3).bind fun t109 => (if t109 = true then ((spec_l1In.f a1 1 200).bind fun t110 => (spec_NextPiece.j0 k a1 (!t110) a0_0 a0_1 a0_2 a0_3)) else (spec_NextPiece.j0 k a1 true a0_0 a0_1 a0_2 a0_3))
theorem spec_NextPiece.mono_l : ∀ k, (∀ y0 y1 y2 y3 y4 y5, LeO (spec_NextPiece.j0 k y0 y1 y2 y3 y4 y5) (spec_NextPiece.j0 (k + 1) y0 y1 y2 y3 y4 y5)) ∧ (∀ y0 y1 y2 y3 y4, LeO (spec_NextPiece.j1 k y0 y1 y2 y3 y4) (spec_NextPiece.j1 (k + 1) y0 y1 y2 y3 y4)) ∧ (∀ y0 y1 y2 y3 y4, LeO (spec_NextPiece.j2 k y0 y1 y2 y3 y4) (spec_NextPiece.j2 (k + 1) y0 y1 y2 y3 y4))
 | 0 => ⟨fun _ _ _ _ _ _ r h => by simp [spec_NextPiece.j0] at h, fun _ _ _ _ _ r h => by simp [spec_NextPiece.j1] at h, fun _ _ _ _ _ r h => by simp [spec_NextPiece.j2] at h⟩
 | k + 1 => by
  obtain ⟨ih0, ih1, ih2⟩ := spec_NextPiece.mono_l k
  refine ⟨?_, ?_, ?_⟩
  ·intro y0 y1 y2 y3 y4 y5
   unfold spec_NextPiece.j0
   repeat' first
   | (with_reducible exact ih0 _ _ _ _ _ _)
   | (with_reducible exact ih1 _ _ _ _ _)
   | (with_reducible exact ih2 _ _ _ _ _)
   | (with_reducible exact LeO.refl _)
   | (with_reducible exact LeO.none _)
   | (with_reducible refine LeO.ite ?_ ?_)
   | (with_reducible refine LeO.bind ?_ (fun _ => ?_))
   | exact ih0 _ _ _ _ _ _
   | exact ih1 _ _ _ _ _
   | exact ih2 _ _ _ _ _
   | exact LeO.none _
   | refine LeO.ite ?_ ?_
   | refine LeO.bind ?_ (fun _ => ?_)
  ·intro y0 y1 y2 y3 y4
   unfold spec_NextPiece.j1
   repeat' first
   | (with_reducible exact ih0 _ _ _ _ _ _)
   | (with_reducible exact ih1 _ _ _ _ _)
   | (with_reducible exact ih2 _ _ _ _ _)
   | (with_reducible exact LeO.refl _)
   | (with_reducible exact LeO.none _)
   | (with_reducible refine LeO.ite ?_ ?_)
   | (with_reducible refine LeO.bind ?_ (fun _ => ?_))
   | exact ih0 _ _ _ _ _ _
   | exact ih1 _ _ _ _ _
   | exact ih2 _ _ _ _ _
   | exact LeO.none _
   | refine LeO.ite ?_ ?_
   | refine LeO.bind ?_ (fun _ => ?_)
  ·intro y0 y1 y2 y3 y4
   unfold spec_NextPiece.j2
   repeat' first
   | (with_reducible exact ih0 _ _ _ _ _ _)
   | (with_reducible exact ih1 _ _ _ _ _)
   | (with_reducible exact ih2 _ _ _ _ _)
   | (with_reducible exact LeO.refl _)
   | (with_reducible exact LeO.none _)
   | (with_reducible refine LeO.ite ?_ ?_)
   | (with_reducible refine LeO.bind ?_ (fun _ => ?_))
   | exact ih0 _ _ _ _ _ _
   | exact ih1 _ _ _ _ _
   | exact ih2 _ _ _ _ _
   | exact LeO.none _
   | refine LeO.ite ?_ ?_
   | refine LeO.bind ?_ (fun _ => ?_)
theorem spec_NextPiece.mono : ∀ a0 a1 a2 a3 a4 k, LeO (spec_NextPiece.f k a0 a1 a2 a3 a4) (spec_NextPiece.f (k + 1) a0 a1 a2 a3 a4) := by
 intro a0 a1 a2 a3 a4 k
 obtain ⟨ih0, ih1, ih2⟩ := spec_NextPiece.mono_l k
 unfold spec_NextPiece.f
 repeat' first
   | (with_reducible exact ih0 _ _ _ _ _ _)
   | (with_reducible exact ih1 _ _ _ _ _)
   | (with_reducible exact ih2 _ _ _ _ _)
   | (with_reducible exact LeO.refl _)
   | (with_reducible exact LeO.none _)
   | (with_reducible refine LeO.ite ?_ ?_)
   | (with_reducible refine LeO.bind ?_ (fun _ => ?_))
   | exact ih0 _ _ _ _ _ _
   | exact ih1 _ _ _ _ _
   | exact ih2 _ _ _ _ _
   | exact LeO.none _
   | refine LeO.ite ?_ ?_
   | refine LeO.bind ?_ (fun _ => ?_)
def spec_NextPiece.T8 : Bool × List (List Nat × List Nat) := (true, [([], []), ([0], [0]), ([], []), ([2], [2]), ([], []), ([4], [4]), ([], []), ([3, 5, 6], [3, 5, 6]), ([], []), ([8], [8]), ([9], [9]), ([10], [10]), ([10], [10]), ([12, 10], [10, 12]), ([13, 10], [10, 13]), ([11, 14, 10], [10, 11, 14]), ([10, 15], [10, 15]), ([1, 7, 16], [1, 7, 16]), ([], []), ([18, 17, 10, 0, 1, 2, 3, 4, 5, 6, 7, 8, 9, 10, 11, 12, 13, 14, 15, 16, 17, 18], [17, 18])])
def spec_NextPiece.B8 : List Nat := [0, 1, 0, 4, 0, 16, 0, 124, 0, 256, 768, 1792, 1792, 5888, 14080, 32512, 65280, 131071, 0, 524287]
theorem spec_NextPiece.tab8 : rtab .any (opsOf Try.f15 8) = spec_NextPiece.T8 := by kernel_rfl
theorem spec_NextPiece.bits8 : waitsOk spec_NextPiece.T8.2 spec_NextPiece.B8 = true := by kernel_rfl
set_option maxHeartbeats 64000000 in
set_option maxRecDepth 100000 in
theorem spec_NextPiece.calls (k : Nat) (a0_0 : Int) (a0_1 : Int) (a0_2 : ByteArray) (a0_3 : Bool) (a1 : Int) (r1 : Int) (r2 : Int) (r3 : ByteArray) (r4 : Bool) (r5 : Int) (r6 : Int) (r7 : Int) (r8 : Int) (r9 : Bool) (r10 : ByteArray) (r11 : List (S203)) (r12 : Bool) (w : World) (h : spec_NextPiece.f k a0_0 a0_1 a0_2 a0_3 a1 = some (r1, r2, r3, r4, r5, r6, r7, r8, r9, r10, r11, r12)) :
  Calls Try.prog 15 #[.agg #[.int .i64 a0_0, .int .i64 a0_1, .string a0_2, .bool a0_3], .int .i64 a1] w fun e w' => ∃ v10_ : Value, e = .returned (.tuple #[.agg #[.int .i64 r1, .int .i64 r2, .string r3, .bool r4], .agg #[.int .i64 r5, .int .i64 r6, .int .i64 r7, .int .i64 r8, .bool r9, .string r10, v10_], .bool r12]) ∧ Kd.R k203 203 w' w.heap.size (fun _ => True) v10_ r11 ∧ Below w.heap.size w w' := by
 have hu25 := Try.underlying25
 have hu28 := Try.underlying28
 have HB := Aside0.mk (Below.refl w.heap.size w)
 have H : ((spec_GoodOutflow.f a0_0 a0_1 a0_2 a0_3).bind fun t109 => (if t109 = true then ((spec_l1In.f a1 1 200).bind fun t110 => (spec_NextPiece.j0 k a1 (!t110) a0_0 a0_1 a0_2 a0_3)) else (spec_NextPiece.j0 k a1 true a0_0 a0_1 a0_2 a0_3))) = some (r1, r2, r3, r4, r5, r6, r7, r8, r9, r10, r11, r12) := h
 clear h
 have HC3 := Aside0.mk H
 clear H
 go_enter Try.func15, Try.ntmps15
 go_upto_region 1 with (first | ((with_reducible refine gate_dst (N := 2) rfl ?_); (try (refine gate_guard (by rfl) ?_; dsimp only)); refine box_event ?hg (N := 2) ?hd (cs := #[.int .i64 a0_0, .int .i64 a0_1, .string a0_2, .bool a0_3]) (t := 25) ?hr ?_; (case hd => rfl); (case hg => rfl); (case hr => first | (go_simp; done) | (go_simp; rfl)); intro gb106 hg w4 hbox hb; have n0_ := bS HB hb; have n1_ := Aside0.mk (hbox); have n2_ := Aside0.mk ((by rw [hg]; exact (below_size (by repeat (first | (with_reducible first | exact HB.out | apply below_alloc | apply pw_below_drewN | apply below_drew1) | exact HB.out))) : w.heap.size ≤ gb106)); have n3_ := n2_; clear HB; have HB := n0_; have BK106 := n1_; have GW106 := n2_; have GE106 := n3_; clear n0_ n1_ n2_ n3_; clear hb hbox hg) | ((with_reducible refine gate_dst (N := 4) rfl ?_); (try (refine gate_guard (by rfl) ?_; dsimp only)); refine box_event ?hg (N := 4) ?hd (cs := #[.int .i64 0, .int .i64 0, .string (⟨#[]⟩ : ByteArray), .bool false]) (t := 25) ?hr ?_; (case hd => rfl); (case hg => rfl); (case hr => first | (go_simp; done) | (go_simp; rfl)); intro gb107 hg w5 hbox hb; have n0_ := bX BK106 hb; have n1_ := bS HB hb; have n2_ := Aside0.mk (hbox); have n3_ := Aside0.mk ((by rw [hg]; exact (below_size (by repeat (first | (with_reducible first | exact HB.out | apply below_alloc | apply pw_below_drewN | apply below_drew1 | refine below_set ?_ GE106.out) | exact HB.out))) : w.heap.size ≤ gb107)); have n4_ := n3_; have n5_ := Aside0.mk ((by rw [hg]; exact Nat.ne_of_lt (bLt BK106) : gb106 ≠ gb107)); have n6_ := Aside0.mk ((by rw [hg]; exact Nat.ne_of_gt (bLt BK106) : gb107 ≠ gb106)); clear BK106; clear HB; have BK106 := n0_; have HB := n1_; have BK107 := n2_; have GW107 := n3_; have GE107 := n4_; have NB106_107 := n5_; have NB107_106 := n6_; clear n0_ n1_ n2_ n3_ n4_ n5_ n6_; clear hb hbox hg) | ((with_reducible refine gate_dst (N := 5) rfl ?_); (try (refine gate_guard (by rfl) ?_; dsimp only)); refine box_event ?hg (N := 5) ?hd (cs := #[.int .i64 0, .int .i64 0, .int .i64 0, .int .i64 0, .bool false, .string (⟨#[]⟩ : ByteArray), .slice none 0 0]) (t := 28) ?hr ?_; (case hd => rfl); (case hg => rfl); (case hr => first | (go_simp; done) | (go_simp; rfl)); intro gb108 hg w6 hbox hb; have n0_ := bX BK106 hb; have n1_ := bX BK107 hb; have n2_ := bS HB hb; have n3_ := Aside0.mk (hbox); have n4_ := Aside0.mk ((by rw [hg]; exact (below_size (by repeat (first | (with_reducible first | exact HB.out | apply below_alloc | apply pw_below_drewN | apply below_drew1 | refine below_set ?_ GE106.out | refine below_set ?_ GE107.out) | exact HB.out))) : w.heap.size ≤ gb108)); have n5_ := n4_; have n6_ := Aside0.mk ((by rw [hg]; exact Nat.ne_of_lt (bLt BK106) : gb106 ≠ gb108)); have n7_ := Aside0.mk ((by rw [hg]; exact Nat.ne_of_gt (bLt BK106) : gb108 ≠ gb106)); have n8_ := Aside0.mk ((by rw [hg]; exact Nat.ne_of_lt (bLt BK107) : gb107 ≠ gb108)); have n9_ := Aside0.mk ((by rw [hg]; exact Nat.ne_of_gt (bLt BK107) : gb108 ≠ gb107)); clear BK106; clear BK107; clear HB; have BK106 := n0_; have BK107 := n1_; have HB := n2_; have BK108 := n3_; have GW108 := n4_; have GE108 := n5_; have NB106_108 := n6_; have NB108_106 := n7_; have NB107_108 := n8_; have NB108_107 := n9_; clear n0_ n1_ n2_ n3_ n4_ n5_ n6_ n7_ n8_ n9_; clear hb hbox hg))
 (try simp only [Act.put, sA, sZ, sS])
 go_cut [16] (fun v16 wc => ∃ (kq : Nat) (x16_2 : Bool), v16 = .bool x16_2 ∧ Aside0 (spec_NextPiece.j0 kq a1 x16_2 a0_0 a0_1 a0_2 a0_3 = some (r1, r2, r3, r4, r5, r6, r7, r8, r9, r10, r11, r12)) ∧ Aside0 (kq ≤ k) ∧ Aside0 (wc.heap[gb106]? = some (.cells #[.int .i64 a0_0, .int .i64 a0_1, .string a0_2, .bool a0_3] 25 (0, 0))) ∧ Aside0 (wc.heap[gb107]? = some (.cells #[.int .i64 0, .int .i64 0, .string (⟨#[]⟩ : ByteArray), .bool false] 25 (0, 0))) ∧ Aside0 (wc.heap[gb108]? = some (.cells #[.int .i64 0, .int .i64 0, .int .i64 0, .int .i64 0, .bool false, .string (⟨#[]⟩ : ByteArray), (.slice none 0 0)] 28 (0, 0))) ∧ Aside0 (Below w.heap.size w wc))
 case first =>
  have H := HC3.out
  clear HC3
  replace H := Option.bind_eq_some_iff.mp H
  obtain ⟨t109, A70, H⟩ := H
  replace H : (if t109 = true then ((spec_l1In.f a1 1 200).bind fun t110 => (spec_NextPiece.j0 k a1 (!t110) a0_0 a0_1 a0_2 a0_3)) else (spec_NextPiece.j0 k a1 true a0_0 a0_1 a0_2 a0_3)) = some (r1, r2, r3, r4, r5, r6, r7, r8, r9, r10, r11, r12) := H
  have A7 := Aside0.mk A70
  clear A70
  by_cases c8 : t109 = true
  ·subst c8
   have H1 : ((spec_l1In.f a1 1 200).bind fun t110 => (spec_NextPiece.j0 k a1 (!t110) a0_0 a0_1 a0_2 a0_3)) = some (r1, r2, r3, r4, r5, r6, r7, r8, r9, r10, r11, r12) := by rw [if_pos rfl] at H; exact H
   clear H
   have H := H1
   clear H1
   replace H := Option.bind_eq_some_iff.mp H
   obtain ⟨t110, A90, H⟩ := H
   replace H : (spec_NextPiece.j0 k a1 (!t110) a0_0 a0_1 a0_2 a0_3) = some (r1, r2, r3, r4, r5, r6, r7, r8, r9, r10, r11, r12) := H
   have A9 := Aside0.mk A90
   clear A90
   have H' := Aside0.mk H
   clear H
   have hnb10 := NB106_107.out
   have hnc10 := NB107_106.out
   have hnb11 := NB106_108.out
   have hnc11 := NB108_106.out
   obtain ⟨hcz12_0, hcz12_1, hcz12_2, hcz12_3⟩ := cz4 BK106
   obtain ⟨hfz12_0, hfz12_1, hfz12_2, hfz12_3⟩ := fz4 BK106
   go_wp2_with (first | ((with_reducible refine gate_callee (f := 77) rfl ?_); refine goesL_ (some 10) rfl rfl Try.func77 (by kernel_rfl) rfl #[.agg #[.int .i64 a0_0, .int .i64 a0_1, .string a0_2, .bool a0_3]] rfl (by (try simp only [List.map_toArray, List.map_cons, List.map_nil]); first | done | rfl | (simp only [List.length_drop, List.length_take]; rfl)) ?_; (with_reducible refine (spec_GoodOutflow.calls a0_0 a0_1 a0_2 a0_3 true _ A7.out).mono ?_); rintro e w13 ⟨rfl, hb⟩; refine ⟨_, rfl, ?_⟩; have n0_ := bX BK106 hb; have n1_ := bX BK107 hb; have n2_ := bX BK108 hb; have n3_ := bS HB hb; clear BK106; clear BK107; clear BK108; clear HB; have BK106 := n0_; have BK107 := n1_; have BK108 := n2_; have HB := n3_; clear n0_ n1_ n2_ n3_; (try clear hb); (try clear hb2); (try clear hk); (try clear hi)) | (go_at_call 78; (with_reducible refine (spec_l1In.calls a1 1 200 t110 _ A9.out).mono ?_); rintro e w' ⟨rfl, ⟨nd, rfl⟩⟩))
   go_meet
   case rel => exact ⟨_, (!t110), (by first | rfl | (simp; done) | (simp [*]; done)), H', ⟨by first | omega | exact Nat.le_refl _⟩, ⟨by (with_reducible repeat (first | refine bN ?_ _ | refine bD ?_ | refine bA ?_ _)); exact BK106.out⟩, ⟨by (with_reducible repeat (first | refine bN ?_ _ | refine bD ?_ | refine bA ?_ _)); exact BK107.out⟩, ⟨by (with_reducible repeat (first | refine bN ?_ _ | refine bD ?_ | refine bA ?_ _)); exact BK108.out⟩, ⟨by repeat (first | (with_reducible first | exact HB.out | apply below_alloc | apply pw_below_drewN | apply below_drew1 | refine below_set ?_ GE106.out | refine below_set ?_ GE107.out | refine below_set ?_ GE108.out) | exact HB.out)⟩⟩
  ·replace c8 := Bool.eq_false_iff.mpr c8
   subst c8
   have H1 : (spec_NextPiece.j0 k a1 true a0_0 a0_1 a0_2 a0_3) = some (r1, r2, r3, r4, r5, r6, r7, r8, r9, r10, r11, r12) := by rw [if_neg (show ¬ (false = true) by decide)] at H; exact H
   clear H
   have H := H1
   clear H1
   have H' := Aside0.mk H
   clear H
   have hnb14 := NB106_107.out
   have hnc14 := NB107_106.out
   have hnb15 := NB106_108.out
   have hnc15 := NB108_106.out
   obtain ⟨hcz16_0, hcz16_1, hcz16_2, hcz16_3⟩ := cz4 BK106
   obtain ⟨hfz16_0, hfz16_1, hfz16_2, hfz16_3⟩ := fz4 BK106
   go_wp2_with (first | ((with_reducible refine gate_callee (f := 77) rfl ?_); refine goesL_ (some 10) rfl rfl Try.func77 (by kernel_rfl) rfl #[.agg #[.int .i64 a0_0, .int .i64 a0_1, .string a0_2, .bool a0_3]] rfl (by (try simp only [List.map_toArray, List.map_cons, List.map_nil]); first | done | rfl | (simp only [List.length_drop, List.length_take]; rfl)) ?_; (with_reducible refine (spec_GoodOutflow.calls a0_0 a0_1 a0_2 a0_3 false _ A7.out).mono ?_); rintro e w17 ⟨rfl, hb⟩; refine ⟨_, rfl, ?_⟩; have n0_ := bX BK106 hb; have n1_ := bX BK107 hb; have n2_ := bX BK108 hb; have n3_ := bS HB hb; clear BK106; clear BK107; clear BK108; clear HB; have BK106 := n0_; have BK107 := n1_; have BK108 := n2_; have HB := n3_; clear n0_ n1_ n2_ n3_; (try clear hb); (try clear hb2); (try clear hk); (try clear hi)))
   go_meet
   case rel => exact ⟨_, (true), (by first | rfl | (simp; done) | (simp [*]; done)), H', ⟨by first | omega | exact Nat.le_refl _⟩, ⟨by (with_reducible repeat (first | refine bN ?_ _ | refine bD ?_ | refine bA ?_ _)); exact BK106.out⟩, ⟨by (with_reducible repeat (first | refine bN ?_ _ | refine bD ?_ | refine bA ?_ _)); exact BK107.out⟩, ⟨by (with_reducible repeat (first | refine bN ?_ _ | refine bD ?_ | refine bA ?_ _)); exact BK108.out⟩, ⟨by repeat (first | (with_reducible first | exact HB.out | apply below_alloc | apply pw_below_drewN | apply below_drew1 | refine below_set ?_ GE106.out | refine below_set ?_ GE107.out | refine below_set ?_ GE108.out) | exact HB.out)⟩⟩
 case rest =>
  clear HC3
  try clear c1
  try clear p2
  try clear c7
  try clear c8
  try clear c10
  try clear c11
  try clear c14
  try clear c15
  try clear hcz12_0
  try clear hcz12_1
  try clear hcz12_2
  try clear hcz12_3
  try clear hcz16_0
  try clear hcz16_1
  try clear hcz16_2
  try clear hcz16_3
  try clear hfz12_0
  try clear hfz12_1
  try clear hfz12_2
  try clear hfz12_3
  try clear hfz16_0
  try clear hfz16_1
  try clear hfz16_2
  try clear hfz16_3
  obtain ⟨kq, x16_2, rfl, HA, HJ2, BK106, BK107, BK108, HB⟩ := hcut
  cases kq with
  | zero => exact absurd HA.out (by simp [spec_NextPiece.j0])
  | succ kj2 =>
   have H := HA.out
   clear HA
   simp only [spec_NextPiece.j0] at H
   by_cases c18 : x16_2 = true
   ·subst c18
    have H1 : (some (0, 0, (⟨#[]⟩ : ByteArray), false, 0, 0, 0, 0, false, (⟨#[]⟩ : ByteArray), ([] : List (S203)), false)) = some (r1, r2, r3, r4, r5, r6, r7, r8, r9, r10, r11, r12) := by rw [if_pos rfl] at H; exact H
    clear H
    have H := H1
    clear H1
    simp only [Option.some.injEq, Prod.mk.injEq] at H
    obtain ⟨rfl, rfl, rfl, rfl, rfl, rfl, rfl, rfl, rfl, rfl, rfl, rfl⟩ := H
    have hnb19 := NB107_106.out
    have hnc19 := NB106_107.out
    have hnb20 := NB107_108.out
    have hnc20 := NB108_107.out
    obtain ⟨hcz21_0, hcz21_1, hcz21_2, hcz21_3⟩ := cz4 BK107
    obtain ⟨hfz21_0, hfz21_1, hfz21_2, hfz21_3⟩ := fz4 BK107
    have hnb22 := NB108_106.out
    have hnc22 := NB106_108.out
    obtain ⟨hcz23_0, hcz23_1, hcz23_2, hcz23_3, hcz23_4, hcz23_5, hcz23_6⟩ := cz7 BK108
    obtain ⟨hfz23_0, hfz23_1, hfz23_2, hfz23_3, hfz23_4, hfz23_5, hfz23_6⟩ := fz7 BK108
    go_wp2
    refine bodyPost_ret (results_list (rs := [.cell 4 25, .cell 5 28, .tmp 6]) rfl (by simp) (.cell gb107 25 #[.int .i64 0, .int .i64 0, .string (⟨#[]⟩ : ByteArray), .bool false] (0, 0) _ rfl (by (with_reducible repeat (first | refine bN ?_ _ | refine bD ?_ | refine bA ?_ _)); refine blk_far ?_ NB107_108.out _; (with_reducible repeat (first | refine bN ?_ _ | refine bD ?_ | refine bA ?_ _)); refine blk_far ?_ NB107_108.out _; (with_reducible repeat (first | refine bN ?_ _ | refine bD ?_ | refine bA ?_ _)); refine blk_far ?_ NB107_108.out _; (with_reducible repeat (first | refine bN ?_ _ | refine bD ?_ | refine bA ?_ _)); refine blk_far ?_ NB107_108.out _; (with_reducible repeat (first | refine bN ?_ _ | refine bD ?_ | refine bA ?_ _)); refine blk_far ?_ NB107_108.out _; (with_reducible repeat (first | refine bN ?_ _ | refine bD ?_ | refine bA ?_ _)); refine blk_far ?_ NB107_108.out _; (with_reducible repeat (first | refine bN ?_ _ | refine bD ?_ | refine bA ?_ _)); refine blk_far ?_ NB107_108.out _; (with_reducible repeat (first | refine bN ?_ _ | refine bD ?_ | refine bA ?_ _)); refine blk_put (cs := #[.int .i64 0, .int .i64 0, .string (⟨#[]⟩ : ByteArray), .bool false]) ?_ 3 _ rfl; (with_reducible repeat (first | refine bN ?_ _ | refine bD ?_ | refine bA ?_ _)); refine blk_put (cs := #[.int .i64 0, .int .i64 0, .string (⟨#[]⟩ : ByteArray), .bool false]) ?_ 2 _ rfl; (with_reducible repeat (first | refine bN ?_ _ | refine bD ?_ | refine bA ?_ _)); refine blk_put (cs := #[.int .i64 0, .int .i64 0, .string (⟨#[]⟩ : ByteArray), .bool false]) ?_ 1 _ rfl; (with_reducible repeat (first | refine bN ?_ _ | refine bD ?_ | refine bA ?_ _)); refine blk_put (cs := #[.int .i64 0, .int .i64 0, .string (⟨#[]⟩ : ByteArray), .bool false]) ?_ 0 _ rfl; (with_reducible repeat (first | refine bN ?_ _ | refine bD ?_ | refine bA ?_ _)); exact BK107.out) Try.underlying25 rfl (by kernel_rfl) (.cell gb108 28 #[.int .i64 0, .int .i64 0, .int .i64 0, .int .i64 0, .bool false, .string (⟨#[]⟩ : ByteArray), .slice none 0 0] (0, 0) _ rfl (by (with_reducible repeat (first | refine bN ?_ _ | refine bD ?_ | refine bA ?_ _)); refine blk_put (cs := #[.int .i64 0, .int .i64 0, .int .i64 0, .int .i64 0, .bool false, .string (⟨#[]⟩ : ByteArray), .slice none 0 0]) ?_ 6 _ rfl; (with_reducible repeat (first | refine bN ?_ _ | refine bD ?_ | refine bA ?_ _)); refine blk_put (cs := #[.int .i64 0, .int .i64 0, .int .i64 0, .int .i64 0, .bool false, .string (⟨#[]⟩ : ByteArray), .slice none 0 0]) ?_ 5 _ rfl; (with_reducible repeat (first | refine bN ?_ _ | refine bD ?_ | refine bA ?_ _)); refine blk_put (cs := #[.int .i64 0, .int .i64 0, .int .i64 0, .int .i64 0, .bool false, .string (⟨#[]⟩ : ByteArray), .slice none 0 0]) ?_ 4 _ rfl; (with_reducible repeat (first | refine bN ?_ _ | refine bD ?_ | refine bA ?_ _)); refine blk_put (cs := #[.int .i64 0, .int .i64 0, .int .i64 0, .int .i64 0, .bool false, .string (⟨#[]⟩ : ByteArray), .slice none 0 0]) ?_ 3 _ rfl; (with_reducible repeat (first | refine bN ?_ _ | refine bD ?_ | refine bA ?_ _)); refine blk_put (cs := #[.int .i64 0, .int .i64 0, .int .i64 0, .int .i64 0, .bool false, .string (⟨#[]⟩ : ByteArray), .slice none 0 0]) ?_ 2 _ rfl; (with_reducible repeat (first | refine bN ?_ _ | refine bD ?_ | refine bA ?_ _)); refine blk_put (cs := #[.int .i64 0, .int .i64 0, .int .i64 0, .int .i64 0, .bool false, .string (⟨#[]⟩ : ByteArray), .slice none 0 0]) ?_ 1 _ rfl; (with_reducible repeat (first | refine bN ?_ _ | refine bD ?_ | refine bA ?_ _)); refine blk_put (cs := #[.int .i64 0, .int .i64 0, .int .i64 0, .int .i64 0, .bool false, .string (⟨#[]⟩ : ByteArray), .slice none 0 0]) ?_ 0 _ rfl; (with_reducible repeat (first | refine bN ?_ _ | refine bD ?_ | refine bA ?_ _)); refine blk_far ?_ NB108_107.out _; (with_reducible repeat (first | refine bN ?_ _ | refine bD ?_ | refine bA ?_ _)); refine blk_far ?_ NB108_107.out _; (with_reducible repeat (first | refine bN ?_ _ | refine bD ?_ | refine bA ?_ _)); refine blk_far ?_ NB108_107.out _; (with_reducible repeat (first | refine bN ?_ _ | refine bD ?_ | refine bA ?_ _)); refine blk_far ?_ NB108_107.out _; (with_reducible repeat (first | refine bN ?_ _ | refine bD ?_ | refine bA ?_ _)); exact BK108.out) Try.underlying28 rfl (by kernel_rfl) (.tmp .nil)))) rfl ?_
    exact ⟨_, by first | rfl | (simp [errW_none, errW_some] <;> rfl) | (simp [*, errW_none, errW_some] <;> rfl), by first | exact Kd.R_nil _ _ _ _ _ | exact Kd.N_nil _ _ _ _ _ | exact Kd.V_nil _ _ _ _ _ | exact Kd.Q_nil _ _ _ _ _ | exact Kd.S_nil _ _ _ _ _, by repeat (first | (with_reducible first | exact HB.out | apply below_alloc | apply pw_below_drewN | apply below_drew1 | refine below_set ?_ GE106.out | refine below_set ?_ GE107.out | refine below_set ?_ GE108.out) | exact HB.out)⟩
   ·replace c18 := Bool.eq_false_iff.mpr c18
    subst c18
    have H1 : (if (wrap64 (a0_1 + a1)) > (a0_2.size : Int) then (spec_NextPiece.j1 kj2 (a0_2.size : Int) a0_0 a0_1 a0_2 a0_3) else (spec_NextPiece.j1 kj2 (wrap64 (a0_1 + a1)) a0_0 a0_1 a0_2 a0_3)) = some (r1, r2, r3, r4, r5, r6, r7, r8, r9, r10, r11, r12) := by rw [if_neg (show ¬ (false = true) by decide)] at H; exact H
    clear H
    have H := H1
    clear H1
    have HC24 := Aside0.mk H
    clear H
    have hnb25 := NB106_107.out
    have hnc25 := NB107_106.out
    have hnb26 := NB106_108.out
    have hnc26 := NB108_106.out
    obtain ⟨hcz27_0, hcz27_1, hcz27_2, hcz27_3⟩ := cz4 BK106
    obtain ⟨hfz27_0, hfz27_1, hfz27_2, hfz27_3⟩ := fz4 BK106
    go_upto_if 27 with (fail)
    go_cut [7] (fun v7 wc => ∃ (kq : Nat) (x7_23 : Int), v7 = .int .i64 x7_23 ∧ Aside0 (spec_NextPiece.j1 kq x7_23 a0_0 a0_1 a0_2 a0_3 = some (r1, r2, r3, r4, r5, r6, r7, r8, r9, r10, r11, r12)) ∧ Aside0 (kq ≤ kj2) ∧ Aside0 (wc.heap[gb106]? = some (.cells #[.int .i64 a0_0, .int .i64 a0_1, .string a0_2, .bool a0_3] 25 (0, 0))) ∧ Aside0 (wc.heap[gb107]? = some (.cells #[.int .i64 0, .int .i64 0, .string (⟨#[]⟩ : ByteArray), .bool false] 25 (0, 0))) ∧ Aside0 (wc.heap[gb108]? = some (.cells #[.int .i64 0, .int .i64 0, .int .i64 0, .int .i64 0, .bool false, .string (⟨#[]⟩ : ByteArray), (.slice none 0 0)] 28 (0, 0))) ∧ Aside0 (Below w.heap.size w wc))
    case first =>
     have H := HC24.out
     clear HC24
     by_cases c28 : (wrap64 (a0_1 + a1)) > (a0_2.size : Int)
     ·rw [if_pos c28] at H
      have c28b0 : decide ((a0_2.size : Int) < (wrap64 (a0_1 + a1))) = true := decide_eq_true c28
      (try (have c28b1 : decide ((a0_2.size : Int) < (IntKind.i64.wrap (a0_1 + a1))) = true := by simp only [i64_w]; exact (decide_eq_true c28)))
      clear c28
      (first | rw [c28b0] | (simp only [i64_w, i32_w]; rw [c28b0]) | skip)
      have H' := Aside0.mk H
      clear H
      have hnb29 := NB106_107.out
      have hnc29 := NB107_106.out
      have hnb30 := NB106_108.out
      have hnc30 := NB108_106.out
      obtain ⟨hcz31_0, hcz31_1, hcz31_2, hcz31_3⟩ := cz4 BK106
      obtain ⟨hfz31_0, hfz31_1, hfz31_2, hfz31_3⟩ := fz4 BK106
      go_wp2
      go_meet
      case rel => exact ⟨_, ((a0_2.size : Int)), (by first | rfl | (simp; done) | (simp [*]; done)), H', ⟨by have := HJ2.out; first | omega | exact Nat.le_refl _⟩, ⟨by (with_reducible repeat (first | refine bN ?_ _ | refine bD ?_ | refine bA ?_ _)); exact BK106.out⟩, ⟨by (with_reducible repeat (first | refine bN ?_ _ | refine bD ?_ | refine bA ?_ _)); exact BK107.out⟩, ⟨by (with_reducible repeat (first | refine bN ?_ _ | refine bD ?_ | refine bA ?_ _)); exact BK108.out⟩, ⟨by repeat (first | (with_reducible first | exact HB.out | apply below_alloc | apply pw_below_drewN | apply below_drew1 | refine below_set ?_ GE106.out | refine below_set ?_ GE107.out | refine below_set ?_ GE108.out) | exact HB.out)⟩⟩
     ·rw [if_neg c28] at H
      have c28b0 : decide ((a0_2.size : Int) < (wrap64 (a0_1 + a1))) = false := decide_eq_false c28
      (try (have c28b1 : decide ((a0_2.size : Int) < (IntKind.i64.wrap (a0_1 + a1))) = false := by simp only [i64_w]; exact (decide_eq_false c28)))
      clear c28
      (first | rw [c28b0] | (simp only [i64_w, i32_w]; rw [c28b0]) | skip)
      have H' := Aside0.mk H
      clear H
      go_wp2
      go_meet
      case rel => exact ⟨_, (wrap64 (a0_1 + a1)), (by first | rfl | (simp; done) | (simp [*]; done)), H', ⟨by have := HJ2.out; first | omega | exact Nat.le_refl _⟩, ⟨by (with_reducible repeat (first | refine bN ?_ _ | refine bD ?_ | refine bA ?_ _)); exact BK106.out⟩, ⟨by (with_reducible repeat (first | refine bN ?_ _ | refine bD ?_ | refine bA ?_ _)); exact BK107.out⟩, ⟨by (with_reducible repeat (first | refine bN ?_ _ | refine bD ?_ | refine bA ?_ _)); exact BK108.out⟩, ⟨by repeat (first | (with_reducible first | exact HB.out | apply below_alloc | apply pw_below_drewN | apply below_drew1 | refine below_set ?_ GE106.out | refine below_set ?_ GE107.out | refine below_set ?_ GE108.out) | exact HB.out)⟩⟩
    case rest =>
     clear HC24
     try clear c1
     try clear c2
     try clear p2
     try clear c3
     try clear p6
     try clear c7
     try clear c8
     try clear c10
     try clear c11
     try clear c14
     try clear c15
     try clear c18
     try clear c19
     try clear c20
     try clear c22
     try clear c25
     try clear c26
     try clear c28
     try clear c28b0
     try clear c28b1
     try clear c29
     try clear c30
     try clear hcz12_0
     try clear hcz12_1
     try clear hcz12_2
     try clear hcz12_3
     try clear hcz16_0
     try clear hcz16_1
     try clear hcz16_2
     try clear hcz16_3
     try clear hcz21_0
     try clear hcz21_1
     try clear hcz21_2
     try clear hcz21_3
     try clear hcz23_0
     try clear hcz23_1
     try clear hcz23_2
     try clear hcz23_3
     try clear hcz23_4
     try clear hcz23_5
     try clear hcz23_6
     try clear hcz27_0
     try clear hcz27_1
     try clear hcz27_2
     try clear hcz27_3
     try clear hcz31_0
     try clear hcz31_1
     try clear hcz31_2
     try clear hcz31_3
     try clear hfz12_0
     try clear hfz12_1
     try clear hfz12_2
     try clear hfz12_3
     try clear hfz16_0
     try clear hfz16_1
     try clear hfz16_2
     try clear hfz16_3
     try clear hfz21_0
     try clear hfz21_1
     try clear hfz21_2
     try clear hfz21_3
     try clear hfz23_0
     try clear hfz23_1
     try clear hfz23_2
     try clear hfz23_3
     try clear hfz23_4
     try clear hfz23_5
     try clear hfz23_6
     try clear hfz27_0
     try clear hfz27_1
     try clear hfz27_2
     try clear hfz27_3
     try clear hfz31_0
     try clear hfz31_1
     try clear hfz31_2
     try clear hfz31_3
     try clear p2
     obtain ⟨kq, x7_23, rfl, HA, HJ23, BK106, BK107, BK108, HB⟩ := hcut
     cases kq with
     | zero => exact absurd HA.out (by simp [spec_NextPiece.j1])
     | succ kj23 =>
      have H := HA.out
      clear HA
      simp only [spec_NextPiece.j1] at H
      have HC32 := Aside0.mk H
      clear H
      have hnb33 := NB106_107.out
      have hnc33 := NB107_106.out
      have hnb34 := NB106_108.out
      have hnc34 := NB108_106.out
      obtain ⟨hcz35_0, hcz35_1, hcz35_2, hcz35_3⟩ := cz4 BK106
      obtain ⟨hfz35_0, hfz35_1, hfz35_2, hfz35_3⟩ := fz4 BK106
      go_upto_if 34 with (fail)
      go_cut [7] (fun v7 wc => ∃ (kq : Nat) (x7_31 : Int), v7 = .int .i64 x7_31 ∧ Aside0 (spec_NextPiece.j2 kq x7_31 a0_0 a0_1 a0_2 a0_3 = some (r1, r2, r3, r4, r5, r6, r7, r8, r9, r10, r11, r12)) ∧ Aside0 (kq ≤ kj23) ∧ Aside0 (wc.heap[gb106]? = some (.cells #[.int .i64 a0_0, .int .i64 a0_1, .string a0_2, .bool a0_3] 25 (0, 0))) ∧ Aside0 (wc.heap[gb107]? = some (.cells #[.int .i64 0, .int .i64 0, .string (⟨#[]⟩ : ByteArray), .bool false] 25 (0, 0))) ∧ Aside0 (wc.heap[gb108]? = some (.cells #[.int .i64 0, .int .i64 0, .int .i64 0, .int .i64 0, .bool false, .string (⟨#[]⟩ : ByteArray), (.slice none 0 0)] 28 (0, 0))) ∧ Aside0 (Below w.heap.size w wc))
      case first =>
       have H := HC32.out
       clear HC32
       by_cases c36 : x7_23 > a0_0
       ·rw [if_pos c36] at H
        have c36b0 : decide (a0_0 < x7_23) = true := decide_eq_true c36
        clear c36
        (first | rw [c36b0] | (simp only [i64_w, i32_w]; rw [c36b0]) | skip)
        have H' := Aside0.mk H
        clear H
        have hnb37 := NB106_107.out
        have hnc37 := NB107_106.out
        have hnb38 := NB106_108.out
        have hnc38 := NB108_106.out
        obtain ⟨hcz39_0, hcz39_1, hcz39_2, hcz39_3⟩ := cz4 BK106
        obtain ⟨hfz39_0, hfz39_1, hfz39_2, hfz39_3⟩ := fz4 BK106
        go_wp2
        go_meet
        case rel => exact ⟨_, (a0_0), (by first | rfl | (simp; done) | (simp [*]; done)), H', ⟨by have := HJ2.out; have := HJ23.out; first | omega | exact Nat.le_refl _⟩, ⟨by (with_reducible repeat (first | refine bN ?_ _ | refine bD ?_ | refine bA ?_ _)); exact BK106.out⟩, ⟨by (with_reducible repeat (first | refine bN ?_ _ | refine bD ?_ | refine bA ?_ _)); exact BK107.out⟩, ⟨by (with_reducible repeat (first | refine bN ?_ _ | refine bD ?_ | refine bA ?_ _)); exact BK108.out⟩, ⟨by repeat (first | (with_reducible first | exact HB.out | apply below_alloc | apply pw_below_drewN | apply below_drew1 | refine below_set ?_ GE106.out | refine below_set ?_ GE107.out | refine below_set ?_ GE108.out) | exact HB.out)⟩⟩
       ·rw [if_neg c36] at H
        have c36b0 : decide (a0_0 < x7_23) = false := decide_eq_false c36
        clear c36
        (first | rw [c36b0] | (simp only [i64_w, i32_w]; rw [c36b0]) | skip)
        have H' := Aside0.mk H
        clear H
        go_wp2
        go_meet
        case rel => exact ⟨_, (x7_23), (by first | rfl | (simp; done) | (simp [*]; done)), H', ⟨by have := HJ2.out; have := HJ23.out; first | omega | exact Nat.le_refl _⟩, ⟨by (with_reducible repeat (first | refine bN ?_ _ | refine bD ?_ | refine bA ?_ _)); exact BK106.out⟩, ⟨by (with_reducible repeat (first | refine bN ?_ _ | refine bD ?_ | refine bA ?_ _)); exact BK107.out⟩, ⟨by (with_reducible repeat (first | refine bN ?_ _ | refine bD ?_ | refine bA ?_ _)); exact BK108.out⟩, ⟨by repeat (first | (with_reducible first | exact HB.out | apply below_alloc | apply pw_below_drewN | apply below_drew1 | refine below_set ?_ GE106.out | refine below_set ?_ GE107.out | refine below_set ?_ GE108.out) | exact HB.out)⟩⟩
      case rest =>
       clear HC32
       try clear c1
       try clear c2
       try clear p2
       try clear c3
       try clear p6
       try clear c7
       try clear c8
       try clear c10
       try clear c11
       try clear c14
       try clear c15
       try clear c18
       try clear c19
       try clear c20
       try clear c22
       try clear c25
       try clear c26
       try clear c28
       try clear c28b0
       try clear c28b1
       try clear c29
       try clear c30
       try clear c33
       try clear c34
       try clear c36
       try clear c36b0
       try clear c37
       try clear c38
       try clear hcz12_0
       try clear hcz12_1
       try clear hcz12_2
       try clear hcz12_3
       try clear hcz16_0
       try clear hcz16_1
       try clear hcz16_2
       try clear hcz16_3
       try clear hcz21_0
       try clear hcz21_1
       try clear hcz21_2
       try clear hcz21_3
       try clear hcz23_0
       try clear hcz23_1
       try clear hcz23_2
       try clear hcz23_3
       try clear hcz23_4
       try clear hcz23_5
       try clear hcz23_6
       try clear hcz27_0
       try clear hcz27_1
       try clear hcz27_2
       try clear hcz27_3
       try clear hcz31_0
       try clear hcz31_1
       try clear hcz31_2
       try clear hcz31_3
       try clear hcz35_0
       try clear hcz35_1
       try clear hcz35_2
       try clear hcz35_3
       try clear hcz39_0
       try clear hcz39_1
       try clear hcz39_2
       try clear hcz39_3
       try clear hfz12_0
       try clear hfz12_1
       try clear hfz12_2
       try clear hfz12_3
       try clear hfz16_0
       try clear hfz16_1
       try clear hfz16_2
       try clear hfz16_3
       try clear hfz21_0
       try clear hfz21_1
       try clear hfz21_2
       try clear hfz21_3
       try clear hfz23_0
       try clear hfz23_1
       try clear hfz23_2
       try clear hfz23_3
       try clear hfz23_4
       try clear hfz23_5
       try clear hfz23_6
       try clear hfz27_0
       try clear hfz27_1
       try clear hfz27_2
       try clear hfz27_3
       try clear hfz31_0
       try clear hfz31_1
       try clear hfz31_2
       try clear hfz31_3
       try clear hfz35_0
       try clear hfz35_1
       try clear hfz35_2
       try clear hfz35_3
       try clear hfz39_0
       try clear hfz39_1
       try clear hfz39_2
       try clear hfz39_3
       try clear p2
       try clear p6
       obtain ⟨kq, x7_31, rfl, HA, HJ31, BK106, BK107, BK108, HB⟩ := hcut
       cases kq with
       | zero => exact absurd HA.out (by simp [spec_NextPiece.j2])
       | succ kj31 =>
        have H := HA.out
        clear HA
        simp only [spec_NextPiece.j2] at H
        by_cases c40 : 0 ≤ a0_1
        ·rw [if_pos c40] at H
         have c40b0 := eq_true c40
         have c40b1 : decide (0 ≤ a0_1) = true := decide_eq_true c40
         clear c40
         by_cases c41 : a0_1 ≤ x7_31
         ·rw [if_pos c41] at H
          have c41b0 := eq_true c41
          have c41b1 : decide (a0_1 ≤ x7_31) = true := decide_eq_true c41
          clear c41
          by_cases c42 : x7_31 ≤ (a0_2.size : Int)
          ·rw [if_pos c42] at H
           have c42b0 := eq_true c42
           have c42b1 : decide (x7_31 ≤ (a0_2.size : Int)) = true := decide_eq_true c42
           clear c42
           by_cases c43 : a0_3 = true
           ·subst c43
            have H1 : (if (a0_2.extract (a0_1 : Int).toNat (x7_31 : Int).toNat).toList = ([] : List UInt8) then (if (x7_31 = (a0_2.size : Int)) then (some (a0_0, x7_31, a0_2, true, 8, 0, a0_1, 0, (x7_31 == (a0_2.size : Int)), a0_2.extract (a0_1 : Int).toNat (x7_31 : Int).toNat, ([] : List (S203)), true)) else (some (0, 0, (⟨#[]⟩ : ByteArray), false, 0, 0, 0, 0, false, (⟨#[]⟩ : ByteArray), ([] : List (S203)), false))) else (some (a0_0, x7_31, a0_2, true, 8, 0, a0_1, 0, (x7_31 == (a0_2.size : Int)), a0_2.extract (a0_1 : Int).toNat (x7_31 : Int).toNat, ([] : List (S203)), true))) = some (r1, r2, r3, r4, r5, r6, r7, r8, r9, r10, r11, r12) := by rw [if_pos rfl] at H; exact H
            clear H
            have H := H1
            clear H1
            by_cases c44 : (a0_2.extract (a0_1 : Int).toNat (x7_31 : Int).toNat).toList = ([] : List UInt8)
            ·rw [if_pos c44] at H
             have c44b0 : ((a0_2.extract (a0_1 : Int).toNat (x7_31 : Int).toNat).toList == ([] : List UInt8)) = true := beq_iff_eq.mpr c44
             have c44b1 : ((a0_2.extract (a0_1 : Int).toNat (x7_31 : Int).toNat).toList != ([] : List UInt8)) = false := bne_eq_false_iff_eq.mpr c44
             clear c44
             by_cases c45 : (x7_31 = (a0_2.size : Int))
             ·rw [if_pos c45] at H
              have c45b0 : (x7_31 == (a0_2.size : Int)) = true := beq_iff_eq.mpr c45
              have c45b1 : (x7_31 != (a0_2.size : Int)) = false := bne_eq_false_iff_eq.mpr c45
              clear c45
              rw [c45b0] at H
              simp only [Option.some.injEq, Prod.mk.injEq] at H
              obtain ⟨rfl, rfl, rfl, rfl, rfl, rfl, rfl, rfl, rfl, rfl, rfl, rfl⟩ := H
              try go_wp2
              have n0_ := Aside0.mk (blk_drew BK106.out)
              have n1_ := Aside0.mk (blk_drew BK107.out)
              have n2_ := Aside0.mk (blk_drew BK108.out)
              have n3_ := Aside0.mk (below_drew1 HB.out)
              clear BK106
              clear BK107
              clear BK108
              clear HB
              have BK106 := n0_
              have BK107 := n1_
              have BK108 := n2_
              have HB := n3_
              clear n0_ n1_ n2_ n3_
              refine start_ (n := 20) (S := fun w' => w'.cell? ⟨gb106, 0, none⟩ = some (.int .i64 a0_0) ∧ w'.cell? ⟨gb106, 1, none⟩ = some (.int .i64 a0_1) ∧ w'.cell? ⟨gb106, 2, none⟩ = some (.string a0_2) ∧ w'.cell? ⟨gb106, 3, none⟩ = some (.bool true)) (ds := []) (bm 20 0) (by kernel_rfl) rfl rfl (cz4 BK106) (fun hHeld => ?_); refine with_tabW spec_NextPiece.tab8 spec_NextPiece.bits8 (fun HT_ HW_ => ?_)
              generalize wc.drew = w46 at BK106 BK107 BK108 HB hHeld ⊢
              refine pure_ (i := 0) (N := some 37) (v := ?_) (a' := ?_) (bm 20 1) rfl rfl (any_of HT_.out (by kernel_rfl)) (fun _ _ _ h => h) (Or.inl ⟨by rfl, ?_⟩) ?_ ?_
              rotate_left
              ·intro w'
               go_simp
               with_reducible rfl
              rotate_left
              ·simp only [Act.put, sA, sZ, sS, i64_w, i32_w]
               rfl
              refine pure_ (i := 2) (N := some 39) (v := ?_) (a' := ?_) (bm 20 5) rfl rfl (any_of HT_.out (by kernel_rfl)) (fun _ _ _ h => h) (Or.inl ⟨by rfl, ?_⟩) ?_ ?_
              rotate_left
              ·intro w'
               go_simp
               with_reducible rfl
              rotate_left
              ·simp only [Act.put, sA, sZ, sS, i64_w, i32_w]
               rfl
              refine pure_ (i := 4) (N := some 41) (v := ?_) (a' := ?_) (bm 20 21) rfl rfl (any_of HT_.out (by kernel_rfl)) (fun _ _ _ h => h) (Or.inl ⟨by rfl, ?_⟩) ?_ ?_
              rotate_left
              ·intro w'
               go_simp
               with_reducible rfl
              rotate_left
              ·simp only [Act.put, sA, sZ, sS, i64_w, i32_w]
               rfl
              refine pure_ (i := 6) (N := some 43) (v := ?_) (a' := ?_) (bm 20 85) rfl rfl (any_of HT_.out (by kernel_rfl)) (fun _ _ _ h => h) (Or.inl ⟨by rfl, ?_⟩) ?_ ?_
              rotate_left
              ·intro w'
               go_simp
               with_reducible rfl
              rotate_left
              ·simp only [Act.put, sA, sZ, sS, i64_w, i32_w]
               rfl
              refine pure_ (i := 8) (N := some 45) (v := ?_) (a' := ?_) (bm 20 341) rfl rfl (any_of HT_.out (by kernel_rfl)) (fun _ _ _ h => h) (Or.inl ⟨by rfl, ?_⟩) ?_ ?_
              rotate_left
              ·intro w'
               go_simp
               with_reducible rfl
              rotate_left
              ·simp only [Act.put, sA, sZ, sS, i64_w, i32_w]
               rfl
              refine take_ (i := 1) (N := some 38) (v := ?_) (a' := ?_) (bm 20 343) rfl rfl (take_ofW HT_.out HW_.out (by kernel_rfl)) (fun _ _ _ h => h) (Or.inl ⟨by rfl, ?_⟩) hHeld ?_ ?_
              rotate_left
              ·rintro w' ⟨s0, s1, s2, s3⟩
               go_simp
               with_reducible rfl
              rotate_left
              ·simp only [Act.put, sA, sZ, sS, i64_w, i32_w]
               rfl
              refine take_ (i := 3) (N := some 40) (v := ?_) (a' := ?_) (bm 20 351) rfl rfl (take_ofW HT_.out HW_.out (by kernel_rfl)) (fun _ _ _ h => h) (Or.inl ⟨by rfl, ?_⟩) hHeld ?_ ?_
              rotate_left
              ·rintro w' ⟨s0, s1, s2, s3⟩
               go_simp
               with_reducible rfl
              rotate_left
              ·simp only [Act.put, sA, sZ, sS, i64_w, i32_w]
               rfl
              refine take_ (i := 5) (N := some 42) (v := ?_) (a' := ?_) (bm 20 383) rfl rfl (take_ofW HT_.out HW_.out (by kernel_rfl)) (fun _ _ _ h => h) (Or.inl ⟨by rfl, ?_⟩) hHeld ?_ ?_
              rotate_left
              ·rintro w' ⟨s0, s1, s2, s3⟩
               go_simp
               with_reducible rfl
              rotate_left
              ·simp only [Act.put, sA, sZ, sS, i64_w, i32_w]
               rfl
              refine pure_ (i := 7) (N := some 44) (v := ?_) (a' := ?_) (bm 20 511) rfl rfl (any_of HT_.out (by kernel_rfl)) (fun _ _ _ h => h) (Or.inl ⟨by rfl, ?_⟩) ?_ ?_
              rotate_left
              ·intro w'
               go_simp
               with_reducible rfl
              rotate_left
              ·simp only [Act.put, sA, sZ, sS, i64_w, i32_w]
               rfl
              refine take_ (i := 9) (N := some 46) (v := ?_) (a' := ?_) (bm 20 1023) rfl rfl (take_ofW HT_.out HW_.out (by kernel_rfl)) (fun _ _ _ h => h) (Or.inl ⟨by rfl, ?_⟩) hHeld ?_ ?_
              rotate_left
              ·rintro w' ⟨s0, s1, s2, s3⟩
               go_simp
               with_reducible rfl
              rotate_left
              ·simp only [Act.put, sA, sZ, sS, i64_w, i32_w]
               rfl
              refine pure_ (i := 10) (N := some 47) (v := ?_) (a' := ?_) (bm 20 2047) rfl rfl (any_of HT_.out (by kernel_rfl)) (fun _ _ _ h => h) (Or.inl ⟨by rfl, ?_⟩) ?_ ?_
              rotate_left
              ·intro w'
               go_simp
               with_reducible rfl
              rotate_left
              ·simp only [Act.put, sA, sZ, sS, i64_w, i32_w]
               rfl
              refine pure_ (i := 11) (N := some 48) (v := ?_) (a' := ?_) (bm 20 4095) rfl rfl (any_of HT_.out (by kernel_rfl)) (fun _ _ _ h => h) (Or.inl ⟨by rfl, ?_⟩) ?_ ?_
              rotate_left
              ·intro w'
               go_simp
               with_reducible rfl
              rotate_left
              ·simp only [Act.put, sA, sZ, sS, i64_w, i32_w]
               rfl
              refine pure_ (i := 12) (N := some 49) (v := ?_) (a' := ?_) (bm 20 8191) rfl rfl (any_of HT_.out (by kernel_rfl)) (fun _ _ _ h => h) (Or.inl ⟨by rfl, ?_⟩) ?_ ?_
              rotate_left
              ·intro w'
               go_simp
               with_reducible rfl
              rotate_left
              ·simp only [Act.put, sA, sZ, sS, i64_w, i32_w]
               rfl
              refine take_ (i := 13) (N := some 50) (v := ?_) (a' := ?_) (bm 20 16383) rfl rfl (take_ofW HT_.out HW_.out (by kernel_rfl)) (fun _ _ _ h => h) (Or.inl ⟨by rfl, ?_⟩) hHeld ?_ ?_
              rotate_left
              ·rintro w' ⟨s0, s1, s2, s3⟩
               go_simp
               with_reducible rfl
              rotate_left
              ·simp only [Act.put, sA, sZ, sS, i64_w, i32_w]
               rfl
              refine pure_ (i := 14) (N := some 51) (v := ?_) (a' := ?_) (bm 20 32767) rfl rfl (any_of HT_.out (by kernel_rfl)) (fun _ _ _ h => h) (Or.inl ⟨by rfl, ?_⟩) ?_ ?_
              rotate_left
              ·intro w'
               go_simp
               with_reducible rfl
              rotate_left
              ·simp only [Act.put, sA, sZ, sS, i64_w, i32_w]
               rfl
              refine pure_ (i := 15) (N := some 52) (v := ?_) (a' := ?_) (bm 20 65535) rfl rfl (any_of HT_.out (by kernel_rfl)) (fun _ _ _ h => h) (Or.inl ⟨by rfl, ?_⟩) ?_ ?_
              rotate_left
              ·intro w'
               go_simp
               with_reducible rfl
              rotate_left
              ·simp only [Act.put, sA, sZ, sS, i64_w, i32_w]
               rfl
              refine pure_ (i := 16) (N := some 53) (v := ?_) (a' := ?_) (bm 20 131071) rfl rfl (any_of HT_.out (by kernel_rfl)) (fun _ _ _ h => h) (Or.inl ⟨by rfl, ?_⟩) ?_ ?_
              rotate_left
              ·intro w'
               go_simp
               with_reducible rfl
              rotate_left
              ·simp only [Act.put, sA, sZ, sS, i64_w, i32_w]
               rfl
              refine pure_ (i := 17) (N := some 54) (v := ?_) (a' := ?_) (bm 20 262143) rfl rfl (any_of HT_.out (by kernel_rfl)) (fun _ _ _ h => h) (Or.inl ⟨by rfl, ?_⟩) ?_ ?_
              rotate_left
              ·intro w'
               go_simp
               with_reducible rfl
              rotate_left
              ·simp only [Act.put, sA, sZ, sS, i64_w, i32_w]
               rfl
              refine one_ (i := 18) (N := some 8) (bm 20 524287) rfl rfl (one_of HT_.out (by kernel_rfl)) (by decide) (fun K hK => ?_)
              refine box_step ?hg (N := 8) ?hd (cs := #[.int .i64 0, .int .i64 0, .int .i64 0, .int .i64 0, .bool false, .string (⟨#[]⟩ : ByteArray), .slice none 0 0]) (t := 28) ?hr ?_; (case hd => rfl); (case hg => rfl); (case hr => first | (go_simp; done) | (go_simp; rfl))
              intro gb111 hg w47 hbox hb
              have n0_ := bX BK106 hb
              have n1_ := bX BK107 hb
              have n2_ := bX BK108 hb
              have n3_ := bS HB hb
              have n4_ := Aside0.mk (hbox)
              have n5_ := Aside0.mk ((by rw [hg]; exact (below_size (by repeat (first | (with_reducible first | exact HB.out | apply below_alloc | apply pw_below_drewN | apply below_drew1 | refine below_set ?_ GE106.out | refine below_set ?_ GE107.out | refine below_set ?_ GE108.out) | exact HB.out))) : w.heap.size ≤ gb111))
              have n6_ := Aside0.mk ((by rw [hg]; exact (below_size (by repeat (first | (with_reducible first | exact HB.out | apply below_alloc | apply pw_below_drewN | apply below_drew1 | refine below_set ?_ GE106.out | refine below_set ?_ GE107.out | refine below_set ?_ GE108.out) | exact HB.out))) : w.heap.size ≤ gb111))
              have n7_ := Aside0.mk ((by rw [hg]; exact Nat.ne_of_lt (bLt BK106) : gb106 ≠ gb111))
              have n8_ := Aside0.mk ((by rw [hg]; exact Nat.ne_of_gt (bLt BK106) : gb111 ≠ gb106))
              have n9_ := Aside0.mk ((by rw [hg]; exact Nat.ne_of_lt (bLt BK107) : gb107 ≠ gb111))
              have n10_ := Aside0.mk ((by rw [hg]; exact Nat.ne_of_gt (bLt BK107) : gb111 ≠ gb107))
              have n11_ := Aside0.mk ((by rw [hg]; exact Nat.ne_of_lt (bLt BK108) : gb108 ≠ gb111))
              have n12_ := Aside0.mk ((by rw [hg]; exact Nat.ne_of_gt (bLt BK108) : gb111 ≠ gb108))
              clear BK106
              clear BK107
              clear BK108
              clear HB
              have BK106 := n0_
              have BK107 := n1_
              have BK108 := n2_
              have HB := n3_
              have BK111 := n4_
              have GW111 := n5_
              have GE111 := n6_
              have NB106_111 := n7_
              have NB111_106 := n8_
              have NB107_111 := n9_
              have NB111_107 := n10_
              have NB108_111 := n11_
              have NB111_108 := n12_
              clear n0_ n1_ n2_ n3_ n4_ n5_ n6_ n7_ n8_ n9_ n10_ n11_ n12_
              clear hb hbox hg
              refine hK.out _ _ (cz4 BK106) (fun hHeld => ?_)
              clear hK K
              refine norm_ (a' := ?_) ?_ ?_
              rotate_left
              ·show Act.put _ (some 8) _ = _
               simp only [Act.put, sA, sZ, sS, i64_w, i32_w]
               rfl
              refine one_ (i := 19) (N := none) (bm 20 1048575) rfl rfl (one_of HT_.out (by kernel_rfl)) (by decide) (fun K hK => ?_)
              have hs48 : w47.cell? ⟨gb111, 0, none⟩ = some (.int .i64 0) := (blk_cell BK111.out 0).trans rfl
              have hfs48 := blk_frozen BK111.out 0
              have hns48_0 := NB106_111.out
              have hns48_1 := NB107_111.out
              have hns48_2 := NB108_111.out
              have hms48_0 := NB111_106.out
              have hms48_1 := NB111_107.out
              have hms48_2 := NB111_108.out
              have hs49 : w47.cell? ⟨gb111, 1, none⟩ = some (.int .i64 0) := (blk_cell BK111.out 1).trans rfl
              have hfs49 := blk_frozen BK111.out 1
              have hns49_0 := NB106_111.out
              have hns49_1 := NB107_111.out
              have hns49_2 := NB108_111.out
              have hms49_0 := NB111_106.out
              have hms49_1 := NB111_107.out
              have hms49_2 := NB111_108.out
              have hs50 : w47.cell? ⟨gb111, 2, none⟩ = some (.int .i64 0) := (blk_cell BK111.out 2).trans rfl
              have hfs50 := blk_frozen BK111.out 2
              have hns50_0 := NB106_111.out
              have hns50_1 := NB107_111.out
              have hns50_2 := NB108_111.out
              have hms50_0 := NB111_106.out
              have hms50_1 := NB111_107.out
              have hms50_2 := NB111_108.out
              have hs51 : w47.cell? ⟨gb111, 3, none⟩ = some (.int .i64 0) := (blk_cell BK111.out 3).trans rfl
              have hfs51 := blk_frozen BK111.out 3
              have hns51_0 := NB106_111.out
              have hns51_1 := NB107_111.out
              have hns51_2 := NB108_111.out
              have hms51_0 := NB111_106.out
              have hms51_1 := NB111_107.out
              have hms51_2 := NB111_108.out
              have hs52 : w47.cell? ⟨gb111, 4, none⟩ = some (.bool false) := (blk_cell BK111.out 4).trans rfl
              have hfs52 := blk_frozen BK111.out 4
              have hns52_0 := NB106_111.out
              have hns52_1 := NB107_111.out
              have hns52_2 := NB108_111.out
              have hms52_0 := NB111_106.out
              have hms52_1 := NB111_107.out
              have hms52_2 := NB111_108.out
              have hs53 : w47.cell? ⟨gb111, 5, none⟩ = some (.string (⟨#[]⟩ : ByteArray)) := (blk_cell BK111.out 5).trans rfl
              have hfs53 := blk_frozen BK111.out 5
              have hns53_0 := NB106_111.out
              have hns53_1 := NB107_111.out
              have hns53_2 := NB108_111.out
              have hms53_0 := NB111_106.out
              have hms53_1 := NB111_107.out
              have hms53_2 := NB111_108.out
              have hs54 : w47.cell? ⟨gb111, 6, none⟩ = some (.slice none 0 0) := (blk_cell BK111.out 6).trans rfl
              have hfs54 := blk_frozen BK111.out 6
              have hns54_0 := NB106_111.out
              have hns54_1 := NB107_111.out
              have hns54_2 := NB108_111.out
              have hms54_0 := NB111_106.out
              have hms54_1 := NB111_107.out
              have hms54_2 := NB111_108.out
              refine skip_ (w1 := ?_) (by rfl) rfl ?_ ?_
              rotate_left
              ·go_simp
               rfl
              refine hK.out _ _ ⟨((cell_far (p := ⟨gb111, _, none⟩) NB106_111.out _).trans (((cell_far (p := ⟨gb111, _, none⟩) NB106_111.out _).trans (((cell_far (p := ⟨gb111, _, none⟩) NB106_111.out _).trans (((cell_far (p := ⟨gb111, _, none⟩) NB106_111.out _).trans (((cell_far (p := ⟨gb111, _, none⟩) NB106_111.out _).trans (((cell_far (p := ⟨gb111, _, none⟩) NB106_111.out _).trans (((cell_far (p := ⟨gb111, _, none⟩) NB106_111.out _).trans (hHeld.1)))))))))))))), ((cell_far (p := ⟨gb111, _, none⟩) NB106_111.out _).trans (((cell_far (p := ⟨gb111, _, none⟩) NB106_111.out _).trans (((cell_far (p := ⟨gb111, _, none⟩) NB106_111.out _).trans (((cell_far (p := ⟨gb111, _, none⟩) NB106_111.out _).trans (((cell_far (p := ⟨gb111, _, none⟩) NB106_111.out _).trans (((cell_far (p := ⟨gb111, _, none⟩) NB106_111.out _).trans (((cell_far (p := ⟨gb111, _, none⟩) NB106_111.out _).trans (hHeld.2.1)))))))))))))), ((cell_far (p := ⟨gb111, _, none⟩) NB106_111.out _).trans (((cell_far (p := ⟨gb111, _, none⟩) NB106_111.out _).trans (((cell_far (p := ⟨gb111, _, none⟩) NB106_111.out _).trans (((cell_far (p := ⟨gb111, _, none⟩) NB106_111.out _).trans (((cell_far (p := ⟨gb111, _, none⟩) NB106_111.out _).trans (((cell_far (p := ⟨gb111, _, none⟩) NB106_111.out _).trans (((cell_far (p := ⟨gb111, _, none⟩) NB106_111.out _).trans (hHeld.2.2.1)))))))))))))), ((cell_far (p := ⟨gb111, _, none⟩) NB106_111.out _).trans (((cell_far (p := ⟨gb111, _, none⟩) NB106_111.out _).trans (((cell_far (p := ⟨gb111, _, none⟩) NB106_111.out _).trans (((cell_far (p := ⟨gb111, _, none⟩) NB106_111.out _).trans (((cell_far (p := ⟨gb111, _, none⟩) NB106_111.out _).trans (((cell_far (p := ⟨gb111, _, none⟩) NB106_111.out _).trans (((cell_far (p := ⟨gb111, _, none⟩) NB106_111.out _).trans (hHeld.2.2.2))))))))))))))⟩ (fun hHeld => ?_)
              clear hK K
              refine done_ (done_of HT_.out (by kernel_rfl)) ?_
              have hnb55 := NB111_106.out
              have hnc55 := NB106_111.out
              have hnb56 := NB111_107.out
              have hnc56 := NB107_111.out
              have hnb57 := NB111_108.out
              have hnc57 := NB108_111.out
              obtain ⟨hcz58_0, hcz58_1, hcz58_2, hcz58_3, hcz58_4, hcz58_5, hcz58_6⟩ := cz7 BK111
              obtain ⟨hfz58_0, hfz58_1, hfz58_2, hfz58_3, hfz58_4, hfz58_5, hfz58_6⟩ := fz7 BK111
              have hnb59 := NB106_107.out
              have hnc59 := NB107_106.out
              have hnb60 := NB106_108.out
              have hnc60 := NB108_106.out
              obtain ⟨hcz61_0, hcz61_1, hcz61_2, hcz61_3⟩ := cz4 BK106
              obtain ⟨hfz61_0, hfz61_1, hfz61_2, hfz61_3⟩ := fz4 BK106
              try go_wp2
              have n0_ : Aside0 (((((((((w47.setCell ⟨gb111, 0, none⟩ (.int .i64 8)).setCell ⟨gb111, 1, none⟩ (.int .i64 0)).setCell ⟨gb111, 2, none⟩ (.int .i64 a0_1)).setCell ⟨gb111, 3, none⟩ (.int .i64 0)).setCell ⟨gb111, 4, none⟩ (.bool true)).setCell ⟨gb111, 5, none⟩ (.string (a0_2.extract (a0_1 : Int).toNat (x7_31 : Int).toNat))).setCell ⟨gb111, 6, none⟩ (.slice none 0 0)).setCell ⟨gb106, 1, none⟩ (.int .i64 x7_31)).heap[gb106]? = some (.cells #[.int .i64 a0_0, .int .i64 x7_31, .string a0_2, .bool true] 25 (0, 0))) := ⟨by (with_reducible repeat (first | refine bN ?_ _ | refine bD ?_ | refine bA ?_ _)); refine blk_put (cs := #[.int .i64 a0_0, .int .i64 a0_1, .string a0_2, .bool true]) ?_ 1 _ rfl; (with_reducible repeat (first | refine bN ?_ _ | refine bD ?_ | refine bA ?_ _)); refine blk_far ?_ NB106_111.out _; (with_reducible repeat (first | refine bN ?_ _ | refine bD ?_ | refine bA ?_ _)); refine blk_far ?_ NB106_111.out _; (with_reducible repeat (first | refine bN ?_ _ | refine bD ?_ | refine bA ?_ _)); refine blk_far ?_ NB106_111.out _; (with_reducible repeat (first | refine bN ?_ _ | refine bD ?_ | refine bA ?_ _)); refine blk_far ?_ NB106_111.out _; (with_reducible repeat (first | refine bN ?_ _ | refine bD ?_ | refine bA ?_ _)); refine blk_far ?_ NB106_111.out _; (with_reducible repeat (first | refine bN ?_ _ | refine bD ?_ | refine bA ?_ _)); refine blk_far ?_ NB106_111.out _; (with_reducible repeat (first | refine bN ?_ _ | refine bD ?_ | refine bA ?_ _)); refine blk_far ?_ NB106_111.out _; (with_reducible repeat (first | refine bN ?_ _ | refine bD ?_ | refine bA ?_ _)); exact BK106.out⟩
              have n1_ : Aside0 (((((((((w47.setCell ⟨gb111, 0, none⟩ (.int .i64 8)).setCell ⟨gb111, 1, none⟩ (.int .i64 0)).setCell ⟨gb111, 2, none⟩ (.int .i64 a0_1)).setCell ⟨gb111, 3, none⟩ (.int .i64 0)).setCell ⟨gb111, 4, none⟩ (.bool true)).setCell ⟨gb111, 5, none⟩ (.string (a0_2.extract (a0_1 : Int).toNat (x7_31 : Int).toNat))).setCell ⟨gb111, 6, none⟩ (.slice none 0 0)).setCell ⟨gb106, 1, none⟩ (.int .i64 x7_31)).heap[gb107]? = some (.cells #[.int .i64 0, .int .i64 0, .string (⟨#[]⟩ : ByteArray), .bool false] 25 (0, 0))) := ⟨by (with_reducible repeat (first | refine bN ?_ _ | refine bD ?_ | refine bA ?_ _)); refine blk_far ?_ NB107_106.out _; (with_reducible repeat (first | refine bN ?_ _ | refine bD ?_ | refine bA ?_ _)); refine blk_far ?_ NB107_111.out _; (with_reducible repeat (first | refine bN ?_ _ | refine bD ?_ | refine bA ?_ _)); refine blk_far ?_ NB107_111.out _; (with_reducible repeat (first | refine bN ?_ _ | refine bD ?_ | refine bA ?_ _)); refine blk_far ?_ NB107_111.out _; (with_reducible repeat (first | refine bN ?_ _ | refine bD ?_ | refine bA ?_ _)); refine blk_far ?_ NB107_111.out _; (with_reducible repeat (first | refine bN ?_ _ | refine bD ?_ | refine bA ?_ _)); refine blk_far ?_ NB107_111.out _; (with_reducible repeat (first | refine bN ?_ _ | refine bD ?_ | refine bA ?_ _)); refine blk_far ?_ NB107_111.out _; (with_reducible repeat (first | refine bN ?_ _ | refine bD ?_ | refine bA ?_ _)); refine blk_far ?_ NB107_111.out _; (with_reducible repeat (first | refine bN ?_ _ | refine bD ?_ | refine bA ?_ _)); exact BK107.out⟩
              have n2_ : Aside0 (((((((((w47.setCell ⟨gb111, 0, none⟩ (.int .i64 8)).setCell ⟨gb111, 1, none⟩ (.int .i64 0)).setCell ⟨gb111, 2, none⟩ (.int .i64 a0_1)).setCell ⟨gb111, 3, none⟩ (.int .i64 0)).setCell ⟨gb111, 4, none⟩ (.bool true)).setCell ⟨gb111, 5, none⟩ (.string (a0_2.extract (a0_1 : Int).toNat (x7_31 : Int).toNat))).setCell ⟨gb111, 6, none⟩ (.slice none 0 0)).setCell ⟨gb106, 1, none⟩ (.int .i64 x7_31)).heap[gb108]? = some (.cells #[.int .i64 0, .int .i64 0, .int .i64 0, .int .i64 0, .bool false, .string (⟨#[]⟩ : ByteArray), .slice none 0 0] 28 (0, 0))) := ⟨by (with_reducible repeat (first | refine bN ?_ _ | refine bD ?_ | refine bA ?_ _)); refine blk_far ?_ NB108_106.out _; (with_reducible repeat (first | refine bN ?_ _ | refine bD ?_ | refine bA ?_ _)); refine blk_far ?_ NB108_111.out _; (with_reducible repeat (first | refine bN ?_ _ | refine bD ?_ | refine bA ?_ _)); refine blk_far ?_ NB108_111.out _; (with_reducible repeat (first | refine bN ?_ _ | refine bD ?_ | refine bA ?_ _)); refine blk_far ?_ NB108_111.out _; (with_reducible repeat (first | refine bN ?_ _ | refine bD ?_ | refine bA ?_ _)); refine blk_far ?_ NB108_111.out _; (with_reducible repeat (first | refine bN ?_ _ | refine bD ?_ | refine bA ?_ _)); refine blk_far ?_ NB108_111.out _; (with_reducible repeat (first | refine bN ?_ _ | refine bD ?_ | refine bA ?_ _)); refine blk_far ?_ NB108_111.out _; (with_reducible repeat (first | refine bN ?_ _ | refine bD ?_ | refine bA ?_ _)); refine blk_far ?_ NB108_111.out _; (with_reducible repeat (first | refine bN ?_ _ | refine bD ?_ | refine bA ?_ _)); exact BK108.out⟩
              have n3_ : Aside0 (((((((((w47.setCell ⟨gb111, 0, none⟩ (.int .i64 8)).setCell ⟨gb111, 1, none⟩ (.int .i64 0)).setCell ⟨gb111, 2, none⟩ (.int .i64 a0_1)).setCell ⟨gb111, 3, none⟩ (.int .i64 0)).setCell ⟨gb111, 4, none⟩ (.bool true)).setCell ⟨gb111, 5, none⟩ (.string (a0_2.extract (a0_1 : Int).toNat (x7_31 : Int).toNat))).setCell ⟨gb111, 6, none⟩ (.slice none 0 0)).setCell ⟨gb106, 1, none⟩ (.int .i64 x7_31)).heap[gb111]? = some (.cells #[.int .i64 8, .int .i64 0, .int .i64 a0_1, .int .i64 0, .bool true, .string (a0_2.extract (a0_1 : Int).toNat (x7_31 : Int).toNat), .slice none 0 0] 28 (0, 0))) := ⟨by (with_reducible repeat (first | refine bN ?_ _ | refine bD ?_ | refine bA ?_ _)); refine blk_far ?_ NB111_106.out _; (with_reducible repeat (first | refine bN ?_ _ | refine bD ?_ | refine bA ?_ _)); refine blk_put (cs := #[.int .i64 8, .int .i64 0, .int .i64 a0_1, .int .i64 0, .bool true, .string (a0_2.extract (a0_1 : Int).toNat (x7_31 : Int).toNat), .slice none 0 0]) ?_ 6 _ rfl; (with_reducible repeat (first | refine bN ?_ _ | refine bD ?_ | refine bA ?_ _)); refine blk_put (cs := #[.int .i64 8, .int .i64 0, .int .i64 a0_1, .int .i64 0, .bool true, .string (⟨#[]⟩ : ByteArray), .slice none 0 0]) ?_ 5 _ rfl; (with_reducible repeat (first | refine bN ?_ _ | refine bD ?_ | refine bA ?_ _)); refine blk_put (cs := #[.int .i64 8, .int .i64 0, .int .i64 a0_1, .int .i64 0, .bool false, .string (⟨#[]⟩ : ByteArray), .slice none 0 0]) ?_ 4 _ rfl; (with_reducible repeat (first | refine bN ?_ _ | refine bD ?_ | refine bA ?_ _)); refine blk_put (cs := #[.int .i64 8, .int .i64 0, .int .i64 a0_1, .int .i64 0, .bool false, .string (⟨#[]⟩ : ByteArray), .slice none 0 0]) ?_ 3 _ rfl; (with_reducible repeat (first | refine bN ?_ _ | refine bD ?_ | refine bA ?_ _)); refine blk_put (cs := #[.int .i64 8, .int .i64 0, .int .i64 0, .int .i64 0, .bool false, .string (⟨#[]⟩ : ByteArray), .slice none 0 0]) ?_ 2 _ rfl; (with_reducible repeat (first | refine bN ?_ _ | refine bD ?_ | refine bA ?_ _)); refine blk_put (cs := #[.int .i64 8, .int .i64 0, .int .i64 0, .int .i64 0, .bool false, .string (⟨#[]⟩ : ByteArray), .slice none 0 0]) ?_ 1 _ rfl; (with_reducible repeat (first | refine bN ?_ _ | refine bD ?_ | refine bA ?_ _)); refine blk_put (cs := #[.int .i64 0, .int .i64 0, .int .i64 0, .int .i64 0, .bool false, .string (⟨#[]⟩ : ByteArray), .slice none 0 0]) ?_ 0 _ rfl; (with_reducible repeat (first | refine bN ?_ _ | refine bD ?_ | refine bA ?_ _)); exact BK111.out⟩
              have n4_ : Aside0 (Below w.heap.size w ((((((((w47.setCell ⟨gb111, 0, none⟩ (.int .i64 8)).setCell ⟨gb111, 1, none⟩ (.int .i64 0)).setCell ⟨gb111, 2, none⟩ (.int .i64 a0_1)).setCell ⟨gb111, 3, none⟩ (.int .i64 0)).setCell ⟨gb111, 4, none⟩ (.bool true)).setCell ⟨gb111, 5, none⟩ (.string (a0_2.extract (a0_1 : Int).toNat (x7_31 : Int).toNat))).setCell ⟨gb111, 6, none⟩ (.slice none 0 0)).setCell ⟨gb106, 1, none⟩ (.int .i64 x7_31))) := ⟨by repeat (first | (with_reducible first | exact HB.out | apply below_alloc | apply pw_below_drewN | apply below_drew1 | refine below_set ?_ GE106.out | refine below_set ?_ GE107.out | refine below_set ?_ GE108.out | refine below_set ?_ GE111.out) | exact HB.out)⟩
              (try clear BK106)
              (try clear BK107)
              (try clear BK108)
              (try clear BK111)
              (try clear HB)
              generalize ((((((((w47.setCell ⟨gb111, 0, none⟩ (.int .i64 8)).setCell ⟨gb111, 1, none⟩ (.int .i64 0)).setCell ⟨gb111, 2, none⟩ (.int .i64 a0_1)).setCell ⟨gb111, 3, none⟩ (.int .i64 0)).setCell ⟨gb111, 4, none⟩ (.bool true)).setCell ⟨gb111, 5, none⟩ (.string (a0_2.extract (a0_1 : Int).toNat (x7_31 : Int).toNat))).setCell ⟨gb111, 6, none⟩ (.slice none 0 0)).setCell ⟨gb106, 1, none⟩ (.int .i64 x7_31)) = w62 at n0_ n1_ n2_ n3_ n4_ ⊢
              have BK106 := n0_
              have BK107 := n1_
              have BK108 := n2_
              have BK111 := n3_
              have HB := n4_
              clear n0_ n1_ n2_ n3_ n4_
              have n0_ := Aside0.mk (blk_drew BK106.out)
              have n1_ := Aside0.mk (blk_drew BK107.out)
              have n2_ := Aside0.mk (blk_drew BK108.out)
              have n3_ := Aside0.mk (blk_drew BK111.out)
              have n4_ := Aside0.mk (below_drew1 HB.out)
              clear BK106
              clear BK107
              clear BK108
              clear BK111
              clear HB
              have BK106 := n0_
              have BK107 := n1_
              have BK108 := n2_
              have BK111 := n3_
              have HB := n4_
              clear n0_ n1_ n2_ n3_ n4_
              refine start_ (n := 5) (S := fun w' => w'.cell? ⟨gb106, 0, none⟩ = some (.int .i64 a0_0) ∧ w'.cell? ⟨gb106, 1, none⟩ = some (.int .i64 x7_31) ∧ w'.cell? ⟨gb106, 2, none⟩ = some (.string a0_2) ∧ w'.cell? ⟨gb106, 3, none⟩ = some (.bool true) ∧ w'.cell? ⟨gb111, 0, none⟩ = some (.int .i64 8) ∧ w'.cell? ⟨gb111, 1, none⟩ = some (.int .i64 0) ∧ w'.cell? ⟨gb111, 2, none⟩ = some (.int .i64 a0_1) ∧ w'.cell? ⟨gb111, 3, none⟩ = some (.int .i64 0) ∧ w'.cell? ⟨gb111, 4, none⟩ = some (.bool true) ∧ w'.cell? ⟨gb111, 5, none⟩ = some (.string (a0_2.extract (a0_1 : Int).toNat (x7_31 : Int).toNat)) ∧ w'.cell? ⟨gb111, 6, none⟩ = some (.slice none 0 0)) (ds := []) #[false, false, false, false, false] (by kernel_rfl) rfl rfl (cx4 BK106 (cz7 BK111)) (fun hHeld => ?_)
              generalize w62.drew = w63 at BK106 BK107 BK108 BK111 HB hHeld ⊢
              refine take_ (i := 0) (N := some 67) (v := ?_) (a' := ?_) #[true, false, false, false, false] rfl rfl (by kernel_rfl) (fun _ _ _ h => h) (Or.inl ⟨by rfl, ?_⟩) hHeld ?_ ?_
              rotate_left
              ·rintro w' ⟨s0, s1, s2, s3, s4, s5, s6, s7, s8, s9, s10⟩
               go_simp
               with_reducible rfl
              rotate_left
              ·simp only [Act.put, sA, sZ, sS, i64_w, i32_w]
               rfl
              refine take_ (i := 1) (N := some 68) (v := ?_) (a' := ?_) #[true, true, false, false, false] rfl rfl (by kernel_rfl) (fun _ _ _ h => h) (Or.inl ⟨by rfl, ?_⟩) hHeld ?_ ?_
              rotate_left
              ·rintro w' ⟨s0, s1, s2, s3, s4, s5, s6, s7, s8, s9, s10⟩
               go_simp
               with_reducible rfl
              rotate_left
              ·simp only [Act.put, sA, sZ, sS, i64_w, i32_w]
               rfl
              refine one_ (i := 2) (N := none) #[true, true, true, false, false] rfl rfl (by kernel_rfl) (by decide) (fun K hK => ?_)
              have hs64 : w63.cell? ⟨gb107, 0, none⟩ = some (.int .i64 0) := (blk_cell BK107.out 0).trans rfl
              have hfs64 := blk_frozen BK107.out 0
              have hns64_0 := NB106_107.out
              have hns64_2 := NB108_107.out
              have hns64_3 := NB111_107.out
              have hms64_0 := NB107_106.out
              have hms64_2 := NB107_108.out
              have hms64_3 := NB107_111.out
              have hs65 : w63.cell? ⟨gb107, 1, none⟩ = some (.int .i64 0) := (blk_cell BK107.out 1).trans rfl
              have hfs65 := blk_frozen BK107.out 1
              have hns65_0 := NB106_107.out
              have hns65_2 := NB108_107.out
              have hns65_3 := NB111_107.out
              have hms65_0 := NB107_106.out
              have hms65_2 := NB107_108.out
              have hms65_3 := NB107_111.out
              have hs66 : w63.cell? ⟨gb107, 2, none⟩ = some (.string (⟨#[]⟩ : ByteArray)) := (blk_cell BK107.out 2).trans rfl
              have hfs66 := blk_frozen BK107.out 2
              have hns66_0 := NB106_107.out
              have hns66_2 := NB108_107.out
              have hns66_3 := NB111_107.out
              have hms66_0 := NB107_106.out
              have hms66_2 := NB107_108.out
              have hms66_3 := NB107_111.out
              have hs67 : w63.cell? ⟨gb107, 3, none⟩ = some (.bool false) := (blk_cell BK107.out 3).trans rfl
              have hfs67 := blk_frozen BK107.out 3
              have hns67_0 := NB106_107.out
              have hns67_2 := NB108_107.out
              have hns67_3 := NB111_107.out
              have hms67_0 := NB107_106.out
              have hms67_2 := NB107_108.out
              have hms67_3 := NB107_111.out
              refine skip_ (w1 := ?_) (by rfl) rfl ?_ ?_
              rotate_left
              ·go_simp
               rfl
              refine hK.out _ _ ⟨((cell_far (p := ⟨gb107, _, none⟩) NB106_107.out _).trans (((cell_far (p := ⟨gb107, _, none⟩) NB106_107.out _).trans (((cell_far (p := ⟨gb107, _, none⟩) NB106_107.out _).trans (((cell_far (p := ⟨gb107, _, none⟩) NB106_107.out _).trans (hHeld.1)))))))), ((cell_far (p := ⟨gb107, _, none⟩) NB106_107.out _).trans (((cell_far (p := ⟨gb107, _, none⟩) NB106_107.out _).trans (((cell_far (p := ⟨gb107, _, none⟩) NB106_107.out _).trans (((cell_far (p := ⟨gb107, _, none⟩) NB106_107.out _).trans (hHeld.2.1)))))))), ((cell_far (p := ⟨gb107, _, none⟩) NB106_107.out _).trans (((cell_far (p := ⟨gb107, _, none⟩) NB106_107.out _).trans (((cell_far (p := ⟨gb107, _, none⟩) NB106_107.out _).trans (((cell_far (p := ⟨gb107, _, none⟩) NB106_107.out _).trans (hHeld.2.2.1)))))))), ((cell_far (p := ⟨gb107, _, none⟩) NB106_107.out _).trans (((cell_far (p := ⟨gb107, _, none⟩) NB106_107.out _).trans (((cell_far (p := ⟨gb107, _, none⟩) NB106_107.out _).trans (((cell_far (p := ⟨gb107, _, none⟩) NB106_107.out _).trans (hHeld.2.2.2.1)))))))), ((cell_far (p := ⟨gb107, _, none⟩) NB111_107.out _).trans (((cell_far (p := ⟨gb107, _, none⟩) NB111_107.out _).trans (((cell_far (p := ⟨gb107, _, none⟩) NB111_107.out _).trans (((cell_far (p := ⟨gb107, _, none⟩) NB111_107.out _).trans (hHeld.2.2.2.2.1)))))))), ((cell_far (p := ⟨gb107, _, none⟩) NB111_107.out _).trans (((cell_far (p := ⟨gb107, _, none⟩) NB111_107.out _).trans (((cell_far (p := ⟨gb107, _, none⟩) NB111_107.out _).trans (((cell_far (p := ⟨gb107, _, none⟩) NB111_107.out _).trans (hHeld.2.2.2.2.2.1)))))))), ((cell_far (p := ⟨gb107, _, none⟩) NB111_107.out _).trans (((cell_far (p := ⟨gb107, _, none⟩) NB111_107.out _).trans (((cell_far (p := ⟨gb107, _, none⟩) NB111_107.out _).trans (((cell_far (p := ⟨gb107, _, none⟩) NB111_107.out _).trans (hHeld.2.2.2.2.2.2.1)))))))), ((cell_far (p := ⟨gb107, _, none⟩) NB111_107.out _).trans (((cell_far (p := ⟨gb107, _, none⟩) NB111_107.out _).trans (((cell_far (p := ⟨gb107, _, none⟩) NB111_107.out _).trans (((cell_far (p := ⟨gb107, _, none⟩) NB111_107.out _).trans (hHeld.2.2.2.2.2.2.2.1)))))))), ((cell_far (p := ⟨gb107, _, none⟩) NB111_107.out _).trans (((cell_far (p := ⟨gb107, _, none⟩) NB111_107.out _).trans (((cell_far (p := ⟨gb107, _, none⟩) NB111_107.out _).trans (((cell_far (p := ⟨gb107, _, none⟩) NB111_107.out _).trans (hHeld.2.2.2.2.2.2.2.2.1)))))))), ((cell_far (p := ⟨gb107, _, none⟩) NB111_107.out _).trans (((cell_far (p := ⟨gb107, _, none⟩) NB111_107.out _).trans (((cell_far (p := ⟨gb107, _, none⟩) NB111_107.out _).trans (((cell_far (p := ⟨gb107, _, none⟩) NB111_107.out _).trans (hHeld.2.2.2.2.2.2.2.2.2.1)))))))), ((cell_far (p := ⟨gb107, _, none⟩) NB111_107.out _).trans (((cell_far (p := ⟨gb107, _, none⟩) NB111_107.out _).trans (((cell_far (p := ⟨gb107, _, none⟩) NB111_107.out _).trans (((cell_far (p := ⟨gb107, _, none⟩) NB111_107.out _).trans (hHeld.2.2.2.2.2.2.2.2.2.2))))))))⟩ (fun hHeld => ?_)
              clear hK K
              refine one_ (i := 3) (N := none) #[true, true, true, true, false] rfl rfl (by kernel_rfl) (by decide) (fun K hK => ?_)
              have hs68 : w63.cell? ⟨gb108, 0, none⟩ = some (.int .i64 0) := (blk_cell BK108.out 0).trans rfl
              have hfs68 := blk_frozen BK108.out 0
              have hns68_0 := NB106_108.out
              have hns68_1 := NB107_108.out
              have hns68_3 := NB111_108.out
              have hms68_0 := NB108_106.out
              have hms68_1 := NB108_107.out
              have hms68_3 := NB108_111.out
              have hs69 : w63.cell? ⟨gb108, 1, none⟩ = some (.int .i64 0) := (blk_cell BK108.out 1).trans rfl
              have hfs69 := blk_frozen BK108.out 1
              have hns69_0 := NB106_108.out
              have hns69_1 := NB107_108.out
              have hns69_3 := NB111_108.out
              have hms69_0 := NB108_106.out
              have hms69_1 := NB108_107.out
              have hms69_3 := NB108_111.out
              have hs70 : w63.cell? ⟨gb108, 2, none⟩ = some (.int .i64 0) := (blk_cell BK108.out 2).trans rfl
              have hfs70 := blk_frozen BK108.out 2
              have hns70_0 := NB106_108.out
              have hns70_1 := NB107_108.out
              have hns70_3 := NB111_108.out
              have hms70_0 := NB108_106.out
              have hms70_1 := NB108_107.out
              have hms70_3 := NB108_111.out
              have hs71 : w63.cell? ⟨gb108, 3, none⟩ = some (.int .i64 0) := (blk_cell BK108.out 3).trans rfl
              have hfs71 := blk_frozen BK108.out 3
              have hns71_0 := NB106_108.out
              have hns71_1 := NB107_108.out
              have hns71_3 := NB111_108.out
              have hms71_0 := NB108_106.out
              have hms71_1 := NB108_107.out
              have hms71_3 := NB108_111.out
              have hs72 : w63.cell? ⟨gb108, 4, none⟩ = some (.bool false) := (blk_cell BK108.out 4).trans rfl
              have hfs72 := blk_frozen BK108.out 4
              have hns72_0 := NB106_108.out
              have hns72_1 := NB107_108.out
              have hns72_3 := NB111_108.out
              have hms72_0 := NB108_106.out
              have hms72_1 := NB108_107.out
              have hms72_3 := NB108_111.out
              have hs73 : w63.cell? ⟨gb108, 5, none⟩ = some (.string (⟨#[]⟩ : ByteArray)) := (blk_cell BK108.out 5).trans rfl
              have hfs73 := blk_frozen BK108.out 5
              have hns73_0 := NB106_108.out
              have hns73_1 := NB107_108.out
              have hns73_3 := NB111_108.out
              have hms73_0 := NB108_106.out
              have hms73_1 := NB108_107.out
              have hms73_3 := NB108_111.out
              have hs74 : w63.cell? ⟨gb108, 6, none⟩ = some (.slice none 0 0) := (blk_cell BK108.out 6).trans rfl
              have hfs74 := blk_frozen BK108.out 6
              have hns74_0 := NB106_108.out
              have hns74_1 := NB107_108.out
              have hns74_3 := NB111_108.out
              have hms74_0 := NB108_106.out
              have hms74_1 := NB108_107.out
              have hms74_3 := NB108_111.out
              refine skip_ (w1 := ?_) (by rfl) rfl ?_ ?_
              rotate_left
              ·go_simp
               rfl
              refine hK.out _ _ ⟨((cell_far (p := ⟨gb108, _, none⟩) NB106_108.out _).trans (((cell_far (p := ⟨gb108, _, none⟩) NB106_108.out _).trans (((cell_far (p := ⟨gb108, _, none⟩) NB106_108.out _).trans (((cell_far (p := ⟨gb108, _, none⟩) NB106_108.out _).trans (((cell_far (p := ⟨gb108, _, none⟩) NB106_108.out _).trans (((cell_far (p := ⟨gb108, _, none⟩) NB106_108.out _).trans (((cell_far (p := ⟨gb108, _, none⟩) NB106_108.out _).trans (hHeld.1)))))))))))))), ((cell_far (p := ⟨gb108, _, none⟩) NB106_108.out _).trans (((cell_far (p := ⟨gb108, _, none⟩) NB106_108.out _).trans (((cell_far (p := ⟨gb108, _, none⟩) NB106_108.out _).trans (((cell_far (p := ⟨gb108, _, none⟩) NB106_108.out _).trans (((cell_far (p := ⟨gb108, _, none⟩) NB106_108.out _).trans (((cell_far (p := ⟨gb108, _, none⟩) NB106_108.out _).trans (((cell_far (p := ⟨gb108, _, none⟩) NB106_108.out _).trans (hHeld.2.1)))))))))))))), ((cell_far (p := ⟨gb108, _, none⟩) NB106_108.out _).trans (((cell_far (p := ⟨gb108, _, none⟩) NB106_108.out _).trans (((cell_far (p := ⟨gb108, _, none⟩) NB106_108.out _).trans (((cell_far (p := ⟨gb108, _, none⟩) NB106_108.out _).trans (((cell_far (p := ⟨gb108, _, none⟩) NB106_108.out _).trans (((cell_far (p := ⟨gb108, _, none⟩) NB106_108.out _).trans (((cell_far (p := ⟨gb108, _, none⟩) NB106_108.out _).trans (hHeld.2.2.1)))))))))))))), ((cell_far (p := ⟨gb108, _, none⟩) NB106_108.out _).trans (((cell_far (p := ⟨gb108, _, none⟩) NB106_108.out _).trans (((cell_far (p := ⟨gb108, _, none⟩) NB106_108.out _).trans (((cell_far (p := ⟨gb108, _, none⟩) NB106_108.out _).trans (((cell_far (p := ⟨gb108, _, none⟩) NB106_108.out _).trans (((cell_far (p := ⟨gb108, _, none⟩) NB106_108.out _).trans (((cell_far (p := ⟨gb108, _, none⟩) NB106_108.out _).trans (hHeld.2.2.2.1)))))))))))))), ((cell_far (p := ⟨gb108, _, none⟩) NB111_108.out _).trans (((cell_far (p := ⟨gb108, _, none⟩) NB111_108.out _).trans (((cell_far (p := ⟨gb108, _, none⟩) NB111_108.out _).trans (((cell_far (p := ⟨gb108, _, none⟩) NB111_108.out _).trans (((cell_far (p := ⟨gb108, _, none⟩) NB111_108.out _).trans (((cell_far (p := ⟨gb108, _, none⟩) NB111_108.out _).trans (((cell_far (p := ⟨gb108, _, none⟩) NB111_108.out _).trans (hHeld.2.2.2.2.1)))))))))))))), ((cell_far (p := ⟨gb108, _, none⟩) NB111_108.out _).trans (((cell_far (p := ⟨gb108, _, none⟩) NB111_108.out _).trans (((cell_far (p := ⟨gb108, _, none⟩) NB111_108.out _).trans (((cell_far (p := ⟨gb108, _, none⟩) NB111_108.out _).trans (((cell_far (p := ⟨gb108, _, none⟩) NB111_108.out _).trans (((cell_far (p := ⟨gb108, _, none⟩) NB111_108.out _).trans (((cell_far (p := ⟨gb108, _, none⟩) NB111_108.out _).trans (hHeld.2.2.2.2.2.1)))))))))))))), ((cell_far (p := ⟨gb108, _, none⟩) NB111_108.out _).trans (((cell_far (p := ⟨gb108, _, none⟩) NB111_108.out _).trans (((cell_far (p := ⟨gb108, _, none⟩) NB111_108.out _).trans (((cell_far (p := ⟨gb108, _, none⟩) NB111_108.out _).trans (((cell_far (p := ⟨gb108, _, none⟩) NB111_108.out _).trans (((cell_far (p := ⟨gb108, _, none⟩) NB111_108.out _).trans (((cell_far (p := ⟨gb108, _, none⟩) NB111_108.out _).trans (hHeld.2.2.2.2.2.2.1)))))))))))))), ((cell_far (p := ⟨gb108, _, none⟩) NB111_108.out _).trans (((cell_far (p := ⟨gb108, _, none⟩) NB111_108.out _).trans (((cell_far (p := ⟨gb108, _, none⟩) NB111_108.out _).trans (((cell_far (p := ⟨gb108, _, none⟩) NB111_108.out _).trans (((cell_far (p := ⟨gb108, _, none⟩) NB111_108.out _).trans (((cell_far (p := ⟨gb108, _, none⟩) NB111_108.out _).trans (((cell_far (p := ⟨gb108, _, none⟩) NB111_108.out _).trans (hHeld.2.2.2.2.2.2.2.1)))))))))))))), ((cell_far (p := ⟨gb108, _, none⟩) NB111_108.out _).trans (((cell_far (p := ⟨gb108, _, none⟩) NB111_108.out _).trans (((cell_far (p := ⟨gb108, _, none⟩) NB111_108.out _).trans (((cell_far (p := ⟨gb108, _, none⟩) NB111_108.out _).trans (((cell_far (p := ⟨gb108, _, none⟩) NB111_108.out _).trans (((cell_far (p := ⟨gb108, _, none⟩) NB111_108.out _).trans (((cell_far (p := ⟨gb108, _, none⟩) NB111_108.out _).trans (hHeld.2.2.2.2.2.2.2.2.1)))))))))))))), ((cell_far (p := ⟨gb108, _, none⟩) NB111_108.out _).trans (((cell_far (p := ⟨gb108, _, none⟩) NB111_108.out _).trans (((cell_far (p := ⟨gb108, _, none⟩) NB111_108.out _).trans (((cell_far (p := ⟨gb108, _, none⟩) NB111_108.out _).trans (((cell_far (p := ⟨gb108, _, none⟩) NB111_108.out _).trans (((cell_far (p := ⟨gb108, _, none⟩) NB111_108.out _).trans (((cell_far (p := ⟨gb108, _, none⟩) NB111_108.out _).trans (hHeld.2.2.2.2.2.2.2.2.2.1)))))))))))))), ((cell_far (p := ⟨gb108, _, none⟩) NB111_108.out _).trans (((cell_far (p := ⟨gb108, _, none⟩) NB111_108.out _).trans (((cell_far (p := ⟨gb108, _, none⟩) NB111_108.out _).trans (((cell_far (p := ⟨gb108, _, none⟩) NB111_108.out _).trans (((cell_far (p := ⟨gb108, _, none⟩) NB111_108.out _).trans (((cell_far (p := ⟨gb108, _, none⟩) NB111_108.out _).trans (((cell_far (p := ⟨gb108, _, none⟩) NB111_108.out _).trans (hHeld.2.2.2.2.2.2.2.2.2.2))))))))))))))⟩ (fun hHeld => ?_)
              clear hK K
              refine pure_ (i := 4) (N := some 6) (v := ?_) (a' := ?_) #[true, true, true, true, true] rfl rfl (by kernel_rfl) (fun _ _ _ h => h) (Or.inl ⟨by rfl, ?_⟩) ?_ ?_
              rotate_left
              ·intro w'
               go_simp
               with_reducible rfl
              rotate_left
              ·simp only [Act.put, sA, sZ, sS, i64_w, i32_w]
               rfl
              refine done_ (by kernel_rfl) ?_
              try go_wp2
              refine bodyPost_ret (results_list (rs := [.cell 4 25, .cell 5 28, .tmp 6]) rfl (by simp) (.cell gb107 25 #[.int .i64 a0_0, .int .i64 x7_31, .string a0_2, .bool true] (0, 0) _ rfl (by (with_reducible repeat (first | refine bN ?_ _ | refine bD ?_ | refine bA ?_ _)); refine blk_far ?_ NB107_108.out _; (with_reducible repeat (first | refine bN ?_ _ | refine bD ?_ | refine bA ?_ _)); refine blk_far ?_ NB107_108.out _; (with_reducible repeat (first | refine bN ?_ _ | refine bD ?_ | refine bA ?_ _)); refine blk_far ?_ NB107_108.out _; (with_reducible repeat (first | refine bN ?_ _ | refine bD ?_ | refine bA ?_ _)); refine blk_far ?_ NB107_108.out _; (with_reducible repeat (first | refine bN ?_ _ | refine bD ?_ | refine bA ?_ _)); refine blk_far ?_ NB107_108.out _; (with_reducible repeat (first | refine bN ?_ _ | refine bD ?_ | refine bA ?_ _)); refine blk_far ?_ NB107_108.out _; (with_reducible repeat (first | refine bN ?_ _ | refine bD ?_ | refine bA ?_ _)); refine blk_far ?_ NB107_108.out _; (with_reducible repeat (first | refine bN ?_ _ | refine bD ?_ | refine bA ?_ _)); refine blk_put (cs := #[.int .i64 a0_0, .int .i64 x7_31, .string a0_2, .bool false]) ?_ 3 _ rfl; (with_reducible repeat (first | refine bN ?_ _ | refine bD ?_ | refine bA ?_ _)); refine blk_put (cs := #[.int .i64 a0_0, .int .i64 x7_31, .string (⟨#[]⟩ : ByteArray), .bool false]) ?_ 2 _ rfl; (with_reducible repeat (first | refine bN ?_ _ | refine bD ?_ | refine bA ?_ _)); refine blk_put (cs := #[.int .i64 a0_0, .int .i64 0, .string (⟨#[]⟩ : ByteArray), .bool false]) ?_ 1 _ rfl; (with_reducible repeat (first | refine bN ?_ _ | refine bD ?_ | refine bA ?_ _)); refine blk_put (cs := #[.int .i64 0, .int .i64 0, .string (⟨#[]⟩ : ByteArray), .bool false]) ?_ 0 _ rfl; (with_reducible repeat (first | refine bN ?_ _ | refine bD ?_ | refine bA ?_ _)); exact BK107.out) Try.underlying25 rfl (by kernel_rfl) (.cell gb108 28 #[.int .i64 8, .int .i64 0, .int .i64 a0_1, .int .i64 0, .bool true, .string (a0_2.extract (a0_1 : Int).toNat (x7_31 : Int).toNat), .slice none 0 0] (0, 0) _ rfl (by (with_reducible repeat (first | refine bN ?_ _ | refine bD ?_ | refine bA ?_ _)); refine blk_put (cs := #[.int .i64 8, .int .i64 0, .int .i64 a0_1, .int .i64 0, .bool true, .string (a0_2.extract (a0_1 : Int).toNat (x7_31 : Int).toNat), .slice none 0 0]) ?_ 6 _ rfl; (with_reducible repeat (first | refine bN ?_ _ | refine bD ?_ | refine bA ?_ _)); refine blk_put (cs := #[.int .i64 8, .int .i64 0, .int .i64 a0_1, .int .i64 0, .bool true, .string (⟨#[]⟩ : ByteArray), .slice none 0 0]) ?_ 5 _ rfl; (with_reducible repeat (first | refine bN ?_ _ | refine bD ?_ | refine bA ?_ _)); refine blk_put (cs := #[.int .i64 8, .int .i64 0, .int .i64 a0_1, .int .i64 0, .bool false, .string (⟨#[]⟩ : ByteArray), .slice none 0 0]) ?_ 4 _ rfl; (with_reducible repeat (first | refine bN ?_ _ | refine bD ?_ | refine bA ?_ _)); refine blk_put (cs := #[.int .i64 8, .int .i64 0, .int .i64 a0_1, .int .i64 0, .bool false, .string (⟨#[]⟩ : ByteArray), .slice none 0 0]) ?_ 3 _ rfl; (with_reducible repeat (first | refine bN ?_ _ | refine bD ?_ | refine bA ?_ _)); refine blk_put (cs := #[.int .i64 8, .int .i64 0, .int .i64 0, .int .i64 0, .bool false, .string (⟨#[]⟩ : ByteArray), .slice none 0 0]) ?_ 2 _ rfl; (with_reducible repeat (first | refine bN ?_ _ | refine bD ?_ | refine bA ?_ _)); refine blk_put (cs := #[.int .i64 8, .int .i64 0, .int .i64 0, .int .i64 0, .bool false, .string (⟨#[]⟩ : ByteArray), .slice none 0 0]) ?_ 1 _ rfl; (with_reducible repeat (first | refine bN ?_ _ | refine bD ?_ | refine bA ?_ _)); refine blk_put (cs := #[.int .i64 0, .int .i64 0, .int .i64 0, .int .i64 0, .bool false, .string (⟨#[]⟩ : ByteArray), .slice none 0 0]) ?_ 0 _ rfl; (with_reducible repeat (first | refine bN ?_ _ | refine bD ?_ | refine bA ?_ _)); refine blk_far ?_ NB108_107.out _; (with_reducible repeat (first | refine bN ?_ _ | refine bD ?_ | refine bA ?_ _)); refine blk_far ?_ NB108_107.out _; (with_reducible repeat (first | refine bN ?_ _ | refine bD ?_ | refine bA ?_ _)); refine blk_far ?_ NB108_107.out _; (with_reducible repeat (first | refine bN ?_ _ | refine bD ?_ | refine bA ?_ _)); refine blk_far ?_ NB108_107.out _; (with_reducible repeat (first | refine bN ?_ _ | refine bD ?_ | refine bA ?_ _)); exact BK108.out) Try.underlying28 rfl (by kernel_rfl) (.tmp .nil)))) rfl ?_
              exact ⟨_, by first | rfl | (simp [errW_none, errW_some] <;> rfl) | (simp [*, errW_none, errW_some] <;> rfl), by first | exact Kd.R_nil _ _ _ _ _ | exact Kd.N_nil _ _ _ _ _ | exact Kd.V_nil _ _ _ _ _ | exact Kd.Q_nil _ _ _ _ _ | exact Kd.S_nil _ _ _ _ _, by repeat (first | (with_reducible first | exact HB.out | apply below_alloc | apply pw_below_drewN | apply below_drew1 | refine below_set ?_ GE106.out | refine below_set ?_ GE107.out | refine below_set ?_ GE108.out | refine below_set ?_ GE111.out) | exact HB.out)⟩
             ·rw [if_neg c45] at H
              have c45b0 : (x7_31 == (a0_2.size : Int)) = false := beq_eq_false_iff_ne.mpr c45
              have c45b1 : (x7_31 != (a0_2.size : Int)) = true := bne_iff_ne.mpr c45
              simp only [Option.some.injEq, Prod.mk.injEq] at H
              obtain ⟨rfl, rfl, rfl, rfl, rfl, rfl, rfl, rfl, rfl, rfl, rfl, rfl⟩ := H
              try go_wp2
              have n0_ := Aside0.mk (blk_drew BK106.out)
              have n1_ := Aside0.mk (blk_drew BK107.out)
              have n2_ := Aside0.mk (blk_drew BK108.out)
              have n3_ := Aside0.mk (below_drew1 HB.out)
              clear BK106
              clear BK107
              clear BK108
              clear HB
              have BK106 := n0_
              have BK107 := n1_
              have BK108 := n2_
              have HB := n3_
              clear n0_ n1_ n2_ n3_
              refine start_ (n := 20) (S := fun w' => w'.cell? ⟨gb106, 0, none⟩ = some (.int .i64 a0_0) ∧ w'.cell? ⟨gb106, 1, none⟩ = some (.int .i64 a0_1) ∧ w'.cell? ⟨gb106, 2, none⟩ = some (.string a0_2) ∧ w'.cell? ⟨gb106, 3, none⟩ = some (.bool true)) (ds := []) (bm 20 0) (by kernel_rfl) rfl rfl (cz4 BK106) (fun hHeld => ?_); refine with_tabW spec_NextPiece.tab8 spec_NextPiece.bits8 (fun HT_ HW_ => ?_)
              generalize wc.drew = w75 at BK106 BK107 BK108 HB hHeld ⊢
              refine pure_ (i := 0) (N := some 37) (v := ?_) (a' := ?_) (bm 20 1) rfl rfl (any_of HT_.out (by kernel_rfl)) (fun _ _ _ h => h) (Or.inl ⟨by rfl, ?_⟩) ?_ ?_
              rotate_left
              ·intro w'
               go_simp
               with_reducible rfl
              rotate_left
              ·simp only [Act.put, sA, sZ, sS, i64_w, i32_w]
               rfl
              refine pure_ (i := 2) (N := some 39) (v := ?_) (a' := ?_) (bm 20 5) rfl rfl (any_of HT_.out (by kernel_rfl)) (fun _ _ _ h => h) (Or.inl ⟨by rfl, ?_⟩) ?_ ?_
              rotate_left
              ·intro w'
               go_simp
               with_reducible rfl
              rotate_left
              ·simp only [Act.put, sA, sZ, sS, i64_w, i32_w]
               rfl
              refine pure_ (i := 4) (N := some 41) (v := ?_) (a' := ?_) (bm 20 21) rfl rfl (any_of HT_.out (by kernel_rfl)) (fun _ _ _ h => h) (Or.inl ⟨by rfl, ?_⟩) ?_ ?_
              rotate_left
              ·intro w'
               go_simp
               with_reducible rfl
              rotate_left
              ·simp only [Act.put, sA, sZ, sS, i64_w, i32_w]
               rfl
              refine pure_ (i := 6) (N := some 43) (v := ?_) (a' := ?_) (bm 20 85) rfl rfl (any_of HT_.out (by kernel_rfl)) (fun _ _ _ h => h) (Or.inl ⟨by rfl, ?_⟩) ?_ ?_
              rotate_left
              ·intro w'
               go_simp
               with_reducible rfl
              rotate_left
              ·simp only [Act.put, sA, sZ, sS, i64_w, i32_w]
               rfl
              refine pure_ (i := 8) (N := some 45) (v := ?_) (a' := ?_) (bm 20 341) rfl rfl (any_of HT_.out (by kernel_rfl)) (fun _ _ _ h => h) (Or.inl ⟨by rfl, ?_⟩) ?_ ?_
              rotate_left
              ·intro w'
               go_simp
               with_reducible rfl
              rotate_left
              ·simp only [Act.put, sA, sZ, sS, i64_w, i32_w]
               rfl
              refine take_ (i := 1) (N := some 38) (v := ?_) (a' := ?_) (bm 20 343) rfl rfl (take_ofW HT_.out HW_.out (by kernel_rfl)) (fun _ _ _ h => h) (Or.inl ⟨by rfl, ?_⟩) hHeld ?_ ?_
              rotate_left
              ·rintro w' ⟨s0, s1, s2, s3⟩
               go_simp
               with_reducible rfl
              rotate_left
              ·simp only [Act.put, sA, sZ, sS, i64_w, i32_w]
               rfl
              refine take_ (i := 3) (N := some 40) (v := ?_) (a' := ?_) (bm 20 351) rfl rfl (take_ofW HT_.out HW_.out (by kernel_rfl)) (fun _ _ _ h => h) (Or.inl ⟨by rfl, ?_⟩) hHeld ?_ ?_
              rotate_left
              ·rintro w' ⟨s0, s1, s2, s3⟩
               go_simp
               with_reducible rfl
              rotate_left
              ·simp only [Act.put, sA, sZ, sS, i64_w, i32_w]
               rfl
              refine take_ (i := 5) (N := some 42) (v := ?_) (a' := ?_) (bm 20 383) rfl rfl (take_ofW HT_.out HW_.out (by kernel_rfl)) (fun _ _ _ h => h) (Or.inl ⟨by rfl, ?_⟩) hHeld ?_ ?_
              rotate_left
              ·rintro w' ⟨s0, s1, s2, s3⟩
               go_simp
               with_reducible rfl
              rotate_left
              ·simp only [Act.put, sA, sZ, sS, i64_w, i32_w]
               rfl
              refine pure_ (i := 7) (N := some 44) (v := ?_) (a' := ?_) (bm 20 511) rfl rfl (any_of HT_.out (by kernel_rfl)) (fun _ _ _ h => h) (Or.inl ⟨by rfl, ?_⟩) ?_ ?_
              rotate_left
              ·intro w'
               go_simp
               with_reducible rfl
              rotate_left
              ·simp only [Act.put, sA, sZ, sS, i64_w, i32_w]
               rfl
              refine take_ (i := 9) (N := some 46) (v := ?_) (a' := ?_) (bm 20 1023) rfl rfl (take_ofW HT_.out HW_.out (by kernel_rfl)) (fun _ _ _ h => h) (Or.inl ⟨by rfl, ?_⟩) hHeld ?_ ?_
              rotate_left
              ·rintro w' ⟨s0, s1, s2, s3⟩
               go_simp
               with_reducible rfl
              rotate_left
              ·simp only [Act.put, sA, sZ, sS, i64_w, i32_w]
               rfl
              refine pure_ (i := 10) (N := some 47) (v := ?_) (a' := ?_) (bm 20 2047) rfl rfl (any_of HT_.out (by kernel_rfl)) (fun _ _ _ h => h) (Or.inl ⟨by rfl, ?_⟩) ?_ ?_
              rotate_left
              ·intro w'
               go_simp
               with_reducible rfl
              rotate_left
              ·simp only [Act.put, sA, sZ, sS, i64_w, i32_w]
               rfl
              refine pure_ (i := 11) (N := some 48) (v := ?_) (a' := ?_) (bm 20 4095) rfl rfl (any_of HT_.out (by kernel_rfl)) (fun _ _ _ h => h) (Or.inl ⟨by rfl, ?_⟩) ?_ ?_
              rotate_left
              ·intro w'
               go_simp
               with_reducible rfl
              rotate_left
              ·simp only [Act.put, sA, sZ, sS, i64_w, i32_w]
               rfl
              refine pure_ (i := 12) (N := some 49) (v := ?_) (a' := ?_) (bm 20 8191) rfl rfl (any_of HT_.out (by kernel_rfl)) (fun _ _ _ h => h) (Or.inl ⟨by rfl, ?_⟩) ?_ ?_
              rotate_left
              ·intro w'
               go_simp
               with_reducible rfl
              rotate_left
              ·simp only [Act.put, sA, sZ, sS, i64_w, i32_w]
               rfl
              refine take_ (i := 13) (N := some 50) (v := ?_) (a' := ?_) (bm 20 16383) rfl rfl (take_ofW HT_.out HW_.out (by kernel_rfl)) (fun _ _ _ h => h) (Or.inl ⟨by rfl, ?_⟩) hHeld ?_ ?_
              rotate_left
              ·rintro w' ⟨s0, s1, s2, s3⟩
               go_simp
               with_reducible rfl
              rotate_left
              ·simp only [Act.put, sA, sZ, sS, i64_w, i32_w]
               rfl
              refine pure_ (i := 14) (N := some 51) (v := ?_) (a' := ?_) (bm 20 32767) rfl rfl (any_of HT_.out (by kernel_rfl)) (fun _ _ _ h => h) (Or.inl ⟨by rfl, ?_⟩) ?_ ?_
              rotate_left
              ·intro w'
               go_simp
               with_reducible rfl
              rotate_left
              ·simp only [Act.put, sA, sZ, sS, i64_w, i32_w]
               rfl
              refine pure_ (i := 15) (N := some 52) (v := ?_) (a' := ?_) (bm 20 65535) rfl rfl (any_of HT_.out (by kernel_rfl)) (fun _ _ _ h => h) (Or.inl ⟨by rfl, ?_⟩) ?_ ?_
              rotate_left
              ·intro w'
               go_simp
               with_reducible rfl
              rotate_left
              ·simp only [Act.put, sA, sZ, sS, i64_w, i32_w]
               rfl
              refine pure_ (i := 16) (N := some 53) (v := ?_) (a' := ?_) (bm 20 131071) rfl rfl (any_of HT_.out (by kernel_rfl)) (fun _ _ _ h => h) (Or.inl ⟨by rfl, ?_⟩) ?_ ?_
              rotate_left
              ·intro w'
               go_simp
               with_reducible rfl
              rotate_left
              ·simp only [Act.put, sA, sZ, sS, i64_w, i32_w]
               rfl
              refine pure_ (i := 17) (N := some 54) (v := ?_) (a' := ?_) (bm 20 262143) rfl rfl (any_of HT_.out (by kernel_rfl)) (fun _ _ _ h => h) (Or.inl ⟨by rfl, ?_⟩) ?_ ?_
              rotate_left
              ·intro w'
               go_simp
               with_reducible rfl
              rotate_left
              ·simp only [Act.put, sA, sZ, sS, i64_w, i32_w]
               rfl
              refine one_ (i := 18) (N := some 8) (bm 20 524287) rfl rfl (one_of HT_.out (by kernel_rfl)) (by decide) (fun K hK => ?_)
              refine box_step ?hg (N := 8) ?hd (cs := #[.int .i64 0, .int .i64 0, .int .i64 0, .int .i64 0, .bool false, .string (⟨#[]⟩ : ByteArray), .slice none 0 0]) (t := 28) ?hr ?_; (case hd => rfl); (case hg => rfl); (case hr => first | (go_simp; done) | (go_simp; rfl))
              intro gb111 hg w76 hbox hb
              have n0_ := bX BK106 hb
              have n1_ := bX BK107 hb
              have n2_ := bX BK108 hb
              have n3_ := bS HB hb
              have n4_ := Aside0.mk (hbox)
              have n5_ := Aside0.mk ((by rw [hg]; exact (below_size (by repeat (first | (with_reducible first | exact HB.out | apply below_alloc | apply pw_below_drewN | apply below_drew1 | refine below_set ?_ GE106.out | refine below_set ?_ GE107.out | refine below_set ?_ GE108.out) | exact HB.out))) : w.heap.size ≤ gb111))
              have n6_ := Aside0.mk ((by rw [hg]; exact (below_size (by repeat (first | (with_reducible first | exact HB.out | apply below_alloc | apply pw_below_drewN | apply below_drew1 | refine below_set ?_ GE106.out | refine below_set ?_ GE107.out | refine below_set ?_ GE108.out) | exact HB.out))) : w.heap.size ≤ gb111))
              have n7_ := Aside0.mk ((by rw [hg]; exact Nat.ne_of_lt (bLt BK106) : gb106 ≠ gb111))
              have n8_ := Aside0.mk ((by rw [hg]; exact Nat.ne_of_gt (bLt BK106) : gb111 ≠ gb106))
              have n9_ := Aside0.mk ((by rw [hg]; exact Nat.ne_of_lt (bLt BK107) : gb107 ≠ gb111))
              have n10_ := Aside0.mk ((by rw [hg]; exact Nat.ne_of_gt (bLt BK107) : gb111 ≠ gb107))
              have n11_ := Aside0.mk ((by rw [hg]; exact Nat.ne_of_lt (bLt BK108) : gb108 ≠ gb111))
              have n12_ := Aside0.mk ((by rw [hg]; exact Nat.ne_of_gt (bLt BK108) : gb111 ≠ gb108))
              clear BK106
              clear BK107
              clear BK108
              clear HB
              have BK106 := n0_
              have BK107 := n1_
              have BK108 := n2_
              have HB := n3_
              have BK111 := n4_
              have GW111 := n5_
              have GE111 := n6_
              have NB106_111 := n7_
              have NB111_106 := n8_
              have NB107_111 := n9_
              have NB111_107 := n10_
              have NB108_111 := n11_
              have NB111_108 := n12_
              clear n0_ n1_ n2_ n3_ n4_ n5_ n6_ n7_ n8_ n9_ n10_ n11_ n12_
              clear hb hbox hg
              refine hK.out _ _ (cz4 BK106) (fun hHeld => ?_)
              clear hK K
              refine norm_ (a' := ?_) ?_ ?_
              rotate_left
              ·show Act.put _ (some 8) _ = _
               simp only [Act.put, sA, sZ, sS, i64_w, i32_w]
               rfl
              refine one_ (i := 19) (N := none) (bm 20 1048575) rfl rfl (one_of HT_.out (by kernel_rfl)) (by decide) (fun K hK => ?_)
              have hs77 : w76.cell? ⟨gb111, 0, none⟩ = some (.int .i64 0) := (blk_cell BK111.out 0).trans rfl
              have hfs77 := blk_frozen BK111.out 0
              have hns77_0 := NB106_111.out
              have hns77_1 := NB107_111.out
              have hns77_2 := NB108_111.out
              have hms77_0 := NB111_106.out
              have hms77_1 := NB111_107.out
              have hms77_2 := NB111_108.out
              have hs78 : w76.cell? ⟨gb111, 1, none⟩ = some (.int .i64 0) := (blk_cell BK111.out 1).trans rfl
              have hfs78 := blk_frozen BK111.out 1
              have hns78_0 := NB106_111.out
              have hns78_1 := NB107_111.out
              have hns78_2 := NB108_111.out
              have hms78_0 := NB111_106.out
              have hms78_1 := NB111_107.out
              have hms78_2 := NB111_108.out
              have hs79 : w76.cell? ⟨gb111, 2, none⟩ = some (.int .i64 0) := (blk_cell BK111.out 2).trans rfl
              have hfs79 := blk_frozen BK111.out 2
              have hns79_0 := NB106_111.out
              have hns79_1 := NB107_111.out
              have hns79_2 := NB108_111.out
              have hms79_0 := NB111_106.out
              have hms79_1 := NB111_107.out
              have hms79_2 := NB111_108.out
              have hs80 : w76.cell? ⟨gb111, 3, none⟩ = some (.int .i64 0) := (blk_cell BK111.out 3).trans rfl
              have hfs80 := blk_frozen BK111.out 3
              have hns80_0 := NB106_111.out
              have hns80_1 := NB107_111.out
              have hns80_2 := NB108_111.out
              have hms80_0 := NB111_106.out
              have hms80_1 := NB111_107.out
              have hms80_2 := NB111_108.out
              have hs81 : w76.cell? ⟨gb111, 4, none⟩ = some (.bool false) := (blk_cell BK111.out 4).trans rfl
              have hfs81 := blk_frozen BK111.out 4
              have hns81_0 := NB106_111.out
              have hns81_1 := NB107_111.out
              have hns81_2 := NB108_111.out
              have hms81_0 := NB111_106.out
              have hms81_1 := NB111_107.out
              have hms81_2 := NB111_108.out
              have hs82 : w76.cell? ⟨gb111, 5, none⟩ = some (.string (⟨#[]⟩ : ByteArray)) := (blk_cell BK111.out 5).trans rfl
              have hfs82 := blk_frozen BK111.out 5
              have hns82_0 := NB106_111.out
              have hns82_1 := NB107_111.out
              have hns82_2 := NB108_111.out
              have hms82_0 := NB111_106.out
              have hms82_1 := NB111_107.out
              have hms82_2 := NB111_108.out
              have hs83 : w76.cell? ⟨gb111, 6, none⟩ = some (.slice none 0 0) := (blk_cell BK111.out 6).trans rfl
              have hfs83 := blk_frozen BK111.out 6
              have hns83_0 := NB106_111.out
              have hns83_1 := NB107_111.out
              have hns83_2 := NB108_111.out
              have hms83_0 := NB111_106.out
              have hms83_1 := NB111_107.out
              have hms83_2 := NB111_108.out
              refine skip_ (w1 := ?_) (by rfl) rfl ?_ ?_
              rotate_left
              ·go_simp
               rfl
              refine hK.out _ _ ⟨((cell_far (p := ⟨gb111, _, none⟩) NB106_111.out _).trans (((cell_far (p := ⟨gb111, _, none⟩) NB106_111.out _).trans (((cell_far (p := ⟨gb111, _, none⟩) NB106_111.out _).trans (((cell_far (p := ⟨gb111, _, none⟩) NB106_111.out _).trans (((cell_far (p := ⟨gb111, _, none⟩) NB106_111.out _).trans (((cell_far (p := ⟨gb111, _, none⟩) NB106_111.out _).trans (((cell_far (p := ⟨gb111, _, none⟩) NB106_111.out _).trans (hHeld.1)))))))))))))), ((cell_far (p := ⟨gb111, _, none⟩) NB106_111.out _).trans (((cell_far (p := ⟨gb111, _, none⟩) NB106_111.out _).trans (((cell_far (p := ⟨gb111, _, none⟩) NB106_111.out _).trans (((cell_far (p := ⟨gb111, _, none⟩) NB106_111.out _).trans (((cell_far (p := ⟨gb111, _, none⟩) NB106_111.out _).trans (((cell_far (p := ⟨gb111, _, none⟩) NB106_111.out _).trans (((cell_far (p := ⟨gb111, _, none⟩) NB106_111.out _).trans (hHeld.2.1)))))))))))))), ((cell_far (p := ⟨gb111, _, none⟩) NB106_111.out _).trans (((cell_far (p := ⟨gb111, _, none⟩) NB106_111.out _).trans (((cell_far (p := ⟨gb111, _, none⟩) NB106_111.out _).trans (((cell_far (p := ⟨gb111, _, none⟩) NB106_111.out _).trans (((cell_far (p := ⟨gb111, _, none⟩) NB106_111.out _).trans (((cell_far (p := ⟨gb111, _, none⟩) NB106_111.out _).trans (((cell_far (p := ⟨gb111, _, none⟩) NB106_111.out _).trans (hHeld.2.2.1)))))))))))))), ((cell_far (p := ⟨gb111, _, none⟩) NB106_111.out _).trans (((cell_far (p := ⟨gb111, _, none⟩) NB106_111.out _).trans (((cell_far (p := ⟨gb111, _, none⟩) NB106_111.out _).trans (((cell_far (p := ⟨gb111, _, none⟩) NB106_111.out _).trans (((cell_far (p := ⟨gb111, _, none⟩) NB106_111.out _).trans (((cell_far (p := ⟨gb111, _, none⟩) NB106_111.out _).trans (((cell_far (p := ⟨gb111, _, none⟩) NB106_111.out _).trans (hHeld.2.2.2))))))))))))))⟩ (fun hHeld => ?_)
              clear hK K
              refine done_ (done_of HT_.out (by kernel_rfl)) ?_
              have hnb84 := NB111_106.out
              have hnc84 := NB106_111.out
              have hnb85 := NB111_107.out
              have hnc85 := NB107_111.out
              have hnb86 := NB111_108.out
              have hnc86 := NB108_111.out
              obtain ⟨hcz87_0, hcz87_1, hcz87_2, hcz87_3, hcz87_4, hcz87_5, hcz87_6⟩ := cz7 BK111
              obtain ⟨hfz87_0, hfz87_1, hfz87_2, hfz87_3, hfz87_4, hfz87_5, hfz87_6⟩ := fz7 BK111
              have hnb88 := NB107_106.out
              have hnc88 := NB106_107.out
              have hnb89 := NB107_108.out
              have hnc89 := NB108_107.out
              obtain ⟨hcz90_0, hcz90_1, hcz90_2, hcz90_3⟩ := cz4 BK107
              obtain ⟨hfz90_0, hfz90_1, hfz90_2, hfz90_3⟩ := fz4 BK107
              have hnb91 := NB108_106.out
              have hnc91 := NB106_108.out
              obtain ⟨hcz92_0, hcz92_1, hcz92_2, hcz92_3, hcz92_4, hcz92_5, hcz92_6⟩ := cz7 BK108
              obtain ⟨hfz92_0, hfz92_1, hfz92_2, hfz92_3, hfz92_4, hfz92_5, hfz92_6⟩ := fz7 BK108
              try go_wp2
              refine bodyPost_ret (results_list (rs := [.cell 4 25, .cell 5 28, .tmp 6]) rfl (by simp) (.cell gb107 25 #[.int .i64 0, .int .i64 0, .string (⟨#[]⟩ : ByteArray), .bool false] (0, 0) _ rfl (by (with_reducible repeat (first | refine bN ?_ _ | refine bD ?_ | refine bA ?_ _)); refine blk_far ?_ NB107_108.out _; (with_reducible repeat (first | refine bN ?_ _ | refine bD ?_ | refine bA ?_ _)); refine blk_far ?_ NB107_108.out _; (with_reducible repeat (first | refine bN ?_ _ | refine bD ?_ | refine bA ?_ _)); refine blk_far ?_ NB107_108.out _; (with_reducible repeat (first | refine bN ?_ _ | refine bD ?_ | refine bA ?_ _)); refine blk_far ?_ NB107_108.out _; (with_reducible repeat (first | refine bN ?_ _ | refine bD ?_ | refine bA ?_ _)); refine blk_far ?_ NB107_108.out _; (with_reducible repeat (first | refine bN ?_ _ | refine bD ?_ | refine bA ?_ _)); refine blk_far ?_ NB107_108.out _; (with_reducible repeat (first | refine bN ?_ _ | refine bD ?_ | refine bA ?_ _)); refine blk_far ?_ NB107_108.out _; (with_reducible repeat (first | refine bN ?_ _ | refine bD ?_ | refine bA ?_ _)); refine blk_put (cs := #[.int .i64 0, .int .i64 0, .string (⟨#[]⟩ : ByteArray), .bool false]) ?_ 3 _ rfl; (with_reducible repeat (first | refine bN ?_ _ | refine bD ?_ | refine bA ?_ _)); refine blk_put (cs := #[.int .i64 0, .int .i64 0, .string (⟨#[]⟩ : ByteArray), .bool false]) ?_ 2 _ rfl; (with_reducible repeat (first | refine bN ?_ _ | refine bD ?_ | refine bA ?_ _)); refine blk_put (cs := #[.int .i64 0, .int .i64 0, .string (⟨#[]⟩ : ByteArray), .bool false]) ?_ 1 _ rfl; (with_reducible repeat (first | refine bN ?_ _ | refine bD ?_ | refine bA ?_ _)); refine blk_put (cs := #[.int .i64 0, .int .i64 0, .string (⟨#[]⟩ : ByteArray), .bool false]) ?_ 0 _ rfl; (with_reducible repeat (first | refine bN ?_ _ | refine bD ?_ | refine bA ?_ _)); refine blk_far ?_ NB107_111.out _; (with_reducible repeat (first | refine bN ?_ _ | refine bD ?_ | refine bA ?_ _)); refine blk_far ?_ NB107_111.out _; (with_reducible repeat (first | refine bN ?_ _ | refine bD ?_ | refine bA ?_ _)); refine blk_far ?_ NB107_111.out _; (with_reducible repeat (first | refine bN ?_ _ | refine bD ?_ | refine bA ?_ _)); refine blk_far ?_ NB107_111.out _; (with_reducible repeat (first | refine bN ?_ _ | refine bD ?_ | refine bA ?_ _)); refine blk_far ?_ NB107_111.out _; (with_reducible repeat (first | refine bN ?_ _ | refine bD ?_ | refine bA ?_ _)); refine blk_far ?_ NB107_111.out _; (with_reducible repeat (first | refine bN ?_ _ | refine bD ?_ | refine bA ?_ _)); refine blk_far ?_ NB107_111.out _; (with_reducible repeat (first | refine bN ?_ _ | refine bD ?_ | refine bA ?_ _)); exact BK107.out) Try.underlying25 rfl (by kernel_rfl) (.cell gb108 28 #[.int .i64 0, .int .i64 0, .int .i64 0, .int .i64 0, .bool false, .string (⟨#[]⟩ : ByteArray), .slice none 0 0] (0, 0) _ rfl (by (with_reducible repeat (first | refine bN ?_ _ | refine bD ?_ | refine bA ?_ _)); refine blk_put (cs := #[.int .i64 0, .int .i64 0, .int .i64 0, .int .i64 0, .bool false, .string (⟨#[]⟩ : ByteArray), .slice none 0 0]) ?_ 6 _ rfl; (with_reducible repeat (first | refine bN ?_ _ | refine bD ?_ | refine bA ?_ _)); refine blk_put (cs := #[.int .i64 0, .int .i64 0, .int .i64 0, .int .i64 0, .bool false, .string (⟨#[]⟩ : ByteArray), .slice none 0 0]) ?_ 5 _ rfl; (with_reducible repeat (first | refine bN ?_ _ | refine bD ?_ | refine bA ?_ _)); refine blk_put (cs := #[.int .i64 0, .int .i64 0, .int .i64 0, .int .i64 0, .bool false, .string (⟨#[]⟩ : ByteArray), .slice none 0 0]) ?_ 4 _ rfl; (with_reducible repeat (first | refine bN ?_ _ | refine bD ?_ | refine bA ?_ _)); refine blk_put (cs := #[.int .i64 0, .int .i64 0, .int .i64 0, .int .i64 0, .bool false, .string (⟨#[]⟩ : ByteArray), .slice none 0 0]) ?_ 3 _ rfl; (with_reducible repeat (first | refine bN ?_ _ | refine bD ?_ | refine bA ?_ _)); refine blk_put (cs := #[.int .i64 0, .int .i64 0, .int .i64 0, .int .i64 0, .bool false, .string (⟨#[]⟩ : ByteArray), .slice none 0 0]) ?_ 2 _ rfl; (with_reducible repeat (first | refine bN ?_ _ | refine bD ?_ | refine bA ?_ _)); refine blk_put (cs := #[.int .i64 0, .int .i64 0, .int .i64 0, .int .i64 0, .bool false, .string (⟨#[]⟩ : ByteArray), .slice none 0 0]) ?_ 1 _ rfl; (with_reducible repeat (first | refine bN ?_ _ | refine bD ?_ | refine bA ?_ _)); refine blk_put (cs := #[.int .i64 0, .int .i64 0, .int .i64 0, .int .i64 0, .bool false, .string (⟨#[]⟩ : ByteArray), .slice none 0 0]) ?_ 0 _ rfl; (with_reducible repeat (first | refine bN ?_ _ | refine bD ?_ | refine bA ?_ _)); refine blk_far ?_ NB108_107.out _; (with_reducible repeat (first | refine bN ?_ _ | refine bD ?_ | refine bA ?_ _)); refine blk_far ?_ NB108_107.out _; (with_reducible repeat (first | refine bN ?_ _ | refine bD ?_ | refine bA ?_ _)); refine blk_far ?_ NB108_107.out _; (with_reducible repeat (first | refine bN ?_ _ | refine bD ?_ | refine bA ?_ _)); refine blk_far ?_ NB108_107.out _; (with_reducible repeat (first | refine bN ?_ _ | refine bD ?_ | refine bA ?_ _)); refine blk_far ?_ NB108_111.out _; (with_reducible repeat (first | refine bN ?_ _ | refine bD ?_ | refine bA ?_ _)); refine blk_far ?_ NB108_111.out _; (with_reducible repeat (first | refine bN ?_ _ | refine bD ?_ | refine bA ?_ _)); refine blk_far ?_ NB108_111.out _; (with_reducible repeat (first | refine bN ?_ _ | refine bD ?_ | refine bA ?_ _)); refine blk_far ?_ NB108_111.out _; (with_reducible repeat (first | refine bN ?_ _ | refine bD ?_ | refine bA ?_ _)); refine blk_far ?_ NB108_111.out _; (with_reducible repeat (first | refine bN ?_ _ | refine bD ?_ | refine bA ?_ _)); refine blk_far ?_ NB108_111.out _; (with_reducible repeat (first | refine bN ?_ _ | refine bD ?_ | refine bA ?_ _)); refine blk_far ?_ NB108_111.out _; (with_reducible repeat (first | refine bN ?_ _ | refine bD ?_ | refine bA ?_ _)); exact BK108.out) Try.underlying28 rfl (by kernel_rfl) (.tmp .nil)))) rfl ?_
              exact ⟨_, by first | rfl | (simp [errW_none, errW_some] <;> rfl) | (simp [*, errW_none, errW_some] <;> rfl), by first | exact Kd.R_nil _ _ _ _ _ | exact Kd.N_nil _ _ _ _ _ | exact Kd.V_nil _ _ _ _ _ | exact Kd.Q_nil _ _ _ _ _ | exact Kd.S_nil _ _ _ _ _, by repeat (first | (with_reducible first | exact HB.out | apply below_alloc | apply pw_below_drewN | apply below_drew1 | refine below_set ?_ GE106.out | refine below_set ?_ GE107.out | refine below_set ?_ GE108.out | refine below_set ?_ GE111.out) | exact HB.out)⟩
            ·rw [if_neg c44] at H
             have c44b0 : ((a0_2.extract (a0_1 : Int).toNat (x7_31 : Int).toNat).toList == ([] : List UInt8)) = false := beq_eq_false_iff_ne.mpr c44
             have c44b1 : ((a0_2.extract (a0_1 : Int).toNat (x7_31 : Int).toNat).toList != ([] : List UInt8)) = true := bne_iff_ne.mpr c44
             simp only [Option.some.injEq, Prod.mk.injEq] at H
             obtain ⟨rfl, rfl, rfl, rfl, rfl, rfl, rfl, rfl, rfl, rfl, rfl, rfl⟩ := H
             try go_wp2
             have n0_ := Aside0.mk (blk_drew BK106.out)
             have n1_ := Aside0.mk (blk_drew BK107.out)
             have n2_ := Aside0.mk (blk_drew BK108.out)
             have n3_ := Aside0.mk (below_drew1 HB.out)
             clear BK106
             clear BK107
             clear BK108
             clear HB
             have BK106 := n0_
             have BK107 := n1_
             have BK108 := n2_
             have HB := n3_
             clear n0_ n1_ n2_ n3_
             refine start_ (n := 20) (S := fun w' => w'.cell? ⟨gb106, 0, none⟩ = some (.int .i64 a0_0) ∧ w'.cell? ⟨gb106, 1, none⟩ = some (.int .i64 a0_1) ∧ w'.cell? ⟨gb106, 2, none⟩ = some (.string a0_2) ∧ w'.cell? ⟨gb106, 3, none⟩ = some (.bool true)) (ds := []) (bm 20 0) (by kernel_rfl) rfl rfl (cz4 BK106) (fun hHeld => ?_); refine with_tabW spec_NextPiece.tab8 spec_NextPiece.bits8 (fun HT_ HW_ => ?_)
             generalize wc.drew = w93 at BK106 BK107 BK108 HB hHeld ⊢
             refine pure_ (i := 0) (N := some 37) (v := ?_) (a' := ?_) (bm 20 1) rfl rfl (any_of HT_.out (by kernel_rfl)) (fun _ _ _ h => h) (Or.inl ⟨by rfl, ?_⟩) ?_ ?_
             rotate_left
             ·intro w'
              go_simp
              with_reducible rfl
             rotate_left
             ·simp only [Act.put, sA, sZ, sS, i64_w, i32_w]
              rfl
             refine pure_ (i := 2) (N := some 39) (v := ?_) (a' := ?_) (bm 20 5) rfl rfl (any_of HT_.out (by kernel_rfl)) (fun _ _ _ h => h) (Or.inl ⟨by rfl, ?_⟩) ?_ ?_
             rotate_left
             ·intro w'
              go_simp
              with_reducible rfl
             rotate_left
             ·simp only [Act.put, sA, sZ, sS, i64_w, i32_w]
              rfl
             refine pure_ (i := 4) (N := some 41) (v := ?_) (a' := ?_) (bm 20 21) rfl rfl (any_of HT_.out (by kernel_rfl)) (fun _ _ _ h => h) (Or.inl ⟨by rfl, ?_⟩) ?_ ?_
             rotate_left
             ·intro w'
              go_simp
              with_reducible rfl
             rotate_left
             ·simp only [Act.put, sA, sZ, sS, i64_w, i32_w]
              rfl
             refine pure_ (i := 6) (N := some 43) (v := ?_) (a' := ?_) (bm 20 85) rfl rfl (any_of HT_.out (by kernel_rfl)) (fun _ _ _ h => h) (Or.inl ⟨by rfl, ?_⟩) ?_ ?_
             rotate_left
             ·intro w'
              go_simp
              with_reducible rfl
             rotate_left
             ·simp only [Act.put, sA, sZ, sS, i64_w, i32_w]
              rfl
             refine pure_ (i := 8) (N := some 45) (v := ?_) (a' := ?_) (bm 20 341) rfl rfl (any_of HT_.out (by kernel_rfl)) (fun _ _ _ h => h) (Or.inl ⟨by rfl, ?_⟩) ?_ ?_
             rotate_left
             ·intro w'
              go_simp
              with_reducible rfl
             rotate_left
             ·simp only [Act.put, sA, sZ, sS, i64_w, i32_w]
              rfl
             refine take_ (i := 1) (N := some 38) (v := ?_) (a' := ?_) (bm 20 343) rfl rfl (take_ofW HT_.out HW_.out (by kernel_rfl)) (fun _ _ _ h => h) (Or.inl ⟨by rfl, ?_⟩) hHeld ?_ ?_
             rotate_left
             ·rintro w' ⟨s0, s1, s2, s3⟩
              go_simp
              with_reducible rfl
             rotate_left
             ·simp only [Act.put, sA, sZ, sS, i64_w, i32_w]
              rfl
             refine take_ (i := 3) (N := some 40) (v := ?_) (a' := ?_) (bm 20 351) rfl rfl (take_ofW HT_.out HW_.out (by kernel_rfl)) (fun _ _ _ h => h) (Or.inl ⟨by rfl, ?_⟩) hHeld ?_ ?_
             rotate_left
             ·rintro w' ⟨s0, s1, s2, s3⟩
              go_simp
              with_reducible rfl
             rotate_left
             ·simp only [Act.put, sA, sZ, sS, i64_w, i32_w]
              rfl
             refine take_ (i := 5) (N := some 42) (v := ?_) (a' := ?_) (bm 20 383) rfl rfl (take_ofW HT_.out HW_.out (by kernel_rfl)) (fun _ _ _ h => h) (Or.inl ⟨by rfl, ?_⟩) hHeld ?_ ?_
             rotate_left
             ·rintro w' ⟨s0, s1, s2, s3⟩
              go_simp
              with_reducible rfl
             rotate_left
             ·simp only [Act.put, sA, sZ, sS, i64_w, i32_w]
              rfl
             refine pure_ (i := 7) (N := some 44) (v := ?_) (a' := ?_) (bm 20 511) rfl rfl (any_of HT_.out (by kernel_rfl)) (fun _ _ _ h => h) (Or.inl ⟨by rfl, ?_⟩) ?_ ?_
             rotate_left
             ·intro w'
              go_simp
              with_reducible rfl
             rotate_left
             ·simp only [Act.put, sA, sZ, sS, i64_w, i32_w]
              rfl
             refine take_ (i := 9) (N := some 46) (v := ?_) (a' := ?_) (bm 20 1023) rfl rfl (take_ofW HT_.out HW_.out (by kernel_rfl)) (fun _ _ _ h => h) (Or.inl ⟨by rfl, ?_⟩) hHeld ?_ ?_
             rotate_left
             ·rintro w' ⟨s0, s1, s2, s3⟩
              go_simp
              with_reducible rfl
             rotate_left
             ·simp only [Act.put, sA, sZ, sS, i64_w, i32_w]
              rfl
             refine pure_ (i := 10) (N := some 47) (v := ?_) (a' := ?_) (bm 20 2047) rfl rfl (any_of HT_.out (by kernel_rfl)) (fun _ _ _ h => h) (Or.inl ⟨by rfl, ?_⟩) ?_ ?_
             rotate_left
             ·intro w'
              go_simp
              with_reducible rfl
             rotate_left
             ·simp only [Act.put, sA, sZ, sS, i64_w, i32_w]
              rfl
             refine pure_ (i := 11) (N := some 48) (v := ?_) (a' := ?_) (bm 20 4095) rfl rfl (any_of HT_.out (by kernel_rfl)) (fun _ _ _ h => h) (Or.inl ⟨by rfl, ?_⟩) ?_ ?_
             rotate_left
             ·intro w'
              go_simp
              with_reducible rfl
             rotate_left
             ·simp only [Act.put, sA, sZ, sS, i64_w, i32_w]
              rfl
             refine pure_ (i := 12) (N := some 49) (v := ?_) (a' := ?_) (bm 20 8191) rfl rfl (any_of HT_.out (by kernel_rfl)) (fun _ _ _ h => h) (Or.inl ⟨by rfl, ?_⟩) ?_ ?_
             rotate_left
             ·intro w'
              go_simp
              with_reducible rfl
             rotate_left
             ·simp only [Act.put, sA, sZ, sS, i64_w, i32_w]
              rfl
             refine take_ (i := 13) (N := some 50) (v := ?_) (a' := ?_) (bm 20 16383) rfl rfl (take_ofW HT_.out HW_.out (by kernel_rfl)) (fun _ _ _ h => h) (Or.inl ⟨by rfl, ?_⟩) hHeld ?_ ?_
             rotate_left
             ·rintro w' ⟨s0, s1, s2, s3⟩
              go_simp
              with_reducible rfl
             rotate_left
             ·simp only [Act.put, sA, sZ, sS, i64_w, i32_w]
              rfl
             refine pure_ (i := 14) (N := some 51) (v := ?_) (a' := ?_) (bm 20 32767) rfl rfl (any_of HT_.out (by kernel_rfl)) (fun _ _ _ h => h) (Or.inl ⟨by rfl, ?_⟩) ?_ ?_
             rotate_left
             ·intro w'
              go_simp
              with_reducible rfl
             rotate_left
             ·simp only [Act.put, sA, sZ, sS, i64_w, i32_w]
              rfl
             refine pure_ (i := 15) (N := some 52) (v := ?_) (a' := ?_) (bm 20 65535) rfl rfl (any_of HT_.out (by kernel_rfl)) (fun _ _ _ h => h) (Or.inl ⟨by rfl, ?_⟩) ?_ ?_
             rotate_left
             ·intro w'
              go_simp
              with_reducible rfl
             rotate_left
             ·simp only [Act.put, sA, sZ, sS, i64_w, i32_w]
              rfl
             refine pure_ (i := 16) (N := some 53) (v := ?_) (a' := ?_) (bm 20 131071) rfl rfl (any_of HT_.out (by kernel_rfl)) (fun _ _ _ h => h) (Or.inl ⟨by rfl, ?_⟩) ?_ ?_
             rotate_left
             ·intro w'
              go_simp
              with_reducible rfl
             rotate_left
             ·simp only [Act.put, sA, sZ, sS, i64_w, i32_w]
              rfl
             refine pure_ (i := 17) (N := some 54) (v := ?_) (a' := ?_) (bm 20 262143) rfl rfl (any_of HT_.out (by kernel_rfl)) (fun _ _ _ h => h) (Or.inl ⟨by rfl, ?_⟩) ?_ ?_
             rotate_left
             ·intro w'
              go_simp
              with_reducible rfl
             rotate_left
             ·simp only [Act.put, sA, sZ, sS, i64_w, i32_w]
              rfl
             refine one_ (i := 18) (N := some 8) (bm 20 524287) rfl rfl (one_of HT_.out (by kernel_rfl)) (by decide) (fun K hK => ?_)
             refine box_step ?hg (N := 8) ?hd (cs := #[.int .i64 0, .int .i64 0, .int .i64 0, .int .i64 0, .bool false, .string (⟨#[]⟩ : ByteArray), .slice none 0 0]) (t := 28) ?hr ?_; (case hd => rfl); (case hg => rfl); (case hr => first | (go_simp; done) | (go_simp; rfl))
             intro gb111 hg w94 hbox hb
             have n0_ := bX BK106 hb
             have n1_ := bX BK107 hb
             have n2_ := bX BK108 hb
             have n3_ := bS HB hb
             have n4_ := Aside0.mk (hbox)
             have n5_ := Aside0.mk ((by rw [hg]; exact (below_size (by repeat (first | (with_reducible first | exact HB.out | apply below_alloc | apply pw_below_drewN | apply below_drew1 | refine below_set ?_ GE106.out | refine below_set ?_ GE107.out | refine below_set ?_ GE108.out) | exact HB.out))) : w.heap.size ≤ gb111))
             have n6_ := Aside0.mk ((by rw [hg]; exact (below_size (by repeat (first | (with_reducible first | exact HB.out | apply below_alloc | apply pw_below_drewN | apply below_drew1 | refine below_set ?_ GE106.out | refine below_set ?_ GE107.out | refine below_set ?_ GE108.out) | exact HB.out))) : w.heap.size ≤ gb111))
             have n7_ := Aside0.mk ((by rw [hg]; exact Nat.ne_of_lt (bLt BK106) : gb106 ≠ gb111))
             have n8_ := Aside0.mk ((by rw [hg]; exact Nat.ne_of_gt (bLt BK106) : gb111 ≠ gb106))
             have n9_ := Aside0.mk ((by rw [hg]; exact Nat.ne_of_lt (bLt BK107) : gb107 ≠ gb111))
             have n10_ := Aside0.mk ((by rw [hg]; exact Nat.ne_of_gt (bLt BK107) : gb111 ≠ gb107))
             have n11_ := Aside0.mk ((by rw [hg]; exact Nat.ne_of_lt (bLt BK108) : gb108 ≠ gb111))
             have n12_ := Aside0.mk ((by rw [hg]; exact Nat.ne_of_gt (bLt BK108) : gb111 ≠ gb108))
             clear BK106
             clear BK107
             clear BK108
             clear HB
             have BK106 := n0_
             have BK107 := n1_
             have BK108 := n2_
             have HB := n3_
             have BK111 := n4_
             have GW111 := n5_
             have GE111 := n6_
             have NB106_111 := n7_
             have NB111_106 := n8_
             have NB107_111 := n9_
             have NB111_107 := n10_
             have NB108_111 := n11_
             have NB111_108 := n12_
             clear n0_ n1_ n2_ n3_ n4_ n5_ n6_ n7_ n8_ n9_ n10_ n11_ n12_
             clear hb hbox hg
             refine hK.out _ _ (cz4 BK106) (fun hHeld => ?_)
             clear hK K
             refine norm_ (a' := ?_) ?_ ?_
             rotate_left
             ·show Act.put _ (some 8) _ = _
              simp only [Act.put, sA, sZ, sS, i64_w, i32_w]
              rfl
             refine one_ (i := 19) (N := none) (bm 20 1048575) rfl rfl (one_of HT_.out (by kernel_rfl)) (by decide) (fun K hK => ?_)
             have hs95 : w94.cell? ⟨gb111, 0, none⟩ = some (.int .i64 0) := (blk_cell BK111.out 0).trans rfl
             have hfs95 := blk_frozen BK111.out 0
             have hns95_0 := NB106_111.out
             have hns95_1 := NB107_111.out
             have hns95_2 := NB108_111.out
             have hms95_0 := NB111_106.out
             have hms95_1 := NB111_107.out
             have hms95_2 := NB111_108.out
             have hs96 : w94.cell? ⟨gb111, 1, none⟩ = some (.int .i64 0) := (blk_cell BK111.out 1).trans rfl
             have hfs96 := blk_frozen BK111.out 1
             have hns96_0 := NB106_111.out
             have hns96_1 := NB107_111.out
             have hns96_2 := NB108_111.out
             have hms96_0 := NB111_106.out
             have hms96_1 := NB111_107.out
             have hms96_2 := NB111_108.out
             have hs97 : w94.cell? ⟨gb111, 2, none⟩ = some (.int .i64 0) := (blk_cell BK111.out 2).trans rfl
             have hfs97 := blk_frozen BK111.out 2
             have hns97_0 := NB106_111.out
             have hns97_1 := NB107_111.out
             have hns97_2 := NB108_111.out
             have hms97_0 := NB111_106.out
             have hms97_1 := NB111_107.out
             have hms97_2 := NB111_108.out
             have hs98 : w94.cell? ⟨gb111, 3, none⟩ = some (.int .i64 0) := (blk_cell BK111.out 3).trans rfl
             have hfs98 := blk_frozen BK111.out 3
             have hns98_0 := NB106_111.out
             have hns98_1 := NB107_111.out
             have hns98_2 := NB108_111.out
             have hms98_0 := NB111_106.out
             have hms98_1 := NB111_107.out
             have hms98_2 := NB111_108.out
             have hs99 : w94.cell? ⟨gb111, 4, none⟩ = some (.bool false) := (blk_cell BK111.out 4).trans rfl
             have hfs99 := blk_frozen BK111.out 4
             have hns99_0 := NB106_111.out
             have hns99_1 := NB107_111.out
             have hns99_2 := NB108_111.out
             have hms99_0 := NB111_106.out
             have hms99_1 := NB111_107.out
             have hms99_2 := NB111_108.out
             have hs100 : w94.cell? ⟨gb111, 5, none⟩ = some (.string (⟨#[]⟩ : ByteArray)) := (blk_cell BK111.out 5).trans rfl
             have hfs100 := blk_frozen BK111.out 5
             have hns100_0 := NB106_111.out
             have hns100_1 := NB107_111.out
             have hns100_2 := NB108_111.out
             have hms100_0 := NB111_106.out
             have hms100_1 := NB111_107.out
             have hms100_2 := NB111_108.out
             have hs101 : w94.cell? ⟨gb111, 6, none⟩ = some (.slice none 0 0) := (blk_cell BK111.out 6).trans rfl
             have hfs101 := blk_frozen BK111.out 6
             have hns101_0 := NB106_111.out
             have hns101_1 := NB107_111.out
             have hns101_2 := NB108_111.out
             have hms101_0 := NB111_106.out
             have hms101_1 := NB111_107.out
             have hms101_2 := NB111_108.out
             refine skip_ (w1 := ?_) (by rfl) rfl ?_ ?_
             rotate_left
             ·go_simp
              rfl
             refine hK.out _ _ ⟨((cell_far (p := ⟨gb111, _, none⟩) NB106_111.out _).trans (((cell_far (p := ⟨gb111, _, none⟩) NB106_111.out _).trans (((cell_far (p := ⟨gb111, _, none⟩) NB106_111.out _).trans (((cell_far (p := ⟨gb111, _, none⟩) NB106_111.out _).trans (((cell_far (p := ⟨gb111, _, none⟩) NB106_111.out _).trans (((cell_far (p := ⟨gb111, _, none⟩) NB106_111.out _).trans (((cell_far (p := ⟨gb111, _, none⟩) NB106_111.out _).trans (hHeld.1)))))))))))))), ((cell_far (p := ⟨gb111, _, none⟩) NB106_111.out _).trans (((cell_far (p := ⟨gb111, _, none⟩) NB106_111.out _).trans (((cell_far (p := ⟨gb111, _, none⟩) NB106_111.out _).trans (((cell_far (p := ⟨gb111, _, none⟩) NB106_111.out _).trans (((cell_far (p := ⟨gb111, _, none⟩) NB106_111.out _).trans (((cell_far (p := ⟨gb111, _, none⟩) NB106_111.out _).trans (((cell_far (p := ⟨gb111, _, none⟩) NB106_111.out _).trans (hHeld.2.1)))))))))))))), ((cell_far (p := ⟨gb111, _, none⟩) NB106_111.out _).trans (((cell_far (p := ⟨gb111, _, none⟩) NB106_111.out _).trans (((cell_far (p := ⟨gb111, _, none⟩) NB106_111.out _).trans (((cell_far (p := ⟨gb111, _, none⟩) NB106_111.out _).trans (((cell_far (p := ⟨gb111, _, none⟩) NB106_111.out _).trans (((cell_far (p := ⟨gb111, _, none⟩) NB106_111.out _).trans (((cell_far (p := ⟨gb111, _, none⟩) NB106_111.out _).trans (hHeld.2.2.1)))))))))))))), ((cell_far (p := ⟨gb111, _, none⟩) NB106_111.out _).trans (((cell_far (p := ⟨gb111, _, none⟩) NB106_111.out _).trans (((cell_far (p := ⟨gb111, _, none⟩) NB106_111.out _).trans (((cell_far (p := ⟨gb111, _, none⟩) NB106_111.out _).trans (((cell_far (p := ⟨gb111, _, none⟩) NB106_111.out _).trans (((cell_far (p := ⟨gb111, _, none⟩) NB106_111.out _).trans (((cell_far (p := ⟨gb111, _, none⟩) NB106_111.out _).trans (hHeld.2.2.2))))))))))))))⟩ (fun hHeld => ?_)
             clear hK K
             refine done_ (done_of HT_.out (by kernel_rfl)) ?_
             have hnb102 := NB111_106.out
             have hnc102 := NB106_111.out
             have hnb103 := NB111_107.out
             have hnc103 := NB107_111.out
             have hnb104 := NB111_108.out
             have hnc104 := NB108_111.out
             obtain ⟨hcz105_0, hcz105_1, hcz105_2, hcz105_3, hcz105_4, hcz105_5, hcz105_6⟩ := cz7 BK111
             obtain ⟨hfz105_0, hfz105_1, hfz105_2, hfz105_3, hfz105_4, hfz105_5, hfz105_6⟩ := fz7 BK111
             have hnb106 := NB106_107.out
             have hnc106 := NB107_106.out
             have hnb107 := NB106_108.out
             have hnc107 := NB108_106.out
             obtain ⟨hcz108_0, hcz108_1, hcz108_2, hcz108_3⟩ := cz4 BK106
             obtain ⟨hfz108_0, hfz108_1, hfz108_2, hfz108_3⟩ := fz4 BK106
             try go_wp2
             have n0_ : Aside0 (((((((((w94.setCell ⟨gb111, 0, none⟩ (.int .i64 8)).setCell ⟨gb111, 1, none⟩ (.int .i64 0)).setCell ⟨gb111, 2, none⟩ (.int .i64 a0_1)).setCell ⟨gb111, 3, none⟩ (.int .i64 0)).setCell ⟨gb111, 4, none⟩ (.bool (x7_31 == (a0_2.size : Int)))).setCell ⟨gb111, 5, none⟩ (.string (a0_2.extract (a0_1 : Int).toNat (x7_31 : Int).toNat))).setCell ⟨gb111, 6, none⟩ (.slice none 0 0)).setCell ⟨gb106, 1, none⟩ (.int .i64 x7_31)).heap[gb106]? = some (.cells #[.int .i64 a0_0, .int .i64 x7_31, .string a0_2, .bool true] 25 (0, 0))) := ⟨by (with_reducible repeat (first | refine bN ?_ _ | refine bD ?_ | refine bA ?_ _)); refine blk_put (cs := #[.int .i64 a0_0, .int .i64 a0_1, .string a0_2, .bool true]) ?_ 1 _ rfl; (with_reducible repeat (first | refine bN ?_ _ | refine bD ?_ | refine bA ?_ _)); refine blk_far ?_ NB106_111.out _; (with_reducible repeat (first | refine bN ?_ _ | refine bD ?_ | refine bA ?_ _)); refine blk_far ?_ NB106_111.out _; (with_reducible repeat (first | refine bN ?_ _ | refine bD ?_ | refine bA ?_ _)); refine blk_far ?_ NB106_111.out _; (with_reducible repeat (first | refine bN ?_ _ | refine bD ?_ | refine bA ?_ _)); refine blk_far ?_ NB106_111.out _; (with_reducible repeat (first | refine bN ?_ _ | refine bD ?_ | refine bA ?_ _)); refine blk_far ?_ NB106_111.out _; (with_reducible repeat (first | refine bN ?_ _ | refine bD ?_ | refine bA ?_ _)); refine blk_far ?_ NB106_111.out _; (with_reducible repeat (first | refine bN ?_ _ | refine bD ?_ | refine bA ?_ _)); refine blk_far ?_ NB106_111.out _; (with_reducible repeat (first | refine bN ?_ _ | refine bD ?_ | refine bA ?_ _)); exact BK106.out⟩
             have n1_ : Aside0 (((((((((w94.setCell ⟨gb111, 0, none⟩ (.int .i64 8)).setCell ⟨gb111, 1, none⟩ (.int .i64 0)).setCell ⟨gb111, 2, none⟩ (.int .i64 a0_1)).setCell ⟨gb111, 3, none⟩ (.int .i64 0)).setCell ⟨gb111, 4, none⟩ (.bool (x7_31 == (a0_2.size : Int)))).setCell ⟨gb111, 5, none⟩ (.string (a0_2.extract (a0_1 : Int).toNat (x7_31 : Int).toNat))).setCell ⟨gb111, 6, none⟩ (.slice none 0 0)).setCell ⟨gb106, 1, none⟩ (.int .i64 x7_31)).heap[gb107]? = some (.cells #[.int .i64 0, .int .i64 0, .string (⟨#[]⟩ : ByteArray), .bool false] 25 (0, 0))) := ⟨by (with_reducible repeat (first | refine bN ?_ _ | refine bD ?_ | refine bA ?_ _)); refine blk_far ?_ NB107_106.out _; (with_reducible repeat (first | refine bN ?_ _ | refine bD ?_ | refine bA ?_ _)); refine blk_far ?_ NB107_111.out _; (with_reducible repeat (first | refine bN ?_ _ | refine bD ?_ | refine bA ?_ _)); refine blk_far ?_ NB107_111.out _; (with_reducible repeat (first | refine bN ?_ _ | refine bD ?_ | refine bA ?_ _)); refine blk_far ?_ NB107_111.out _; (with_reducible repeat (first | refine bN ?_ _ | refine bD ?_ | refine bA ?_ _)); refine blk_far ?_ NB107_111.out _; (with_reducible repeat (first | refine bN ?_ _ | refine bD ?_ | refine bA ?_ _)); refine blk_far ?_ NB107_111.out _; (with_reducible repeat (first | refine bN ?_ _ | refine bD ?_ | refine bA ?_ _)); refine blk_far ?_ NB107_111.out _; (with_reducible repeat (first | refine bN ?_ _ | refine bD ?_ | refine bA ?_ _)); refine blk_far ?_ NB107_111.out _; (with_reducible repeat (first | refine bN ?_ _ | refine bD ?_ | refine bA ?_ _)); exact BK107.out⟩
             have n2_ : Aside0 (((((((((w94.setCell ⟨gb111, 0, none⟩ (.int .i64 8)).setCell ⟨gb111, 1, none⟩ (.int .i64 0)).setCell ⟨gb111, 2, none⟩ (.int .i64 a0_1)).setCell ⟨gb111, 3, none⟩ (.int .i64 0)).setCell ⟨gb111, 4, none⟩ (.bool (x7_31 == (a0_2.size : Int)))).setCell ⟨gb111, 5, none⟩ (.string (a0_2.extract (a0_1 : Int).toNat (x7_31 : Int).toNat))).setCell ⟨gb111, 6, none⟩ (.slice none 0 0)).setCell ⟨gb106, 1, none⟩ (.int .i64 x7_31)).heap[gb108]? = some (.cells #[.int .i64 0, .int .i64 0, .int .i64 0, .int .i64 0, .bool false, .string (⟨#[]⟩ : ByteArray), .slice none 0 0] 28 (0, 0))) := ⟨by (with_reducible repeat (first | refine bN ?_ _ | refine bD ?_ | refine bA ?_ _)); refine blk_far ?_ NB108_106.out _; (with_reducible repeat (first | refine bN ?_ _ | refine bD ?_ | refine bA ?_ _)); refine blk_far ?_ NB108_111.out _; (with_reducible repeat (first | refine bN ?_ _ | refine bD ?_ | refine bA ?_ _)); refine blk_far ?_ NB108_111.out _; (with_reducible repeat (first | refine bN ?_ _ | refine bD ?_ | refine bA ?_ _)); refine blk_far ?_ NB108_111.out _; (with_reducible repeat (first | refine bN ?_ _ | refine bD ?_ | refine bA ?_ _)); refine blk_far ?_ NB108_111.out _; (with_reducible repeat (first | refine bN ?_ _ | refine bD ?_ | refine bA ?_ _)); refine blk_far ?_ NB108_111.out _; (with_reducible repeat (first | refine bN ?_ _ | refine bD ?_ | refine bA ?_ _)); refine blk_far ?_ NB108_111.out _; (with_reducible repeat (first | refine bN ?_ _ | refine bD ?_ | refine bA ?_ _)); refine blk_far ?_ NB108_111.out _; (with_reducible repeat (first | refine bN ?_ _ | refine bD ?_ | refine bA ?_ _)); exact BK108.out⟩
             have n3_ : Aside0 (((((((((w94.setCell ⟨gb111, 0, none⟩ (.int .i64 8)).setCell ⟨gb111, 1, none⟩ (.int .i64 0)).setCell ⟨gb111, 2, none⟩ (.int .i64 a0_1)).setCell ⟨gb111, 3, none⟩ (.int .i64 0)).setCell ⟨gb111, 4, none⟩ (.bool (x7_31 == (a0_2.size : Int)))).setCell ⟨gb111, 5, none⟩ (.string (a0_2.extract (a0_1 : Int).toNat (x7_31 : Int).toNat))).setCell ⟨gb111, 6, none⟩ (.slice none 0 0)).setCell ⟨gb106, 1, none⟩ (.int .i64 x7_31)).heap[gb111]? = some (.cells #[.int .i64 8, .int .i64 0, .int .i64 a0_1, .int .i64 0, .bool (x7_31 == (a0_2.size : Int)), .string (a0_2.extract (a0_1 : Int).toNat (x7_31 : Int).toNat), .slice none 0 0] 28 (0, 0))) := ⟨by (with_reducible repeat (first | refine bN ?_ _ | refine bD ?_ | refine bA ?_ _)); refine blk_far ?_ NB111_106.out _; (with_reducible repeat (first | refine bN ?_ _ | refine bD ?_ | refine bA ?_ _)); refine blk_put (cs := #[.int .i64 8, .int .i64 0, .int .i64 a0_1, .int .i64 0, .bool (x7_31 == (a0_2.size : Int)), .string (a0_2.extract (a0_1 : Int).toNat (x7_31 : Int).toNat), .slice none 0 0]) ?_ 6 _ rfl; (with_reducible repeat (first | refine bN ?_ _ | refine bD ?_ | refine bA ?_ _)); refine blk_put (cs := #[.int .i64 8, .int .i64 0, .int .i64 a0_1, .int .i64 0, .bool (x7_31 == (a0_2.size : Int)), .string (⟨#[]⟩ : ByteArray), .slice none 0 0]) ?_ 5 _ rfl; (with_reducible repeat (first | refine bN ?_ _ | refine bD ?_ | refine bA ?_ _)); refine blk_put (cs := #[.int .i64 8, .int .i64 0, .int .i64 a0_1, .int .i64 0, .bool false, .string (⟨#[]⟩ : ByteArray), .slice none 0 0]) ?_ 4 _ rfl; (with_reducible repeat (first | refine bN ?_ _ | refine bD ?_ | refine bA ?_ _)); refine blk_put (cs := #[.int .i64 8, .int .i64 0, .int .i64 a0_1, .int .i64 0, .bool false, .string (⟨#[]⟩ : ByteArray), .slice none 0 0]) ?_ 3 _ rfl; (with_reducible repeat (first | refine bN ?_ _ | refine bD ?_ | refine bA ?_ _)); refine blk_put (cs := #[.int .i64 8, .int .i64 0, .int .i64 0, .int .i64 0, .bool false, .string (⟨#[]⟩ : ByteArray), .slice none 0 0]) ?_ 2 _ rfl; (with_reducible repeat (first | refine bN ?_ _ | refine bD ?_ | refine bA ?_ _)); refine blk_put (cs := #[.int .i64 8, .int .i64 0, .int .i64 0, .int .i64 0, .bool false, .string (⟨#[]⟩ : ByteArray), .slice none 0 0]) ?_ 1 _ rfl; (with_reducible repeat (first | refine bN ?_ _ | refine bD ?_ | refine bA ?_ _)); refine blk_put (cs := #[.int .i64 0, .int .i64 0, .int .i64 0, .int .i64 0, .bool false, .string (⟨#[]⟩ : ByteArray), .slice none 0 0]) ?_ 0 _ rfl; (with_reducible repeat (first | refine bN ?_ _ | refine bD ?_ | refine bA ?_ _)); exact BK111.out⟩
             have n4_ : Aside0 (Below w.heap.size w ((((((((w94.setCell ⟨gb111, 0, none⟩ (.int .i64 8)).setCell ⟨gb111, 1, none⟩ (.int .i64 0)).setCell ⟨gb111, 2, none⟩ (.int .i64 a0_1)).setCell ⟨gb111, 3, none⟩ (.int .i64 0)).setCell ⟨gb111, 4, none⟩ (.bool (x7_31 == (a0_2.size : Int)))).setCell ⟨gb111, 5, none⟩ (.string (a0_2.extract (a0_1 : Int).toNat (x7_31 : Int).toNat))).setCell ⟨gb111, 6, none⟩ (.slice none 0 0)).setCell ⟨gb106, 1, none⟩ (.int .i64 x7_31))) := ⟨by repeat (first | (with_reducible first | exact HB.out | apply below_alloc | apply pw_below_drewN | apply below_drew1 | refine below_set ?_ GE106.out | refine below_set ?_ GE107.out | refine below_set ?_ GE108.out | refine below_set ?_ GE111.out) | exact HB.out)⟩
             (try clear BK106)
             (try clear BK107)
             (try clear BK108)
             (try clear BK111)
             (try clear HB)
             generalize ((((((((w94.setCell ⟨gb111, 0, none⟩ (.int .i64 8)).setCell ⟨gb111, 1, none⟩ (.int .i64 0)).setCell ⟨gb111, 2, none⟩ (.int .i64 a0_1)).setCell ⟨gb111, 3, none⟩ (.int .i64 0)).setCell ⟨gb111, 4, none⟩ (.bool (x7_31 == (a0_2.size : Int)))).setCell ⟨gb111, 5, none⟩ (.string (a0_2.extract (a0_1 : Int).toNat (x7_31 : Int).toNat))).setCell ⟨gb111, 6, none⟩ (.slice none 0 0)).setCell ⟨gb106, 1, none⟩ (.int .i64 x7_31)) = w109 at n0_ n1_ n2_ n3_ n4_ ⊢
             have BK106 := n0_
             have BK107 := n1_
             have BK108 := n2_
             have BK111 := n3_
             have HB := n4_
             clear n0_ n1_ n2_ n3_ n4_
             have n0_ := Aside0.mk (blk_drew BK106.out)
             have n1_ := Aside0.mk (blk_drew BK107.out)
             have n2_ := Aside0.mk (blk_drew BK108.out)
             have n3_ := Aside0.mk (blk_drew BK111.out)
             have n4_ := Aside0.mk (below_drew1 HB.out)
             clear BK106
             clear BK107
             clear BK108
             clear BK111
             clear HB
             have BK106 := n0_
             have BK107 := n1_
             have BK108 := n2_
             have BK111 := n3_
             have HB := n4_
             clear n0_ n1_ n2_ n3_ n4_
             refine start_ (n := 5) (S := fun w' => w'.cell? ⟨gb106, 0, none⟩ = some (.int .i64 a0_0) ∧ w'.cell? ⟨gb106, 1, none⟩ = some (.int .i64 x7_31) ∧ w'.cell? ⟨gb106, 2, none⟩ = some (.string a0_2) ∧ w'.cell? ⟨gb106, 3, none⟩ = some (.bool true) ∧ w'.cell? ⟨gb111, 0, none⟩ = some (.int .i64 8) ∧ w'.cell? ⟨gb111, 1, none⟩ = some (.int .i64 0) ∧ w'.cell? ⟨gb111, 2, none⟩ = some (.int .i64 a0_1) ∧ w'.cell? ⟨gb111, 3, none⟩ = some (.int .i64 0) ∧ w'.cell? ⟨gb111, 4, none⟩ = some (.bool (x7_31 == (a0_2.size : Int))) ∧ w'.cell? ⟨gb111, 5, none⟩ = some (.string (a0_2.extract (a0_1 : Int).toNat (x7_31 : Int).toNat)) ∧ w'.cell? ⟨gb111, 6, none⟩ = some (.slice none 0 0)) (ds := []) #[false, false, false, false, false] (by kernel_rfl) rfl rfl (cx4 BK106 (cz7 BK111)) (fun hHeld => ?_)
             generalize w109.drew = w110 at BK106 BK107 BK108 BK111 HB hHeld ⊢
             refine take_ (i := 0) (N := some 67) (v := ?_) (a' := ?_) #[true, false, false, false, false] rfl rfl (by kernel_rfl) (fun _ _ _ h => h) (Or.inl ⟨by rfl, ?_⟩) hHeld ?_ ?_
             rotate_left
             ·rintro w' ⟨s0, s1, s2, s3, s4, s5, s6, s7, s8, s9, s10⟩
              go_simp
              with_reducible rfl
             rotate_left
             ·simp only [Act.put, sA, sZ, sS, i64_w, i32_w]
              rfl
             refine take_ (i := 1) (N := some 68) (v := ?_) (a' := ?_) #[true, true, false, false, false] rfl rfl (by kernel_rfl) (fun _ _ _ h => h) (Or.inl ⟨by rfl, ?_⟩) hHeld ?_ ?_
             rotate_left
             ·rintro w' ⟨s0, s1, s2, s3, s4, s5, s6, s7, s8, s9, s10⟩
              go_simp
              with_reducible rfl
             rotate_left
             ·simp only [Act.put, sA, sZ, sS, i64_w, i32_w]
              rfl
             refine one_ (i := 2) (N := none) #[true, true, true, false, false] rfl rfl (by kernel_rfl) (by decide) (fun K hK => ?_)
             have hs111 : w110.cell? ⟨gb107, 0, none⟩ = some (.int .i64 0) := (blk_cell BK107.out 0).trans rfl
             have hfs111 := blk_frozen BK107.out 0
             have hns111_0 := NB106_107.out
             have hns111_2 := NB108_107.out
             have hns111_3 := NB111_107.out
             have hms111_0 := NB107_106.out
             have hms111_2 := NB107_108.out
             have hms111_3 := NB107_111.out
             have hs112 : w110.cell? ⟨gb107, 1, none⟩ = some (.int .i64 0) := (blk_cell BK107.out 1).trans rfl
             have hfs112 := blk_frozen BK107.out 1
             have hns112_0 := NB106_107.out
             have hns112_2 := NB108_107.out
             have hns112_3 := NB111_107.out
             have hms112_0 := NB107_106.out
             have hms112_2 := NB107_108.out
             have hms112_3 := NB107_111.out
             have hs113 : w110.cell? ⟨gb107, 2, none⟩ = some (.string (⟨#[]⟩ : ByteArray)) := (blk_cell BK107.out 2).trans rfl
             have hfs113 := blk_frozen BK107.out 2
             have hns113_0 := NB106_107.out
             have hns113_2 := NB108_107.out
             have hns113_3 := NB111_107.out
             have hms113_0 := NB107_106.out
             have hms113_2 := NB107_108.out
             have hms113_3 := NB107_111.out
             have hs114 : w110.cell? ⟨gb107, 3, none⟩ = some (.bool false) := (blk_cell BK107.out 3).trans rfl
             have hfs114 := blk_frozen BK107.out 3
             have hns114_0 := NB106_107.out
             have hns114_2 := NB108_107.out
             have hns114_3 := NB111_107.out
             have hms114_0 := NB107_106.out
             have hms114_2 := NB107_108.out
             have hms114_3 := NB107_111.out
             refine skip_ (w1 := ?_) (by rfl) rfl ?_ ?_
             rotate_left
             ·go_simp
              rfl
             refine hK.out _ _ ⟨((cell_far (p := ⟨gb107, _, none⟩) NB106_107.out _).trans (((cell_far (p := ⟨gb107, _, none⟩) NB106_107.out _).trans (((cell_far (p := ⟨gb107, _, none⟩) NB106_107.out _).trans (((cell_far (p := ⟨gb107, _, none⟩) NB106_107.out _).trans (hHeld.1)))))))), ((cell_far (p := ⟨gb107, _, none⟩) NB106_107.out _).trans (((cell_far (p := ⟨gb107, _, none⟩) NB106_107.out _).trans (((cell_far (p := ⟨gb107, _, none⟩) NB106_107.out _).trans (((cell_far (p := ⟨gb107, _, none⟩) NB106_107.out _).trans (hHeld.2.1)))))))), ((cell_far (p := ⟨gb107, _, none⟩) NB106_107.out _).trans (((cell_far (p := ⟨gb107, _, none⟩) NB106_107.out _).trans (((cell_far (p := ⟨gb107, _, none⟩) NB106_107.out _).trans (((cell_far (p := ⟨gb107, _, none⟩) NB106_107.out _).trans (hHeld.2.2.1)))))))), ((cell_far (p := ⟨gb107, _, none⟩) NB106_107.out _).trans (((cell_far (p := ⟨gb107, _, none⟩) NB106_107.out _).trans (((cell_far (p := ⟨gb107, _, none⟩) NB106_107.out _).trans (((cell_far (p := ⟨gb107, _, none⟩) NB106_107.out _).trans (hHeld.2.2.2.1)))))))), ((cell_far (p := ⟨gb107, _, none⟩) NB111_107.out _).trans (((cell_far (p := ⟨gb107, _, none⟩) NB111_107.out _).trans (((cell_far (p := ⟨gb107, _, none⟩) NB111_107.out _).trans (((cell_far (p := ⟨gb107, _, none⟩) NB111_107.out _).trans (hHeld.2.2.2.2.1)))))))), ((cell_far (p := ⟨gb107, _, none⟩) NB111_107.out _).trans (((cell_far (p := ⟨gb107, _, none⟩) NB111_107.out _).trans (((cell_far (p := ⟨gb107, _, none⟩) NB111_107.out _).trans (((cell_far (p := ⟨gb107, _, none⟩) NB111_107.out _).trans (hHeld.2.2.2.2.2.1)))))))), ((cell_far (p := ⟨gb107, _, none⟩) NB111_107.out _).trans (((cell_far (p := ⟨gb107, _, none⟩) NB111_107.out _).trans (((cell_far (p := ⟨gb107, _, none⟩) NB111_107.out _).trans (((cell_far (p := ⟨gb107, _, none⟩) NB111_107.out _).trans (hHeld.2.2.2.2.2.2.1)))))))), ((cell_far (p := ⟨gb107, _, none⟩) NB111_107.out _).trans (((cell_far (p := ⟨gb107, _, none⟩) NB111_107.out _).trans (((cell_far (p := ⟨gb107, _, none⟩) NB111_107.out _).trans (((cell_far (p := ⟨gb107, _, none⟩) NB111_107.out _).trans (hHeld.2.2.2.2.2.2.2.1)))))))), ((cell_far (p := ⟨gb107, _, none⟩) NB111_107.out _).trans (((cell_far (p := ⟨gb107, _, none⟩) NB111_107.out _).trans (((cell_far (p := ⟨gb107, _, none⟩) NB111_107.out _).trans (((cell_far (p := ⟨gb107, _, none⟩) NB111_107.out _).trans (hHeld.2.2.2.2.2.2.2.2.1)))))))), ((cell_far (p := ⟨gb107, _, none⟩) NB111_107.out _).trans (((cell_far (p := ⟨gb107, _, none⟩) NB111_107.out _).trans (((cell_far (p := ⟨gb107, _, none⟩) NB111_107.out _).trans (((cell_far (p := ⟨gb107, _, none⟩) NB111_107.out _).trans (hHeld.2.2.2.2.2.2.2.2.2.1)))))))), ((cell_far (p := ⟨gb107, _, none⟩) NB111_107.out _).trans (((cell_far (p := ⟨gb107, _, none⟩) NB111_107.out _).trans (((cell_far (p := ⟨gb107, _, none⟩) NB111_107.out _).trans (((cell_far (p := ⟨gb107, _, none⟩) NB111_107.out _).trans (hHeld.2.2.2.2.2.2.2.2.2.2))))))))⟩ (fun hHeld => ?_)
             clear hK K
             refine one_ (i := 3) (N := none) #[true, true, true, true, false] rfl rfl (by kernel_rfl) (by decide) (fun K hK => ?_)
             have hs115 : w110.cell? ⟨gb108, 0, none⟩ = some (.int .i64 0) := (blk_cell BK108.out 0).trans rfl
             have hfs115 := blk_frozen BK108.out 0
             have hns115_0 := NB106_108.out
             have hns115_1 := NB107_108.out
             have hns115_3 := NB111_108.out
             have hms115_0 := NB108_106.out
             have hms115_1 := NB108_107.out
             have hms115_3 := NB108_111.out
             have hs116 : w110.cell? ⟨gb108, 1, none⟩ = some (.int .i64 0) := (blk_cell BK108.out 1).trans rfl
             have hfs116 := blk_frozen BK108.out 1
             have hns116_0 := NB106_108.out
             have hns116_1 := NB107_108.out
             have hns116_3 := NB111_108.out
             have hms116_0 := NB108_106.out
             have hms116_1 := NB108_107.out
             have hms116_3 := NB108_111.out
             have hs117 : w110.cell? ⟨gb108, 2, none⟩ = some (.int .i64 0) := (blk_cell BK108.out 2).trans rfl
             have hfs117 := blk_frozen BK108.out 2
             have hns117_0 := NB106_108.out
             have hns117_1 := NB107_108.out
             have hns117_3 := NB111_108.out
             have hms117_0 := NB108_106.out
             have hms117_1 := NB108_107.out
             have hms117_3 := NB108_111.out
             have hs118 : w110.cell? ⟨gb108, 3, none⟩ = some (.int .i64 0) := (blk_cell BK108.out 3).trans rfl
             have hfs118 := blk_frozen BK108.out 3
             have hns118_0 := NB106_108.out
             have hns118_1 := NB107_108.out
             have hns118_3 := NB111_108.out
             have hms118_0 := NB108_106.out
             have hms118_1 := NB108_107.out
             have hms118_3 := NB108_111.out
             have hs119 : w110.cell? ⟨gb108, 4, none⟩ = some (.bool false) := (blk_cell BK108.out 4).trans rfl
             have hfs119 := blk_frozen BK108.out 4
             have hns119_0 := NB106_108.out
             have hns119_1 := NB107_108.out
             have hns119_3 := NB111_108.out
             have hms119_0 := NB108_106.out
             have hms119_1 := NB108_107.out
             have hms119_3 := NB108_111.out
             have hs120 : w110.cell? ⟨gb108, 5, none⟩ = some (.string (⟨#[]⟩ : ByteArray)) := (blk_cell BK108.out 5).trans rfl
             have hfs120 := blk_frozen BK108.out 5
             have hns120_0 := NB106_108.out
             have hns120_1 := NB107_108.out
             have hns120_3 := NB111_108.out
             have hms120_0 := NB108_106.out
             have hms120_1 := NB108_107.out
             have hms120_3 := NB108_111.out
             have hs121 : w110.cell? ⟨gb108, 6, none⟩ = some (.slice none 0 0) := (blk_cell BK108.out 6).trans rfl
             have hfs121 := blk_frozen BK108.out 6
             have hns121_0 := NB106_108.out
             have hns121_1 := NB107_108.out
             have hns121_3 := NB111_108.out
             have hms121_0 := NB108_106.out
             have hms121_1 := NB108_107.out
             have hms121_3 := NB108_111.out
             refine skip_ (w1 := ?_) (by rfl) rfl ?_ ?_
             rotate_left
             ·go_simp
              rfl
             refine hK.out _ _ ⟨((cell_far (p := ⟨gb108, _, none⟩) NB106_108.out _).trans (((cell_far (p := ⟨gb108, _, none⟩) NB106_108.out _).trans (((cell_far (p := ⟨gb108, _, none⟩) NB106_108.out _).trans (((cell_far (p := ⟨gb108, _, none⟩) NB106_108.out _).trans (((cell_far (p := ⟨gb108, _, none⟩) NB106_108.out _).trans (((cell_far (p := ⟨gb108, _, none⟩) NB106_108.out _).trans (((cell_far (p := ⟨gb108, _, none⟩) NB106_108.out _).trans (hHeld.1)))))))))))))), ((cell_far (p := ⟨gb108, _, none⟩) NB106_108.out _).trans (((cell_far (p := ⟨gb108, _, none⟩) NB106_108.out _).trans (((cell_far (p := ⟨gb108, _, none⟩) NB106_108.out _).trans (((cell_far (p := ⟨gb108, _, none⟩) NB106_108.out _).trans (((cell_far (p := ⟨gb108, _, none⟩) NB106_108.out _).trans (((cell_far (p := ⟨gb108, _, none⟩) NB106_108.out _).trans (((cell_far (p := ⟨gb108, _, none⟩) NB106_108.out _).trans (hHeld.2.1)))))))))))))), ((cell_far (p := ⟨gb108, _, none⟩) NB106_108.out _).trans (((cell_far (p := ⟨gb108, _, none⟩) NB106_108.out _).trans (((cell_far (p := ⟨gb108, _, none⟩) NB106_108.out _).trans (((cell_far (p := ⟨gb108, _, none⟩) NB106_108.out _).trans (((cell_far (p := ⟨gb108, _, none⟩) NB106_108.out _).trans (((cell_far (p := ⟨gb108, _, none⟩) NB106_108.out _).trans (((cell_far (p := ⟨gb108, _, none⟩) NB106_108.out _).trans (hHeld.2.2.1)))))))))))))), ((cell_far (p := ⟨gb108, _, none⟩) NB106_108.out _).trans (((cell_far (p := ⟨gb108, _, none⟩) NB106_108.out _).trans (((cell_far (p := ⟨gb108, _, none⟩) NB106_108.out _).trans (((cell_far (p := ⟨gb108, _, none⟩) NB106_108.out _).trans (((cell_far (p := ⟨gb108, _, none⟩) NB106_108.out _).trans (((cell_far (p := ⟨gb108, _, none⟩) NB106_108.out _).trans (((cell_far (p := ⟨gb108, _, none⟩) NB106_108.out _).trans (hHeld.2.2.2.1)))))))))))))), ((cell_far (p := ⟨gb108, _, none⟩) NB111_108.out _).trans (((cell_far (p := ⟨gb108, _, none⟩) NB111_108.out _).trans (((cell_far (p := ⟨gb108, _, none⟩) NB111_108.out _).trans (((cell_far (p := ⟨gb108, _, none⟩) NB111_108.out _).trans (((cell_far (p := ⟨gb108, _, none⟩) NB111_108.out _).trans (((cell_far (p := ⟨gb108, _, none⟩) NB111_108.out _).trans (((cell_far (p := ⟨gb108, _, none⟩) NB111_108.out _).trans (hHeld.2.2.2.2.1)))))))))))))), ((cell_far (p := ⟨gb108, _, none⟩) NB111_108.out _).trans (((cell_far (p := ⟨gb108, _, none⟩) NB111_108.out _).trans (((cell_far (p := ⟨gb108, _, none⟩) NB111_108.out _).trans (((cell_far (p := ⟨gb108, _, none⟩) NB111_108.out _).trans (((cell_far (p := ⟨gb108, _, none⟩) NB111_108.out _).trans (((cell_far (p := ⟨gb108, _, none⟩) NB111_108.out _).trans (((cell_far (p := ⟨gb108, _, none⟩) NB111_108.out _).trans (hHeld.2.2.2.2.2.1)))))))))))))), ((cell_far (p := ⟨gb108, _, none⟩) NB111_108.out _).trans (((cell_far (p := ⟨gb108, _, none⟩) NB111_108.out _).trans (((cell_far (p := ⟨gb108, _, none⟩) NB111_108.out _).trans (((cell_far (p := ⟨gb108, _, none⟩) NB111_108.out _).trans (((cell_far (p := ⟨gb108, _, none⟩) NB111_108.out _).trans (((cell_far (p := ⟨gb108, _, none⟩) NB111_108.out _).trans (((cell_far (p := ⟨gb108, _, none⟩) NB111_108.out _).trans (hHeld.2.2.2.2.2.2.1)))))))))))))), ((cell_far (p := ⟨gb108, _, none⟩) NB111_108.out _).trans (((cell_far (p := ⟨gb108, _, none⟩) NB111_108.out _).trans (((cell_far (p := ⟨gb108, _, none⟩) NB111_108.out _).trans (((cell_far (p := ⟨gb108, _, none⟩) NB111_108.out _).trans (((cell_far (p := ⟨gb108, _, none⟩) NB111_108.out _).trans (((cell_far (p := ⟨gb108, _, none⟩) NB111_108.out _).trans (((cell_far (p := ⟨gb108, _, none⟩) NB111_108.out _).trans (hHeld.2.2.2.2.2.2.2.1)))))))))))))), ((cell_far (p := ⟨gb108, _, none⟩) NB111_108.out _).trans (((cell_far (p := ⟨gb108, _, none⟩) NB111_108.out _).trans (((cell_far (p := ⟨gb108, _, none⟩) NB111_108.out _).trans (((cell_far (p := ⟨gb108, _, none⟩) NB111_108.out _).trans (((cell_far (p := ⟨gb108, _, none⟩) NB111_108.out _).trans (((cell_far (p := ⟨gb108, _, none⟩) NB111_108.out _).trans (((cell_far (p := ⟨gb108, _, none⟩) NB111_108.out _).trans (hHeld.2.2.2.2.2.2.2.2.1)))))))))))))), ((cell_far (p := ⟨gb108, _, none⟩) NB111_108.out _).trans (((cell_far (p := ⟨gb108, _, none⟩) NB111_108.out _).trans (((cell_far (p := ⟨gb108, _, none⟩) NB111_108.out _).trans (((cell_far (p := ⟨gb108, _, none⟩) NB111_108.out _).trans (((cell_far (p := ⟨gb108, _, none⟩) NB111_108.out _).trans (((cell_far (p := ⟨gb108, _, none⟩) NB111_108.out _).trans (((cell_far (p := ⟨gb108, _, none⟩) NB111_108.out _).trans (hHeld.2.2.2.2.2.2.2.2.2.1)))))))))))))), ((cell_far (p := ⟨gb108, _, none⟩) NB111_108.out _).trans (((cell_far (p := ⟨gb108, _, none⟩) NB111_108.out _).trans (((cell_far (p := ⟨gb108, _, none⟩) NB111_108.out _).trans (((cell_far (p := ⟨gb108, _, none⟩) NB111_108.out _).trans (((cell_far (p := ⟨gb108, _, none⟩) NB111_108.out _).trans (((cell_far (p := ⟨gb108, _, none⟩) NB111_108.out _).trans (((cell_far (p := ⟨gb108, _, none⟩) NB111_108.out _).trans (hHeld.2.2.2.2.2.2.2.2.2.2))))))))))))))⟩ (fun hHeld => ?_)
             clear hK K
             refine pure_ (i := 4) (N := some 6) (v := ?_) (a' := ?_) #[true, true, true, true, true] rfl rfl (by kernel_rfl) (fun _ _ _ h => h) (Or.inl ⟨by rfl, ?_⟩) ?_ ?_
             rotate_left
             ·intro w'
              go_simp
              with_reducible rfl
             rotate_left
             ·simp only [Act.put, sA, sZ, sS, i64_w, i32_w]
              rfl
             refine done_ (by kernel_rfl) ?_
             try go_wp2
             refine bodyPost_ret (results_list (rs := [.cell 4 25, .cell 5 28, .tmp 6]) rfl (by simp) (.cell gb107 25 #[.int .i64 a0_0, .int .i64 x7_31, .string a0_2, .bool true] (0, 0) _ rfl (by (with_reducible repeat (first | refine bN ?_ _ | refine bD ?_ | refine bA ?_ _)); refine blk_far ?_ NB107_108.out _; (with_reducible repeat (first | refine bN ?_ _ | refine bD ?_ | refine bA ?_ _)); refine blk_far ?_ NB107_108.out _; (with_reducible repeat (first | refine bN ?_ _ | refine bD ?_ | refine bA ?_ _)); refine blk_far ?_ NB107_108.out _; (with_reducible repeat (first | refine bN ?_ _ | refine bD ?_ | refine bA ?_ _)); refine blk_far ?_ NB107_108.out _; (with_reducible repeat (first | refine bN ?_ _ | refine bD ?_ | refine bA ?_ _)); refine blk_far ?_ NB107_108.out _; (with_reducible repeat (first | refine bN ?_ _ | refine bD ?_ | refine bA ?_ _)); refine blk_far ?_ NB107_108.out _; (with_reducible repeat (first | refine bN ?_ _ | refine bD ?_ | refine bA ?_ _)); refine blk_far ?_ NB107_108.out _; (with_reducible repeat (first | refine bN ?_ _ | refine bD ?_ | refine bA ?_ _)); refine blk_put (cs := #[.int .i64 a0_0, .int .i64 x7_31, .string a0_2, .bool false]) ?_ 3 _ rfl; (with_reducible repeat (first | refine bN ?_ _ | refine bD ?_ | refine bA ?_ _)); refine blk_put (cs := #[.int .i64 a0_0, .int .i64 x7_31, .string (⟨#[]⟩ : ByteArray), .bool false]) ?_ 2 _ rfl; (with_reducible repeat (first | refine bN ?_ _ | refine bD ?_ | refine bA ?_ _)); refine blk_put (cs := #[.int .i64 a0_0, .int .i64 0, .string (⟨#[]⟩ : ByteArray), .bool false]) ?_ 1 _ rfl; (with_reducible repeat (first | refine bN ?_ _ | refine bD ?_ | refine bA ?_ _)); refine blk_put (cs := #[.int .i64 0, .int .i64 0, .string (⟨#[]⟩ : ByteArray), .bool false]) ?_ 0 _ rfl; (with_reducible repeat (first | refine bN ?_ _ | refine bD ?_ | refine bA ?_ _)); exact BK107.out) Try.underlying25 rfl (by kernel_rfl) (.cell gb108 28 #[.int .i64 8, .int .i64 0, .int .i64 a0_1, .int .i64 0, .bool (x7_31 == (a0_2.size : Int)), .string (a0_2.extract (a0_1 : Int).toNat (x7_31 : Int).toNat), .slice none 0 0] (0, 0) _ rfl (by (with_reducible repeat (first | refine bN ?_ _ | refine bD ?_ | refine bA ?_ _)); refine blk_put (cs := #[.int .i64 8, .int .i64 0, .int .i64 a0_1, .int .i64 0, .bool (x7_31 == (a0_2.size : Int)), .string (a0_2.extract (a0_1 : Int).toNat (x7_31 : Int).toNat), .slice none 0 0]) ?_ 6 _ rfl; (with_reducible repeat (first | refine bN ?_ _ | refine bD ?_ | refine bA ?_ _)); refine blk_put (cs := #[.int .i64 8, .int .i64 0, .int .i64 a0_1, .int .i64 0, .bool (x7_31 == (a0_2.size : Int)), .string (⟨#[]⟩ : ByteArray), .slice none 0 0]) ?_ 5 _ rfl; (with_reducible repeat (first | refine bN ?_ _ | refine bD ?_ | refine bA ?_ _)); refine blk_put (cs := #[.int .i64 8, .int .i64 0, .int .i64 a0_1, .int .i64 0, .bool false, .string (⟨#[]⟩ : ByteArray), .slice none 0 0]) ?_ 4 _ rfl; (with_reducible repeat (first | refine bN ?_ _ | refine bD ?_ | refine bA ?_ _)); refine blk_put (cs := #[.int .i64 8, .int .i64 0, .int .i64 a0_1, .int .i64 0, .bool false, .string (⟨#[]⟩ : ByteArray), .slice none 0 0]) ?_ 3 _ rfl; (with_reducible repeat (first | refine bN ?_ _ | refine bD ?_ | refine bA ?_ _)); refine blk_put (cs := #[.int .i64 8, .int .i64 0, .int .i64 0, .int .i64 0, .bool false, .string (⟨#[]⟩ : ByteArray), .slice none 0 0]) ?_ 2 _ rfl; (with_reducible repeat (first | refine bN ?_ _ | refine bD ?_ | refine bA ?_ _)); refine blk_put (cs := #[.int .i64 8, .int .i64 0, .int .i64 0, .int .i64 0, .bool false, .string (⟨#[]⟩ : ByteArray), .slice none 0 0]) ?_ 1 _ rfl; (with_reducible repeat (first | refine bN ?_ _ | refine bD ?_ | refine bA ?_ _)); refine blk_put (cs := #[.int .i64 0, .int .i64 0, .int .i64 0, .int .i64 0, .bool false, .string (⟨#[]⟩ : ByteArray), .slice none 0 0]) ?_ 0 _ rfl; (with_reducible repeat (first | refine bN ?_ _ | refine bD ?_ | refine bA ?_ _)); refine blk_far ?_ NB108_107.out _; (with_reducible repeat (first | refine bN ?_ _ | refine bD ?_ | refine bA ?_ _)); refine blk_far ?_ NB108_107.out _; (with_reducible repeat (first | refine bN ?_ _ | refine bD ?_ | refine bA ?_ _)); refine blk_far ?_ NB108_107.out _; (with_reducible repeat (first | refine bN ?_ _ | refine bD ?_ | refine bA ?_ _)); refine blk_far ?_ NB108_107.out _; (with_reducible repeat (first | refine bN ?_ _ | refine bD ?_ | refine bA ?_ _)); exact BK108.out) Try.underlying28 rfl (by kernel_rfl) (.tmp .nil)))) rfl ?_
             exact ⟨_, by first | rfl | (simp [errW_none, errW_some] <;> rfl) | (simp [*, errW_none, errW_some] <;> rfl), by first | exact Kd.R_nil _ _ _ _ _ | exact Kd.N_nil _ _ _ _ _ | exact Kd.V_nil _ _ _ _ _ | exact Kd.Q_nil _ _ _ _ _ | exact Kd.S_nil _ _ _ _ _, by repeat (first | (with_reducible first | exact HB.out | apply below_alloc | apply pw_below_drewN | apply below_drew1 | refine below_set ?_ GE106.out | refine below_set ?_ GE107.out | refine below_set ?_ GE108.out | refine below_set ?_ GE111.out) | exact HB.out)⟩
           ·replace c43 := Bool.eq_false_iff.mpr c43
            subst c43
            have H1 : (if (a0_2.extract (a0_1 : Int).toNat (x7_31 : Int).toNat).toList = ([] : List UInt8) then (some (0, 0, (⟨#[]⟩ : ByteArray), false, 0, 0, 0, 0, false, (⟨#[]⟩ : ByteArray), ([] : List (S203)), false)) else (some (a0_0, x7_31, a0_2, false, 8, 0, a0_1, 0, false, a0_2.extract (a0_1 : Int).toNat (x7_31 : Int).toNat, ([] : List (S203)), true))) = some (r1, r2, r3, r4, r5, r6, r7, r8, r9, r10, r11, r12) := by rw [if_neg (show ¬ (false = true) by decide)] at H; exact H
            clear H
            have H := H1
            clear H1
            by_cases c122 : (a0_2.extract (a0_1 : Int).toNat (x7_31 : Int).toNat).toList = ([] : List UInt8)
            ·rw [if_pos c122] at H
             have c122b0 : ((a0_2.extract (a0_1 : Int).toNat (x7_31 : Int).toNat).toList == ([] : List UInt8)) = true := beq_iff_eq.mpr c122
             have c122b1 : ((a0_2.extract (a0_1 : Int).toNat (x7_31 : Int).toNat).toList != ([] : List UInt8)) = false := bne_eq_false_iff_eq.mpr c122
             clear c122
             simp only [Option.some.injEq, Prod.mk.injEq] at H
             obtain ⟨rfl, rfl, rfl, rfl, rfl, rfl, rfl, rfl, rfl, rfl, rfl, rfl⟩ := H
             try go_wp2
             have n0_ := Aside0.mk (blk_drew BK106.out)
             have n1_ := Aside0.mk (blk_drew BK107.out)
             have n2_ := Aside0.mk (blk_drew BK108.out)
             have n3_ := Aside0.mk (below_drew1 HB.out)
             clear BK106
             clear BK107
             clear BK108
             clear HB
             have BK106 := n0_
             have BK107 := n1_
             have BK108 := n2_
             have HB := n3_
             clear n0_ n1_ n2_ n3_
             refine start_ (n := 20) (S := fun w' => w'.cell? ⟨gb106, 0, none⟩ = some (.int .i64 a0_0) ∧ w'.cell? ⟨gb106, 1, none⟩ = some (.int .i64 a0_1) ∧ w'.cell? ⟨gb106, 2, none⟩ = some (.string a0_2) ∧ w'.cell? ⟨gb106, 3, none⟩ = some (.bool false)) (ds := []) (bm 20 0) (by kernel_rfl) rfl rfl (cz4 BK106) (fun hHeld => ?_); refine with_tabW spec_NextPiece.tab8 spec_NextPiece.bits8 (fun HT_ HW_ => ?_)
             generalize wc.drew = w123 at BK106 BK107 BK108 HB hHeld ⊢
             refine pure_ (i := 0) (N := some 37) (v := ?_) (a' := ?_) (bm 20 1) rfl rfl (any_of HT_.out (by kernel_rfl)) (fun _ _ _ h => h) (Or.inl ⟨by rfl, ?_⟩) ?_ ?_
             rotate_left
             ·intro w'
              go_simp
              with_reducible rfl
             rotate_left
             ·simp only [Act.put, sA, sZ, sS, i64_w, i32_w]
              rfl
             refine pure_ (i := 2) (N := some 39) (v := ?_) (a' := ?_) (bm 20 5) rfl rfl (any_of HT_.out (by kernel_rfl)) (fun _ _ _ h => h) (Or.inl ⟨by rfl, ?_⟩) ?_ ?_
             rotate_left
             ·intro w'
              go_simp
              with_reducible rfl
             rotate_left
             ·simp only [Act.put, sA, sZ, sS, i64_w, i32_w]
              rfl
             refine pure_ (i := 4) (N := some 41) (v := ?_) (a' := ?_) (bm 20 21) rfl rfl (any_of HT_.out (by kernel_rfl)) (fun _ _ _ h => h) (Or.inl ⟨by rfl, ?_⟩) ?_ ?_
             rotate_left
             ·intro w'
              go_simp
              with_reducible rfl
             rotate_left
             ·simp only [Act.put, sA, sZ, sS, i64_w, i32_w]
              rfl
             refine pure_ (i := 6) (N := some 43) (v := ?_) (a' := ?_) (bm 20 85) rfl rfl (any_of HT_.out (by kernel_rfl)) (fun _ _ _ h => h) (Or.inl ⟨by rfl, ?_⟩) ?_ ?_
             rotate_left
             ·intro w'
              go_simp
              with_reducible rfl
             rotate_left
             ·simp only [Act.put, sA, sZ, sS, i64_w, i32_w]
              rfl
             refine pure_ (i := 8) (N := some 45) (v := ?_) (a' := ?_) (bm 20 341) rfl rfl (any_of HT_.out (by kernel_rfl)) (fun _ _ _ h => h) (Or.inl ⟨by rfl, ?_⟩) ?_ ?_
             rotate_left
             ·intro w'
              go_simp
              with_reducible rfl
             rotate_left
             ·simp only [Act.put, sA, sZ, sS, i64_w, i32_w]
              rfl
             refine take_ (i := 1) (N := some 38) (v := ?_) (a' := ?_) (bm 20 343) rfl rfl (take_ofW HT_.out HW_.out (by kernel_rfl)) (fun _ _ _ h => h) (Or.inl ⟨by rfl, ?_⟩) hHeld ?_ ?_
             rotate_left
             ·rintro w' ⟨s0, s1, s2, s3⟩
              go_simp
              with_reducible rfl
             rotate_left
             ·simp only [Act.put, sA, sZ, sS, i64_w, i32_w]
              rfl
             refine take_ (i := 3) (N := some 40) (v := ?_) (a' := ?_) (bm 20 351) rfl rfl (take_ofW HT_.out HW_.out (by kernel_rfl)) (fun _ _ _ h => h) (Or.inl ⟨by rfl, ?_⟩) hHeld ?_ ?_
             rotate_left
             ·rintro w' ⟨s0, s1, s2, s3⟩
              go_simp
              with_reducible rfl
             rotate_left
             ·simp only [Act.put, sA, sZ, sS, i64_w, i32_w]
              rfl
             refine take_ (i := 5) (N := some 42) (v := ?_) (a' := ?_) (bm 20 383) rfl rfl (take_ofW HT_.out HW_.out (by kernel_rfl)) (fun _ _ _ h => h) (Or.inl ⟨by rfl, ?_⟩) hHeld ?_ ?_
             rotate_left
             ·rintro w' ⟨s0, s1, s2, s3⟩
              go_simp
              with_reducible rfl
             rotate_left
             ·simp only [Act.put, sA, sZ, sS, i64_w, i32_w]
              rfl
             refine pure_ (i := 7) (N := some 44) (v := ?_) (a' := ?_) (bm 20 511) rfl rfl (any_of HT_.out (by kernel_rfl)) (fun _ _ _ h => h) (Or.inl ⟨by rfl, ?_⟩) ?_ ?_
             rotate_left
             ·intro w'
              go_simp
              with_reducible rfl
             rotate_left
             ·simp only [Act.put, sA, sZ, sS, i64_w, i32_w]
              rfl
             refine take_ (i := 9) (N := some 46) (v := ?_) (a' := ?_) (bm 20 1023) rfl rfl (take_ofW HT_.out HW_.out (by kernel_rfl)) (fun _ _ _ h => h) (Or.inl ⟨by rfl, ?_⟩) hHeld ?_ ?_
             rotate_left
             ·rintro w' ⟨s0, s1, s2, s3⟩
              go_simp
              with_reducible rfl
             rotate_left
             ·simp only [Act.put, sA, sZ, sS, i64_w, i32_w]
              rfl
             refine pure_ (i := 10) (N := some 47) (v := ?_) (a' := ?_) (bm 20 2047) rfl rfl (any_of HT_.out (by kernel_rfl)) (fun _ _ _ h => h) (Or.inl ⟨by rfl, ?_⟩) ?_ ?_
             rotate_left
             ·intro w'
              go_simp
              with_reducible rfl
             rotate_left
             ·simp only [Act.put, sA, sZ, sS, i64_w, i32_w]
              rfl
             refine pure_ (i := 11) (N := some 48) (v := undef) (a' := ?_) (bm 20 4095) rfl rfl (any_of HT_.out (by kernel_rfl)) (fun _ _ _ h => h) (Or.inr ⟨by rfl, rfl⟩) ?_ ?_
             rotate_left
             ·simp only [Act.put, sA, sZ, sS, i64_w, i32_w]
              rfl
             refine pure_ (i := 12) (N := some 49) (v := undef) (a' := ?_) (bm 20 8191) rfl rfl (any_of HT_.out (by kernel_rfl)) (fun _ _ _ h => h) (Or.inr ⟨by rfl, rfl⟩) ?_ ?_
             rotate_left
             ·simp only [Act.put, sA, sZ, sS, i64_w, i32_w]
              rfl
             refine pure_ (i := 13) (N := some 50) (v := undef) (a' := ?_) (bm 20 16383) rfl rfl (any_of HT_.out (by kernel_rfl)) (fun _ _ _ h => h) (Or.inr ⟨by rfl, rfl⟩) ?_ ?_
             rotate_left
             ·simp only [Act.put, sA, sZ, sS, i64_w, i32_w]
              rfl
             refine pure_ (i := 14) (N := some 51) (v := undef) (a' := ?_) (bm 20 32767) rfl rfl (any_of HT_.out (by kernel_rfl)) (fun _ _ _ h => h) (Or.inr ⟨by rfl, rfl⟩) ?_ ?_
             rotate_left
             ·simp only [Act.put, sA, sZ, sS, i64_w, i32_w]
              rfl
             refine pure_ (i := 15) (N := some 52) (v := undef) (a' := ?_) (bm 20 65535) rfl rfl (any_of HT_.out (by kernel_rfl)) (fun _ _ _ h => h) (Or.inr ⟨by rfl, rfl⟩) ?_ ?_
             rotate_left
             ·simp only [Act.put, sA, sZ, sS, i64_w, i32_w]
              rfl
             refine pure_ (i := 16) (N := some 53) (v := ?_) (a' := ?_) (bm 20 131071) rfl rfl (any_of HT_.out (by kernel_rfl)) (fun _ _ _ h => h) (Or.inl ⟨by rfl, ?_⟩) ?_ ?_
             rotate_left
             ·intro w'
              go_simp
              with_reducible rfl
             rotate_left
             ·simp only [Act.put, sA, sZ, sS, i64_w, i32_w]
              rfl
             refine pure_ (i := 17) (N := some 54) (v := ?_) (a' := ?_) (bm 20 262143) rfl rfl (any_of HT_.out (by kernel_rfl)) (fun _ _ _ h => h) (Or.inl ⟨by rfl, ?_⟩) ?_ ?_
             rotate_left
             ·intro w'
              go_simp
              with_reducible rfl
             rotate_left
             ·simp only [Act.put, sA, sZ, sS, i64_w, i32_w]
              rfl
             refine one_ (i := 18) (N := some 8) (bm 20 524287) rfl rfl (one_of HT_.out (by kernel_rfl)) (by decide) (fun K hK => ?_)
             refine box_step ?hg (N := 8) ?hd (cs := #[.int .i64 0, .int .i64 0, .int .i64 0, .int .i64 0, .bool false, .string (⟨#[]⟩ : ByteArray), .slice none 0 0]) (t := 28) ?hr ?_; (case hd => rfl); (case hg => rfl); (case hr => first | (go_simp; done) | (go_simp; rfl))
             intro gb112 hg w124 hbox hb
             have n0_ := bX BK106 hb
             have n1_ := bX BK107 hb
             have n2_ := bX BK108 hb
             have n3_ := bS HB hb
             have n4_ := Aside0.mk (hbox)
             have n5_ := Aside0.mk ((by rw [hg]; exact (below_size (by repeat (first | (with_reducible first | exact HB.out | apply below_alloc | apply pw_below_drewN | apply below_drew1 | refine below_set ?_ GE106.out | refine below_set ?_ GE107.out | refine below_set ?_ GE108.out) | exact HB.out))) : w.heap.size ≤ gb112))
             have n6_ := Aside0.mk ((by rw [hg]; exact (below_size (by repeat (first | (with_reducible first | exact HB.out | apply below_alloc | apply pw_below_drewN | apply below_drew1 | refine below_set ?_ GE106.out | refine below_set ?_ GE107.out | refine below_set ?_ GE108.out) | exact HB.out))) : w.heap.size ≤ gb112))
             have n7_ := Aside0.mk ((by rw [hg]; exact Nat.ne_of_lt (bLt BK106) : gb106 ≠ gb112))
             have n8_ := Aside0.mk ((by rw [hg]; exact Nat.ne_of_gt (bLt BK106) : gb112 ≠ gb106))
             have n9_ := Aside0.mk ((by rw [hg]; exact Nat.ne_of_lt (bLt BK107) : gb107 ≠ gb112))
             have n10_ := Aside0.mk ((by rw [hg]; exact Nat.ne_of_gt (bLt BK107) : gb112 ≠ gb107))
             have n11_ := Aside0.mk ((by rw [hg]; exact Nat.ne_of_lt (bLt BK108) : gb108 ≠ gb112))
             have n12_ := Aside0.mk ((by rw [hg]; exact Nat.ne_of_gt (bLt BK108) : gb112 ≠ gb108))
             clear BK106
             clear BK107
             clear BK108
             clear HB
             have BK106 := n0_
             have BK107 := n1_
             have BK108 := n2_
             have HB := n3_
             have BK112 := n4_
             have GW112 := n5_
             have GE112 := n6_
             have NB106_112 := n7_
             have NB112_106 := n8_
             have NB107_112 := n9_
             have NB112_107 := n10_
             have NB108_112 := n11_
             have NB112_108 := n12_
             clear n0_ n1_ n2_ n3_ n4_ n5_ n6_ n7_ n8_ n9_ n10_ n11_ n12_
             clear hb hbox hg
             refine hK.out _ _ (cz4 BK106) (fun hHeld => ?_)
             clear hK K
             refine norm_ (a' := ?_) ?_ ?_
             rotate_left
             ·show Act.put _ (some 8) _ = _
              simp only [Act.put, sA, sZ, sS, i64_w, i32_w]
              rfl
             refine one_ (i := 19) (N := none) (bm 20 1048575) rfl rfl (one_of HT_.out (by kernel_rfl)) (by decide) (fun K hK => ?_)
             have hs125 : w124.cell? ⟨gb112, 0, none⟩ = some (.int .i64 0) := (blk_cell BK112.out 0).trans rfl
             have hfs125 := blk_frozen BK112.out 0
             have hns125_0 := NB106_112.out
             have hns125_1 := NB107_112.out
             have hns125_2 := NB108_112.out
             have hms125_0 := NB112_106.out
             have hms125_1 := NB112_107.out
             have hms125_2 := NB112_108.out
             have hs126 : w124.cell? ⟨gb112, 1, none⟩ = some (.int .i64 0) := (blk_cell BK112.out 1).trans rfl
             have hfs126 := blk_frozen BK112.out 1
             have hns126_0 := NB106_112.out
             have hns126_1 := NB107_112.out
             have hns126_2 := NB108_112.out
             have hms126_0 := NB112_106.out
             have hms126_1 := NB112_107.out
             have hms126_2 := NB112_108.out
             have hs127 : w124.cell? ⟨gb112, 2, none⟩ = some (.int .i64 0) := (blk_cell BK112.out 2).trans rfl
             have hfs127 := blk_frozen BK112.out 2
             have hns127_0 := NB106_112.out
             have hns127_1 := NB107_112.out
             have hns127_2 := NB108_112.out
             have hms127_0 := NB112_106.out
             have hms127_1 := NB112_107.out
             have hms127_2 := NB112_108.out
             have hs128 : w124.cell? ⟨gb112, 3, none⟩ = some (.int .i64 0) := (blk_cell BK112.out 3).trans rfl
             have hfs128 := blk_frozen BK112.out 3
             have hns128_0 := NB106_112.out
             have hns128_1 := NB107_112.out
             have hns128_2 := NB108_112.out
             have hms128_0 := NB112_106.out
             have hms128_1 := NB112_107.out
             have hms128_2 := NB112_108.out
             have hs129 : w124.cell? ⟨gb112, 4, none⟩ = some (.bool false) := (blk_cell BK112.out 4).trans rfl
             have hfs129 := blk_frozen BK112.out 4
             have hns129_0 := NB106_112.out
             have hns129_1 := NB107_112.out
             have hns129_2 := NB108_112.out
             have hms129_0 := NB112_106.out
             have hms129_1 := NB112_107.out
             have hms129_2 := NB112_108.out
             have hs130 : w124.cell? ⟨gb112, 5, none⟩ = some (.string (⟨#[]⟩ : ByteArray)) := (blk_cell BK112.out 5).trans rfl
             have hfs130 := blk_frozen BK112.out 5
             have hns130_0 := NB106_112.out
             have hns130_1 := NB107_112.out
             have hns130_2 := NB108_112.out
             have hms130_0 := NB112_106.out
             have hms130_1 := NB112_107.out
             have hms130_2 := NB112_108.out
             have hs131 : w124.cell? ⟨gb112, 6, none⟩ = some (.slice none 0 0) := (blk_cell BK112.out 6).trans rfl
             have hfs131 := blk_frozen BK112.out 6
             have hns131_0 := NB106_112.out
             have hns131_1 := NB107_112.out
             have hns131_2 := NB108_112.out
             have hms131_0 := NB112_106.out
             have hms131_1 := NB112_107.out
             have hms131_2 := NB112_108.out
             refine skip_ (w1 := ?_) (by rfl) rfl ?_ ?_
             rotate_left
             ·go_simp
              rfl
             refine hK.out _ _ ⟨((cell_far (p := ⟨gb112, _, none⟩) NB106_112.out _).trans (((cell_far (p := ⟨gb112, _, none⟩) NB106_112.out _).trans (((cell_far (p := ⟨gb112, _, none⟩) NB106_112.out _).trans (((cell_far (p := ⟨gb112, _, none⟩) NB106_112.out _).trans (((cell_far (p := ⟨gb112, _, none⟩) NB106_112.out _).trans (((cell_far (p := ⟨gb112, _, none⟩) NB106_112.out _).trans (((cell_far (p := ⟨gb112, _, none⟩) NB106_112.out _).trans (hHeld.1)))))))))))))), ((cell_far (p := ⟨gb112, _, none⟩) NB106_112.out _).trans (((cell_far (p := ⟨gb112, _, none⟩) NB106_112.out _).trans (((cell_far (p := ⟨gb112, _, none⟩) NB106_112.out _).trans (((cell_far (p := ⟨gb112, _, none⟩) NB106_112.out _).trans (((cell_far (p := ⟨gb112, _, none⟩) NB106_112.out _).trans (((cell_far (p := ⟨gb112, _, none⟩) NB106_112.out _).trans (((cell_far (p := ⟨gb112, _, none⟩) NB106_112.out _).trans (hHeld.2.1)))))))))))))), ((cell_far (p := ⟨gb112, _, none⟩) NB106_112.out _).trans (((cell_far (p := ⟨gb112, _, none⟩) NB106_112.out _).trans (((cell_far (p := ⟨gb112, _, none⟩) NB106_112.out _).trans (((cell_far (p := ⟨gb112, _, none⟩) NB106_112.out _).trans (((cell_far (p := ⟨gb112, _, none⟩) NB106_112.out _).trans (((cell_far (p := ⟨gb112, _, none⟩) NB106_112.out _).trans (((cell_far (p := ⟨gb112, _, none⟩) NB106_112.out _).trans (hHeld.2.2.1)))))))))))))), ((cell_far (p := ⟨gb112, _, none⟩) NB106_112.out _).trans (((cell_far (p := ⟨gb112, _, none⟩) NB106_112.out _).trans (((cell_far (p := ⟨gb112, _, none⟩) NB106_112.out _).trans (((cell_far (p := ⟨gb112, _, none⟩) NB106_112.out _).trans (((cell_far (p := ⟨gb112, _, none⟩) NB106_112.out _).trans (((cell_far (p := ⟨gb112, _, none⟩) NB106_112.out _).trans (((cell_far (p := ⟨gb112, _, none⟩) NB106_112.out _).trans (hHeld.2.2.2))))))))))))))⟩ (fun hHeld => ?_)
             clear hK K
             refine done_ (done_of HT_.out (by kernel_rfl)) ?_
             have hnb132 := NB112_106.out
             have hnc132 := NB106_112.out
             have hnb133 := NB112_107.out
             have hnc133 := NB107_112.out
             have hnb134 := NB112_108.out
             have hnc134 := NB108_112.out
             obtain ⟨hcz135_0, hcz135_1, hcz135_2, hcz135_3, hcz135_4, hcz135_5, hcz135_6⟩ := cz7 BK112
             obtain ⟨hfz135_0, hfz135_1, hfz135_2, hfz135_3, hfz135_4, hfz135_5, hfz135_6⟩ := fz7 BK112
             have hnb136 := NB107_106.out
             have hnc136 := NB106_107.out
             have hnb137 := NB107_108.out
             have hnc137 := NB108_107.out
             obtain ⟨hcz138_0, hcz138_1, hcz138_2, hcz138_3⟩ := cz4 BK107
             obtain ⟨hfz138_0, hfz138_1, hfz138_2, hfz138_3⟩ := fz4 BK107
             have hnb139 := NB108_106.out
             have hnc139 := NB106_108.out
             obtain ⟨hcz140_0, hcz140_1, hcz140_2, hcz140_3, hcz140_4, hcz140_5, hcz140_6⟩ := cz7 BK108
             obtain ⟨hfz140_0, hfz140_1, hfz140_2, hfz140_3, hfz140_4, hfz140_5, hfz140_6⟩ := fz7 BK108
             try go_wp2
             refine bodyPost_ret (results_list (rs := [.cell 4 25, .cell 5 28, .tmp 6]) rfl (by simp) (.cell gb107 25 #[.int .i64 0, .int .i64 0, .string (⟨#[]⟩ : ByteArray), .bool false] (0, 0) _ rfl (by (with_reducible repeat (first | refine bN ?_ _ | refine bD ?_ | refine bA ?_ _)); refine blk_far ?_ NB107_108.out _; (with_reducible repeat (first | refine bN ?_ _ | refine bD ?_ | refine bA ?_ _)); refine blk_far ?_ NB107_108.out _; (with_reducible repeat (first | refine bN ?_ _ | refine bD ?_ | refine bA ?_ _)); refine blk_far ?_ NB107_108.out _; (with_reducible repeat (first | refine bN ?_ _ | refine bD ?_ | refine bA ?_ _)); refine blk_far ?_ NB107_108.out _; (with_reducible repeat (first | refine bN ?_ _ | refine bD ?_ | refine bA ?_ _)); refine blk_far ?_ NB107_108.out _; (with_reducible repeat (first | refine bN ?_ _ | refine bD ?_ | refine bA ?_ _)); refine blk_far ?_ NB107_108.out _; (with_reducible repeat (first | refine bN ?_ _ | refine bD ?_ | refine bA ?_ _)); refine blk_far ?_ NB107_108.out _; (with_reducible repeat (first | refine bN ?_ _ | refine bD ?_ | refine bA ?_ _)); refine blk_put (cs := #[.int .i64 0, .int .i64 0, .string (⟨#[]⟩ : ByteArray), .bool false]) ?_ 3 _ rfl; (with_reducible repeat (first | refine bN ?_ _ | refine bD ?_ | refine bA ?_ _)); refine blk_put (cs := #[.int .i64 0, .int .i64 0, .string (⟨#[]⟩ : ByteArray), .bool false]) ?_ 2 _ rfl; (with_reducible repeat (first | refine bN ?_ _ | refine bD ?_ | refine bA ?_ _)); refine blk_put (cs := #[.int .i64 0, .int .i64 0, .string (⟨#[]⟩ : ByteArray), .bool false]) ?_ 1 _ rfl; (with_reducible repeat (first | refine bN ?_ _ | refine bD ?_ | refine bA ?_ _)); refine blk_put (cs := #[.int .i64 0, .int .i64 0, .string (⟨#[]⟩ : ByteArray), .bool false]) ?_ 0 _ rfl; (with_reducible repeat (first | refine bN ?_ _ | refine bD ?_ | refine bA ?_ _)); refine blk_far ?_ NB107_112.out _; (with_reducible repeat (first | refine bN ?_ _ | refine bD ?_ | refine bA ?_ _)); refine blk_far ?_ NB107_112.out _; (with_reducible repeat (first | refine bN ?_ _ | refine bD ?_ | refine bA ?_ _)); refine blk_far ?_ NB107_112.out _; (with_reducible repeat (first | refine bN ?_ _ | refine bD ?_ | refine bA ?_ _)); refine blk_far ?_ NB107_112.out _; (with_reducible repeat (first | refine bN ?_ _ | refine bD ?_ | refine bA ?_ _)); refine blk_far ?_ NB107_112.out _; (with_reducible repeat (first | refine bN ?_ _ | refine bD ?_ | refine bA ?_ _)); refine blk_far ?_ NB107_112.out _; (with_reducible repeat (first | refine bN ?_ _ | refine bD ?_ | refine bA ?_ _)); refine blk_far ?_ NB107_112.out _; (with_reducible repeat (first | refine bN ?_ _ | refine bD ?_ | refine bA ?_ _)); exact BK107.out) Try.underlying25 rfl (by kernel_rfl) (.cell gb108 28 #[.int .i64 0, .int .i64 0, .int .i64 0, .int .i64 0, .bool false, .string (⟨#[]⟩ : ByteArray), .slice none 0 0] (0, 0) _ rfl (by (with_reducible repeat (first | refine bN ?_ _ | refine bD ?_ | refine bA ?_ _)); refine blk_put (cs := #[.int .i64 0, .int .i64 0, .int .i64 0, .int .i64 0, .bool false, .string (⟨#[]⟩ : ByteArray), .slice none 0 0]) ?_ 6 _ rfl; (with_reducible repeat (first | refine bN ?_ _ | refine bD ?_ | refine bA ?_ _)); refine blk_put (cs := #[.int .i64 0, .int .i64 0, .int .i64 0, .int .i64 0, .bool false, .string (⟨#[]⟩ : ByteArray), .slice none 0 0]) ?_ 5 _ rfl; (with_reducible repeat (first | refine bN ?_ _ | refine bD ?_ | refine bA ?_ _)); refine blk_put (cs := #[.int .i64 0, .int .i64 0, .int .i64 0, .int .i64 0, .bool false, .string (⟨#[]⟩ : ByteArray), .slice none 0 0]) ?_ 4 _ rfl; (with_reducible repeat (first | refine bN ?_ _ | refine bD ?_ | refine bA ?_ _)); refine blk_put (cs := #[.int .i64 0, .int .i64 0, .int .i64 0, .int .i64 0, .bool false, .string (⟨#[]⟩ : ByteArray), .slice none 0 0]) ?_ 3 _ rfl; (with_reducible repeat (first | refine bN ?_ _ | refine bD ?_ | refine bA ?_ _)); refine blk_put (cs := #[.int .i64 0, .int .i64 0, .int .i64 0, .int .i64 0, .bool false, .string (⟨#[]⟩ : ByteArray), .slice none 0 0]) ?_ 2 _ rfl; (with_reducible repeat (first | refine bN ?_ _ | refine bD ?_ | refine bA ?_ _)); refine blk_put (cs := #[.int .i64 0, .int .i64 0, .int .i64 0, .int .i64 0, .bool false, .string (⟨#[]⟩ : ByteArray), .slice none 0 0]) ?_ 1 _ rfl; (with_reducible repeat (first | refine bN ?_ _ | refine bD ?_ | refine bA ?_ _)); refine blk_put (cs := #[.int .i64 0, .int .i64 0, .int .i64 0, .int .i64 0, .bool false, .string (⟨#[]⟩ : ByteArray), .slice none 0 0]) ?_ 0 _ rfl; (with_reducible repeat (first | refine bN ?_ _ | refine bD ?_ | refine bA ?_ _)); refine blk_far ?_ NB108_107.out _; (with_reducible repeat (first | refine bN ?_ _ | refine bD ?_ | refine bA ?_ _)); refine blk_far ?_ NB108_107.out _; (with_reducible repeat (first | refine bN ?_ _ | refine bD ?_ | refine bA ?_ _)); refine blk_far ?_ NB108_107.out _; (with_reducible repeat (first | refine bN ?_ _ | refine bD ?_ | refine bA ?_ _)); refine blk_far ?_ NB108_107.out _; (with_reducible repeat (first | refine bN ?_ _ | refine bD ?_ | refine bA ?_ _)); refine blk_far ?_ NB108_112.out _; (with_reducible repeat (first | refine bN ?_ _ | refine bD ?_ | refine bA ?_ _)); refine blk_far ?_ NB108_112.out _; (with_reducible repeat (first | refine bN ?_ _ | refine bD ?_ | refine bA ?_ _)); refine blk_far ?_ NB108_112.out _; (with_reducible repeat (first | refine bN ?_ _ | refine bD ?_ | refine bA ?_ _)); refine blk_far ?_ NB108_112.out _; (with_reducible repeat (first | refine bN ?_ _ | refine bD ?_ | refine bA ?_ _)); refine blk_far ?_ NB108_112.out _; (with_reducible repeat (first | refine bN ?_ _ | refine bD ?_ | refine bA ?_ _)); refine blk_far ?_ NB108_112.out _; (with_reducible repeat (first | refine bN ?_ _ | refine bD ?_ | refine bA ?_ _)); refine blk_far ?_ NB108_112.out _; (with_reducible repeat (first | refine bN ?_ _ | refine bD ?_ | refine bA ?_ _)); exact BK108.out) Try.underlying28 rfl (by kernel_rfl) (.tmp .nil)))) rfl ?_
             exact ⟨_, by first | rfl | (simp [errW_none, errW_some] <;> rfl) | (simp [*, errW_none, errW_some] <;> rfl), by first | exact Kd.R_nil _ _ _ _ _ | exact Kd.N_nil _ _ _ _ _ | exact Kd.V_nil _ _ _ _ _ | exact Kd.Q_nil _ _ _ _ _ | exact Kd.S_nil _ _ _ _ _, by repeat (first | (with_reducible first | exact HB.out | apply below_alloc | apply pw_below_drewN | apply below_drew1 | refine below_set ?_ GE106.out | refine below_set ?_ GE107.out | refine below_set ?_ GE108.out | refine below_set ?_ GE112.out) | exact HB.out)⟩
            ·rw [if_neg c122] at H
             have c122b0 : ((a0_2.extract (a0_1 : Int).toNat (x7_31 : Int).toNat).toList == ([] : List UInt8)) = false := beq_eq_false_iff_ne.mpr c122
             have c122b1 : ((a0_2.extract (a0_1 : Int).toNat (x7_31 : Int).toNat).toList != ([] : List UInt8)) = true := bne_iff_ne.mpr c122
             simp only [Option.some.injEq, Prod.mk.injEq] at H
             obtain ⟨rfl, rfl, rfl, rfl, rfl, rfl, rfl, rfl, rfl, rfl, rfl, rfl⟩ := H
             try go_wp2
             have n0_ := Aside0.mk (blk_drew BK106.out)
             have n1_ := Aside0.mk (blk_drew BK107.out)
             have n2_ := Aside0.mk (blk_drew BK108.out)
             have n3_ := Aside0.mk (below_drew1 HB.out)
             clear BK106
             clear BK107
             clear BK108
             clear HB
             have BK106 := n0_
             have BK107 := n1_
             have BK108 := n2_
             have HB := n3_
             clear n0_ n1_ n2_ n3_
             refine start_ (n := 20) (S := fun w' => w'.cell? ⟨gb106, 0, none⟩ = some (.int .i64 a0_0) ∧ w'.cell? ⟨gb106, 1, none⟩ = some (.int .i64 a0_1) ∧ w'.cell? ⟨gb106, 2, none⟩ = some (.string a0_2) ∧ w'.cell? ⟨gb106, 3, none⟩ = some (.bool false)) (ds := []) (bm 20 0) (by kernel_rfl) rfl rfl (cz4 BK106) (fun hHeld => ?_); refine with_tabW spec_NextPiece.tab8 spec_NextPiece.bits8 (fun HT_ HW_ => ?_)
             generalize wc.drew = w141 at BK106 BK107 BK108 HB hHeld ⊢
             refine pure_ (i := 0) (N := some 37) (v := ?_) (a' := ?_) (bm 20 1) rfl rfl (any_of HT_.out (by kernel_rfl)) (fun _ _ _ h => h) (Or.inl ⟨by rfl, ?_⟩) ?_ ?_
             rotate_left
             ·intro w'
              go_simp
              with_reducible rfl
             rotate_left
             ·simp only [Act.put, sA, sZ, sS, i64_w, i32_w]
              rfl
             refine pure_ (i := 2) (N := some 39) (v := ?_) (a' := ?_) (bm 20 5) rfl rfl (any_of HT_.out (by kernel_rfl)) (fun _ _ _ h => h) (Or.inl ⟨by rfl, ?_⟩) ?_ ?_
             rotate_left
             ·intro w'
              go_simp
              with_reducible rfl
             rotate_left
             ·simp only [Act.put, sA, sZ, sS, i64_w, i32_w]
              rfl
             refine pure_ (i := 4) (N := some 41) (v := ?_) (a' := ?_) (bm 20 21) rfl rfl (any_of HT_.out (by kernel_rfl)) (fun _ _ _ h => h) (Or.inl ⟨by rfl, ?_⟩) ?_ ?_
             rotate_left
             ·intro w'
              go_simp
              with_reducible rfl
             rotate_left
             ·simp only [Act.put, sA, sZ, sS, i64_w, i32_w]
              rfl
             refine pure_ (i := 6) (N := some 43) (v := ?_) (a' := ?_) (bm 20 85) rfl rfl (any_of HT_.out (by kernel_rfl)) (fun _ _ _ h => h) (Or.inl ⟨by rfl, ?_⟩) ?_ ?_
             rotate_left
             ·intro w'
              go_simp
              with_reducible rfl
             rotate_left
             ·simp only [Act.put, sA, sZ, sS, i64_w, i32_w]
              rfl
             refine pure_ (i := 8) (N := some 45) (v := ?_) (a' := ?_) (bm 20 341) rfl rfl (any_of HT_.out (by kernel_rfl)) (fun _ _ _ h => h) (Or.inl ⟨by rfl, ?_⟩) ?_ ?_
             rotate_left
             ·intro w'
              go_simp
              with_reducible rfl
             rotate_left
             ·simp only [Act.put, sA, sZ, sS, i64_w, i32_w]
              rfl
             refine take_ (i := 1) (N := some 38) (v := ?_) (a' := ?_) (bm 20 343) rfl rfl (take_ofW HT_.out HW_.out (by kernel_rfl)) (fun _ _ _ h => h) (Or.inl ⟨by rfl, ?_⟩) hHeld ?_ ?_
             rotate_left
             ·rintro w' ⟨s0, s1, s2, s3⟩
              go_simp
              with_reducible rfl
             rotate_left
             ·simp only [Act.put, sA, sZ, sS, i64_w, i32_w]
              rfl
             refine take_ (i := 3) (N := some 40) (v := ?_) (a' := ?_) (bm 20 351) rfl rfl (take_ofW HT_.out HW_.out (by kernel_rfl)) (fun _ _ _ h => h) (Or.inl ⟨by rfl, ?_⟩) hHeld ?_ ?_
             rotate_left
             ·rintro w' ⟨s0, s1, s2, s3⟩
              go_simp
              with_reducible rfl
             rotate_left
             ·simp only [Act.put, sA, sZ, sS, i64_w, i32_w]
              rfl
             refine take_ (i := 5) (N := some 42) (v := ?_) (a' := ?_) (bm 20 383) rfl rfl (take_ofW HT_.out HW_.out (by kernel_rfl)) (fun _ _ _ h => h) (Or.inl ⟨by rfl, ?_⟩) hHeld ?_ ?_
             rotate_left
             ·rintro w' ⟨s0, s1, s2, s3⟩
              go_simp
              with_reducible rfl
             rotate_left
             ·simp only [Act.put, sA, sZ, sS, i64_w, i32_w]
              rfl
             refine pure_ (i := 7) (N := some 44) (v := ?_) (a' := ?_) (bm 20 511) rfl rfl (any_of HT_.out (by kernel_rfl)) (fun _ _ _ h => h) (Or.inl ⟨by rfl, ?_⟩) ?_ ?_
             rotate_left
             ·intro w'
              go_simp
              with_reducible rfl
             rotate_left
             ·simp only [Act.put, sA, sZ, sS, i64_w, i32_w]
              rfl
             refine take_ (i := 9) (N := some 46) (v := ?_) (a' := ?_) (bm 20 1023) rfl rfl (take_ofW HT_.out HW_.out (by kernel_rfl)) (fun _ _ _ h => h) (Or.inl ⟨by rfl, ?_⟩) hHeld ?_ ?_
             rotate_left
             ·rintro w' ⟨s0, s1, s2, s3⟩
              go_simp
              with_reducible rfl
             rotate_left
             ·simp only [Act.put, sA, sZ, sS, i64_w, i32_w]
              rfl
             refine pure_ (i := 10) (N := some 47) (v := ?_) (a' := ?_) (bm 20 2047) rfl rfl (any_of HT_.out (by kernel_rfl)) (fun _ _ _ h => h) (Or.inl ⟨by rfl, ?_⟩) ?_ ?_
             rotate_left
             ·intro w'
              go_simp
              with_reducible rfl
             rotate_left
             ·simp only [Act.put, sA, sZ, sS, i64_w, i32_w]
              rfl
             refine pure_ (i := 11) (N := some 48) (v := undef) (a' := ?_) (bm 20 4095) rfl rfl (any_of HT_.out (by kernel_rfl)) (fun _ _ _ h => h) (Or.inr ⟨by rfl, rfl⟩) ?_ ?_
             rotate_left
             ·simp only [Act.put, sA, sZ, sS, i64_w, i32_w]
              rfl
             refine pure_ (i := 12) (N := some 49) (v := undef) (a' := ?_) (bm 20 8191) rfl rfl (any_of HT_.out (by kernel_rfl)) (fun _ _ _ h => h) (Or.inr ⟨by rfl, rfl⟩) ?_ ?_
             rotate_left
             ·simp only [Act.put, sA, sZ, sS, i64_w, i32_w]
              rfl
             refine pure_ (i := 13) (N := some 50) (v := undef) (a' := ?_) (bm 20 16383) rfl rfl (any_of HT_.out (by kernel_rfl)) (fun _ _ _ h => h) (Or.inr ⟨by rfl, rfl⟩) ?_ ?_
             rotate_left
             ·simp only [Act.put, sA, sZ, sS, i64_w, i32_w]
              rfl
             refine pure_ (i := 14) (N := some 51) (v := undef) (a' := ?_) (bm 20 32767) rfl rfl (any_of HT_.out (by kernel_rfl)) (fun _ _ _ h => h) (Or.inr ⟨by rfl, rfl⟩) ?_ ?_
             rotate_left
             ·simp only [Act.put, sA, sZ, sS, i64_w, i32_w]
              rfl
             refine pure_ (i := 15) (N := some 52) (v := undef) (a' := ?_) (bm 20 65535) rfl rfl (any_of HT_.out (by kernel_rfl)) (fun _ _ _ h => h) (Or.inr ⟨by rfl, rfl⟩) ?_ ?_
             rotate_left
             ·simp only [Act.put, sA, sZ, sS, i64_w, i32_w]
              rfl
             refine pure_ (i := 16) (N := some 53) (v := ?_) (a' := ?_) (bm 20 131071) rfl rfl (any_of HT_.out (by kernel_rfl)) (fun _ _ _ h => h) (Or.inl ⟨by rfl, ?_⟩) ?_ ?_
             rotate_left
             ·intro w'
              go_simp
              with_reducible rfl
             rotate_left
             ·simp only [Act.put, sA, sZ, sS, i64_w, i32_w]
              rfl
             refine pure_ (i := 17) (N := some 54) (v := ?_) (a' := ?_) (bm 20 262143) rfl rfl (any_of HT_.out (by kernel_rfl)) (fun _ _ _ h => h) (Or.inl ⟨by rfl, ?_⟩) ?_ ?_
             rotate_left
             ·intro w'
              go_simp
              with_reducible rfl
             rotate_left
             ·simp only [Act.put, sA, sZ, sS, i64_w, i32_w]
              rfl
             refine one_ (i := 18) (N := some 8) (bm 20 524287) rfl rfl (one_of HT_.out (by kernel_rfl)) (by decide) (fun K hK => ?_)
             refine box_step ?hg (N := 8) ?hd (cs := #[.int .i64 0, .int .i64 0, .int .i64 0, .int .i64 0, .bool false, .string (⟨#[]⟩ : ByteArray), .slice none 0 0]) (t := 28) ?hr ?_; (case hd => rfl); (case hg => rfl); (case hr => first | (go_simp; done) | (go_simp; rfl))
             intro gb112 hg w142 hbox hb
             have n0_ := bX BK106 hb
             have n1_ := bX BK107 hb
             have n2_ := bX BK108 hb
             have n3_ := bS HB hb
             have n4_ := Aside0.mk (hbox)
             have n5_ := Aside0.mk ((by rw [hg]; exact (below_size (by repeat (first | (with_reducible first | exact HB.out | apply below_alloc | apply pw_below_drewN | apply below_drew1 | refine below_set ?_ GE106.out | refine below_set ?_ GE107.out | refine below_set ?_ GE108.out) | exact HB.out))) : w.heap.size ≤ gb112))
             have n6_ := Aside0.mk ((by rw [hg]; exact (below_size (by repeat (first | (with_reducible first | exact HB.out | apply below_alloc | apply pw_below_drewN | apply below_drew1 | refine below_set ?_ GE106.out | refine below_set ?_ GE107.out | refine below_set ?_ GE108.out) | exact HB.out))) : w.heap.size ≤ gb112))
             have n7_ := Aside0.mk ((by rw [hg]; exact Nat.ne_of_lt (bLt BK106) : gb106 ≠ gb112))
             have n8_ := Aside0.mk ((by rw [hg]; exact Nat.ne_of_gt (bLt BK106) : gb112 ≠ gb106))
             have n9_ := Aside0.mk ((by rw [hg]; exact Nat.ne_of_lt (bLt BK107) : gb107 ≠ gb112))
             have n10_ := Aside0.mk ((by rw [hg]; exact Nat.ne_of_gt (bLt BK107) : gb112 ≠ gb107))
             have n11_ := Aside0.mk ((by rw [hg]; exact Nat.ne_of_lt (bLt BK108) : gb108 ≠ gb112))
             have n12_ := Aside0.mk ((by rw [hg]; exact Nat.ne_of_gt (bLt BK108) : gb112 ≠ gb108))
             clear BK106
             clear BK107
             clear BK108
             clear HB
             have BK106 := n0_
             have BK107 := n1_
             have BK108 := n2_
             have HB := n3_
             have BK112 := n4_
             have GW112 := n5_
             have GE112 := n6_
             have NB106_112 := n7_
             have NB112_106 := n8_
             have NB107_112 := n9_
             have NB112_107 := n10_
             have NB108_112 := n11_
             have NB112_108 := n12_
             clear n0_ n1_ n2_ n3_ n4_ n5_ n6_ n7_ n8_ n9_ n10_ n11_ n12_
             clear hb hbox hg
             refine hK.out _ _ (cz4 BK106) (fun hHeld => ?_)
             clear hK K
             refine norm_ (a' := ?_) ?_ ?_
             rotate_left
             ·show Act.put _ (some 8) _ = _
              simp only [Act.put, sA, sZ, sS, i64_w, i32_w]
              rfl
             refine one_ (i := 19) (N := none) (bm 20 1048575) rfl rfl (one_of HT_.out (by kernel_rfl)) (by decide) (fun K hK => ?_)
             have hs143 : w142.cell? ⟨gb112, 0, none⟩ = some (.int .i64 0) := (blk_cell BK112.out 0).trans rfl
             have hfs143 := blk_frozen BK112.out 0
             have hns143_0 := NB106_112.out
             have hns143_1 := NB107_112.out
             have hns143_2 := NB108_112.out
             have hms143_0 := NB112_106.out
             have hms143_1 := NB112_107.out
             have hms143_2 := NB112_108.out
             have hs144 : w142.cell? ⟨gb112, 1, none⟩ = some (.int .i64 0) := (blk_cell BK112.out 1).trans rfl
             have hfs144 := blk_frozen BK112.out 1
             have hns144_0 := NB106_112.out
             have hns144_1 := NB107_112.out
             have hns144_2 := NB108_112.out
             have hms144_0 := NB112_106.out
             have hms144_1 := NB112_107.out
             have hms144_2 := NB112_108.out
             have hs145 : w142.cell? ⟨gb112, 2, none⟩ = some (.int .i64 0) := (blk_cell BK112.out 2).trans rfl
             have hfs145 := blk_frozen BK112.out 2
             have hns145_0 := NB106_112.out
             have hns145_1 := NB107_112.out
             have hns145_2 := NB108_112.out
             have hms145_0 := NB112_106.out
             have hms145_1 := NB112_107.out
             have hms145_2 := NB112_108.out
             have hs146 : w142.cell? ⟨gb112, 3, none⟩ = some (.int .i64 0) := (blk_cell BK112.out 3).trans rfl
             have hfs146 := blk_frozen BK112.out 3
             have hns146_0 := NB106_112.out
             have hns146_1 := NB107_112.out
             have hns146_2 := NB108_112.out
             have hms146_0 := NB112_106.out
             have hms146_1 := NB112_107.out
             have hms146_2 := NB112_108.out
             have hs147 : w142.cell? ⟨gb112, 4, none⟩ = some (.bool false) := (blk_cell BK112.out 4).trans rfl
             have hfs147 := blk_frozen BK112.out 4
             have hns147_0 := NB106_112.out
             have hns147_1 := NB107_112.out
             have hns147_2 := NB108_112.out
             have hms147_0 := NB112_106.out
             have hms147_1 := NB112_107.out
             have hms147_2 := NB112_108.out
             have hs148 : w142.cell? ⟨gb112, 5, none⟩ = some (.string (⟨#[]⟩ : ByteArray)) := (blk_cell BK112.out 5).trans rfl
             have hfs148 := blk_frozen BK112.out 5
             have hns148_0 := NB106_112.out
             have hns148_1 := NB107_112.out
             have hns148_2 := NB108_112.out
             have hms148_0 := NB112_106.out
             have hms148_1 := NB112_107.out
             have hms148_2 := NB112_108.out
             have hs149 : w142.cell? ⟨gb112, 6, none⟩ = some (.slice none 0 0) := (blk_cell BK112.out 6).trans rfl
             have hfs149 := blk_frozen BK112.out 6
             have hns149_0 := NB106_112.out
             have hns149_1 := NB107_112.out
             have hns149_2 := NB108_112.out
             have hms149_0 := NB112_106.out
             have hms149_1 := NB112_107.out
             have hms149_2 := NB112_108.out
             refine skip_ (w1 := ?_) (by rfl) rfl ?_ ?_
             rotate_left
             ·go_simp
              rfl
             refine hK.out _ _ ⟨((cell_far (p := ⟨gb112, _, none⟩) NB106_112.out _).trans (((cell_far (p := ⟨gb112, _, none⟩) NB106_112.out _).trans (((cell_far (p := ⟨gb112, _, none⟩) NB106_112.out _).trans (((cell_far (p := ⟨gb112, _, none⟩) NB106_112.out _).trans (((cell_far (p := ⟨gb112, _, none⟩) NB106_112.out _).trans (((cell_far (p := ⟨gb112, _, none⟩) NB106_112.out _).trans (((cell_far (p := ⟨gb112, _, none⟩) NB106_112.out _).trans (hHeld.1)))))))))))))), ((cell_far (p := ⟨gb112, _, none⟩) NB106_112.out _).trans (((cell_far (p := ⟨gb112, _, none⟩) NB106_112.out _).trans (((cell_far (p := ⟨gb112, _, none⟩) NB106_112.out _).trans (((cell_far (p := ⟨gb112, _, none⟩) NB106_112.out _).trans (((cell_far (p := ⟨gb112, _, none⟩) NB106_112.out _).trans (((cell_far (p := ⟨gb112, _, none⟩) NB106_112.out _).trans (((cell_far (p := ⟨gb112, _, none⟩) NB106_112.out _).trans (hHeld.2.1)))))))))))))), ((cell_far (p := ⟨gb112, _, none⟩) NB106_112.out _).trans (((cell_far (p := ⟨gb112, _, none⟩) NB106_112.out _).trans (((cell_far (p := ⟨gb112, _, none⟩) NB106_112.out _).trans (((cell_far (p := ⟨gb112, _, none⟩) NB106_112.out _).trans (((cell_far (p := ⟨gb112, _, none⟩) NB106_112.out _).trans (((cell_far (p := ⟨gb112, _, none⟩) NB106_112.out _).trans (((cell_far (p := ⟨gb112, _, none⟩) NB106_112.out _).trans (hHeld.2.2.1)))))))))))))), ((cell_far (p := ⟨gb112, _, none⟩) NB106_112.out _).trans (((cell_far (p := ⟨gb112, _, none⟩) NB106_112.out _).trans (((cell_far (p := ⟨gb112, _, none⟩) NB106_112.out _).trans (((cell_far (p := ⟨gb112, _, none⟩) NB106_112.out _).trans (((cell_far (p := ⟨gb112, _, none⟩) NB106_112.out _).trans (((cell_far (p := ⟨gb112, _, none⟩) NB106_112.out _).trans (((cell_far (p := ⟨gb112, _, none⟩) NB106_112.out _).trans (hHeld.2.2.2))))))))))))))⟩ (fun hHeld => ?_)
             clear hK K
             refine done_ (done_of HT_.out (by kernel_rfl)) ?_
             have hnb150 := NB112_106.out
             have hnc150 := NB106_112.out
             have hnb151 := NB112_107.out
             have hnc151 := NB107_112.out
             have hnb152 := NB112_108.out
             have hnc152 := NB108_112.out
             obtain ⟨hcz153_0, hcz153_1, hcz153_2, hcz153_3, hcz153_4, hcz153_5, hcz153_6⟩ := cz7 BK112
             obtain ⟨hfz153_0, hfz153_1, hfz153_2, hfz153_3, hfz153_4, hfz153_5, hfz153_6⟩ := fz7 BK112
             have hnb154 := NB106_107.out
             have hnc154 := NB107_106.out
             have hnb155 := NB106_108.out
             have hnc155 := NB108_106.out
             obtain ⟨hcz156_0, hcz156_1, hcz156_2, hcz156_3⟩ := cz4 BK106
             obtain ⟨hfz156_0, hfz156_1, hfz156_2, hfz156_3⟩ := fz4 BK106
             try go_wp2
             have n0_ : Aside0 (((((((((w142.setCell ⟨gb112, 0, none⟩ (.int .i64 8)).setCell ⟨gb112, 1, none⟩ (.int .i64 0)).setCell ⟨gb112, 2, none⟩ (.int .i64 a0_1)).setCell ⟨gb112, 3, none⟩ (.int .i64 0)).setCell ⟨gb112, 4, none⟩ (.bool false)).setCell ⟨gb112, 5, none⟩ (.string (a0_2.extract (a0_1 : Int).toNat (x7_31 : Int).toNat))).setCell ⟨gb112, 6, none⟩ (.slice none 0 0)).setCell ⟨gb106, 1, none⟩ (.int .i64 x7_31)).heap[gb106]? = some (.cells #[.int .i64 a0_0, .int .i64 x7_31, .string a0_2, .bool false] 25 (0, 0))) := ⟨by (with_reducible repeat (first | refine bN ?_ _ | refine bD ?_ | refine bA ?_ _)); refine blk_put (cs := #[.int .i64 a0_0, .int .i64 a0_1, .string a0_2, .bool false]) ?_ 1 _ rfl; (with_reducible repeat (first | refine bN ?_ _ | refine bD ?_ | refine bA ?_ _)); refine blk_far ?_ NB106_112.out _; (with_reducible repeat (first | refine bN ?_ _ | refine bD ?_ | refine bA ?_ _)); refine blk_far ?_ NB106_112.out _; (with_reducible repeat (first | refine bN ?_ _ | refine bD ?_ | refine bA ?_ _)); refine blk_far ?_ NB106_112.out _; (with_reducible repeat (first | refine bN ?_ _ | refine bD ?_ | refine bA ?_ _)); refine blk_far ?_ NB106_112.out _; (with_reducible repeat (first | refine bN ?_ _ | refine bD ?_ | refine bA ?_ _)); refine blk_far ?_ NB106_112.out _; (with_reducible repeat (first | refine bN ?_ _ | refine bD ?_ | refine bA ?_ _)); refine blk_far ?_ NB106_112.out _; (with_reducible repeat (first | refine bN ?_ _ | refine bD ?_ | refine bA ?_ _)); refine blk_far ?_ NB106_112.out _; (with_reducible repeat (first | refine bN ?_ _ | refine bD ?_ | refine bA ?_ _)); exact BK106.out⟩
             have n1_ : Aside0 (((((((((w142.setCell ⟨gb112, 0, none⟩ (.int .i64 8)).setCell ⟨gb112, 1, none⟩ (.int .i64 0)).setCell ⟨gb112, 2, none⟩ (.int .i64 a0_1)).setCell ⟨gb112, 3, none⟩ (.int .i64 0)).setCell ⟨gb112, 4, none⟩ (.bool false)).setCell ⟨gb112, 5, none⟩ (.string (a0_2.extract (a0_1 : Int).toNat (x7_31 : Int).toNat))).setCell ⟨gb112, 6, none⟩ (.slice none 0 0)).setCell ⟨gb106, 1, none⟩ (.int .i64 x7_31)).heap[gb107]? = some (.cells #[.int .i64 0, .int .i64 0, .string (⟨#[]⟩ : ByteArray), .bool false] 25 (0, 0))) := ⟨by (with_reducible repeat (first | refine bN ?_ _ | refine bD ?_ | refine bA ?_ _)); refine blk_far ?_ NB107_106.out _; (with_reducible repeat (first | refine bN ?_ _ | refine bD ?_ | refine bA ?_ _)); refine blk_far ?_ NB107_112.out _; (with_reducible repeat (first | refine bN ?_ _ | refine bD ?_ | refine bA ?_ _)); refine blk_far ?_ NB107_112.out _; (with_reducible repeat (first | refine bN ?_ _ | refine bD ?_ | refine bA ?_ _)); refine blk_far ?_ NB107_112.out _; (with_reducible repeat (first | refine bN ?_ _ | refine bD ?_ | refine bA ?_ _)); refine blk_far ?_ NB107_112.out _; (with_reducible repeat (first | refine bN ?_ _ | refine bD ?_ | refine bA ?_ _)); refine blk_far ?_ NB107_112.out _; (with_reducible repeat (first | refine bN ?_ _ | refine bD ?_ | refine bA ?_ _)); refine blk_far ?_ NB107_112.out _; (with_reducible repeat (first | refine bN ?_ _ | refine bD ?_ | refine bA ?_ _)); refine blk_far ?_ NB107_112.out _; (with_reducible repeat (first | refine bN ?_ _ | refine bD ?_ | refine bA ?_ _)); exact BK107.out⟩
             have n2_ : Aside0 (((((((((w142.setCell ⟨gb112, 0, none⟩ (.int .i64 8)).setCell ⟨gb112, 1, none⟩ (.int .i64 0)).setCell ⟨gb112, 2, none⟩ (.int .i64 a0_1)).setCell ⟨gb112, 3, none⟩ (.int .i64 0)).setCell ⟨gb112, 4, none⟩ (.bool false)).setCell ⟨gb112, 5, none⟩ (.string (a0_2.extract (a0_1 : Int).toNat (x7_31 : Int).toNat))).setCell ⟨gb112, 6, none⟩ (.slice none 0 0)).setCell ⟨gb106, 1, none⟩ (.int .i64 x7_31)).heap[gb108]? = some (.cells #[.int .i64 0, .int .i64 0, .int .i64 0, .int .i64 0, .bool false, .string (⟨#[]⟩ : ByteArray), .slice none 0 0] 28 (0, 0))) := ⟨by (with_reducible repeat (first | refine bN ?_ _ | refine bD ?_ | refine bA ?_ _)); refine blk_far ?_ NB108_106.out _; (with_reducible repeat (first | refine bN ?_ _ | refine bD ?_ | refine bA ?_ _)); refine blk_far ?_ NB108_112.out _; (with_reducible repeat (first | refine bN ?_ _ | refine bD ?_ | refine bA ?_ _)); refine blk_far ?_ NB108_112.out _; (with_reducible repeat (first | refine bN ?_ _ | refine bD ?_ | refine bA ?_ _)); refine blk_far ?_ NB108_112.out _; (with_reducible repeat (first | refine bN ?_ _ | refine bD ?_ | refine bA ?_ _)); refine blk_far ?_ NB108_112.out _; (with_reducible repeat (first | refine bN ?_ _ | refine bD ?_ | refine bA ?_ _)); refine blk_far ?_ NB108_112.out _; (with_reducible repeat (first | refine bN ?_ _ | refine bD ?_ | refine bA ?_ _)); refine blk_far ?_ NB108_112.out _; (with_reducible repeat (first | refine bN ?_ _ | refine bD ?_ | refine bA ?_ _)); refine blk_far ?_ NB108_112.out _; (with_reducible repeat (first | refine bN ?_ _ | refine bD ?_ | refine bA ?_ _)); exact BK108.out⟩
             have n3_ : Aside0 (((((((((w142.setCell ⟨gb112, 0, none⟩ (.int .i64 8)).setCell ⟨gb112, 1, none⟩ (.int .i64 0)).setCell ⟨gb112, 2, none⟩ (.int .i64 a0_1)).setCell ⟨gb112, 3, none⟩ (.int .i64 0)).setCell ⟨gb112, 4, none⟩ (.bool false)).setCell ⟨gb112, 5, none⟩ (.string (a0_2.extract (a0_1 : Int).toNat (x7_31 : Int).toNat))).setCell ⟨gb112, 6, none⟩ (.slice none 0 0)).setCell ⟨gb106, 1, none⟩ (.int .i64 x7_31)).heap[gb112]? = some (.cells #[.int .i64 8, .int .i64 0, .int .i64 a0_1, .int .i64 0, .bool false, .string (a0_2.extract (a0_1 : Int).toNat (x7_31 : Int).toNat), .slice none 0 0] 28 (0, 0))) := ⟨by (with_reducible repeat (first | refine bN ?_ _ | refine bD ?_ | refine bA ?_ _)); refine blk_far ?_ NB112_106.out _; (with_reducible repeat (first | refine bN ?_ _ | refine bD ?_ | refine bA ?_ _)); refine blk_put (cs := #[.int .i64 8, .int .i64 0, .int .i64 a0_1, .int .i64 0, .bool false, .string (a0_2.extract (a0_1 : Int).toNat (x7_31 : Int).toNat), .slice none 0 0]) ?_ 6 _ rfl; (with_reducible repeat (first | refine bN ?_ _ | refine bD ?_ | refine bA ?_ _)); refine blk_put (cs := #[.int .i64 8, .int .i64 0, .int .i64 a0_1, .int .i64 0, .bool false, .string (⟨#[]⟩ : ByteArray), .slice none 0 0]) ?_ 5 _ rfl; (with_reducible repeat (first | refine bN ?_ _ | refine bD ?_ | refine bA ?_ _)); refine blk_put (cs := #[.int .i64 8, .int .i64 0, .int .i64 a0_1, .int .i64 0, .bool false, .string (⟨#[]⟩ : ByteArray), .slice none 0 0]) ?_ 4 _ rfl; (with_reducible repeat (first | refine bN ?_ _ | refine bD ?_ | refine bA ?_ _)); refine blk_put (cs := #[.int .i64 8, .int .i64 0, .int .i64 a0_1, .int .i64 0, .bool false, .string (⟨#[]⟩ : ByteArray), .slice none 0 0]) ?_ 3 _ rfl; (with_reducible repeat (first | refine bN ?_ _ | refine bD ?_ | refine bA ?_ _)); refine blk_put (cs := #[.int .i64 8, .int .i64 0, .int .i64 0, .int .i64 0, .bool false, .string (⟨#[]⟩ : ByteArray), .slice none 0 0]) ?_ 2 _ rfl; (with_reducible repeat (first | refine bN ?_ _ | refine bD ?_ | refine bA ?_ _)); refine blk_put (cs := #[.int .i64 8, .int .i64 0, .int .i64 0, .int .i64 0, .bool false, .string (⟨#[]⟩ : ByteArray), .slice none 0 0]) ?_ 1 _ rfl; (with_reducible repeat (first | refine bN ?_ _ | refine bD ?_ | refine bA ?_ _)); refine blk_put (cs := #[.int .i64 0, .int .i64 0, .int .i64 0, .int .i64 0, .bool false, .string (⟨#[]⟩ : ByteArray), .slice none 0 0]) ?_ 0 _ rfl; (with_reducible repeat (first | refine bN ?_ _ | refine bD ?_ | refine bA ?_ _)); exact BK112.out⟩
             have n4_ : Aside0 (Below w.heap.size w ((((((((w142.setCell ⟨gb112, 0, none⟩ (.int .i64 8)).setCell ⟨gb112, 1, none⟩ (.int .i64 0)).setCell ⟨gb112, 2, none⟩ (.int .i64 a0_1)).setCell ⟨gb112, 3, none⟩ (.int .i64 0)).setCell ⟨gb112, 4, none⟩ (.bool false)).setCell ⟨gb112, 5, none⟩ (.string (a0_2.extract (a0_1 : Int).toNat (x7_31 : Int).toNat))).setCell ⟨gb112, 6, none⟩ (.slice none 0 0)).setCell ⟨gb106, 1, none⟩ (.int .i64 x7_31))) := ⟨by repeat (first | (with_reducible first | exact HB.out | apply below_alloc | apply pw_below_drewN | apply below_drew1 | refine below_set ?_ GE106.out | refine below_set ?_ GE107.out | refine below_set ?_ GE108.out | refine below_set ?_ GE112.out) | exact HB.out)⟩
             (try clear BK106)
             (try clear BK107)
             (try clear BK108)
             (try clear BK112)
             (try clear HB)
             generalize ((((((((w142.setCell ⟨gb112, 0, none⟩ (.int .i64 8)).setCell ⟨gb112, 1, none⟩ (.int .i64 0)).setCell ⟨gb112, 2, none⟩ (.int .i64 a0_1)).setCell ⟨gb112, 3, none⟩ (.int .i64 0)).setCell ⟨gb112, 4, none⟩ (.bool false)).setCell ⟨gb112, 5, none⟩ (.string (a0_2.extract (a0_1 : Int).toNat (x7_31 : Int).toNat))).setCell ⟨gb112, 6, none⟩ (.slice none 0 0)).setCell ⟨gb106, 1, none⟩ (.int .i64 x7_31)) = w157 at n0_ n1_ n2_ n3_ n4_ ⊢
             have BK106 := n0_
             have BK107 := n1_
             have BK108 := n2_
             have BK112 := n3_
             have HB := n4_
             clear n0_ n1_ n2_ n3_ n4_
             have n0_ := Aside0.mk (blk_drew BK106.out)
             have n1_ := Aside0.mk (blk_drew BK107.out)
             have n2_ := Aside0.mk (blk_drew BK108.out)
             have n3_ := Aside0.mk (blk_drew BK112.out)
             have n4_ := Aside0.mk (below_drew1 HB.out)
             clear BK106
             clear BK107
             clear BK108
             clear BK112
             clear HB
             have BK106 := n0_
             have BK107 := n1_
             have BK108 := n2_
             have BK112 := n3_
             have HB := n4_
             clear n0_ n1_ n2_ n3_ n4_
             refine start_ (n := 5) (S := fun w' => w'.cell? ⟨gb106, 0, none⟩ = some (.int .i64 a0_0) ∧ w'.cell? ⟨gb106, 1, none⟩ = some (.int .i64 x7_31) ∧ w'.cell? ⟨gb106, 2, none⟩ = some (.string a0_2) ∧ w'.cell? ⟨gb106, 3, none⟩ = some (.bool false) ∧ w'.cell? ⟨gb112, 0, none⟩ = some (.int .i64 8) ∧ w'.cell? ⟨gb112, 1, none⟩ = some (.int .i64 0) ∧ w'.cell? ⟨gb112, 2, none⟩ = some (.int .i64 a0_1) ∧ w'.cell? ⟨gb112, 3, none⟩ = some (.int .i64 0) ∧ w'.cell? ⟨gb112, 4, none⟩ = some (.bool false) ∧ w'.cell? ⟨gb112, 5, none⟩ = some (.string (a0_2.extract (a0_1 : Int).toNat (x7_31 : Int).toNat)) ∧ w'.cell? ⟨gb112, 6, none⟩ = some (.slice none 0 0)) (ds := []) #[false, false, false, false, false] (by kernel_rfl) rfl rfl (cx4 BK106 (cz7 BK112)) (fun hHeld => ?_)
             generalize w157.drew = w158 at BK106 BK107 BK108 BK112 HB hHeld ⊢
             refine take_ (i := 0) (N := some 67) (v := ?_) (a' := ?_) #[true, false, false, false, false] rfl rfl (by kernel_rfl) (fun _ _ _ h => h) (Or.inl ⟨by rfl, ?_⟩) hHeld ?_ ?_
             rotate_left
             ·rintro w' ⟨s0, s1, s2, s3, s4, s5, s6, s7, s8, s9, s10⟩
              go_simp
              with_reducible rfl
             rotate_left
             ·simp only [Act.put, sA, sZ, sS, i64_w, i32_w]
              rfl
             refine take_ (i := 1) (N := some 68) (v := ?_) (a' := ?_) #[true, true, false, false, false] rfl rfl (by kernel_rfl) (fun _ _ _ h => h) (Or.inl ⟨by rfl, ?_⟩) hHeld ?_ ?_
             rotate_left
             ·rintro w' ⟨s0, s1, s2, s3, s4, s5, s6, s7, s8, s9, s10⟩
              go_simp
              with_reducible rfl
             rotate_left
             ·simp only [Act.put, sA, sZ, sS, i64_w, i32_w]
              rfl
             refine one_ (i := 2) (N := none) #[true, true, true, false, false] rfl rfl (by kernel_rfl) (by decide) (fun K hK => ?_)
             have hs159 : w158.cell? ⟨gb107, 0, none⟩ = some (.int .i64 0) := (blk_cell BK107.out 0).trans rfl
             have hfs159 := blk_frozen BK107.out 0
             have hns159_0 := NB106_107.out
             have hns159_2 := NB108_107.out
             have hns159_3 := NB112_107.out
             have hms159_0 := NB107_106.out
             have hms159_2 := NB107_108.out
             have hms159_3 := NB107_112.out
             have hs160 : w158.cell? ⟨gb107, 1, none⟩ = some (.int .i64 0) := (blk_cell BK107.out 1).trans rfl
             have hfs160 := blk_frozen BK107.out 1
             have hns160_0 := NB106_107.out
             have hns160_2 := NB108_107.out
             have hns160_3 := NB112_107.out
             have hms160_0 := NB107_106.out
             have hms160_2 := NB107_108.out
             have hms160_3 := NB107_112.out
             have hs161 : w158.cell? ⟨gb107, 2, none⟩ = some (.string (⟨#[]⟩ : ByteArray)) := (blk_cell BK107.out 2).trans rfl
             have hfs161 := blk_frozen BK107.out 2
             have hns161_0 := NB106_107.out
             have hns161_2 := NB108_107.out
             have hns161_3 := NB112_107.out
             have hms161_0 := NB107_106.out
             have hms161_2 := NB107_108.out
             have hms161_3 := NB107_112.out
             have hs162 : w158.cell? ⟨gb107, 3, none⟩ = some (.bool false) := (blk_cell BK107.out 3).trans rfl
             have hfs162 := blk_frozen BK107.out 3
             have hns162_0 := NB106_107.out
             have hns162_2 := NB108_107.out
             have hns162_3 := NB112_107.out
             have hms162_0 := NB107_106.out
             have hms162_2 := NB107_108.out
             have hms162_3 := NB107_112.out
             refine skip_ (w1 := ?_) (by rfl) rfl ?_ ?_
             rotate_left
             ·go_simp
              rfl
             refine hK.out _ _ ⟨((cell_far (p := ⟨gb107, _, none⟩) NB106_107.out _).trans (((cell_far (p := ⟨gb107, _, none⟩) NB106_107.out _).trans (((cell_far (p := ⟨gb107, _, none⟩) NB106_107.out _).trans (((cell_far (p := ⟨gb107, _, none⟩) NB106_107.out _).trans (hHeld.1)))))))), ((cell_far (p := ⟨gb107, _, none⟩) NB106_107.out _).trans (((cell_far (p := ⟨gb107, _, none⟩) NB106_107.out _).trans (((cell_far (p := ⟨gb107, _, none⟩) NB106_107.out _).trans (((cell_far (p := ⟨gb107, _, none⟩) NB106_107.out _).trans (hHeld.2.1)))))))), ((cell_far (p := ⟨gb107, _, none⟩) NB106_107.out _).trans (((cell_far (p := ⟨gb107, _, none⟩) NB106_107.out _).trans (((cell_far (p := ⟨gb107, _, none⟩) NB106_107.out _).trans (((cell_far (p := ⟨gb107, _, none⟩) NB106_107.out _).trans (hHeld.2.2.1)))))))), ((cell_far (p := ⟨gb107, _, none⟩) NB106_107.out _).trans (((cell_far (p := ⟨gb107, _, none⟩) NB106_107.out _).trans (((cell_far (p := ⟨gb107, _, none⟩) NB106_107.out _).trans (((cell_far (p := ⟨gb107, _, none⟩) NB106_107.out _).trans (hHeld.2.2.2.1)))))))), ((cell_far (p := ⟨gb107, _, none⟩) NB112_107.out _).trans (((cell_far (p := ⟨gb107, _, none⟩) NB112_107.out _).trans (((cell_far (p := ⟨gb107, _, none⟩) NB112_107.out _).trans (((cell_far (p := ⟨gb107, _, none⟩) NB112_107.out _).trans (hHeld.2.2.2.2.1)))))))), ((cell_far (p := ⟨gb107, _, none⟩) NB112_107.out _).trans (((cell_far (p := ⟨gb107, _, none⟩) NB112_107.out _).trans (((cell_far (p := ⟨gb107, _, none⟩) NB112_107.out _).trans (((cell_far (p := ⟨gb107, _, none⟩) NB112_107.out _).trans (hHeld.2.2.2.2.2.1)))))))), ((cell_far (p := ⟨gb107, _, none⟩) NB112_107.out _).trans (((cell_far (p := ⟨gb107, _, none⟩) NB112_107.out _).trans (((cell_far (p := ⟨gb107, _, none⟩) NB112_107.out _).trans (((cell_far (p := ⟨gb107, _, none⟩) NB112_107.out _).trans (hHeld.2.2.2.2.2.2.1)))))))), ((cell_far (p := ⟨gb107, _, none⟩) NB112_107.out _).trans (((cell_far (p := ⟨gb107, _, none⟩) NB112_107.out _).trans (((cell_far (p := ⟨gb107, _, none⟩) NB112_107.out _).trans (((cell_far (p := ⟨gb107, _, none⟩) NB112_107.out _).trans (hHeld.2.2.2.2.2.2.2.1)))))))), ((cell_far (p := ⟨gb107, _, none⟩) NB112_107.out _).trans (((cell_far (p := ⟨gb107, _, none⟩) NB112_107.out _).trans (((cell_far (p := ⟨gb107, _, none⟩) NB112_107.out _).trans (((cell_far (p := ⟨gb107, _, none⟩) NB112_107.out _).trans (hHeld.2.2.2.2.2.2.2.2.1)))))))), ((cell_far (p := ⟨gb107, _, none⟩) NB112_107.out _).trans (((cell_far (p := ⟨gb107, _, none⟩) NB112_107.out _).trans (((cell_far (p := ⟨gb107, _, none⟩) NB112_107.out _).trans (((cell_far (p := ⟨gb107, _, none⟩) NB112_107.out _).trans (hHeld.2.2.2.2.2.2.2.2.2.1)))))))), ((cell_far (p := ⟨gb107, _, none⟩) NB112_107.out _).trans (((cell_far (p := ⟨gb107, _, none⟩) NB112_107.out _).trans (((cell_far (p := ⟨gb107, _, none⟩) NB112_107.out _).trans (((cell_far (p := ⟨gb107, _, none⟩) NB112_107.out _).trans (hHeld.2.2.2.2.2.2.2.2.2.2))))))))⟩ (fun hHeld => ?_)
             clear hK K
             refine one_ (i := 3) (N := none) #[true, true, true, true, false] rfl rfl (by kernel_rfl) (by decide) (fun K hK => ?_)
             have hs163 : w158.cell? ⟨gb108, 0, none⟩ = some (.int .i64 0) := (blk_cell BK108.out 0).trans rfl
             have hfs163 := blk_frozen BK108.out 0
             have hns163_0 := NB106_108.out
             have hns163_1 := NB107_108.out
             have hns163_3 := NB112_108.out
             have hms163_0 := NB108_106.out
             have hms163_1 := NB108_107.out
             have hms163_3 := NB108_112.out
             have hs164 : w158.cell? ⟨gb108, 1, none⟩ = some (.int .i64 0) := (blk_cell BK108.out 1).trans rfl
             have hfs164 := blk_frozen BK108.out 1
             have hns164_0 := NB106_108.out
             have hns164_1 := NB107_108.out
             have hns164_3 := NB112_108.out
             have hms164_0 := NB108_106.out
             have hms164_1 := NB108_107.out
             have hms164_3 := NB108_112.out
             have hs165 : w158.cell? ⟨gb108, 2, none⟩ = some (.int .i64 0) := (blk_cell BK108.out 2).trans rfl
             have hfs165 := blk_frozen BK108.out 2
             have hns165_0 := NB106_108.out
             have hns165_1 := NB107_108.out
             have hns165_3 := NB112_108.out
             have hms165_0 := NB108_106.out
             have hms165_1 := NB108_107.out
             have hms165_3 := NB108_112.out
             have hs166 : w158.cell? ⟨gb108, 3, none⟩ = some (.int .i64 0) := (blk_cell BK108.out 3).trans rfl
             have hfs166 := blk_frozen BK108.out 3
             have hns166_0 := NB106_108.out
             have hns166_1 := NB107_108.out
             have hns166_3 := NB112_108.out
             have hms166_0 := NB108_106.out
             have hms166_1 := NB108_107.out
             have hms166_3 := NB108_112.out
             have hs167 : w158.cell? ⟨gb108, 4, none⟩ = some (.bool false) := (blk_cell BK108.out 4).trans rfl
             have hfs167 := blk_frozen BK108.out 4
             have hns167_0 := NB106_108.out
             have hns167_1 := NB107_108.out
             have hns167_3 := NB112_108.out
             have hms167_0 := NB108_106.out
             have hms167_1 := NB108_107.out
             have hms167_3 := NB108_112.out
             have hs168 : w158.cell? ⟨gb108, 5, none⟩ = some (.string (⟨#[]⟩ : ByteArray)) := (blk_cell BK108.out 5).trans rfl
             have hfs168 := blk_frozen BK108.out 5
             have hns168_0 := NB106_108.out
             have hns168_1 := NB107_108.out
             have hns168_3 := NB112_108.out
             have hms168_0 := NB108_106.out
             have hms168_1 := NB108_107.out
             have hms168_3 := NB108_112.out
             have hs169 : w158.cell? ⟨gb108, 6, none⟩ = some (.slice none 0 0) := (blk_cell BK108.out 6).trans rfl
             have hfs169 := blk_frozen BK108.out 6
             have hns169_0 := NB106_108.out
             have hns169_1 := NB107_108.out
             have hns169_3 := NB112_108.out
             have hms169_0 := NB108_106.out
             have hms169_1 := NB108_107.out
             have hms169_3 := NB108_112.out
             refine skip_ (w1 := ?_) (by rfl) rfl ?_ ?_
             rotate_left
             ·go_simp
              rfl
             refine hK.out _ _ ⟨((cell_far (p := ⟨gb108, _, none⟩) NB106_108.out _).trans (((cell_far (p := ⟨gb108, _, none⟩) NB106_108.out _).trans (((cell_far (p := ⟨gb108, _, none⟩) NB106_108.out _).trans (((cell_far (p := ⟨gb108, _, none⟩) NB106_108.out _).trans (((cell_far (p := ⟨gb108, _, none⟩) NB106_108.out _).trans (((cell_far (p := ⟨gb108, _, none⟩) NB106_108.out _).trans (((cell_far (p := ⟨gb108, _, none⟩) NB106_108.out _).trans (hHeld.1)))))))))))))), ((cell_far (p := ⟨gb108, _, none⟩) NB106_108.out _).trans (((cell_far (p := ⟨gb108, _, none⟩) NB106_108.out _).trans (((cell_far (p := ⟨gb108, _, none⟩) NB106_108.out _).trans (((cell_far (p := ⟨gb108, _, none⟩) NB106_108.out _).trans (((cell_far (p := ⟨gb108, _, none⟩) NB106_108.out _).trans (((cell_far (p := ⟨gb108, _, none⟩) NB106_108.out _).trans (((cell_far (p := ⟨gb108, _, none⟩) NB106_108.out _).trans (hHeld.2.1)))))))))))))), ((cell_far (p := ⟨gb108, _, none⟩) NB106_108.out _).trans (((cell_far (p := ⟨gb108, _, none⟩) NB106_108.out _).trans (((cell_far (p := ⟨gb108, _, none⟩) NB106_108.out _).trans (((cell_far (p := ⟨gb108, _, none⟩) NB106_108.out _).trans (((cell_far (p := ⟨gb108, _, none⟩) NB106_108.out _).trans (((cell_far (p := ⟨gb108, _, none⟩) NB106_108.out _).trans (((cell_far (p := ⟨gb108, _, none⟩) NB106_108.out _).trans (hHeld.2.2.1)))))))))))))), ((cell_far (p := ⟨gb108, _, none⟩) NB106_108.out _).trans (((cell_far (p := ⟨gb108, _, none⟩) NB106_108.out _).trans (((cell_far (p := ⟨gb108, _, none⟩) NB106_108.out _).trans (((cell_far (p := ⟨gb108, _, none⟩) NB106_108.out _).trans (((cell_far (p := ⟨gb108, _, none⟩) NB106_108.out _).trans (((cell_far (p := ⟨gb108, _, none⟩) NB106_108.out _).trans (((cell_far (p := ⟨gb108, _, none⟩) NB106_108.out _).trans (hHeld.2.2.2.1)))))))))))))), ((cell_far (p := ⟨gb108, _, none⟩) NB112_108.out _).trans (((cell_far (p := ⟨gb108, _, none⟩) NB112_108.out _).trans (((cell_far (p := ⟨gb108, _, none⟩) NB112_108.out _).trans (((cell_far (p := ⟨gb108, _, none⟩) NB112_108.out _).trans (((cell_far (p := ⟨gb108, _, none⟩) NB112_108.out _).trans (((cell_far (p := ⟨gb108, _, none⟩) NB112_108.out _).trans (((cell_far (p := ⟨gb108, _, none⟩) NB112_108.out _).trans (hHeld.2.2.2.2.1)))))))))))))), ((cell_far (p := ⟨gb108, _, none⟩) NB112_108.out _).trans (((cell_far (p := ⟨gb108, _, none⟩) NB112_108.out _).trans (((cell_far (p := ⟨gb108, _, none⟩) NB112_108.out _).trans (((cell_far (p := ⟨gb108, _, none⟩) NB112_108.out _).trans (((cell_far (p := ⟨gb108, _, none⟩) NB112_108.out _).trans (((cell_far (p := ⟨gb108, _, none⟩) NB112_108.out _).trans (((cell_far (p := ⟨gb108, _, none⟩) NB112_108.out _).trans (hHeld.2.2.2.2.2.1)))))))))))))), ((cell_far (p := ⟨gb108, _, none⟩) NB112_108.out _).trans (((cell_far (p := ⟨gb108, _, none⟩) NB112_108.out _).trans (((cell_far (p := ⟨gb108, _, none⟩) NB112_108.out _).trans (((cell_far (p := ⟨gb108, _, none⟩) NB112_108.out _).trans (((cell_far (p := ⟨gb108, _, none⟩) NB112_108.out _).trans (((cell_far (p := ⟨gb108, _, none⟩) NB112_108.out _).trans (((cell_far (p := ⟨gb108, _, none⟩) NB112_108.out _).trans (hHeld.2.2.2.2.2.2.1)))))))))))))), ((cell_far (p := ⟨gb108, _, none⟩) NB112_108.out _).trans (((cell_far (p := ⟨gb108, _, none⟩) NB112_108.out _).trans (((cell_far (p := ⟨gb108, _, none⟩) NB112_108.out _).trans (((cell_far (p := ⟨gb108, _, none⟩) NB112_108.out _).trans (((cell_far (p := ⟨gb108, _, none⟩) NB112_108.out _).trans (((cell_far (p := ⟨gb108, _, none⟩) NB112_108.out _).trans (((cell_far (p := ⟨gb108, _, none⟩) NB112_108.out _).trans (hHeld.2.2.2.2.2.2.2.1)))))))))))))), ((cell_far (p := ⟨gb108, _, none⟩) NB112_108.out _).trans (((cell_far (p := ⟨gb108, _, none⟩) NB112_108.out _).trans (((cell_far (p := ⟨gb108, _, none⟩) NB112_108.out _).trans (((cell_far (p := ⟨gb108, _, none⟩) NB112_108.out _).trans (((cell_far (p := ⟨gb108, _, none⟩) NB112_108.out _).trans (((cell_far (p := ⟨gb108, _, none⟩) NB112_108.out _).trans (((cell_far (p := ⟨gb108, _, none⟩) NB112_108.out _).trans (hHeld.2.2.2.2.2.2.2.2.1)))))))))))))), ((cell_far (p := ⟨gb108, _, none⟩) NB112_108.out _).trans (((cell_far (p := ⟨gb108, _, none⟩) NB112_108.out _).trans (((cell_far (p := ⟨gb108, _, none⟩) NB112_108.out _).trans (((cell_far (p := ⟨gb108, _, none⟩) NB112_108.out _).trans (((cell_far (p := ⟨gb108, _, none⟩) NB112_108.out _).trans (((cell_far (p := ⟨gb108, _, none⟩) NB112_108.out _).trans (((cell_far (p := ⟨gb108, _, none⟩) NB112_108.out _).trans (hHeld.2.2.2.2.2.2.2.2.2.1)))))))))))))), ((cell_far (p := ⟨gb108, _, none⟩) NB112_108.out _).trans (((cell_far (p := ⟨gb108, _, none⟩) NB112_108.out _).trans (((cell_far (p := ⟨gb108, _, none⟩) NB112_108.out _).trans (((cell_far (p := ⟨gb108, _, none⟩) NB112_108.out _).trans (((cell_far (p := ⟨gb108, _, none⟩) NB112_108.out _).trans (((cell_far (p := ⟨gb108, _, none⟩) NB112_108.out _).trans (((cell_far (p := ⟨gb108, _, none⟩) NB112_108.out _).trans (hHeld.2.2.2.2.2.2.2.2.2.2))))))))))))))⟩ (fun hHeld => ?_)
             clear hK K
             refine pure_ (i := 4) (N := some 6) (v := ?_) (a' := ?_) #[true, true, true, true, true] rfl rfl (by kernel_rfl) (fun _ _ _ h => h) (Or.inl ⟨by rfl, ?_⟩) ?_ ?_
             rotate_left
             ·intro w'
              go_simp
              with_reducible rfl
             rotate_left
             ·simp only [Act.put, sA, sZ, sS, i64_w, i32_w]
              rfl
             refine done_ (by kernel_rfl) ?_
             try go_wp2
             refine bodyPost_ret (results_list (rs := [.cell 4 25, .cell 5 28, .tmp 6]) rfl (by simp) (.cell gb107 25 #[.int .i64 a0_0, .int .i64 x7_31, .string a0_2, .bool false] (0, 0) _ rfl (by (with_reducible repeat (first | refine bN ?_ _ | refine bD ?_ | refine bA ?_ _)); refine blk_far ?_ NB107_108.out _; (with_reducible repeat (first | refine bN ?_ _ | refine bD ?_ | refine bA ?_ _)); refine blk_far ?_ NB107_108.out _; (with_reducible repeat (first | refine bN ?_ _ | refine bD ?_ | refine bA ?_ _)); refine blk_far ?_ NB107_108.out _; (with_reducible repeat (first | refine bN ?_ _ | refine bD ?_ | refine bA ?_ _)); refine blk_far ?_ NB107_108.out _; (with_reducible repeat (first | refine bN ?_ _ | refine bD ?_ | refine bA ?_ _)); refine blk_far ?_ NB107_108.out _; (with_reducible repeat (first | refine bN ?_ _ | refine bD ?_ | refine bA ?_ _)); refine blk_far ?_ NB107_108.out _; (with_reducible repeat (first | refine bN ?_ _ | refine bD ?_ | refine bA ?_ _)); refine blk_far ?_ NB107_108.out _; (with_reducible repeat (first | refine bN ?_ _ | refine bD ?_ | refine bA ?_ _)); refine blk_put (cs := #[.int .i64 a0_0, .int .i64 x7_31, .string a0_2, .bool false]) ?_ 3 _ rfl; (with_reducible repeat (first | refine bN ?_ _ | refine bD ?_ | refine bA ?_ _)); refine blk_put (cs := #[.int .i64 a0_0, .int .i64 x7_31, .string (⟨#[]⟩ : ByteArray), .bool false]) ?_ 2 _ rfl; (with_reducible repeat (first | refine bN ?_ _ | refine bD ?_ | refine bA ?_ _)); refine blk_put (cs := #[.int .i64 a0_0, .int .i64 0, .string (⟨#[]⟩ : ByteArray), .bool false]) ?_ 1 _ rfl; (with_reducible repeat (first | refine bN ?_ _ | refine bD ?_ | refine bA ?_ _)); refine blk_put (cs := #[.int .i64 0, .int .i64 0, .string (⟨#[]⟩ : ByteArray), .bool false]) ?_ 0 _ rfl; (with_reducible repeat (first | refine bN ?_ _ | refine bD ?_ | refine bA ?_ _)); exact BK107.out) Try.underlying25 rfl (by kernel_rfl) (.cell gb108 28 #[.int .i64 8, .int .i64 0, .int .i64 a0_1, .int .i64 0, .bool false, .string (a0_2.extract (a0_1 : Int).toNat (x7_31 : Int).toNat), .slice none 0 0] (0, 0) _ rfl (by (with_reducible repeat (first | refine bN ?_ _ | refine bD ?_ | refine bA ?_ _)); refine blk_put (cs := #[.int .i64 8, .int .i64 0, .int .i64 a0_1, .int .i64 0, .bool false, .string (a0_2.extract (a0_1 : Int).toNat (x7_31 : Int).toNat), .slice none 0 0]) ?_ 6 _ rfl; (with_reducible repeat (first | refine bN ?_ _ | refine bD ?_ | refine bA ?_ _)); refine blk_put (cs := #[.int .i64 8, .int .i64 0, .int .i64 a0_1, .int .i64 0, .bool false, .string (⟨#[]⟩ : ByteArray), .slice none 0 0]) ?_ 5 _ rfl; (with_reducible repeat (first | refine bN ?_ _ | refine bD ?_ | refine bA ?_ _)); refine blk_put (cs := #[.int .i64 8, .int .i64 0, .int .i64 a0_1, .int .i64 0, .bool false, .string (⟨#[]⟩ : ByteArray), .slice none 0 0]) ?_ 4 _ rfl; (with_reducible repeat (first | refine bN ?_ _ | refine bD ?_ | refine bA ?_ _)); refine blk_put (cs := #[.int .i64 8, .int .i64 0, .int .i64 a0_1, .int .i64 0, .bool false, .string (⟨#[]⟩ : ByteArray), .slice none 0 0]) ?_ 3 _ rfl; (with_reducible repeat (first | refine bN ?_ _ | refine bD ?_ | refine bA ?_ _)); refine blk_put (cs := #[.int .i64 8, .int .i64 0, .int .i64 0, .int .i64 0, .bool false, .string (⟨#[]⟩ : ByteArray), .slice none 0 0]) ?_ 2 _ rfl; (with_reducible repeat (first | refine bN ?_ _ | refine bD ?_ | refine bA ?_ _)); refine blk_put (cs := #[.int .i64 8, .int .i64 0, .int .i64 0, .int .i64 0, .bool false, .string (⟨#[]⟩ : ByteArray), .slice none 0 0]) ?_ 1 _ rfl; (with_reducible repeat (first | refine bN ?_ _ | refine bD ?_ | refine bA ?_ _)); refine blk_put (cs := #[.int .i64 0, .int .i64 0, .int .i64 0, .int .i64 0, .bool false, .string (⟨#[]⟩ : ByteArray), .slice none 0 0]) ?_ 0 _ rfl; (with_reducible repeat (first | refine bN ?_ _ | refine bD ?_ | refine bA ?_ _)); refine blk_far ?_ NB108_107.out _; (with_reducible repeat (first | refine bN ?_ _ | refine bD ?_ | refine bA ?_ _)); refine blk_far ?_ NB108_107.out _; (with_reducible repeat (first | refine bN ?_ _ | refine bD ?_ | refine bA ?_ _)); refine blk_far ?_ NB108_107.out _; (with_reducible repeat (first | refine bN ?_ _ | refine bD ?_ | refine bA ?_ _)); refine blk_far ?_ NB108_107.out _; (with_reducible repeat (first | refine bN ?_ _ | refine bD ?_ | refine bA ?_ _)); exact BK108.out) Try.underlying28 rfl (by kernel_rfl) (.tmp .nil)))) rfl ?_
             exact ⟨_, by first | rfl | (simp [errW_none, errW_some] <;> rfl) | (simp [*, errW_none, errW_some] <;> rfl), by first | exact Kd.R_nil _ _ _ _ _ | exact Kd.N_nil _ _ _ _ _ | exact Kd.V_nil _ _ _ _ _ | exact Kd.Q_nil _ _ _ _ _ | exact Kd.S_nil _ _ _ _ _, by repeat (first | (with_reducible first | exact HB.out | apply below_alloc | apply pw_below_drewN | apply below_drew1 | refine below_set ?_ GE106.out | refine below_set ?_ GE107.out | refine below_set ?_ GE108.out | refine below_set ?_ GE112.out) | exact HB.out)⟩
          ·rw [if_neg c42] at H
           exact absurd H (by simp)
         ·rw [if_neg c41] at H
          exact absurd H (by simp)
        ·rw [if_neg c40] at H
         exact absurd H (by simp)

end Go.Proofs.Ythkmjfapljmmpaa.PFnExactNextPiece
