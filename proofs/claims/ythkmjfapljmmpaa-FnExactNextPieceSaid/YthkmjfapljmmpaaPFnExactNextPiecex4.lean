-- Written by a program of this session (wip/xprint.py).
import Derived.Test.YthkmjfapljmmpaaPFnExactNextPiecex0
import Derived.Test.YthkmjfapljmmpaaPFnExactNextPiecex3
namespace Go.Proofs.Ythkmjfapljmmpaa.PFnExactNextPiece
open Go.RowKit Go.Proofs.YthkmjfapljmmpaaW.PrintWords Go.Proofs.YthkmjfapljmmpaaW.PrintLast Go.Proofs.YthkmjfapljmmpaaW.PrintMore
open Go.Proofs.Ythkmjfapljmmpaa.ShortK (bN bD bA sA sZ sS mR mB bX bLt bS cz2 fz2 cx2 cz3 fz3 cx3 cz4 fz4 cx4 cz5 fz5 cx5 cz6 fz6 cx6 cz7 fz7 cx7 cz8 fz8 cx8 cz9 fz9 cx9 cz10 fz10 cx10 cz11 fz11 cx11 cz12 fz12 cx12)
open Go.Proofs.Ythkmjfapljmmpaa.StoreK (bm)
attribute [local go_sem] Go.Proofs.Ythkmjfapljmmpaa.StoreK.isSome_setCell max2_int min2_int max_two min_two max_three min_three max_four min_four   -- for this text's walks alone
set_option linter.unusedVariables false
set_option linter.unusedSimpArgs false

/-! ### impl_NextPiece: function 17 -/
def impl_NextPiece.j0 : Nat → Int → Bool → Int → Int → ByteArray → Bool → Option (Int × Int × ByteArray × Bool × Int × Int × Int × Int × Bool × ByteArray × (List (S203)) × Bool)
 | 0, _, _, _, _, _, _ => none
 | k + 1, x1, x16, x121000, x121001, x121002, x121003 => if x16 = true then (some (0, 0, (⟨#[]⟩ : ByteArray), false, 0, 0, 0, 0, false, (⟨#[]⟩ : ByteArray), ([] : List (S203)), false)) else (if 0 ≤ x121001 then (if x121001 ≤ (wrap64 (x121001 + (mn (mn x1 (wrap64 (x121000 - x121001))) (wrap64 ((x121002.size : Int) - x121001))))) then (if (wrap64 (x121001 + (mn (mn x1 (wrap64 (x121000 - x121001))) (wrap64 ((x121002.size : Int) - x121001))))) ≤ (x121002.size : Int) then (if x121003 = true then (if (mn (mn x1 (wrap64 (x121000 - x121001))) (wrap64 ((x121002.size : Int) - x121001))) = 0 then (if ((wrap64 (x121001 + (mn (mn x1 (wrap64 (x121000 - x121001))) (wrap64 ((x121002.size : Int) - x121001))))) = (x121002.size : Int)) then (some (x121000, wrap64 (x121001 + (mn (mn x1 (wrap64 (x121000 - x121001))) (wrap64 ((x121002.size : Int) - x121001)))), x121002, x121003, 8, 0, x121001, 0, ((wrap64 (x121001 + (mn (mn x1 (wrap64 (x121000 - x121001))) (wrap64 ((x121002.size : Int) - x121001))))) == (x121002.size : Int)), x121002.extract (x121001 : Int).toNat ((wrap64 (x121001 + (mn (mn x1 (wrap64 (x121000 - x121001))) (wrap64 ((x121002.size : Int) - x121001))))) : Int).toNat, ([] : List (S203)), true)) else (some (0, 0, (⟨#[]⟩ : ByteArray), false, 0, 0, 0, 0, false, (⟨#[]⟩ : ByteArray), ([] : List (S203)), false))) else (some (x121000, wrap64 (x121001 + (mn (mn x1 (wrap64 (x121000 - x121001))) (wrap64 ((x121002.size : Int) - x121001)))), x121002, x121003, 8, 0, x121001, 0, ((wrap64 (x121001 + (mn (mn x1 (wrap64 (x121000 - x121001))) (wrap64 ((x121002.size : Int) - x121001))))) == (x121002.size : Int)), x121002.extract (x121001 : Int).toNat ((wrap64 (x121001 + (mn (mn x1 (wrap64 (x121000 - x121001))) (wrap64 ((x121002.size : Int) - x121001))))) : Int).toNat, ([] : List (S203)), true))) else (if (mn (mn x1 (wrap64 (x121000 - x121001))) (wrap64 ((x121002.size : Int) - x121001))) = 0 then (some (0, 0, (⟨#[]⟩ : ByteArray), false, 0, 0, 0, 0, false, (⟨#[]⟩ : ByteArray), ([] : List (S203)), false)) else (some (x121000, wrap64 (x121001 + (mn (mn x1 (wrap64 (x121000 - x121001))) (wrap64 ((x121002.size : Int) - x121001)))), x121002, x121003, 8, 0, x121001, 0, false, x121002.extract (x121001 : Int).toNat ((wrap64 (x121001 + (mn (mn x1 (wrap64 (x121000 - x121001))) (wrap64 ((x121002.size : Int) - x121001))))) : Int).toNat, ([] : List (S203)), true)))) else (none)) else (none)) else (none))
def impl_NextPiece.f (k : Nat) (a0_0 : Int) (a0_1 : Int) (a0_2 : ByteArray) (a0_3 : Bool) (a1 : Int) : Option (Int × Int × ByteArray × Bool × Int × Int × Int × Int × Bool × ByteArray × (List (S203)) × Bool) := (impl_GoodOutflow.f a0_0 a0_1 a0_2 a0_3).bind fun t123 => (if t123 = true then ((impl_in.f a1 1 200).bind fun t124 => (impl_NextPiece.j0 k a1 (!t124) a0_0 a0_1 a0_2 a0_3)) else (impl_NextPiece.j0 k a1 true a0_0 a0_1 a0_2 a0_3))
theorem impl_NextPiece.mono_l : ∀ k, (∀ y0 y1 y2 y3 y4 y5, LeO (impl_NextPiece.j0 k y0 y1 y2 y3 y4 y5) (impl_NextPiece.j0 (k + 1) y0 y1 y2 y3 y4 y5))
 | 0 => fun _ _ _ _ _ _ r h => by simp [impl_NextPiece.j0] at h
 | k + 1 => by
  have ih0 := impl_NextPiece.mono_l k
  ·intro y0 y1 y2 y3 y4 y5
   unfold impl_NextPiece.j0
   repeat' first
   | (with_reducible exact ih0 _ _ _ _ _ _)
   | (with_reducible exact LeO.refl _)
   | (with_reducible exact LeO.none _)
   | (with_reducible refine LeO.ite ?_ ?_)
   | (with_reducible refine LeO.bind ?_ (fun _ => ?_))
   | exact ih0 _ _ _ _ _ _
   | exact LeO.none _
   | refine LeO.ite ?_ ?_
   | refine LeO.bind ?_ (fun _ => ?_)
theorem impl_NextPiece.mono : ∀ a0 a1 a2 a3 a4 k, LeO (impl_NextPiece.f k a0 a1 a2 a3 a4) (impl_NextPiece.f (k + 1) a0 a1 a2 a3 a4) := by
 intro a0 a1 a2 a3 a4 k
 have ih0 := impl_NextPiece.mono_l k
 unfold impl_NextPiece.f
 repeat' first
   | (with_reducible exact ih0 _ _ _ _ _ _)
   | (with_reducible exact LeO.refl _)
   | (with_reducible exact LeO.none _)
   | (with_reducible refine LeO.ite ?_ ?_)
   | (with_reducible refine LeO.bind ?_ (fun _ => ?_))
   | exact ih0 _ _ _ _ _ _
   | exact LeO.none _
   | refine LeO.ite ?_ ?_
   | refine LeO.bind ?_ (fun _ => ?_)
def impl_NextPiece.T4 : Bool × List (List Nat × List Nat) := (true, [([], []), ([0], [0]), ([], []), ([2], [2]), ([], []), ([4], [4]), ([], []), ([6], [6]), ([], []), ([7, 8], [7, 8]), ([3, 5, 9], [3, 5, 9]), ([1, 10], [1, 10]), ([], []), ([12, 11, 0, 1, 2, 3, 4, 5, 6, 7, 8, 9, 10, 11, 12], [11, 12])])
def impl_NextPiece.B4 : List Nat := [0, 1, 0, 4, 0, 16, 0, 64, 0, 448, 1020, 2047, 0, 8191]
theorem impl_NextPiece.tab4 : rtab .any (opsOf Try.f17 4) = impl_NextPiece.T4 := by kernel_rfl
theorem impl_NextPiece.bits4 : waitsOk impl_NextPiece.T4.2 impl_NextPiece.B4 = true := by kernel_rfl
set_option maxHeartbeats 64000000 in
set_option maxRecDepth 100000 in
theorem impl_NextPiece.calls (k : Nat) (a0_0 : Int) (a0_1 : Int) (a0_2 : ByteArray) (a0_3 : Bool) (a1 : Int) (r1 : Int) (r2 : Int) (r3 : ByteArray) (r4 : Bool) (r5 : Int) (r6 : Int) (r7 : Int) (r8 : Int) (r9 : Bool) (r10 : ByteArray) (r11 : List (S203)) (r12 : Bool) (w : World) (h : impl_NextPiece.f k a0_0 a0_1 a0_2 a0_3 a1 = some (r1, r2, r3, r4, r5, r6, r7, r8, r9, r10, r11, r12)) :
  Calls Try.prog 17 #[.agg #[.int .i64 a0_0, .int .i64 a0_1, .string a0_2, .bool a0_3], .int .i64 a1] w fun e w' => ∃ v10_ : Value, e = .returned (.tuple #[.agg #[.int .i64 r1, .int .i64 r2, .string r3, .bool r4], .agg #[.int .i64 r5, .int .i64 r6, .int .i64 r7, .int .i64 r8, .bool r9, .string r10, v10_], .bool r12]) ∧ Kd.R k203 203 w' w.heap.size (fun _ => True) v10_ r11 ∧ Below w.heap.size w w' := by
 have hu25 := Try.underlying25
 have hu28 := Try.underlying28
 have HB := Aside0.mk (Below.refl w.heap.size w)
 have H : ((impl_GoodOutflow.f a0_0 a0_1 a0_2 a0_3).bind fun t123 => (if t123 = true then ((impl_in.f a1 1 200).bind fun t124 => (impl_NextPiece.j0 k a1 (!t124) a0_0 a0_1 a0_2 a0_3)) else (impl_NextPiece.j0 k a1 true a0_0 a0_1 a0_2 a0_3))) = some (r1, r2, r3, r4, r5, r6, r7, r8, r9, r10, r11, r12) := h
 clear h
 have HC3 := Aside0.mk H
 clear H
 go_enter Try.func17, Try.ntmps17
 go_upto_region 1 with (first | ((with_reducible refine gate_dst (N := 2) rfl ?_); (try (refine gate_guard (by rfl) ?_; dsimp only)); refine box_event ?hg (N := 2) ?hd (cs := #[.int .i64 a0_0, .int .i64 a0_1, .string a0_2, .bool a0_3]) (t := 25) ?hr ?_; (case hd => rfl); (case hg => rfl); (case hr => first | (go_simp; done) | (go_simp; rfl)); intro gb120 hg w4 hbox hb; have n0_ := bS HB hb; have n1_ := Aside0.mk (hbox); have n2_ := Aside0.mk ((by rw [hg]; exact (below_size (by repeat (first | (with_reducible first | exact HB.out | apply below_alloc | apply pw_below_drewN | apply below_drew1) | exact HB.out))) : w.heap.size ≤ gb120)); have n3_ := n2_; clear HB; have HB := n0_; have BK120 := n1_; have GW120 := n2_; have GE120 := n3_; clear n0_ n1_ n2_ n3_; clear hb hbox hg) | ((with_reducible refine gate_dst (N := 4) rfl ?_); (try (refine gate_guard (by rfl) ?_; dsimp only)); refine box_event ?hg (N := 4) ?hd (cs := #[.int .i64 0, .int .i64 0, .string (⟨#[]⟩ : ByteArray), .bool false]) (t := 25) ?hr ?_; (case hd => rfl); (case hg => rfl); (case hr => first | (go_simp; done) | (go_simp; rfl)); intro gb121 hg w5 hbox hb; have n0_ := bX BK120 hb; have n1_ := bS HB hb; have n2_ := Aside0.mk (hbox); have n3_ := Aside0.mk ((by rw [hg]; exact (below_size (by repeat (first | (with_reducible first | exact HB.out | apply below_alloc | apply pw_below_drewN | apply below_drew1 | refine below_set ?_ GE120.out) | exact HB.out))) : w.heap.size ≤ gb121)); have n4_ := n3_; have n5_ := Aside0.mk ((by rw [hg]; exact Nat.ne_of_lt (bLt BK120) : gb120 ≠ gb121)); have n6_ := Aside0.mk ((by rw [hg]; exact Nat.ne_of_gt (bLt BK120) : gb121 ≠ gb120)); clear BK120; clear HB; have BK120 := n0_; have HB := n1_; have BK121 := n2_; have GW121 := n3_; have GE121 := n4_; have NB120_121 := n5_; have NB121_120 := n6_; clear n0_ n1_ n2_ n3_ n4_ n5_ n6_; clear hb hbox hg) | ((with_reducible refine gate_dst (N := 5) rfl ?_); (try (refine gate_guard (by rfl) ?_; dsimp only)); refine box_event ?hg (N := 5) ?hd (cs := #[.int .i64 0, .int .i64 0, .int .i64 0, .int .i64 0, .bool false, .string (⟨#[]⟩ : ByteArray), .slice none 0 0]) (t := 28) ?hr ?_; (case hd => rfl); (case hg => rfl); (case hr => first | (go_simp; done) | (go_simp; rfl)); intro gb122 hg w6 hbox hb; have n0_ := bX BK120 hb; have n1_ := bX BK121 hb; have n2_ := bS HB hb; have n3_ := Aside0.mk (hbox); have n4_ := Aside0.mk ((by rw [hg]; exact (below_size (by repeat (first | (with_reducible first | exact HB.out | apply below_alloc | apply pw_below_drewN | apply below_drew1 | refine below_set ?_ GE120.out | refine below_set ?_ GE121.out) | exact HB.out))) : w.heap.size ≤ gb122)); have n5_ := n4_; have n6_ := Aside0.mk ((by rw [hg]; exact Nat.ne_of_lt (bLt BK120) : gb120 ≠ gb122)); have n7_ := Aside0.mk ((by rw [hg]; exact Nat.ne_of_gt (bLt BK120) : gb122 ≠ gb120)); have n8_ := Aside0.mk ((by rw [hg]; exact Nat.ne_of_lt (bLt BK121) : gb121 ≠ gb122)); have n9_ := Aside0.mk ((by rw [hg]; exact Nat.ne_of_gt (bLt BK121) : gb122 ≠ gb121)); clear BK120; clear BK121; clear HB; have BK120 := n0_; have BK121 := n1_; have HB := n2_; have BK122 := n3_; have GW122 := n4_; have GE122 := n5_; have NB120_122 := n6_; have NB122_120 := n7_; have NB121_122 := n8_; have NB122_121 := n9_; clear n0_ n1_ n2_ n3_ n4_ n5_ n6_ n7_ n8_ n9_; clear hb hbox hg))
 (try simp only [Act.put, sA, sZ, sS])
 go_cut [16] (fun v16 wc => ∃ (kq : Nat) (x16_2 : Bool), v16 = .bool x16_2 ∧ Aside0 (impl_NextPiece.j0 kq a1 x16_2 a0_0 a0_1 a0_2 a0_3 = some (r1, r2, r3, r4, r5, r6, r7, r8, r9, r10, r11, r12)) ∧ Aside0 (kq ≤ k) ∧ Aside0 (wc.heap[gb120]? = some (.cells #[.int .i64 a0_0, .int .i64 a0_1, .string a0_2, .bool a0_3] 25 (0, 0))) ∧ Aside0 (wc.heap[gb121]? = some (.cells #[.int .i64 0, .int .i64 0, .string (⟨#[]⟩ : ByteArray), .bool false] 25 (0, 0))) ∧ Aside0 (wc.heap[gb122]? = some (.cells #[.int .i64 0, .int .i64 0, .int .i64 0, .int .i64 0, .bool false, .string (⟨#[]⟩ : ByteArray), (.slice none 0 0)] 28 (0, 0))) ∧ Aside0 (Below w.heap.size w wc))
 case first =>
  have H := HC3.out
  clear HC3
  replace H := Option.bind_eq_some_iff.mp H
  obtain ⟨t123, A70, H⟩ := H
  replace H : (if t123 = true then ((impl_in.f a1 1 200).bind fun t124 => (impl_NextPiece.j0 k a1 (!t124) a0_0 a0_1 a0_2 a0_3)) else (impl_NextPiece.j0 k a1 true a0_0 a0_1 a0_2 a0_3)) = some (r1, r2, r3, r4, r5, r6, r7, r8, r9, r10, r11, r12) := H
  have A7 := Aside0.mk A70
  clear A70
  by_cases c8 : t123 = true
  ·subst c8
   have H1 : ((impl_in.f a1 1 200).bind fun t124 => (impl_NextPiece.j0 k a1 (!t124) a0_0 a0_1 a0_2 a0_3)) = some (r1, r2, r3, r4, r5, r6, r7, r8, r9, r10, r11, r12) := by rw [if_pos rfl] at H; exact H
   clear H
   have H := H1
   clear H1
   replace H := Option.bind_eq_some_iff.mp H
   obtain ⟨t124, A90, H⟩ := H
   replace H : (impl_NextPiece.j0 k a1 (!t124) a0_0 a0_1 a0_2 a0_3) = some (r1, r2, r3, r4, r5, r6, r7, r8, r9, r10, r11, r12) := H
   have A9 := Aside0.mk A90
   clear A90
   have H' := Aside0.mk H
   clear H
   have hnb10 := NB120_121.out
   have hnc10 := NB121_120.out
   have hnb11 := NB120_122.out
   have hnc11 := NB122_120.out
   obtain ⟨hcz12_0, hcz12_1, hcz12_2, hcz12_3⟩ := cz4 BK120
   obtain ⟨hfz12_0, hfz12_1, hfz12_2, hfz12_3⟩ := fz4 BK120
   go_wp2_with (first | ((with_reducible refine gate_callee (f := 79) rfl ?_); refine goesL_ (some 10) rfl rfl Try.func79 (by kernel_rfl) rfl #[.agg #[.int .i64 a0_0, .int .i64 a0_1, .string a0_2, .bool a0_3]] rfl (by (try simp only [List.map_toArray, List.map_cons, List.map_nil]); first | done | rfl | (simp only [List.length_drop, List.length_take]; rfl)) ?_; (with_reducible refine (impl_GoodOutflow.calls a0_0 a0_1 a0_2 a0_3 true _ A7.out).mono ?_); rintro e w13 ⟨rfl, hb⟩; refine ⟨_, rfl, ?_⟩; have n0_ := bX BK120 hb; have n1_ := bX BK121 hb; have n2_ := bX BK122 hb; have n3_ := bS HB hb; clear BK120; clear BK121; clear BK122; clear HB; have BK120 := n0_; have BK121 := n1_; have BK122 := n2_; have HB := n3_; clear n0_ n1_ n2_ n3_; (try clear hb); (try clear hb2); (try clear hk); (try clear hi)) | (go_at_call 80; (with_reducible refine (impl_in.calls a1 1 200 t124 _ A9.out).mono ?_); rintro e w' ⟨rfl, ⟨nd, rfl⟩⟩))
   go_meet
   case rel => exact ⟨_, (!t124), (by first | rfl | (simp; done) | (simp [*]; done)), H', ⟨by first | omega | exact Nat.le_refl _⟩, ⟨by (with_reducible repeat (first | refine bN ?_ _ | refine bD ?_ | refine bA ?_ _)); exact BK120.out⟩, ⟨by (with_reducible repeat (first | refine bN ?_ _ | refine bD ?_ | refine bA ?_ _)); exact BK121.out⟩, ⟨by (with_reducible repeat (first | refine bN ?_ _ | refine bD ?_ | refine bA ?_ _)); exact BK122.out⟩, ⟨by repeat (first | (with_reducible first | exact HB.out | apply below_alloc | apply pw_below_drewN | apply below_drew1 | refine below_set ?_ GE120.out | refine below_set ?_ GE121.out | refine below_set ?_ GE122.out) | exact HB.out)⟩⟩
  ·replace c8 := Bool.eq_false_iff.mpr c8
   subst c8
   have H1 : (impl_NextPiece.j0 k a1 true a0_0 a0_1 a0_2 a0_3) = some (r1, r2, r3, r4, r5, r6, r7, r8, r9, r10, r11, r12) := by rw [if_neg (show ¬ (false = true) by decide)] at H; exact H
   clear H
   have H := H1
   clear H1
   have H' := Aside0.mk H
   clear H
   have hnb14 := NB120_121.out
   have hnc14 := NB121_120.out
   have hnb15 := NB120_122.out
   have hnc15 := NB122_120.out
   obtain ⟨hcz16_0, hcz16_1, hcz16_2, hcz16_3⟩ := cz4 BK120
   obtain ⟨hfz16_0, hfz16_1, hfz16_2, hfz16_3⟩ := fz4 BK120
   go_wp2_with (first | ((with_reducible refine gate_callee (f := 79) rfl ?_); refine goesL_ (some 10) rfl rfl Try.func79 (by kernel_rfl) rfl #[.agg #[.int .i64 a0_0, .int .i64 a0_1, .string a0_2, .bool a0_3]] rfl (by (try simp only [List.map_toArray, List.map_cons, List.map_nil]); first | done | rfl | (simp only [List.length_drop, List.length_take]; rfl)) ?_; (with_reducible refine (impl_GoodOutflow.calls a0_0 a0_1 a0_2 a0_3 false _ A7.out).mono ?_); rintro e w17 ⟨rfl, hb⟩; refine ⟨_, rfl, ?_⟩; have n0_ := bX BK120 hb; have n1_ := bX BK121 hb; have n2_ := bX BK122 hb; have n3_ := bS HB hb; clear BK120; clear BK121; clear BK122; clear HB; have BK120 := n0_; have BK121 := n1_; have BK122 := n2_; have HB := n3_; clear n0_ n1_ n2_ n3_; (try clear hb); (try clear hb2); (try clear hk); (try clear hi)))
   go_meet
   case rel => exact ⟨_, (true), (by first | rfl | (simp; done) | (simp [*]; done)), H', ⟨by first | omega | exact Nat.le_refl _⟩, ⟨by (with_reducible repeat (first | refine bN ?_ _ | refine bD ?_ | refine bA ?_ _)); exact BK120.out⟩, ⟨by (with_reducible repeat (first | refine bN ?_ _ | refine bD ?_ | refine bA ?_ _)); exact BK121.out⟩, ⟨by (with_reducible repeat (first | refine bN ?_ _ | refine bD ?_ | refine bA ?_ _)); exact BK122.out⟩, ⟨by repeat (first | (with_reducible first | exact HB.out | apply below_alloc | apply pw_below_drewN | apply below_drew1 | refine below_set ?_ GE120.out | refine below_set ?_ GE121.out | refine below_set ?_ GE122.out) | exact HB.out)⟩⟩
 case rest =>
  clear HC3
  try clear c1
  try clear p2
  try clear c7
  try clear c8
  try clear c10
  try clear c11
  try clear c14
  try clear c15
  try clear c17
  try clear hcz12_0
  try clear hcz12_1
  try clear hcz12_2
  try clear hcz12_3
  try clear hcz16_0
  try clear hcz16_1
  try clear hcz16_2
  try clear hcz16_3
  try clear hfz12_0
  try clear hfz12_1
  try clear hfz12_2
  try clear hfz12_3
  try clear hfz16_0
  try clear hfz16_1
  try clear hfz16_2
  try clear hfz16_3
  obtain ⟨kq, x16_2, rfl, HA, HJ2, BK120, BK121, BK122, HB⟩ := hcut
  cases kq with
  | zero => exact absurd HA.out (by simp [impl_NextPiece.j0])
  | succ kj2 =>
   have H := HA.out
   clear HA
   simp only [impl_NextPiece.j0] at H
   by_cases c18 : x16_2 = true
   ·subst c18
    have H1 : (some (0, 0, (⟨#[]⟩ : ByteArray), false, 0, 0, 0, 0, false, (⟨#[]⟩ : ByteArray), ([] : List (S203)), false)) = some (r1, r2, r3, r4, r5, r6, r7, r8, r9, r10, r11, r12) := by rw [if_pos rfl] at H; exact H
    clear H
    have H := H1
    clear H1
    simp only [Option.some.injEq, Prod.mk.injEq] at H
    obtain ⟨rfl, rfl, rfl, rfl, rfl, rfl, rfl, rfl, rfl, rfl, rfl, rfl⟩ := H
    have hnb19 := NB121_120.out
    have hnc19 := NB120_121.out
    have hnb20 := NB121_122.out
    have hnc20 := NB122_121.out
    obtain ⟨hcz21_0, hcz21_1, hcz21_2, hcz21_3⟩ := cz4 BK121
    obtain ⟨hfz21_0, hfz21_1, hfz21_2, hfz21_3⟩ := fz4 BK121
    have hnb22 := NB122_120.out
    have hnc22 := NB120_122.out
    obtain ⟨hcz23_0, hcz23_1, hcz23_2, hcz23_3, hcz23_4, hcz23_5, hcz23_6⟩ := cz7 BK122
    obtain ⟨hfz23_0, hfz23_1, hfz23_2, hfz23_3, hfz23_4, hfz23_5, hfz23_6⟩ := fz7 BK122
    go_wp2
    refine bodyPost_ret (results_list (rs := [.cell 4 25, .cell 5 28, .tmp 6]) rfl (by simp) (.cell gb121 25 #[.int .i64 0, .int .i64 0, .string (⟨#[]⟩ : ByteArray), .bool false] (0, 0) _ rfl (by (with_reducible repeat (first | refine bN ?_ _ | refine bD ?_ | refine bA ?_ _)); refine blk_far ?_ NB121_122.out _; (with_reducible repeat (first | refine bN ?_ _ | refine bD ?_ | refine bA ?_ _)); refine blk_far ?_ NB121_122.out _; (with_reducible repeat (first | refine bN ?_ _ | refine bD ?_ | refine bA ?_ _)); refine blk_far ?_ NB121_122.out _; (with_reducible repeat (first | refine bN ?_ _ | refine bD ?_ | refine bA ?_ _)); refine blk_far ?_ NB121_122.out _; (with_reducible repeat (first | refine bN ?_ _ | refine bD ?_ | refine bA ?_ _)); refine blk_far ?_ NB121_122.out _; (with_reducible repeat (first | refine bN ?_ _ | refine bD ?_ | refine bA ?_ _)); refine blk_far ?_ NB121_122.out _; (with_reducible repeat (first | refine bN ?_ _ | refine bD ?_ | refine bA ?_ _)); refine blk_far ?_ NB121_122.out _; (with_reducible repeat (first | refine bN ?_ _ | refine bD ?_ | refine bA ?_ _)); refine blk_put (cs := #[.int .i64 0, .int .i64 0, .string (⟨#[]⟩ : ByteArray), .bool false]) ?_ 3 _ rfl; (with_reducible repeat (first | refine bN ?_ _ | refine bD ?_ | refine bA ?_ _)); refine blk_put (cs := #[.int .i64 0, .int .i64 0, .string (⟨#[]⟩ : ByteArray), .bool false]) ?_ 2 _ rfl; (with_reducible repeat (first | refine bN ?_ _ | refine bD ?_ | refine bA ?_ _)); refine blk_put (cs := #[.int .i64 0, .int .i64 0, .string (⟨#[]⟩ : ByteArray), .bool false]) ?_ 1 _ rfl; (with_reducible repeat (first | refine bN ?_ _ | refine bD ?_ | refine bA ?_ _)); refine blk_put (cs := #[.int .i64 0, .int .i64 0, .string (⟨#[]⟩ : ByteArray), .bool false]) ?_ 0 _ rfl; (with_reducible repeat (first | refine bN ?_ _ | refine bD ?_ | refine bA ?_ _)); exact BK121.out) Try.underlying25 rfl (by kernel_rfl) (.cell gb122 28 #[.int .i64 0, .int .i64 0, .int .i64 0, .int .i64 0, .bool false, .string (⟨#[]⟩ : ByteArray), .slice none 0 0] (0, 0) _ rfl (by (with_reducible repeat (first | refine bN ?_ _ | refine bD ?_ | refine bA ?_ _)); refine blk_put (cs := #[.int .i64 0, .int .i64 0, .int .i64 0, .int .i64 0, .bool false, .string (⟨#[]⟩ : ByteArray), .slice none 0 0]) ?_ 6 _ rfl; (with_reducible repeat (first | refine bN ?_ _ | refine bD ?_ | refine bA ?_ _)); refine blk_put (cs := #[.int .i64 0, .int .i64 0, .int .i64 0, .int .i64 0, .bool false, .string (⟨#[]⟩ : ByteArray), .slice none 0 0]) ?_ 5 _ rfl; (with_reducible repeat (first | refine bN ?_ _ | refine bD ?_ | refine bA ?_ _)); refine blk_put (cs := #[.int .i64 0, .int .i64 0, .int .i64 0, .int .i64 0, .bool false, .string (⟨#[]⟩ : ByteArray), .slice none 0 0]) ?_ 4 _ rfl; (with_reducible repeat (first | refine bN ?_ _ | refine bD ?_ | refine bA ?_ _)); refine blk_put (cs := #[.int .i64 0, .int .i64 0, .int .i64 0, .int .i64 0, .bool false, .string (⟨#[]⟩ : ByteArray), .slice none 0 0]) ?_ 3 _ rfl; (with_reducible repeat (first | refine bN ?_ _ | refine bD ?_ | refine bA ?_ _)); refine blk_put (cs := #[.int .i64 0, .int .i64 0, .int .i64 0, .int .i64 0, .bool false, .string (⟨#[]⟩ : ByteArray), .slice none 0 0]) ?_ 2 _ rfl; (with_reducible repeat (first | refine bN ?_ _ | refine bD ?_ | refine bA ?_ _)); refine blk_put (cs := #[.int .i64 0, .int .i64 0, .int .i64 0, .int .i64 0, .bool false, .string (⟨#[]⟩ : ByteArray), .slice none 0 0]) ?_ 1 _ rfl; (with_reducible repeat (first | refine bN ?_ _ | refine bD ?_ | refine bA ?_ _)); refine blk_put (cs := #[.int .i64 0, .int .i64 0, .int .i64 0, .int .i64 0, .bool false, .string (⟨#[]⟩ : ByteArray), .slice none 0 0]) ?_ 0 _ rfl; (with_reducible repeat (first | refine bN ?_ _ | refine bD ?_ | refine bA ?_ _)); refine blk_far ?_ NB122_121.out _; (with_reducible repeat (first | refine bN ?_ _ | refine bD ?_ | refine bA ?_ _)); refine blk_far ?_ NB122_121.out _; (with_reducible repeat (first | refine bN ?_ _ | refine bD ?_ | refine bA ?_ _)); refine blk_far ?_ NB122_121.out _; (with_reducible repeat (first | refine bN ?_ _ | refine bD ?_ | refine bA ?_ _)); refine blk_far ?_ NB122_121.out _; (with_reducible repeat (first | refine bN ?_ _ | refine bD ?_ | refine bA ?_ _)); exact BK122.out) Try.underlying28 rfl (by kernel_rfl) (.tmp .nil)))) rfl ?_
    exact ⟨_, by first | rfl | (simp [errW_none, errW_some] <;> rfl) | (simp [*, errW_none, errW_some] <;> rfl), by first | exact Kd.R_nil _ _ _ _ _ | exact Kd.N_nil _ _ _ _ _ | exact Kd.V_nil _ _ _ _ _ | exact Kd.Q_nil _ _ _ _ _ | exact Kd.S_nil _ _ _ _ _, by repeat (first | (with_reducible first | exact HB.out | apply below_alloc | apply pw_below_drewN | apply below_drew1 | refine below_set ?_ GE120.out | refine below_set ?_ GE121.out | refine below_set ?_ GE122.out) | exact HB.out)⟩
   ·replace c18 := Bool.eq_false_iff.mpr c18
    subst c18
    have H1 : (if 0 ≤ a0_1 then (if a0_1 ≤ (wrap64 (a0_1 + (mn (mn a1 (wrap64 (a0_0 - a0_1))) (wrap64 ((a0_2.size : Int) - a0_1))))) then (if (wrap64 (a0_1 + (mn (mn a1 (wrap64 (a0_0 - a0_1))) (wrap64 ((a0_2.size : Int) - a0_1))))) ≤ (a0_2.size : Int) then (if a0_3 = true then (if (mn (mn a1 (wrap64 (a0_0 - a0_1))) (wrap64 ((a0_2.size : Int) - a0_1))) = 0 then (if ((wrap64 (a0_1 + (mn (mn a1 (wrap64 (a0_0 - a0_1))) (wrap64 ((a0_2.size : Int) - a0_1))))) = (a0_2.size : Int)) then (some (a0_0, wrap64 (a0_1 + (mn (mn a1 (wrap64 (a0_0 - a0_1))) (wrap64 ((a0_2.size : Int) - a0_1)))), a0_2, a0_3, 8, 0, a0_1, 0, ((wrap64 (a0_1 + (mn (mn a1 (wrap64 (a0_0 - a0_1))) (wrap64 ((a0_2.size : Int) - a0_1))))) == (a0_2.size : Int)), a0_2.extract (a0_1 : Int).toNat ((wrap64 (a0_1 + (mn (mn a1 (wrap64 (a0_0 - a0_1))) (wrap64 ((a0_2.size : Int) - a0_1))))) : Int).toNat, ([] : List (S203)), true)) else (some (0, 0, (⟨#[]⟩ : ByteArray), false, 0, 0, 0, 0, false, (⟨#[]⟩ : ByteArray), ([] : List (S203)), false))) else (some (a0_0, wrap64 (a0_1 + (mn (mn a1 (wrap64 (a0_0 - a0_1))) (wrap64 ((a0_2.size : Int) - a0_1)))), a0_2, a0_3, 8, 0, a0_1, 0, ((wrap64 (a0_1 + (mn (mn a1 (wrap64 (a0_0 - a0_1))) (wrap64 ((a0_2.size : Int) - a0_1))))) == (a0_2.size : Int)), a0_2.extract (a0_1 : Int).toNat ((wrap64 (a0_1 + (mn (mn a1 (wrap64 (a0_0 - a0_1))) (wrap64 ((a0_2.size : Int) - a0_1))))) : Int).toNat, ([] : List (S203)), true))) else (if (mn (mn a1 (wrap64 (a0_0 - a0_1))) (wrap64 ((a0_2.size : Int) - a0_1))) = 0 then (some (0, 0, (⟨#[]⟩ : ByteArray), false, 0, 0, 0, 0, false, (⟨#[]⟩ : ByteArray), ([] : List (S203)), false)) else (some (a0_0, wrap64 (a0_1 + (mn (mn a1 (wrap64 (a0_0 - a0_1))) (wrap64 ((a0_2.size : Int) - a0_1)))), a0_2, a0_3, 8, 0, a0_1, 0, false, a0_2.extract (a0_1 : Int).toNat ((wrap64 (a0_1 + (mn (mn a1 (wrap64 (a0_0 - a0_1))) (wrap64 ((a0_2.size : Int) - a0_1))))) : Int).toNat, ([] : List (S203)), true)))) else (none)) else (none)) else (none)) = some (r1, r2, r3, r4, r5, r6, r7, r8, r9, r10, r11, r12) := by rw [if_neg (show ¬ (false = true) by decide)] at H; exact H
    clear H
    have H := H1
    clear H1
    obtain ⟨ji24, hji24⟩ : ∃ j_ : Int, (mn a1 (wrap64 (a0_0 - a0_1))) = j_ := ⟨_, rfl⟩
    replace H : (if 0 ≤ a0_1 then (if a0_1 ≤ (wrap64 (a0_1 + (mn (ji24) (wrap64 ((a0_2.size : Int) - a0_1))))) then (if (wrap64 (a0_1 + (mn (ji24) (wrap64 ((a0_2.size : Int) - a0_1))))) ≤ (a0_2.size : Int) then (if a0_3 = true then (if (mn (ji24) (wrap64 ((a0_2.size : Int) - a0_1))) = 0 then (if ((wrap64 (a0_1 + (mn (ji24) (wrap64 ((a0_2.size : Int) - a0_1))))) = (a0_2.size : Int)) then (some (a0_0, wrap64 (a0_1 + (mn (ji24) (wrap64 ((a0_2.size : Int) - a0_1)))), a0_2, a0_3, 8, 0, a0_1, 0, ((wrap64 (a0_1 + (mn (ji24) (wrap64 ((a0_2.size : Int) - a0_1))))) == (a0_2.size : Int)), a0_2.extract (a0_1 : Int).toNat ((wrap64 (a0_1 + (mn (ji24) (wrap64 ((a0_2.size : Int) - a0_1))))) : Int).toNat, ([] : List (S203)), true)) else (some (0, 0, (⟨#[]⟩ : ByteArray), false, 0, 0, 0, 0, false, (⟨#[]⟩ : ByteArray), ([] : List (S203)), false))) else (some (a0_0, wrap64 (a0_1 + (mn (ji24) (wrap64 ((a0_2.size : Int) - a0_1)))), a0_2, a0_3, 8, 0, a0_1, 0, ((wrap64 (a0_1 + (mn (ji24) (wrap64 ((a0_2.size : Int) - a0_1))))) == (a0_2.size : Int)), a0_2.extract (a0_1 : Int).toNat ((wrap64 (a0_1 + (mn (ji24) (wrap64 ((a0_2.size : Int) - a0_1))))) : Int).toNat, ([] : List (S203)), true))) else (if (mn (ji24) (wrap64 ((a0_2.size : Int) - a0_1))) = 0 then (some (0, 0, (⟨#[]⟩ : ByteArray), false, 0, 0, 0, 0, false, (⟨#[]⟩ : ByteArray), ([] : List (S203)), false)) else (some (a0_0, wrap64 (a0_1 + (mn (ji24) (wrap64 ((a0_2.size : Int) - a0_1)))), a0_2, a0_3, 8, 0, a0_1, 0, false, a0_2.extract (a0_1 : Int).toNat ((wrap64 (a0_1 + (mn (ji24) (wrap64 ((a0_2.size : Int) - a0_1))))) : Int).toNat, ([] : List (S203)), true)))) else (none)) else (none)) else (none)) = some (r1, r2, r3, r4, r5, r6, r7, r8, r9, r10, r11, r12) := by first | (rw [hji24] at H; exact H) | (simp only [hji24] at H ⊢; exact H)
    have hji24_ : (if (wrap64 (a0_0 - a0_1)) < a1 then (wrap64 (a0_0 - a0_1)) else a1) = ji24 := hji24
    obtain ⟨ji25, hji25⟩ : ∃ j_ : Int, (mn (ji24) (wrap64 ((a0_2.size : Int) - a0_1))) = j_ := ⟨_, rfl⟩
    replace H : (if 0 ≤ a0_1 then (if a0_1 ≤ (wrap64 (a0_1 + (ji25))) then (if (wrap64 (a0_1 + (ji25))) ≤ (a0_2.size : Int) then (if a0_3 = true then (if (ji25) = 0 then (if ((wrap64 (a0_1 + (ji25))) = (a0_2.size : Int)) then (some (a0_0, wrap64 (a0_1 + (ji25)), a0_2, a0_3, 8, 0, a0_1, 0, ((wrap64 (a0_1 + (ji25))) == (a0_2.size : Int)), a0_2.extract (a0_1 : Int).toNat ((wrap64 (a0_1 + (ji25))) : Int).toNat, ([] : List (S203)), true)) else (some (0, 0, (⟨#[]⟩ : ByteArray), false, 0, 0, 0, 0, false, (⟨#[]⟩ : ByteArray), ([] : List (S203)), false))) else (some (a0_0, wrap64 (a0_1 + (ji25)), a0_2, a0_3, 8, 0, a0_1, 0, ((wrap64 (a0_1 + (ji25))) == (a0_2.size : Int)), a0_2.extract (a0_1 : Int).toNat ((wrap64 (a0_1 + (ji25))) : Int).toNat, ([] : List (S203)), true))) else (if (ji25) = 0 then (some (0, 0, (⟨#[]⟩ : ByteArray), false, 0, 0, 0, 0, false, (⟨#[]⟩ : ByteArray), ([] : List (S203)), false)) else (some (a0_0, wrap64 (a0_1 + (ji25)), a0_2, a0_3, 8, 0, a0_1, 0, false, a0_2.extract (a0_1 : Int).toNat ((wrap64 (a0_1 + (ji25))) : Int).toNat, ([] : List (S203)), true)))) else (none)) else (none)) else (none)) = some (r1, r2, r3, r4, r5, r6, r7, r8, r9, r10, r11, r12) := by first | (rw [hji25] at H; exact H) | (simp only [hji25] at H ⊢; exact H)
    have hji25_ : (if (wrap64 ((a0_2.size : Int) - a0_1)) < (ji24) then (wrap64 ((a0_2.size : Int) - a0_1)) else (ji24)) = ji25 := hji25
    by_cases c26 : 0 ≤ a0_1
    ·rw [if_pos c26] at H
     have c26b0 := eq_true c26
     have c26b1 : decide (0 ≤ a0_1) = true := decide_eq_true c26
     clear c26
     by_cases c27 : a0_1 ≤ (wrap64 (a0_1 + (ji25)))
     ·rw [if_pos c27] at H
      have c27b0 := eq_true c27
      have c27b1 : decide (a0_1 ≤ (wrap64 (a0_1 + (ji25)))) = true := decide_eq_true c27
      by_cases c28 : (wrap64 (a0_1 + (ji25))) ≤ (a0_2.size : Int)
      ·rw [if_pos c28] at H
       have c28b0 := eq_true c28
       have c28b1 : decide ((wrap64 (a0_1 + (ji25))) ≤ (a0_2.size : Int)) = true := decide_eq_true c28
       by_cases c29 : a0_3 = true
       ·subst c29
        have H1 : (if (ji25) = 0 then (if ((wrap64 (a0_1 + (ji25))) = (a0_2.size : Int)) then (some (a0_0, wrap64 (a0_1 + (ji25)), a0_2, true, 8, 0, a0_1, 0, ((wrap64 (a0_1 + (ji25))) == (a0_2.size : Int)), a0_2.extract (a0_1 : Int).toNat ((wrap64 (a0_1 + (ji25))) : Int).toNat, ([] : List (S203)), true)) else (some (0, 0, (⟨#[]⟩ : ByteArray), false, 0, 0, 0, 0, false, (⟨#[]⟩ : ByteArray), ([] : List (S203)), false))) else (some (a0_0, wrap64 (a0_1 + (ji25)), a0_2, true, 8, 0, a0_1, 0, ((wrap64 (a0_1 + (ji25))) == (a0_2.size : Int)), a0_2.extract (a0_1 : Int).toNat ((wrap64 (a0_1 + (ji25))) : Int).toNat, ([] : List (S203)), true))) = some (r1, r2, r3, r4, r5, r6, r7, r8, r9, r10, r11, r12) := by rw [if_pos rfl] at H; exact H
        clear H
        have H := H1
        clear H1
        by_cases c30 : (ji25) = 0
        ·rw [if_pos c30] at H
         have c30b0 : ((ji25) == 0) = true := beq_iff_eq.mpr c30
         have c30b1 : ((ji25) != 0) = false := bne_eq_false_iff_eq.mpr c30
         clear c30
         by_cases c31 : ((wrap64 (a0_1 + (ji25))) = (a0_2.size : Int))
         ·rw [if_pos c31] at H
          have c31b0 : ((wrap64 (a0_1 + (ji25))) == (a0_2.size : Int)) = true := beq_iff_eq.mpr c31
          have c31b1 : ((wrap64 (a0_1 + (ji25))) != (a0_2.size : Int)) = false := bne_eq_false_iff_eq.mpr c31
          (try (have c31b2 : ((IntKind.i64.wrap (a0_1 + (ji25))) == (a0_2.size : Int)) = true := by simp only [i64_w]; exact (beq_iff_eq.mpr c31)))
          (try (have c31b3 : ((IntKind.i64.wrap (a0_1 + (ji25))) != (a0_2.size : Int)) = false := by simp only [i64_w]; exact (bne_eq_false_iff_eq.mpr c31)))
          clear c31
          rw [c31b0] at H
          simp only [Option.some.injEq, Prod.mk.injEq] at H
          obtain ⟨rfl, rfl, rfl, rfl, rfl, rfl, rfl, rfl, rfl, rfl, rfl, rfl⟩ := H
          have hnb32 := NB120_121.out
          have hnc32 := NB121_120.out
          have hnb33 := NB120_122.out
          have hnc33 := NB122_120.out
          obtain ⟨hcz34_0, hcz34_1, hcz34_2, hcz34_3⟩ := cz4 BK120
          obtain ⟨hfz34_0, hfz34_1, hfz34_2, hfz34_3⟩ := fz4 BK120
          try go_wp2
          have n0_ := Aside0.mk (blk_drew BK120.out)
          have n1_ := Aside0.mk (blk_drew BK121.out)
          have n2_ := Aside0.mk (blk_drew BK122.out)
          have n3_ := Aside0.mk (below_drew1 HB.out)
          clear BK120
          clear BK121
          clear BK122
          clear HB
          have BK120 := n0_
          have BK121 := n1_
          have BK122 := n2_
          have HB := n3_
          clear n0_ n1_ n2_ n3_
          refine start_ (n := 14) (S := fun w' => w'.cell? ⟨gb120, 0, none⟩ = some (.int .i64 a0_0) ∧ w'.cell? ⟨gb120, 1, none⟩ = some (.int .i64 a0_1) ∧ w'.cell? ⟨gb120, 2, none⟩ = some (.string a0_2) ∧ w'.cell? ⟨gb120, 3, none⟩ = some (.bool true)) (ds := []) (bm 14 0) (by kernel_rfl) rfl rfl (cz4 BK120) (fun hHeld => ?_); refine with_tabW impl_NextPiece.tab4 impl_NextPiece.bits4 (fun HT_ HW_ => ?_)
          generalize wc.drew = w35 at BK120 BK121 BK122 HB hHeld ⊢
          refine pure_ (i := 0) (N := some 32) (v := ?_) (a' := ?_) (bm 14 1) rfl rfl (any_of HT_.out (by kernel_rfl)) (fun _ _ _ h => h) (Or.inl ⟨by rfl, ?_⟩) ?_ ?_
          rotate_left
          ·intro w'
           go_simp
           with_reducible rfl
          rotate_left
          ·simp only [Act.put, sA, sZ, sS, i64_w, i32_w]
           rfl
          refine pure_ (i := 2) (N := some 34) (v := ?_) (a' := ?_) (bm 14 5) rfl rfl (any_of HT_.out (by kernel_rfl)) (fun _ _ _ h => h) (Or.inl ⟨by rfl, ?_⟩) ?_ ?_
          rotate_left
          ·intro w'
           go_simp
           with_reducible rfl
          rotate_left
          ·simp only [Act.put, sA, sZ, sS, i64_w, i32_w]
           rfl
          refine pure_ (i := 4) (N := some 36) (v := ?_) (a' := ?_) (bm 14 21) rfl rfl (any_of HT_.out (by kernel_rfl)) (fun _ _ _ h => h) (Or.inl ⟨by rfl, ?_⟩) ?_ ?_
          rotate_left
          ·intro w'
           go_simp
           with_reducible rfl
          rotate_left
          ·simp only [Act.put, sA, sZ, sS, i64_w, i32_w]
           rfl
          refine pure_ (i := 6) (N := some 38) (v := ?_) (a' := ?_) (bm 14 85) rfl rfl (any_of HT_.out (by kernel_rfl)) (fun _ _ _ h => h) (Or.inl ⟨by rfl, ?_⟩) ?_ ?_
          rotate_left
          ·intro w'
           go_simp
           with_reducible rfl
          rotate_left
          ·simp only [Act.put, sA, sZ, sS, i64_w, i32_w]
           rfl
          refine pure_ (i := 8) (N := some 40) (v := ?_) (a' := ?_) (bm 14 341) rfl rfl (any_of HT_.out (by kernel_rfl)) (fun _ _ _ h => h) (Or.inl ⟨by rfl, ?_⟩) ?_ ?_
          rotate_left
          ·intro w'
           go_simp
           with_reducible rfl
          rotate_left
          ·simp only [Act.put, sA, sZ, sS, i64_w, i32_w]
           rfl
          refine take_ (i := 1) (N := some 33) (v := ?_) (a' := ?_) (bm 14 343) rfl rfl (take_ofW HT_.out HW_.out (by kernel_rfl)) (fun _ _ _ h => h) (Or.inl ⟨by rfl, ?_⟩) hHeld ?_ ?_
          rotate_left
          ·rintro w' ⟨s0, s1, s2, s3⟩
           go_simp
           with_reducible rfl
          rotate_left
          ·simp only [Act.put, sA, sZ, sS, i64_w, i32_w]
           rfl
          refine take_ (i := 3) (N := some 35) (v := ?_) (a' := ?_) (bm 14 351) rfl rfl (take_ofW HT_.out HW_.out (by kernel_rfl)) (fun _ _ _ h => h) (Or.inl ⟨by rfl, ?_⟩) hHeld ?_ ?_
          rotate_left
          ·rintro w' ⟨s0, s1, s2, s3⟩
           go_simp
           with_reducible rfl
          rotate_left
          ·simp only [Act.put, sA, sZ, sS, i64_w, i32_w]
           rfl
          refine take_ (i := 5) (N := some 37) (v := ?_) (a' := ?_) (bm 14 383) rfl rfl (take_ofW HT_.out HW_.out (by kernel_rfl)) (fun _ _ _ h => h) (Or.inl ⟨by rfl, ?_⟩) hHeld ?_ ?_
          rotate_left
          ·rintro w' ⟨s0, s1, s2, s3⟩
           go_simp
           with_reducible rfl
          rotate_left
          ·simp only [Act.put, sA, sZ, sS, i64_w, i32_w]
           rfl
          refine take_ (i := 7) (N := some 39) (v := ?_) (a' := ?_) (bm 14 511) rfl rfl (take_ofW HT_.out HW_.out (by kernel_rfl)) (fun _ _ _ h => h) (Or.inl ⟨by rfl, ?_⟩) hHeld ?_ ?_
          rotate_left
          ·rintro w' ⟨s0, s1, s2, s3⟩
           go_simp
           with_reducible rfl
          rotate_left
          ·simp only [Act.put, sA, sZ, sS, i64_w, i32_w]
           rfl
          refine pure_ (i := 9) (N := some 41) (v := ?_) (a' := ?_) (bm 14 1023) rfl rfl (any_of HT_.out (by kernel_rfl)) (fun _ _ _ h => h) (Or.inl ⟨by rfl, ?_⟩) ?_ ?_
          rotate_left
          ·intro w'
           go_simp
           with_reducible rfl
          rotate_left
          ·simp only [Act.put, sA, sZ, sS, i64_w, i32_w]
           rfl
          refine pure_ (i := 10) (N := some 42) (v := ?_) (a' := ?_) (bm 14 2047) rfl rfl (any_of HT_.out (by kernel_rfl)) (fun _ _ _ h => h) (Or.inl ⟨by rfl, ?_⟩) ?_ ?_
          rotate_left
          ·intro w'
           go_simp
           with_reducible rfl
          rotate_left
          ·simp only [Act.put, sA, sZ, sS, i64_w, i32_w]
           rfl
          refine pure_ (i := 11) (N := some 43) (v := ?_) (a' := ?_) (bm 14 4095) rfl rfl (any_of HT_.out (by kernel_rfl)) (fun _ _ _ h => h) (Or.inl ⟨by rfl, ?_⟩) ?_ ?_
          rotate_left
          ·intro w'
           go_simp
           with_reducible rfl
          rotate_left
          ·simp only [Act.put, sA, sZ, sS, i64_w, i32_w]
           rfl
          refine one_ (i := 12) (N := some 8) (bm 14 8191) rfl rfl (one_of HT_.out (by kernel_rfl)) (by decide) (fun K hK => ?_)
          refine box_step ?hg (N := 8) ?hd (cs := #[.int .i64 0, .int .i64 0, .int .i64 0, .int .i64 0, .bool false, .string (⟨#[]⟩ : ByteArray), .slice none 0 0]) (t := 28) ?hr ?_; (case hd => rfl); (case hg => rfl); (case hr => first | (go_simp; done) | (go_simp; rfl))
          intro gb125 hg w36 hbox hb
          have n0_ := bX BK120 hb
          have n1_ := bX BK121 hb
          have n2_ := bX BK122 hb
          have n3_ := bS HB hb
          have n4_ := Aside0.mk (hbox)
          have n5_ := Aside0.mk ((by rw [hg]; exact (below_size (by repeat (first | (with_reducible first | exact HB.out | apply below_alloc | apply pw_below_drewN | apply below_drew1 | refine below_set ?_ GE120.out | refine below_set ?_ GE121.out | refine below_set ?_ GE122.out) | exact HB.out))) : w.heap.size ≤ gb125))
          have n6_ := Aside0.mk ((by rw [hg]; exact (below_size (by repeat (first | (with_reducible first | exact HB.out | apply below_alloc | apply pw_below_drewN | apply below_drew1 | refine below_set ?_ GE120.out | refine below_set ?_ GE121.out | refine below_set ?_ GE122.out) | exact HB.out))) : w.heap.size ≤ gb125))
          have n7_ := Aside0.mk ((by rw [hg]; exact Nat.ne_of_lt (bLt BK120) : gb120 ≠ gb125))
          have n8_ := Aside0.mk ((by rw [hg]; exact Nat.ne_of_gt (bLt BK120) : gb125 ≠ gb120))
          have n9_ := Aside0.mk ((by rw [hg]; exact Nat.ne_of_lt (bLt BK121) : gb121 ≠ gb125))
          have n10_ := Aside0.mk ((by rw [hg]; exact Nat.ne_of_gt (bLt BK121) : gb125 ≠ gb121))
          have n11_ := Aside0.mk ((by rw [hg]; exact Nat.ne_of_lt (bLt BK122) : gb122 ≠ gb125))
          have n12_ := Aside0.mk ((by rw [hg]; exact Nat.ne_of_gt (bLt BK122) : gb125 ≠ gb122))
          clear BK120
          clear BK121
          clear BK122
          clear HB
          have BK120 := n0_
          have BK121 := n1_
          have BK122 := n2_
          have HB := n3_
          have BK125 := n4_
          have GW125 := n5_
          have GE125 := n6_
          have NB120_125 := n7_
          have NB125_120 := n8_
          have NB121_125 := n9_
          have NB125_121 := n10_
          have NB122_125 := n11_
          have NB125_122 := n12_
          clear n0_ n1_ n2_ n3_ n4_ n5_ n6_ n7_ n8_ n9_ n10_ n11_ n12_
          clear hb hbox hg
          refine hK.out _ _ (cz4 BK120) (fun hHeld => ?_)
          clear hK K
          refine norm_ (a' := ?_) ?_ ?_
          rotate_left
          ·show Act.put _ (some 8) _ = _
           simp only [Act.put, sA, sZ, sS, i64_w, i32_w]
           rfl
          refine one_ (i := 13) (N := none) (bm 14 16383) rfl rfl (one_of HT_.out (by kernel_rfl)) (by decide) (fun K hK => ?_)
          have hs37 : w36.cell? ⟨gb125, 0, none⟩ = some (.int .i64 0) := (blk_cell BK125.out 0).trans rfl
          have hfs37 := blk_frozen BK125.out 0
          have hns37_0 := NB120_125.out
          have hns37_1 := NB121_125.out
          have hns37_2 := NB122_125.out
          have hms37_0 := NB125_120.out
          have hms37_1 := NB125_121.out
          have hms37_2 := NB125_122.out
          have hs38 : w36.cell? ⟨gb125, 1, none⟩ = some (.int .i64 0) := (blk_cell BK125.out 1).trans rfl
          have hfs38 := blk_frozen BK125.out 1
          have hns38_0 := NB120_125.out
          have hns38_1 := NB121_125.out
          have hns38_2 := NB122_125.out
          have hms38_0 := NB125_120.out
          have hms38_1 := NB125_121.out
          have hms38_2 := NB125_122.out
          have hs39 : w36.cell? ⟨gb125, 2, none⟩ = some (.int .i64 0) := (blk_cell BK125.out 2).trans rfl
          have hfs39 := blk_frozen BK125.out 2
          have hns39_0 := NB120_125.out
          have hns39_1 := NB121_125.out
          have hns39_2 := NB122_125.out
          have hms39_0 := NB125_120.out
          have hms39_1 := NB125_121.out
          have hms39_2 := NB125_122.out
          have hs40 : w36.cell? ⟨gb125, 3, none⟩ = some (.int .i64 0) := (blk_cell BK125.out 3).trans rfl
          have hfs40 := blk_frozen BK125.out 3
          have hns40_0 := NB120_125.out
          have hns40_1 := NB121_125.out
          have hns40_2 := NB122_125.out
          have hms40_0 := NB125_120.out
          have hms40_1 := NB125_121.out
          have hms40_2 := NB125_122.out
          have hs41 : w36.cell? ⟨gb125, 4, none⟩ = some (.bool false) := (blk_cell BK125.out 4).trans rfl
          have hfs41 := blk_frozen BK125.out 4
          have hns41_0 := NB120_125.out
          have hns41_1 := NB121_125.out
          have hns41_2 := NB122_125.out
          have hms41_0 := NB125_120.out
          have hms41_1 := NB125_121.out
          have hms41_2 := NB125_122.out
          have hs42 : w36.cell? ⟨gb125, 5, none⟩ = some (.string (⟨#[]⟩ : ByteArray)) := (blk_cell BK125.out 5).trans rfl
          have hfs42 := blk_frozen BK125.out 5
          have hns42_0 := NB120_125.out
          have hns42_1 := NB121_125.out
          have hns42_2 := NB122_125.out
          have hms42_0 := NB125_120.out
          have hms42_1 := NB125_121.out
          have hms42_2 := NB125_122.out
          have hs43 : w36.cell? ⟨gb125, 6, none⟩ = some (.slice none 0 0) := (blk_cell BK125.out 6).trans rfl
          have hfs43 := blk_frozen BK125.out 6
          have hns43_0 := NB120_125.out
          have hns43_1 := NB121_125.out
          have hns43_2 := NB122_125.out
          have hms43_0 := NB125_120.out
          have hms43_1 := NB125_121.out
          have hms43_2 := NB125_122.out
          refine skip_ (w1 := ?_) (by rfl) rfl ?_ ?_
          rotate_left
          ·go_simp
           rfl
          refine hK.out _ _ ⟨((cell_far (p := ⟨gb125, _, none⟩) NB120_125.out _).trans (((cell_far (p := ⟨gb125, _, none⟩) NB120_125.out _).trans (((cell_far (p := ⟨gb125, _, none⟩) NB120_125.out _).trans (((cell_far (p := ⟨gb125, _, none⟩) NB120_125.out _).trans (((cell_far (p := ⟨gb125, _, none⟩) NB120_125.out _).trans (((cell_far (p := ⟨gb125, _, none⟩) NB120_125.out _).trans (((cell_far (p := ⟨gb125, _, none⟩) NB120_125.out _).trans (hHeld.1)))))))))))))), ((cell_far (p := ⟨gb125, _, none⟩) NB120_125.out _).trans (((cell_far (p := ⟨gb125, _, none⟩) NB120_125.out _).trans (((cell_far (p := ⟨gb125, _, none⟩) NB120_125.out _).trans (((cell_far (p := ⟨gb125, _, none⟩) NB120_125.out _).trans (((cell_far (p := ⟨gb125, _, none⟩) NB120_125.out _).trans (((cell_far (p := ⟨gb125, _, none⟩) NB120_125.out _).trans (((cell_far (p := ⟨gb125, _, none⟩) NB120_125.out _).trans (hHeld.2.1)))))))))))))), ((cell_far (p := ⟨gb125, _, none⟩) NB120_125.out _).trans (((cell_far (p := ⟨gb125, _, none⟩) NB120_125.out _).trans (((cell_far (p := ⟨gb125, _, none⟩) NB120_125.out _).trans (((cell_far (p := ⟨gb125, _, none⟩) NB120_125.out _).trans (((cell_far (p := ⟨gb125, _, none⟩) NB120_125.out _).trans (((cell_far (p := ⟨gb125, _, none⟩) NB120_125.out _).trans (((cell_far (p := ⟨gb125, _, none⟩) NB120_125.out _).trans (hHeld.2.2.1)))))))))))))), ((cell_far (p := ⟨gb125, _, none⟩) NB120_125.out _).trans (((cell_far (p := ⟨gb125, _, none⟩) NB120_125.out _).trans (((cell_far (p := ⟨gb125, _, none⟩) NB120_125.out _).trans (((cell_far (p := ⟨gb125, _, none⟩) NB120_125.out _).trans (((cell_far (p := ⟨gb125, _, none⟩) NB120_125.out _).trans (((cell_far (p := ⟨gb125, _, none⟩) NB120_125.out _).trans (((cell_far (p := ⟨gb125, _, none⟩) NB120_125.out _).trans (hHeld.2.2.2))))))))))))))⟩ (fun hHeld => ?_)
          clear hK K
          refine done_ (done_of HT_.out (by kernel_rfl)) ?_
          have hnb44 := NB120_125.out
          have hnc44 := NB125_120.out
          obtain ⟨hcz45_0, hcz45_1, hcz45_2, hcz45_3⟩ := cz4 BK120
          obtain ⟨hfz45_0, hfz45_1, hfz45_2, hfz45_3⟩ := fz4 BK120
          have hnb46 := NB125_121.out
          have hnc46 := NB121_125.out
          have hnb47 := NB125_122.out
          have hnc47 := NB122_125.out
          obtain ⟨hcz48_0, hcz48_1, hcz48_2, hcz48_3, hcz48_4, hcz48_5, hcz48_6⟩ := cz7 BK125
          obtain ⟨hfz48_0, hfz48_1, hfz48_2, hfz48_3, hfz48_4, hfz48_5, hfz48_6⟩ := fz7 BK125
          try go_wp2
          have n0_ : Aside0 ((((((((((w36.setCell ⟨gb125, 0, none⟩ (.int .i64 8)).setCell ⟨gb125, 1, none⟩ (.int .i64 0)).setCell ⟨gb125, 2, none⟩ (.int .i64 a0_1)).setCell ⟨gb125, 3, none⟩ (.int .i64 0)).setCell ⟨gb125, 4, none⟩ (.bool false)).setCell ⟨gb125, 5, none⟩ (.string (a0_2.extract (a0_1 : Int).toNat ((wrap64 (a0_1 + (ji25))) : Int).toNat))).setCell ⟨gb125, 6, none⟩ (.slice none 0 0)).setCell ⟨gb125, 4, none⟩ (.bool true)).setCell ⟨gb120, 1, none⟩ (.int .i64 (wrap64 (a0_1 + (ji25))))).heap[gb120]? = some (.cells #[.int .i64 a0_0, .int .i64 (wrap64 (a0_1 + (ji25))), .string a0_2, .bool true] 25 (0, 0))) := ⟨by (with_reducible repeat (first | refine bN ?_ _ | refine bD ?_ | refine bA ?_ _)); refine blk_put (cs := #[.int .i64 a0_0, .int .i64 a0_1, .string a0_2, .bool true]) ?_ 1 _ rfl; (with_reducible repeat (first | refine bN ?_ _ | refine bD ?_ | refine bA ?_ _)); refine blk_far ?_ NB120_125.out _; (with_reducible repeat (first | refine bN ?_ _ | refine bD ?_ | refine bA ?_ _)); refine blk_far ?_ NB120_125.out _; (with_reducible repeat (first | refine bN ?_ _ | refine bD ?_ | refine bA ?_ _)); refine blk_far ?_ NB120_125.out _; (with_reducible repeat (first | refine bN ?_ _ | refine bD ?_ | refine bA ?_ _)); refine blk_far ?_ NB120_125.out _; (with_reducible repeat (first | refine bN ?_ _ | refine bD ?_ | refine bA ?_ _)); refine blk_far ?_ NB120_125.out _; (with_reducible repeat (first | refine bN ?_ _ | refine bD ?_ | refine bA ?_ _)); refine blk_far ?_ NB120_125.out _; (with_reducible repeat (first | refine bN ?_ _ | refine bD ?_ | refine bA ?_ _)); refine blk_far ?_ NB120_125.out _; (with_reducible repeat (first | refine bN ?_ _ | refine bD ?_ | refine bA ?_ _)); refine blk_far ?_ NB120_125.out _; (with_reducible repeat (first | refine bN ?_ _ | refine bD ?_ | refine bA ?_ _)); exact BK120.out⟩
          have n1_ : Aside0 ((((((((((w36.setCell ⟨gb125, 0, none⟩ (.int .i64 8)).setCell ⟨gb125, 1, none⟩ (.int .i64 0)).setCell ⟨gb125, 2, none⟩ (.int .i64 a0_1)).setCell ⟨gb125, 3, none⟩ (.int .i64 0)).setCell ⟨gb125, 4, none⟩ (.bool false)).setCell ⟨gb125, 5, none⟩ (.string (a0_2.extract (a0_1 : Int).toNat ((wrap64 (a0_1 + (ji25))) : Int).toNat))).setCell ⟨gb125, 6, none⟩ (.slice none 0 0)).setCell ⟨gb125, 4, none⟩ (.bool true)).setCell ⟨gb120, 1, none⟩ (.int .i64 (wrap64 (a0_1 + (ji25))))).heap[gb121]? = some (.cells #[.int .i64 0, .int .i64 0, .string (⟨#[]⟩ : ByteArray), .bool false] 25 (0, 0))) := ⟨by (with_reducible repeat (first | refine bN ?_ _ | refine bD ?_ | refine bA ?_ _)); refine blk_far ?_ NB121_120.out _; (with_reducible repeat (first | refine bN ?_ _ | refine bD ?_ | refine bA ?_ _)); refine blk_far ?_ NB121_125.out _; (with_reducible repeat (first | refine bN ?_ _ | refine bD ?_ | refine bA ?_ _)); refine blk_far ?_ NB121_125.out _; (with_reducible repeat (first | refine bN ?_ _ | refine bD ?_ | refine bA ?_ _)); refine blk_far ?_ NB121_125.out _; (with_reducible repeat (first | refine bN ?_ _ | refine bD ?_ | refine bA ?_ _)); refine blk_far ?_ NB121_125.out _; (with_reducible repeat (first | refine bN ?_ _ | refine bD ?_ | refine bA ?_ _)); refine blk_far ?_ NB121_125.out _; (with_reducible repeat (first | refine bN ?_ _ | refine bD ?_ | refine bA ?_ _)); refine blk_far ?_ NB121_125.out _; (with_reducible repeat (first | refine bN ?_ _ | refine bD ?_ | refine bA ?_ _)); refine blk_far ?_ NB121_125.out _; (with_reducible repeat (first | refine bN ?_ _ | refine bD ?_ | refine bA ?_ _)); refine blk_far ?_ NB121_125.out _; (with_reducible repeat (first | refine bN ?_ _ | refine bD ?_ | refine bA ?_ _)); exact BK121.out⟩
          have n2_ : Aside0 ((((((((((w36.setCell ⟨gb125, 0, none⟩ (.int .i64 8)).setCell ⟨gb125, 1, none⟩ (.int .i64 0)).setCell ⟨gb125, 2, none⟩ (.int .i64 a0_1)).setCell ⟨gb125, 3, none⟩ (.int .i64 0)).setCell ⟨gb125, 4, none⟩ (.bool false)).setCell ⟨gb125, 5, none⟩ (.string (a0_2.extract (a0_1 : Int).toNat ((wrap64 (a0_1 + (ji25))) : Int).toNat))).setCell ⟨gb125, 6, none⟩ (.slice none 0 0)).setCell ⟨gb125, 4, none⟩ (.bool true)).setCell ⟨gb120, 1, none⟩ (.int .i64 (wrap64 (a0_1 + (ji25))))).heap[gb122]? = some (.cells #[.int .i64 0, .int .i64 0, .int .i64 0, .int .i64 0, .bool false, .string (⟨#[]⟩ : ByteArray), .slice none 0 0] 28 (0, 0))) := ⟨by (with_reducible repeat (first | refine bN ?_ _ | refine bD ?_ | refine bA ?_ _)); refine blk_far ?_ NB122_120.out _; (with_reducible repeat (first | refine bN ?_ _ | refine bD ?_ | refine bA ?_ _)); refine blk_far ?_ NB122_125.out _; (with_reducible repeat (first | refine bN ?_ _ | refine bD ?_ | refine bA ?_ _)); refine blk_far ?_ NB122_125.out _; (with_reducible repeat (first | refine bN ?_ _ | refine bD ?_ | refine bA ?_ _)); refine blk_far ?_ NB122_125.out _; (with_reducible repeat (first | refine bN ?_ _ | refine bD ?_ | refine bA ?_ _)); refine blk_far ?_ NB122_125.out _; (with_reducible repeat (first | refine bN ?_ _ | refine bD ?_ | refine bA ?_ _)); refine blk_far ?_ NB122_125.out _; (with_reducible repeat (first | refine bN ?_ _ | refine bD ?_ | refine bA ?_ _)); refine blk_far ?_ NB122_125.out _; (with_reducible repeat (first | refine bN ?_ _ | refine bD ?_ | refine bA ?_ _)); refine blk_far ?_ NB122_125.out _; (with_reducible repeat (first | refine bN ?_ _ | refine bD ?_ | refine bA ?_ _)); refine blk_far ?_ NB122_125.out _; (with_reducible repeat (first | refine bN ?_ _ | refine bD ?_ | refine bA ?_ _)); exact BK122.out⟩
          have n3_ : Aside0 ((((((((((w36.setCell ⟨gb125, 0, none⟩ (.int .i64 8)).setCell ⟨gb125, 1, none⟩ (.int .i64 0)).setCell ⟨gb125, 2, none⟩ (.int .i64 a0_1)).setCell ⟨gb125, 3, none⟩ (.int .i64 0)).setCell ⟨gb125, 4, none⟩ (.bool false)).setCell ⟨gb125, 5, none⟩ (.string (a0_2.extract (a0_1 : Int).toNat ((wrap64 (a0_1 + (ji25))) : Int).toNat))).setCell ⟨gb125, 6, none⟩ (.slice none 0 0)).setCell ⟨gb125, 4, none⟩ (.bool true)).setCell ⟨gb120, 1, none⟩ (.int .i64 (wrap64 (a0_1 + (ji25))))).heap[gb125]? = some (.cells #[.int .i64 8, .int .i64 0, .int .i64 a0_1, .int .i64 0, .bool true, .string (a0_2.extract (a0_1 : Int).toNat ((wrap64 (a0_1 + (ji25))) : Int).toNat), .slice none 0 0] 28 (0, 0))) := ⟨by (with_reducible repeat (first | refine bN ?_ _ | refine bD ?_ | refine bA ?_ _)); refine blk_far ?_ NB125_120.out _; (with_reducible repeat (first | refine bN ?_ _ | refine bD ?_ | refine bA ?_ _)); refine blk_put (cs := #[.int .i64 8, .int .i64 0, .int .i64 a0_1, .int .i64 0, .bool false, .string (a0_2.extract (a0_1 : Int).toNat ((wrap64 (a0_1 + (ji25))) : Int).toNat), .slice none 0 0]) ?_ 4 _ rfl; (with_reducible repeat (first | refine bN ?_ _ | refine bD ?_ | refine bA ?_ _)); refine blk_put (cs := #[.int .i64 8, .int .i64 0, .int .i64 a0_1, .int .i64 0, .bool false, .string (a0_2.extract (a0_1 : Int).toNat ((wrap64 (a0_1 + (ji25))) : Int).toNat), .slice none 0 0]) ?_ 6 _ rfl; (with_reducible repeat (first | refine bN ?_ _ | refine bD ?_ | refine bA ?_ _)); refine blk_put (cs := #[.int .i64 8, .int .i64 0, .int .i64 a0_1, .int .i64 0, .bool false, .string (⟨#[]⟩ : ByteArray), .slice none 0 0]) ?_ 5 _ rfl; (with_reducible repeat (first | refine bN ?_ _ | refine bD ?_ | refine bA ?_ _)); refine blk_put (cs := #[.int .i64 8, .int .i64 0, .int .i64 a0_1, .int .i64 0, .bool false, .string (⟨#[]⟩ : ByteArray), .slice none 0 0]) ?_ 4 _ rfl; (with_reducible repeat (first | refine bN ?_ _ | refine bD ?_ | refine bA ?_ _)); refine blk_put (cs := #[.int .i64 8, .int .i64 0, .int .i64 a0_1, .int .i64 0, .bool false, .string (⟨#[]⟩ : ByteArray), .slice none 0 0]) ?_ 3 _ rfl; (with_reducible repeat (first | refine bN ?_ _ | refine bD ?_ | refine bA ?_ _)); refine blk_put (cs := #[.int .i64 8, .int .i64 0, .int .i64 0, .int .i64 0, .bool false, .string (⟨#[]⟩ : ByteArray), .slice none 0 0]) ?_ 2 _ rfl; (with_reducible repeat (first | refine bN ?_ _ | refine bD ?_ | refine bA ?_ _)); refine blk_put (cs := #[.int .i64 8, .int .i64 0, .int .i64 0, .int .i64 0, .bool false, .string (⟨#[]⟩ : ByteArray), .slice none 0 0]) ?_ 1 _ rfl; (with_reducible repeat (first | refine bN ?_ _ | refine bD ?_ | refine bA ?_ _)); refine blk_put (cs := #[.int .i64 0, .int .i64 0, .int .i64 0, .int .i64 0, .bool false, .string (⟨#[]⟩ : ByteArray), .slice none 0 0]) ?_ 0 _ rfl; (with_reducible repeat (first | refine bN ?_ _ | refine bD ?_ | refine bA ?_ _)); exact BK125.out⟩
          have n4_ : Aside0 (Below w.heap.size w (((((((((w36.setCell ⟨gb125, 0, none⟩ (.int .i64 8)).setCell ⟨gb125, 1, none⟩ (.int .i64 0)).setCell ⟨gb125, 2, none⟩ (.int .i64 a0_1)).setCell ⟨gb125, 3, none⟩ (.int .i64 0)).setCell ⟨gb125, 4, none⟩ (.bool false)).setCell ⟨gb125, 5, none⟩ (.string (a0_2.extract (a0_1 : Int).toNat ((wrap64 (a0_1 + (ji25))) : Int).toNat))).setCell ⟨gb125, 6, none⟩ (.slice none 0 0)).setCell ⟨gb125, 4, none⟩ (.bool true)).setCell ⟨gb120, 1, none⟩ (.int .i64 (wrap64 (a0_1 + (ji25)))))) := ⟨by repeat (first | (with_reducible first | exact HB.out | apply below_alloc | apply pw_below_drewN | apply below_drew1 | refine below_set ?_ GE120.out | refine below_set ?_ GE121.out | refine below_set ?_ GE122.out | refine below_set ?_ GE125.out) | exact HB.out)⟩
          (try clear BK120)
          (try clear BK121)
          (try clear BK122)
          (try clear BK125)
          (try clear HB)
          generalize (((((((((w36.setCell ⟨gb125, 0, none⟩ (.int .i64 8)).setCell ⟨gb125, 1, none⟩ (.int .i64 0)).setCell ⟨gb125, 2, none⟩ (.int .i64 a0_1)).setCell ⟨gb125, 3, none⟩ (.int .i64 0)).setCell ⟨gb125, 4, none⟩ (.bool false)).setCell ⟨gb125, 5, none⟩ (.string (a0_2.extract (a0_1 : Int).toNat ((wrap64 (a0_1 + (ji25))) : Int).toNat))).setCell ⟨gb125, 6, none⟩ (.slice none 0 0)).setCell ⟨gb125, 4, none⟩ (.bool true)).setCell ⟨gb120, 1, none⟩ (.int .i64 (wrap64 (a0_1 + (ji25))))) = w49 at n0_ n1_ n2_ n3_ n4_ ⊢
          have BK120 := n0_
          have BK121 := n1_
          have BK122 := n2_
          have BK125 := n3_
          have HB := n4_
          clear n0_ n1_ n2_ n3_ n4_
          have n0_ := Aside0.mk (blk_drew BK120.out)
          have n1_ := Aside0.mk (blk_drew BK121.out)
          have n2_ := Aside0.mk (blk_drew BK122.out)
          have n3_ := Aside0.mk (blk_drew BK125.out)
          have n4_ := Aside0.mk (below_drew1 HB.out)
          clear BK120
          clear BK121
          clear BK122
          clear BK125
          clear HB
          have BK120 := n0_
          have BK121 := n1_
          have BK122 := n2_
          have BK125 := n3_
          have HB := n4_
          clear n0_ n1_ n2_ n3_ n4_
          refine start_ (n := 5) (S := fun w' => w'.cell? ⟨gb120, 0, none⟩ = some (.int .i64 a0_0) ∧ w'.cell? ⟨gb120, 1, none⟩ = some (.int .i64 (wrap64 (a0_1 + (ji25)))) ∧ w'.cell? ⟨gb120, 2, none⟩ = some (.string a0_2) ∧ w'.cell? ⟨gb120, 3, none⟩ = some (.bool true) ∧ w'.cell? ⟨gb125, 0, none⟩ = some (.int .i64 8) ∧ w'.cell? ⟨gb125, 1, none⟩ = some (.int .i64 0) ∧ w'.cell? ⟨gb125, 2, none⟩ = some (.int .i64 a0_1) ∧ w'.cell? ⟨gb125, 3, none⟩ = some (.int .i64 0) ∧ w'.cell? ⟨gb125, 4, none⟩ = some (.bool true) ∧ w'.cell? ⟨gb125, 5, none⟩ = some (.string (a0_2.extract (a0_1 : Int).toNat ((wrap64 (a0_1 + (ji25))) : Int).toNat)) ∧ w'.cell? ⟨gb125, 6, none⟩ = some (.slice none 0 0)) (ds := []) #[false, false, false, false, false] (by kernel_rfl) rfl rfl (cx4 BK120 (cz7 BK125)) (fun hHeld => ?_)
          generalize w49.drew = w50 at BK120 BK121 BK122 BK125 HB hHeld ⊢
          refine take_ (i := 0) (N := some 71) (v := ?_) (a' := ?_) #[true, false, false, false, false] rfl rfl (by kernel_rfl) (fun _ _ _ h => h) (Or.inl ⟨by rfl, ?_⟩) hHeld ?_ ?_
          rotate_left
          ·rintro w' ⟨s0, s1, s2, s3, s4, s5, s6, s7, s8, s9, s10⟩
           go_simp
           with_reducible rfl
          rotate_left
          ·simp only [Act.put, sA, sZ, sS, i64_w, i32_w]
           rfl
          refine take_ (i := 1) (N := some 72) (v := ?_) (a' := ?_) #[true, true, false, false, false] rfl rfl (by kernel_rfl) (fun _ _ _ h => h) (Or.inl ⟨by rfl, ?_⟩) hHeld ?_ ?_
          rotate_left
          ·rintro w' ⟨s0, s1, s2, s3, s4, s5, s6, s7, s8, s9, s10⟩
           go_simp
           with_reducible rfl
          rotate_left
          ·simp only [Act.put, sA, sZ, sS, i64_w, i32_w]
           rfl
          refine one_ (i := 2) (N := none) #[true, true, true, false, false] rfl rfl (by kernel_rfl) (by decide) (fun K hK => ?_)
          have hs51 : w50.cell? ⟨gb121, 0, none⟩ = some (.int .i64 0) := (blk_cell BK121.out 0).trans rfl
          have hfs51 := blk_frozen BK121.out 0
          have hns51_0 := NB120_121.out
          have hns51_2 := NB122_121.out
          have hns51_3 := NB125_121.out
          have hms51_0 := NB121_120.out
          have hms51_2 := NB121_122.out
          have hms51_3 := NB121_125.out
          have hs52 : w50.cell? ⟨gb121, 1, none⟩ = some (.int .i64 0) := (blk_cell BK121.out 1).trans rfl
          have hfs52 := blk_frozen BK121.out 1
          have hns52_0 := NB120_121.out
          have hns52_2 := NB122_121.out
          have hns52_3 := NB125_121.out
          have hms52_0 := NB121_120.out
          have hms52_2 := NB121_122.out
          have hms52_3 := NB121_125.out
          have hs53 : w50.cell? ⟨gb121, 2, none⟩ = some (.string (⟨#[]⟩ : ByteArray)) := (blk_cell BK121.out 2).trans rfl
          have hfs53 := blk_frozen BK121.out 2
          have hns53_0 := NB120_121.out
          have hns53_2 := NB122_121.out
          have hns53_3 := NB125_121.out
          have hms53_0 := NB121_120.out
          have hms53_2 := NB121_122.out
          have hms53_3 := NB121_125.out
          have hs54 : w50.cell? ⟨gb121, 3, none⟩ = some (.bool false) := (blk_cell BK121.out 3).trans rfl
          have hfs54 := blk_frozen BK121.out 3
          have hns54_0 := NB120_121.out
          have hns54_2 := NB122_121.out
          have hns54_3 := NB125_121.out
          have hms54_0 := NB121_120.out
          have hms54_2 := NB121_122.out
          have hms54_3 := NB121_125.out
          refine skip_ (w1 := ?_) (by rfl) rfl ?_ ?_
          rotate_left
          ·go_simp
           rfl
          refine hK.out _ _ ⟨((cell_far (p := ⟨gb121, _, none⟩) NB120_121.out _).trans (((cell_far (p := ⟨gb121, _, none⟩) NB120_121.out _).trans (((cell_far (p := ⟨gb121, _, none⟩) NB120_121.out _).trans (((cell_far (p := ⟨gb121, _, none⟩) NB120_121.out _).trans (hHeld.1)))))))), ((cell_far (p := ⟨gb121, _, none⟩) NB120_121.out _).trans (((cell_far (p := ⟨gb121, _, none⟩) NB120_121.out _).trans (((cell_far (p := ⟨gb121, _, none⟩) NB120_121.out _).trans (((cell_far (p := ⟨gb121, _, none⟩) NB120_121.out _).trans (hHeld.2.1)))))))), ((cell_far (p := ⟨gb121, _, none⟩) NB120_121.out _).trans (((cell_far (p := ⟨gb121, _, none⟩) NB120_121.out _).trans (((cell_far (p := ⟨gb121, _, none⟩) NB120_121.out _).trans (((cell_far (p := ⟨gb121, _, none⟩) NB120_121.out _).trans (hHeld.2.2.1)))))))), ((cell_far (p := ⟨gb121, _, none⟩) NB120_121.out _).trans (((cell_far (p := ⟨gb121, _, none⟩) NB120_121.out _).trans (((cell_far (p := ⟨gb121, _, none⟩) NB120_121.out _).trans (((cell_far (p := ⟨gb121, _, none⟩) NB120_121.out _).trans (hHeld.2.2.2.1)))))))), ((cell_far (p := ⟨gb121, _, none⟩) NB125_121.out _).trans (((cell_far (p := ⟨gb121, _, none⟩) NB125_121.out _).trans (((cell_far (p := ⟨gb121, _, none⟩) NB125_121.out _).trans (((cell_far (p := ⟨gb121, _, none⟩) NB125_121.out _).trans (hHeld.2.2.2.2.1)))))))), ((cell_far (p := ⟨gb121, _, none⟩) NB125_121.out _).trans (((cell_far (p := ⟨gb121, _, none⟩) NB125_121.out _).trans (((cell_far (p := ⟨gb121, _, none⟩) NB125_121.out _).trans (((cell_far (p := ⟨gb121, _, none⟩) NB125_121.out _).trans (hHeld.2.2.2.2.2.1)))))))), ((cell_far (p := ⟨gb121, _, none⟩) NB125_121.out _).trans (((cell_far (p := ⟨gb121, _, none⟩) NB125_121.out _).trans (((cell_far (p := ⟨gb121, _, none⟩) NB125_121.out _).trans (((cell_far (p := ⟨gb121, _, none⟩) NB125_121.out _).trans (hHeld.2.2.2.2.2.2.1)))))))), ((cell_far (p := ⟨gb121, _, none⟩) NB125_121.out _).trans (((cell_far (p := ⟨gb121, _, none⟩) NB125_121.out _).trans (((cell_far (p := ⟨gb121, _, none⟩) NB125_121.out _).trans (((cell_far (p := ⟨gb121, _, none⟩) NB125_121.out _).trans (hHeld.2.2.2.2.2.2.2.1)))))))), ((cell_far (p := ⟨gb121, _, none⟩) NB125_121.out _).trans (((cell_far (p := ⟨gb121, _, none⟩) NB125_121.out _).trans (((cell_far (p := ⟨gb121, _, none⟩) NB125_121.out _).trans (((cell_far (p := ⟨gb121, _, none⟩) NB125_121.out _).trans (hHeld.2.2.2.2.2.2.2.2.1)))))))), ((cell_far (p := ⟨gb121, _, none⟩) NB125_121.out _).trans (((cell_far (p := ⟨gb121, _, none⟩) NB125_121.out _).trans (((cell_far (p := ⟨gb121, _, none⟩) NB125_121.out _).trans (((cell_far (p := ⟨gb121, _, none⟩) NB125_121.out _).trans (hHeld.2.2.2.2.2.2.2.2.2.1)))))))), ((cell_far (p := ⟨gb121, _, none⟩) NB125_121.out _).trans (((cell_far (p := ⟨gb121, _, none⟩) NB125_121.out _).trans (((cell_far (p := ⟨gb121, _, none⟩) NB125_121.out _).trans (((cell_far (p := ⟨gb121, _, none⟩) NB125_121.out _).trans (hHeld.2.2.2.2.2.2.2.2.2.2))))))))⟩ (fun hHeld => ?_)
          clear hK K
          refine one_ (i := 3) (N := none) #[true, true, true, true, false] rfl rfl (by kernel_rfl) (by decide) (fun K hK => ?_)
          have hs55 : w50.cell? ⟨gb122, 0, none⟩ = some (.int .i64 0) := (blk_cell BK122.out 0).trans rfl
          have hfs55 := blk_frozen BK122.out 0
          have hns55_0 := NB120_122.out
          have hns55_1 := NB121_122.out
          have hns55_3 := NB125_122.out
          have hms55_0 := NB122_120.out
          have hms55_1 := NB122_121.out
          have hms55_3 := NB122_125.out
          have hs56 : w50.cell? ⟨gb122, 1, none⟩ = some (.int .i64 0) := (blk_cell BK122.out 1).trans rfl
          have hfs56 := blk_frozen BK122.out 1
          have hns56_0 := NB120_122.out
          have hns56_1 := NB121_122.out
          have hns56_3 := NB125_122.out
          have hms56_0 := NB122_120.out
          have hms56_1 := NB122_121.out
          have hms56_3 := NB122_125.out
          have hs57 : w50.cell? ⟨gb122, 2, none⟩ = some (.int .i64 0) := (blk_cell BK122.out 2).trans rfl
          have hfs57 := blk_frozen BK122.out 2
          have hns57_0 := NB120_122.out
          have hns57_1 := NB121_122.out
          have hns57_3 := NB125_122.out
          have hms57_0 := NB122_120.out
          have hms57_1 := NB122_121.out
          have hms57_3 := NB122_125.out
          have hs58 : w50.cell? ⟨gb122, 3, none⟩ = some (.int .i64 0) := (blk_cell BK122.out 3).trans rfl
          have hfs58 := blk_frozen BK122.out 3
          have hns58_0 := NB120_122.out
          have hns58_1 := NB121_122.out
          have hns58_3 := NB125_122.out
          have hms58_0 := NB122_120.out
          have hms58_1 := NB122_121.out
          have hms58_3 := NB122_125.out
          have hs59 : w50.cell? ⟨gb122, 4, none⟩ = some (.bool false) := (blk_cell BK122.out 4).trans rfl
          have hfs59 := blk_frozen BK122.out 4
          have hns59_0 := NB120_122.out
          have hns59_1 := NB121_122.out
          have hns59_3 := NB125_122.out
          have hms59_0 := NB122_120.out
          have hms59_1 := NB122_121.out
          have hms59_3 := NB122_125.out
          have hs60 : w50.cell? ⟨gb122, 5, none⟩ = some (.string (⟨#[]⟩ : ByteArray)) := (blk_cell BK122.out 5).trans rfl
          have hfs60 := blk_frozen BK122.out 5
          have hns60_0 := NB120_122.out
          have hns60_1 := NB121_122.out
          have hns60_3 := NB125_122.out
          have hms60_0 := NB122_120.out
          have hms60_1 := NB122_121.out
          have hms60_3 := NB122_125.out
          have hs61 : w50.cell? ⟨gb122, 6, none⟩ = some (.slice none 0 0) := (blk_cell BK122.out 6).trans rfl
          have hfs61 := blk_frozen BK122.out 6
          have hns61_0 := NB120_122.out
          have hns61_1 := NB121_122.out
          have hns61_3 := NB125_122.out
          have hms61_0 := NB122_120.out
          have hms61_1 := NB122_121.out
          have hms61_3 := NB122_125.out
          refine skip_ (w1 := ?_) (by rfl) rfl ?_ ?_
          rotate_left
          ·go_simp
           rfl
          refine hK.out _ _ ⟨((cell_far (p := ⟨gb122, _, none⟩) NB120_122.out _).trans (((cell_far (p := ⟨gb122, _, none⟩) NB120_122.out _).trans (((cell_far (p := ⟨gb122, _, none⟩) NB120_122.out _).trans (((cell_far (p := ⟨gb122, _, none⟩) NB120_122.out _).trans (((cell_far (p := ⟨gb122, _, none⟩) NB120_122.out _).trans (((cell_far (p := ⟨gb122, _, none⟩) NB120_122.out _).trans (((cell_far (p := ⟨gb122, _, none⟩) NB120_122.out _).trans (hHeld.1)))))))))))))), ((cell_far (p := ⟨gb122, _, none⟩) NB120_122.out _).trans (((cell_far (p := ⟨gb122, _, none⟩) NB120_122.out _).trans (((cell_far (p := ⟨gb122, _, none⟩) NB120_122.out _).trans (((cell_far (p := ⟨gb122, _, none⟩) NB120_122.out _).trans (((cell_far (p := ⟨gb122, _, none⟩) NB120_122.out _).trans (((cell_far (p := ⟨gb122, _, none⟩) NB120_122.out _).trans (((cell_far (p := ⟨gb122, _, none⟩) NB120_122.out _).trans (hHeld.2.1)))))))))))))), ((cell_far (p := ⟨gb122, _, none⟩) NB120_122.out _).trans (((cell_far (p := ⟨gb122, _, none⟩) NB120_122.out _).trans (((cell_far (p := ⟨gb122, _, none⟩) NB120_122.out _).trans (((cell_far (p := ⟨gb122, _, none⟩) NB120_122.out _).trans (((cell_far (p := ⟨gb122, _, none⟩) NB120_122.out _).trans (((cell_far (p := ⟨gb122, _, none⟩) NB120_122.out _).trans (((cell_far (p := ⟨gb122, _, none⟩) NB120_122.out _).trans (hHeld.2.2.1)))))))))))))), ((cell_far (p := ⟨gb122, _, none⟩) NB120_122.out _).trans (((cell_far (p := ⟨gb122, _, none⟩) NB120_122.out _).trans (((cell_far (p := ⟨gb122, _, none⟩) NB120_122.out _).trans (((cell_far (p := ⟨gb122, _, none⟩) NB120_122.out _).trans (((cell_far (p := ⟨gb122, _, none⟩) NB120_122.out _).trans (((cell_far (p := ⟨gb122, _, none⟩) NB120_122.out _).trans (((cell_far (p := ⟨gb122, _, none⟩) NB120_122.out _).trans (hHeld.2.2.2.1)))))))))))))), ((cell_far (p := ⟨gb122, _, none⟩) NB125_122.out _).trans (((cell_far (p := ⟨gb122, _, none⟩) NB125_122.out _).trans (((cell_far (p := ⟨gb122, _, none⟩) NB125_122.out _).trans (((cell_far (p := ⟨gb122, _, none⟩) NB125_122.out _).trans (((cell_far (p := ⟨gb122, _, none⟩) NB125_122.out _).trans (((cell_far (p := ⟨gb122, _, none⟩) NB125_122.out _).trans (((cell_far (p := ⟨gb122, _, none⟩) NB125_122.out _).trans (hHeld.2.2.2.2.1)))))))))))))), ((cell_far (p := ⟨gb122, _, none⟩) NB125_122.out _).trans (((cell_far (p := ⟨gb122, _, none⟩) NB125_122.out _).trans (((cell_far (p := ⟨gb122, _, none⟩) NB125_122.out _).trans (((cell_far (p := ⟨gb122, _, none⟩) NB125_122.out _).trans (((cell_far (p := ⟨gb122, _, none⟩) NB125_122.out _).trans (((cell_far (p := ⟨gb122, _, none⟩) NB125_122.out _).trans (((cell_far (p := ⟨gb122, _, none⟩) NB125_122.out _).trans (hHeld.2.2.2.2.2.1)))))))))))))), ((cell_far (p := ⟨gb122, _, none⟩) NB125_122.out _).trans (((cell_far (p := ⟨gb122, _, none⟩) NB125_122.out _).trans (((cell_far (p := ⟨gb122, _, none⟩) NB125_122.out _).trans (((cell_far (p := ⟨gb122, _, none⟩) NB125_122.out _).trans (((cell_far (p := ⟨gb122, _, none⟩) NB125_122.out _).trans (((cell_far (p := ⟨gb122, _, none⟩) NB125_122.out _).trans (((cell_far (p := ⟨gb122, _, none⟩) NB125_122.out _).trans (hHeld.2.2.2.2.2.2.1)))))))))))))), ((cell_far (p := ⟨gb122, _, none⟩) NB125_122.out _).trans (((cell_far (p := ⟨gb122, _, none⟩) NB125_122.out _).trans (((cell_far (p := ⟨gb122, _, none⟩) NB125_122.out _).trans (((cell_far (p := ⟨gb122, _, none⟩) NB125_122.out _).trans (((cell_far (p := ⟨gb122, _, none⟩) NB125_122.out _).trans (((cell_far (p := ⟨gb122, _, none⟩) NB125_122.out _).trans (((cell_far (p := ⟨gb122, _, none⟩) NB125_122.out _).trans (hHeld.2.2.2.2.2.2.2.1)))))))))))))), ((cell_far (p := ⟨gb122, _, none⟩) NB125_122.out _).trans (((cell_far (p := ⟨gb122, _, none⟩) NB125_122.out _).trans (((cell_far (p := ⟨gb122, _, none⟩) NB125_122.out _).trans (((cell_far (p := ⟨gb122, _, none⟩) NB125_122.out _).trans (((cell_far (p := ⟨gb122, _, none⟩) NB125_122.out _).trans (((cell_far (p := ⟨gb122, _, none⟩) NB125_122.out _).trans (((cell_far (p := ⟨gb122, _, none⟩) NB125_122.out _).trans (hHeld.2.2.2.2.2.2.2.2.1)))))))))))))), ((cell_far (p := ⟨gb122, _, none⟩) NB125_122.out _).trans (((cell_far (p := ⟨gb122, _, none⟩) NB125_122.out _).trans (((cell_far (p := ⟨gb122, _, none⟩) NB125_122.out _).trans (((cell_far (p := ⟨gb122, _, none⟩) NB125_122.out _).trans (((cell_far (p := ⟨gb122, _, none⟩) NB125_122.out _).trans (((cell_far (p := ⟨gb122, _, none⟩) NB125_122.out _).trans (((cell_far (p := ⟨gb122, _, none⟩) NB125_122.out _).trans (hHeld.2.2.2.2.2.2.2.2.2.1)))))))))))))), ((cell_far (p := ⟨gb122, _, none⟩) NB125_122.out _).trans (((cell_far (p := ⟨gb122, _, none⟩) NB125_122.out _).trans (((cell_far (p := ⟨gb122, _, none⟩) NB125_122.out _).trans (((cell_far (p := ⟨gb122, _, none⟩) NB125_122.out _).trans (((cell_far (p := ⟨gb122, _, none⟩) NB125_122.out _).trans (((cell_far (p := ⟨gb122, _, none⟩) NB125_122.out _).trans (((cell_far (p := ⟨gb122, _, none⟩) NB125_122.out _).trans (hHeld.2.2.2.2.2.2.2.2.2.2))))))))))))))⟩ (fun hHeld => ?_)
          clear hK K
          refine pure_ (i := 4) (N := some 6) (v := ?_) (a' := ?_) #[true, true, true, true, true] rfl rfl (by kernel_rfl) (fun _ _ _ h => h) (Or.inl ⟨by rfl, ?_⟩) ?_ ?_
          rotate_left
          ·intro w'
           go_simp
           with_reducible rfl
          rotate_left
          ·simp only [Act.put, sA, sZ, sS, i64_w, i32_w]
           rfl
          refine done_ (by kernel_rfl) ?_
          try go_wp2
          refine bodyPost_ret (results_list (rs := [.cell 4 25, .cell 5 28, .tmp 6]) rfl (by simp) (.cell gb121 25 #[.int .i64 a0_0, .int .i64 (wrap64 (a0_1 + (ji25))), .string a0_2, .bool true] (0, 0) _ rfl (by (with_reducible repeat (first | refine bN ?_ _ | refine bD ?_ | refine bA ?_ _)); refine blk_far ?_ NB121_122.out _; (with_reducible repeat (first | refine bN ?_ _ | refine bD ?_ | refine bA ?_ _)); refine blk_far ?_ NB121_122.out _; (with_reducible repeat (first | refine bN ?_ _ | refine bD ?_ | refine bA ?_ _)); refine blk_far ?_ NB121_122.out _; (with_reducible repeat (first | refine bN ?_ _ | refine bD ?_ | refine bA ?_ _)); refine blk_far ?_ NB121_122.out _; (with_reducible repeat (first | refine bN ?_ _ | refine bD ?_ | refine bA ?_ _)); refine blk_far ?_ NB121_122.out _; (with_reducible repeat (first | refine bN ?_ _ | refine bD ?_ | refine bA ?_ _)); refine blk_far ?_ NB121_122.out _; (with_reducible repeat (first | refine bN ?_ _ | refine bD ?_ | refine bA ?_ _)); refine blk_far ?_ NB121_122.out _; (with_reducible repeat (first | refine bN ?_ _ | refine bD ?_ | refine bA ?_ _)); refine blk_put (cs := #[.int .i64 a0_0, .int .i64 (wrap64 (a0_1 + (ji25))), .string a0_2, .bool false]) ?_ 3 _ rfl; (with_reducible repeat (first | refine bN ?_ _ | refine bD ?_ | refine bA ?_ _)); refine blk_put (cs := #[.int .i64 a0_0, .int .i64 (wrap64 (a0_1 + (ji25))), .string (⟨#[]⟩ : ByteArray), .bool false]) ?_ 2 _ rfl; (with_reducible repeat (first | refine bN ?_ _ | refine bD ?_ | refine bA ?_ _)); refine blk_put (cs := #[.int .i64 a0_0, .int .i64 0, .string (⟨#[]⟩ : ByteArray), .bool false]) ?_ 1 _ rfl; (with_reducible repeat (first | refine bN ?_ _ | refine bD ?_ | refine bA ?_ _)); refine blk_put (cs := #[.int .i64 0, .int .i64 0, .string (⟨#[]⟩ : ByteArray), .bool false]) ?_ 0 _ rfl; (with_reducible repeat (first | refine bN ?_ _ | refine bD ?_ | refine bA ?_ _)); exact BK121.out) Try.underlying25 rfl (by kernel_rfl) (.cell gb122 28 #[.int .i64 8, .int .i64 0, .int .i64 a0_1, .int .i64 0, .bool true, .string (a0_2.extract (a0_1 : Int).toNat ((wrap64 (a0_1 + (ji25))) : Int).toNat), .slice none 0 0] (0, 0) _ rfl (by (with_reducible repeat (first | refine bN ?_ _ | refine bD ?_ | refine bA ?_ _)); refine blk_put (cs := #[.int .i64 8, .int .i64 0, .int .i64 a0_1, .int .i64 0, .bool true, .string (a0_2.extract (a0_1 : Int).toNat ((wrap64 (a0_1 + (ji25))) : Int).toNat), .slice none 0 0]) ?_ 6 _ rfl; (with_reducible repeat (first | refine bN ?_ _ | refine bD ?_ | refine bA ?_ _)); refine blk_put (cs := #[.int .i64 8, .int .i64 0, .int .i64 a0_1, .int .i64 0, .bool true, .string (⟨#[]⟩ : ByteArray), .slice none 0 0]) ?_ 5 _ rfl; (with_reducible repeat (first | refine bN ?_ _ | refine bD ?_ | refine bA ?_ _)); refine blk_put (cs := #[.int .i64 8, .int .i64 0, .int .i64 a0_1, .int .i64 0, .bool false, .string (⟨#[]⟩ : ByteArray), .slice none 0 0]) ?_ 4 _ rfl; (with_reducible repeat (first | refine bN ?_ _ | refine bD ?_ | refine bA ?_ _)); refine blk_put (cs := #[.int .i64 8, .int .i64 0, .int .i64 a0_1, .int .i64 0, .bool false, .string (⟨#[]⟩ : ByteArray), .slice none 0 0]) ?_ 3 _ rfl; (with_reducible repeat (first | refine bN ?_ _ | refine bD ?_ | refine bA ?_ _)); refine blk_put (cs := #[.int .i64 8, .int .i64 0, .int .i64 0, .int .i64 0, .bool false, .string (⟨#[]⟩ : ByteArray), .slice none 0 0]) ?_ 2 _ rfl; (with_reducible repeat (first | refine bN ?_ _ | refine bD ?_ | refine bA ?_ _)); refine blk_put (cs := #[.int .i64 8, .int .i64 0, .int .i64 0, .int .i64 0, .bool false, .string (⟨#[]⟩ : ByteArray), .slice none 0 0]) ?_ 1 _ rfl; (with_reducible repeat (first | refine bN ?_ _ | refine bD ?_ | refine bA ?_ _)); refine blk_put (cs := #[.int .i64 0, .int .i64 0, .int .i64 0, .int .i64 0, .bool false, .string (⟨#[]⟩ : ByteArray), .slice none 0 0]) ?_ 0 _ rfl; (with_reducible repeat (first | refine bN ?_ _ | refine bD ?_ | refine bA ?_ _)); refine blk_far ?_ NB122_121.out _; (with_reducible repeat (first | refine bN ?_ _ | refine bD ?_ | refine bA ?_ _)); refine blk_far ?_ NB122_121.out _; (with_reducible repeat (first | refine bN ?_ _ | refine bD ?_ | refine bA ?_ _)); refine blk_far ?_ NB122_121.out _; (with_reducible repeat (first | refine bN ?_ _ | refine bD ?_ | refine bA ?_ _)); refine blk_far ?_ NB122_121.out _; (with_reducible repeat (first | refine bN ?_ _ | refine bD ?_ | refine bA ?_ _)); exact BK122.out) Try.underlying28 rfl (by kernel_rfl) (.tmp .nil)))) rfl ?_
          exact ⟨_, by first | rfl | (simp [errW_none, errW_some] <;> rfl) | (simp only [← hji24, ← hji25]; first | rfl | (simp [errW_none, errW_some] <;> rfl)) | (simp [*, errW_none, errW_some] <;> rfl), by first | exact Kd.R_nil _ _ _ _ _ | exact Kd.N_nil _ _ _ _ _ | exact Kd.V_nil _ _ _ _ _ | exact Kd.Q_nil _ _ _ _ _ | exact Kd.S_nil _ _ _ _ _, by repeat (first | (with_reducible first | exact HB.out | apply below_alloc | apply pw_below_drewN | apply below_drew1 | refine below_set ?_ GE120.out | refine below_set ?_ GE121.out | refine below_set ?_ GE122.out | refine below_set ?_ GE125.out) | exact HB.out)⟩
         ·rw [if_neg c31] at H
          have c31b0 : ((wrap64 (a0_1 + (ji25))) == (a0_2.size : Int)) = false := beq_eq_false_iff_ne.mpr c31
          have c31b1 : ((wrap64 (a0_1 + (ji25))) != (a0_2.size : Int)) = true := bne_iff_ne.mpr c31
          (try (have c31b2 : ((IntKind.i64.wrap (a0_1 + (ji25))) == (a0_2.size : Int)) = false := by simp only [i64_w]; exact (beq_eq_false_iff_ne.mpr c31)))
          (try (have c31b3 : ((IntKind.i64.wrap (a0_1 + (ji25))) != (a0_2.size : Int)) = true := by simp only [i64_w]; exact (bne_iff_ne.mpr c31)))
          simp only [Option.some.injEq, Prod.mk.injEq] at H
          obtain ⟨rfl, rfl, rfl, rfl, rfl, rfl, rfl, rfl, rfl, rfl, rfl, rfl⟩ := H
          have hnb62 := NB120_121.out
          have hnc62 := NB121_120.out
          have hnb63 := NB120_122.out
          have hnc63 := NB122_120.out
          obtain ⟨hcz64_0, hcz64_1, hcz64_2, hcz64_3⟩ := cz4 BK120
          obtain ⟨hfz64_0, hfz64_1, hfz64_2, hfz64_3⟩ := fz4 BK120
          try go_wp2
          have n0_ := Aside0.mk (blk_drew BK120.out)
          have n1_ := Aside0.mk (blk_drew BK121.out)
          have n2_ := Aside0.mk (blk_drew BK122.out)
          have n3_ := Aside0.mk (below_drew1 HB.out)
          clear BK120
          clear BK121
          clear BK122
          clear HB
          have BK120 := n0_
          have BK121 := n1_
          have BK122 := n2_
          have HB := n3_
          clear n0_ n1_ n2_ n3_
          refine start_ (n := 14) (S := fun w' => w'.cell? ⟨gb120, 0, none⟩ = some (.int .i64 a0_0) ∧ w'.cell? ⟨gb120, 1, none⟩ = some (.int .i64 a0_1) ∧ w'.cell? ⟨gb120, 2, none⟩ = some (.string a0_2) ∧ w'.cell? ⟨gb120, 3, none⟩ = some (.bool true)) (ds := []) (bm 14 0) (by kernel_rfl) rfl rfl (cz4 BK120) (fun hHeld => ?_); refine with_tabW impl_NextPiece.tab4 impl_NextPiece.bits4 (fun HT_ HW_ => ?_)
          generalize wc.drew = w65 at BK120 BK121 BK122 HB hHeld ⊢
          refine pure_ (i := 0) (N := some 32) (v := ?_) (a' := ?_) (bm 14 1) rfl rfl (any_of HT_.out (by kernel_rfl)) (fun _ _ _ h => h) (Or.inl ⟨by rfl, ?_⟩) ?_ ?_
          rotate_left
          ·intro w'
           go_simp
           with_reducible rfl
          rotate_left
          ·simp only [Act.put, sA, sZ, sS, i64_w, i32_w]
           rfl
          refine pure_ (i := 2) (N := some 34) (v := ?_) (a' := ?_) (bm 14 5) rfl rfl (any_of HT_.out (by kernel_rfl)) (fun _ _ _ h => h) (Or.inl ⟨by rfl, ?_⟩) ?_ ?_
          rotate_left
          ·intro w'
           go_simp
           with_reducible rfl
          rotate_left
          ·simp only [Act.put, sA, sZ, sS, i64_w, i32_w]
           rfl
          refine pure_ (i := 4) (N := some 36) (v := ?_) (a' := ?_) (bm 14 21) rfl rfl (any_of HT_.out (by kernel_rfl)) (fun _ _ _ h => h) (Or.inl ⟨by rfl, ?_⟩) ?_ ?_
          rotate_left
          ·intro w'
           go_simp
           with_reducible rfl
          rotate_left
          ·simp only [Act.put, sA, sZ, sS, i64_w, i32_w]
           rfl
          refine pure_ (i := 6) (N := some 38) (v := ?_) (a' := ?_) (bm 14 85) rfl rfl (any_of HT_.out (by kernel_rfl)) (fun _ _ _ h => h) (Or.inl ⟨by rfl, ?_⟩) ?_ ?_
          rotate_left
          ·intro w'
           go_simp
           with_reducible rfl
          rotate_left
          ·simp only [Act.put, sA, sZ, sS, i64_w, i32_w]
           rfl
          refine pure_ (i := 8) (N := some 40) (v := ?_) (a' := ?_) (bm 14 341) rfl rfl (any_of HT_.out (by kernel_rfl)) (fun _ _ _ h => h) (Or.inl ⟨by rfl, ?_⟩) ?_ ?_
          rotate_left
          ·intro w'
           go_simp
           with_reducible rfl
          rotate_left
          ·simp only [Act.put, sA, sZ, sS, i64_w, i32_w]
           rfl
          refine take_ (i := 1) (N := some 33) (v := ?_) (a' := ?_) (bm 14 343) rfl rfl (take_ofW HT_.out HW_.out (by kernel_rfl)) (fun _ _ _ h => h) (Or.inl ⟨by rfl, ?_⟩) hHeld ?_ ?_
          rotate_left
          ·rintro w' ⟨s0, s1, s2, s3⟩
           go_simp
           with_reducible rfl
          rotate_left
          ·simp only [Act.put, sA, sZ, sS, i64_w, i32_w]
           rfl
          refine take_ (i := 3) (N := some 35) (v := ?_) (a' := ?_) (bm 14 351) rfl rfl (take_ofW HT_.out HW_.out (by kernel_rfl)) (fun _ _ _ h => h) (Or.inl ⟨by rfl, ?_⟩) hHeld ?_ ?_
          rotate_left
          ·rintro w' ⟨s0, s1, s2, s3⟩
           go_simp
           with_reducible rfl
          rotate_left
          ·simp only [Act.put, sA, sZ, sS, i64_w, i32_w]
           rfl
          refine take_ (i := 5) (N := some 37) (v := ?_) (a' := ?_) (bm 14 383) rfl rfl (take_ofW HT_.out HW_.out (by kernel_rfl)) (fun _ _ _ h => h) (Or.inl ⟨by rfl, ?_⟩) hHeld ?_ ?_
          rotate_left
          ·rintro w' ⟨s0, s1, s2, s3⟩
           go_simp
           with_reducible rfl
          rotate_left
          ·simp only [Act.put, sA, sZ, sS, i64_w, i32_w]
           rfl
          refine take_ (i := 7) (N := some 39) (v := ?_) (a' := ?_) (bm 14 511) rfl rfl (take_ofW HT_.out HW_.out (by kernel_rfl)) (fun _ _ _ h => h) (Or.inl ⟨by rfl, ?_⟩) hHeld ?_ ?_
          rotate_left
          ·rintro w' ⟨s0, s1, s2, s3⟩
           go_simp
           with_reducible rfl
          rotate_left
          ·simp only [Act.put, sA, sZ, sS, i64_w, i32_w]
           rfl
          refine pure_ (i := 9) (N := some 41) (v := ?_) (a' := ?_) (bm 14 1023) rfl rfl (any_of HT_.out (by kernel_rfl)) (fun _ _ _ h => h) (Or.inl ⟨by rfl, ?_⟩) ?_ ?_
          rotate_left
          ·intro w'
           go_simp
           with_reducible rfl
          rotate_left
          ·simp only [Act.put, sA, sZ, sS, i64_w, i32_w]
           rfl
          refine pure_ (i := 10) (N := some 42) (v := ?_) (a' := ?_) (bm 14 2047) rfl rfl (any_of HT_.out (by kernel_rfl)) (fun _ _ _ h => h) (Or.inl ⟨by rfl, ?_⟩) ?_ ?_
          rotate_left
          ·intro w'
           go_simp
           with_reducible rfl
          rotate_left
          ·simp only [Act.put, sA, sZ, sS, i64_w, i32_w]
           rfl
          refine pure_ (i := 11) (N := some 43) (v := ?_) (a' := ?_) (bm 14 4095) rfl rfl (any_of HT_.out (by kernel_rfl)) (fun _ _ _ h => h) (Or.inl ⟨by rfl, ?_⟩) ?_ ?_
          rotate_left
          ·intro w'
           go_simp
           with_reducible rfl
          rotate_left
          ·simp only [Act.put, sA, sZ, sS, i64_w, i32_w]
           rfl
          refine one_ (i := 12) (N := some 8) (bm 14 8191) rfl rfl (one_of HT_.out (by kernel_rfl)) (by decide) (fun K hK => ?_)
          refine box_step ?hg (N := 8) ?hd (cs := #[.int .i64 0, .int .i64 0, .int .i64 0, .int .i64 0, .bool false, .string (⟨#[]⟩ : ByteArray), .slice none 0 0]) (t := 28) ?hr ?_; (case hd => rfl); (case hg => rfl); (case hr => first | (go_simp; done) | (go_simp; rfl))
          intro gb125 hg w66 hbox hb
          have n0_ := bX BK120 hb
          have n1_ := bX BK121 hb
          have n2_ := bX BK122 hb
          have n3_ := bS HB hb
          have n4_ := Aside0.mk (hbox)
          have n5_ := Aside0.mk ((by rw [hg]; exact (below_size (by repeat (first | (with_reducible first | exact HB.out | apply below_alloc | apply pw_below_drewN | apply below_drew1 | refine below_set ?_ GE120.out | refine below_set ?_ GE121.out | refine below_set ?_ GE122.out) | exact HB.out))) : w.heap.size ≤ gb125))
          have n6_ := Aside0.mk ((by rw [hg]; exact (below_size (by repeat (first | (with_reducible first | exact HB.out | apply below_alloc | apply pw_below_drewN | apply below_drew1 | refine below_set ?_ GE120.out | refine below_set ?_ GE121.out | refine below_set ?_ GE122.out) | exact HB.out))) : w.heap.size ≤ gb125))
          have n7_ := Aside0.mk ((by rw [hg]; exact Nat.ne_of_lt (bLt BK120) : gb120 ≠ gb125))
          have n8_ := Aside0.mk ((by rw [hg]; exact Nat.ne_of_gt (bLt BK120) : gb125 ≠ gb120))
          have n9_ := Aside0.mk ((by rw [hg]; exact Nat.ne_of_lt (bLt BK121) : gb121 ≠ gb125))
          have n10_ := Aside0.mk ((by rw [hg]; exact Nat.ne_of_gt (bLt BK121) : gb125 ≠ gb121))
          have n11_ := Aside0.mk ((by rw [hg]; exact Nat.ne_of_lt (bLt BK122) : gb122 ≠ gb125))
          have n12_ := Aside0.mk ((by rw [hg]; exact Nat.ne_of_gt (bLt BK122) : gb125 ≠ gb122))
          clear BK120
          clear BK121
          clear BK122
          clear HB
          have BK120 := n0_
          have BK121 := n1_
          have BK122 := n2_
          have HB := n3_
          have BK125 := n4_
          have GW125 := n5_
          have GE125 := n6_
          have NB120_125 := n7_
          have NB125_120 := n8_
          have NB121_125 := n9_
          have NB125_121 := n10_
          have NB122_125 := n11_
          have NB125_122 := n12_
          clear n0_ n1_ n2_ n3_ n4_ n5_ n6_ n7_ n8_ n9_ n10_ n11_ n12_
          clear hb hbox hg
          refine hK.out _ _ (cz4 BK120) (fun hHeld => ?_)
          clear hK K
          refine norm_ (a' := ?_) ?_ ?_
          rotate_left
          ·show Act.put _ (some 8) _ = _
           simp only [Act.put, sA, sZ, sS, i64_w, i32_w]
           rfl
          refine one_ (i := 13) (N := none) (bm 14 16383) rfl rfl (one_of HT_.out (by kernel_rfl)) (by decide) (fun K hK => ?_)
          have hs67 : w66.cell? ⟨gb125, 0, none⟩ = some (.int .i64 0) := (blk_cell BK125.out 0).trans rfl
          have hfs67 := blk_frozen BK125.out 0
          have hns67_0 := NB120_125.out
          have hns67_1 := NB121_125.out
          have hns67_2 := NB122_125.out
          have hms67_0 := NB125_120.out
          have hms67_1 := NB125_121.out
          have hms67_2 := NB125_122.out
          have hs68 : w66.cell? ⟨gb125, 1, none⟩ = some (.int .i64 0) := (blk_cell BK125.out 1).trans rfl
          have hfs68 := blk_frozen BK125.out 1
          have hns68_0 := NB120_125.out
          have hns68_1 := NB121_125.out
          have hns68_2 := NB122_125.out
          have hms68_0 := NB125_120.out
          have hms68_1 := NB125_121.out
          have hms68_2 := NB125_122.out
          have hs69 : w66.cell? ⟨gb125, 2, none⟩ = some (.int .i64 0) := (blk_cell BK125.out 2).trans rfl
          have hfs69 := blk_frozen BK125.out 2
          have hns69_0 := NB120_125.out
          have hns69_1 := NB121_125.out
          have hns69_2 := NB122_125.out
          have hms69_0 := NB125_120.out
          have hms69_1 := NB125_121.out
          have hms69_2 := NB125_122.out
          have hs70 : w66.cell? ⟨gb125, 3, none⟩ = some (.int .i64 0) := (blk_cell BK125.out 3).trans rfl
          have hfs70 := blk_frozen BK125.out 3
          have hns70_0 := NB120_125.out
          have hns70_1 := NB121_125.out
          have hns70_2 := NB122_125.out
          have hms70_0 := NB125_120.out
          have hms70_1 := NB125_121.out
          have hms70_2 := NB125_122.out
          have hs71 : w66.cell? ⟨gb125, 4, none⟩ = some (.bool false) := (blk_cell BK125.out 4).trans rfl
          have hfs71 := blk_frozen BK125.out 4
          have hns71_0 := NB120_125.out
          have hns71_1 := NB121_125.out
          have hns71_2 := NB122_125.out
          have hms71_0 := NB125_120.out
          have hms71_1 := NB125_121.out
          have hms71_2 := NB125_122.out
          have hs72 : w66.cell? ⟨gb125, 5, none⟩ = some (.string (⟨#[]⟩ : ByteArray)) := (blk_cell BK125.out 5).trans rfl
          have hfs72 := blk_frozen BK125.out 5
          have hns72_0 := NB120_125.out
          have hns72_1 := NB121_125.out
          have hns72_2 := NB122_125.out
          have hms72_0 := NB125_120.out
          have hms72_1 := NB125_121.out
          have hms72_2 := NB125_122.out
          have hs73 : w66.cell? ⟨gb125, 6, none⟩ = some (.slice none 0 0) := (blk_cell BK125.out 6).trans rfl
          have hfs73 := blk_frozen BK125.out 6
          have hns73_0 := NB120_125.out
          have hns73_1 := NB121_125.out
          have hns73_2 := NB122_125.out
          have hms73_0 := NB125_120.out
          have hms73_1 := NB125_121.out
          have hms73_2 := NB125_122.out
          refine skip_ (w1 := ?_) (by rfl) rfl ?_ ?_
          rotate_left
          ·go_simp
           rfl
          refine hK.out _ _ ⟨((cell_far (p := ⟨gb125, _, none⟩) NB120_125.out _).trans (((cell_far (p := ⟨gb125, _, none⟩) NB120_125.out _).trans (((cell_far (p := ⟨gb125, _, none⟩) NB120_125.out _).trans (((cell_far (p := ⟨gb125, _, none⟩) NB120_125.out _).trans (((cell_far (p := ⟨gb125, _, none⟩) NB120_125.out _).trans (((cell_far (p := ⟨gb125, _, none⟩) NB120_125.out _).trans (((cell_far (p := ⟨gb125, _, none⟩) NB120_125.out _).trans (hHeld.1)))))))))))))), ((cell_far (p := ⟨gb125, _, none⟩) NB120_125.out _).trans (((cell_far (p := ⟨gb125, _, none⟩) NB120_125.out _).trans (((cell_far (p := ⟨gb125, _, none⟩) NB120_125.out _).trans (((cell_far (p := ⟨gb125, _, none⟩) NB120_125.out _).trans (((cell_far (p := ⟨gb125, _, none⟩) NB120_125.out _).trans (((cell_far (p := ⟨gb125, _, none⟩) NB120_125.out _).trans (((cell_far (p := ⟨gb125, _, none⟩) NB120_125.out _).trans (hHeld.2.1)))))))))))))), ((cell_far (p := ⟨gb125, _, none⟩) NB120_125.out _).trans (((cell_far (p := ⟨gb125, _, none⟩) NB120_125.out _).trans (((cell_far (p := ⟨gb125, _, none⟩) NB120_125.out _).trans (((cell_far (p := ⟨gb125, _, none⟩) NB120_125.out _).trans (((cell_far (p := ⟨gb125, _, none⟩) NB120_125.out _).trans (((cell_far (p := ⟨gb125, _, none⟩) NB120_125.out _).trans (((cell_far (p := ⟨gb125, _, none⟩) NB120_125.out _).trans (hHeld.2.2.1)))))))))))))), ((cell_far (p := ⟨gb125, _, none⟩) NB120_125.out _).trans (((cell_far (p := ⟨gb125, _, none⟩) NB120_125.out _).trans (((cell_far (p := ⟨gb125, _, none⟩) NB120_125.out _).trans (((cell_far (p := ⟨gb125, _, none⟩) NB120_125.out _).trans (((cell_far (p := ⟨gb125, _, none⟩) NB120_125.out _).trans (((cell_far (p := ⟨gb125, _, none⟩) NB120_125.out _).trans (((cell_far (p := ⟨gb125, _, none⟩) NB120_125.out _).trans (hHeld.2.2.2))))))))))))))⟩ (fun hHeld => ?_)
          clear hK K
          refine done_ (done_of HT_.out (by kernel_rfl)) ?_
          have hnb74 := NB120_125.out
          have hnc74 := NB125_120.out
          obtain ⟨hcz75_0, hcz75_1, hcz75_2, hcz75_3⟩ := cz4 BK120
          obtain ⟨hfz75_0, hfz75_1, hfz75_2, hfz75_3⟩ := fz4 BK120
          have hnb76 := NB125_121.out
          have hnc76 := NB121_125.out
          have hnb77 := NB125_122.out
          have hnc77 := NB122_125.out
          obtain ⟨hcz78_0, hcz78_1, hcz78_2, hcz78_3, hcz78_4, hcz78_5, hcz78_6⟩ := cz7 BK125
          obtain ⟨hfz78_0, hfz78_1, hfz78_2, hfz78_3, hfz78_4, hfz78_5, hfz78_6⟩ := fz7 BK125
          have hnb79 := NB121_122.out
          have hnc79 := NB122_121.out
          obtain ⟨hcz80_0, hcz80_1, hcz80_2, hcz80_3⟩ := cz4 BK121
          obtain ⟨hfz80_0, hfz80_1, hfz80_2, hfz80_3⟩ := fz4 BK121
          obtain ⟨hcz81_0, hcz81_1, hcz81_2, hcz81_3, hcz81_4, hcz81_5, hcz81_6⟩ := cz7 BK122
          obtain ⟨hfz81_0, hfz81_1, hfz81_2, hfz81_3, hfz81_4, hfz81_5, hfz81_6⟩ := fz7 BK122
          try go_wp2
          refine bodyPost_ret (results_list (rs := [.cell 4 25, .cell 5 28, .tmp 6]) rfl (by simp) (.cell gb121 25 #[.int .i64 0, .int .i64 0, .string (⟨#[]⟩ : ByteArray), .bool false] (0, 0) _ rfl (by (with_reducible repeat (first | refine bN ?_ _ | refine bD ?_ | refine bA ?_ _)); refine blk_far ?_ NB121_122.out _; (with_reducible repeat (first | refine bN ?_ _ | refine bD ?_ | refine bA ?_ _)); refine blk_far ?_ NB121_122.out _; (with_reducible repeat (first | refine bN ?_ _ | refine bD ?_ | refine bA ?_ _)); refine blk_far ?_ NB121_122.out _; (with_reducible repeat (first | refine bN ?_ _ | refine bD ?_ | refine bA ?_ _)); refine blk_far ?_ NB121_122.out _; (with_reducible repeat (first | refine bN ?_ _ | refine bD ?_ | refine bA ?_ _)); refine blk_far ?_ NB121_122.out _; (with_reducible repeat (first | refine bN ?_ _ | refine bD ?_ | refine bA ?_ _)); refine blk_far ?_ NB121_122.out _; (with_reducible repeat (first | refine bN ?_ _ | refine bD ?_ | refine bA ?_ _)); refine blk_far ?_ NB121_122.out _; (with_reducible repeat (first | refine bN ?_ _ | refine bD ?_ | refine bA ?_ _)); refine blk_put (cs := #[.int .i64 0, .int .i64 0, .string (⟨#[]⟩ : ByteArray), .bool false]) ?_ 3 _ rfl; (with_reducible repeat (first | refine bN ?_ _ | refine bD ?_ | refine bA ?_ _)); refine blk_put (cs := #[.int .i64 0, .int .i64 0, .string (⟨#[]⟩ : ByteArray), .bool false]) ?_ 2 _ rfl; (with_reducible repeat (first | refine bN ?_ _ | refine bD ?_ | refine bA ?_ _)); refine blk_put (cs := #[.int .i64 0, .int .i64 0, .string (⟨#[]⟩ : ByteArray), .bool false]) ?_ 1 _ rfl; (with_reducible repeat (first | refine bN ?_ _ | refine bD ?_ | refine bA ?_ _)); refine blk_put (cs := #[.int .i64 0, .int .i64 0, .string (⟨#[]⟩ : ByteArray), .bool false]) ?_ 0 _ rfl; (with_reducible repeat (first | refine bN ?_ _ | refine bD ?_ | refine bA ?_ _)); refine blk_far ?_ NB121_125.out _; (with_reducible repeat (first | refine bN ?_ _ | refine bD ?_ | refine bA ?_ _)); refine blk_far ?_ NB121_125.out _; (with_reducible repeat (first | refine bN ?_ _ | refine bD ?_ | refine bA ?_ _)); refine blk_far ?_ NB121_125.out _; (with_reducible repeat (first | refine bN ?_ _ | refine bD ?_ | refine bA ?_ _)); refine blk_far ?_ NB121_125.out _; (with_reducible repeat (first | refine bN ?_ _ | refine bD ?_ | refine bA ?_ _)); refine blk_far ?_ NB121_125.out _; (with_reducible repeat (first | refine bN ?_ _ | refine bD ?_ | refine bA ?_ _)); refine blk_far ?_ NB121_125.out _; (with_reducible repeat (first | refine bN ?_ _ | refine bD ?_ | refine bA ?_ _)); refine blk_far ?_ NB121_125.out _; (with_reducible repeat (first | refine bN ?_ _ | refine bD ?_ | refine bA ?_ _)); refine blk_far ?_ NB121_125.out _; (with_reducible repeat (first | refine bN ?_ _ | refine bD ?_ | refine bA ?_ _)); exact BK121.out) Try.underlying25 rfl (by kernel_rfl) (.cell gb122 28 #[.int .i64 0, .int .i64 0, .int .i64 0, .int .i64 0, .bool false, .string (⟨#[]⟩ : ByteArray), .slice none 0 0] (0, 0) _ rfl (by (with_reducible repeat (first | refine bN ?_ _ | refine bD ?_ | refine bA ?_ _)); refine blk_put (cs := #[.int .i64 0, .int .i64 0, .int .i64 0, .int .i64 0, .bool false, .string (⟨#[]⟩ : ByteArray), .slice none 0 0]) ?_ 6 _ rfl; (with_reducible repeat (first | refine bN ?_ _ | refine bD ?_ | refine bA ?_ _)); refine blk_put (cs := #[.int .i64 0, .int .i64 0, .int .i64 0, .int .i64 0, .bool false, .string (⟨#[]⟩ : ByteArray), .slice none 0 0]) ?_ 5 _ rfl; (with_reducible repeat (first | refine bN ?_ _ | refine bD ?_ | refine bA ?_ _)); refine blk_put (cs := #[.int .i64 0, .int .i64 0, .int .i64 0, .int .i64 0, .bool false, .string (⟨#[]⟩ : ByteArray), .slice none 0 0]) ?_ 4 _ rfl; (with_reducible repeat (first | refine bN ?_ _ | refine bD ?_ | refine bA ?_ _)); refine blk_put (cs := #[.int .i64 0, .int .i64 0, .int .i64 0, .int .i64 0, .bool false, .string (⟨#[]⟩ : ByteArray), .slice none 0 0]) ?_ 3 _ rfl; (with_reducible repeat (first | refine bN ?_ _ | refine bD ?_ | refine bA ?_ _)); refine blk_put (cs := #[.int .i64 0, .int .i64 0, .int .i64 0, .int .i64 0, .bool false, .string (⟨#[]⟩ : ByteArray), .slice none 0 0]) ?_ 2 _ rfl; (with_reducible repeat (first | refine bN ?_ _ | refine bD ?_ | refine bA ?_ _)); refine blk_put (cs := #[.int .i64 0, .int .i64 0, .int .i64 0, .int .i64 0, .bool false, .string (⟨#[]⟩ : ByteArray), .slice none 0 0]) ?_ 1 _ rfl; (with_reducible repeat (first | refine bN ?_ _ | refine bD ?_ | refine bA ?_ _)); refine blk_put (cs := #[.int .i64 0, .int .i64 0, .int .i64 0, .int .i64 0, .bool false, .string (⟨#[]⟩ : ByteArray), .slice none 0 0]) ?_ 0 _ rfl; (with_reducible repeat (first | refine bN ?_ _ | refine bD ?_ | refine bA ?_ _)); refine blk_far ?_ NB122_121.out _; (with_reducible repeat (first | refine bN ?_ _ | refine bD ?_ | refine bA ?_ _)); refine blk_far ?_ NB122_121.out _; (with_reducible repeat (first | refine bN ?_ _ | refine bD ?_ | refine bA ?_ _)); refine blk_far ?_ NB122_121.out _; (with_reducible repeat (first | refine bN ?_ _ | refine bD ?_ | refine bA ?_ _)); refine blk_far ?_ NB122_121.out _; (with_reducible repeat (first | refine bN ?_ _ | refine bD ?_ | refine bA ?_ _)); refine blk_far ?_ NB122_125.out _; (with_reducible repeat (first | refine bN ?_ _ | refine bD ?_ | refine bA ?_ _)); refine blk_far ?_ NB122_125.out _; (with_reducible repeat (first | refine bN ?_ _ | refine bD ?_ | refine bA ?_ _)); refine blk_far ?_ NB122_125.out _; (with_reducible repeat (first | refine bN ?_ _ | refine bD ?_ | refine bA ?_ _)); refine blk_far ?_ NB122_125.out _; (with_reducible repeat (first | refine bN ?_ _ | refine bD ?_ | refine bA ?_ _)); refine blk_far ?_ NB122_125.out _; (with_reducible repeat (first | refine bN ?_ _ | refine bD ?_ | refine bA ?_ _)); refine blk_far ?_ NB122_125.out _; (with_reducible repeat (first | refine bN ?_ _ | refine bD ?_ | refine bA ?_ _)); refine blk_far ?_ NB122_125.out _; (with_reducible repeat (first | refine bN ?_ _ | refine bD ?_ | refine bA ?_ _)); refine blk_far ?_ NB122_125.out _; (with_reducible repeat (first | refine bN ?_ _ | refine bD ?_ | refine bA ?_ _)); exact BK122.out) Try.underlying28 rfl (by kernel_rfl) (.tmp .nil)))) rfl ?_
          exact ⟨_, by first | rfl | (simp [errW_none, errW_some] <;> rfl) | (simp only [← hji24, ← hji25]; first | rfl | (simp [errW_none, errW_some] <;> rfl)) | (simp [*, errW_none, errW_some] <;> rfl), by first | exact Kd.R_nil _ _ _ _ _ | exact Kd.N_nil _ _ _ _ _ | exact Kd.V_nil _ _ _ _ _ | exact Kd.Q_nil _ _ _ _ _ | exact Kd.S_nil _ _ _ _ _, by repeat (first | (with_reducible first | exact HB.out | apply below_alloc | apply pw_below_drewN | apply below_drew1 | refine below_set ?_ GE120.out | refine below_set ?_ GE121.out | refine below_set ?_ GE122.out | refine below_set ?_ GE125.out) | exact HB.out)⟩
        ·rw [if_neg c30] at H
         have c30b0 : ((ji25) == 0) = false := beq_eq_false_iff_ne.mpr c30
         have c30b1 : ((ji25) != 0) = true := bne_iff_ne.mpr c30
         simp only [Option.some.injEq, Prod.mk.injEq] at H
         obtain ⟨rfl, rfl, rfl, rfl, rfl, rfl, rfl, rfl, rfl, rfl, rfl, rfl⟩ := H
         have hnb82 := NB120_121.out
         have hnc82 := NB121_120.out
         have hnb83 := NB120_122.out
         have hnc83 := NB122_120.out
         obtain ⟨hcz84_0, hcz84_1, hcz84_2, hcz84_3⟩ := cz4 BK120
         obtain ⟨hfz84_0, hfz84_1, hfz84_2, hfz84_3⟩ := fz4 BK120
         try go_wp2
         have n0_ := Aside0.mk (blk_drew BK120.out)
         have n1_ := Aside0.mk (blk_drew BK121.out)
         have n2_ := Aside0.mk (blk_drew BK122.out)
         have n3_ := Aside0.mk (below_drew1 HB.out)
         clear BK120
         clear BK121
         clear BK122
         clear HB
         have BK120 := n0_
         have BK121 := n1_
         have BK122 := n2_
         have HB := n3_
         clear n0_ n1_ n2_ n3_
         refine start_ (n := 14) (S := fun w' => w'.cell? ⟨gb120, 0, none⟩ = some (.int .i64 a0_0) ∧ w'.cell? ⟨gb120, 1, none⟩ = some (.int .i64 a0_1) ∧ w'.cell? ⟨gb120, 2, none⟩ = some (.string a0_2) ∧ w'.cell? ⟨gb120, 3, none⟩ = some (.bool true)) (ds := []) (bm 14 0) (by kernel_rfl) rfl rfl (cz4 BK120) (fun hHeld => ?_); refine with_tabW impl_NextPiece.tab4 impl_NextPiece.bits4 (fun HT_ HW_ => ?_)
         generalize wc.drew = w85 at BK120 BK121 BK122 HB hHeld ⊢
         refine pure_ (i := 0) (N := some 32) (v := ?_) (a' := ?_) (bm 14 1) rfl rfl (any_of HT_.out (by kernel_rfl)) (fun _ _ _ h => h) (Or.inl ⟨by rfl, ?_⟩) ?_ ?_
         rotate_left
         ·intro w'
          go_simp
          with_reducible rfl
         rotate_left
         ·simp only [Act.put, sA, sZ, sS, i64_w, i32_w]
          rfl
         refine pure_ (i := 2) (N := some 34) (v := ?_) (a' := ?_) (bm 14 5) rfl rfl (any_of HT_.out (by kernel_rfl)) (fun _ _ _ h => h) (Or.inl ⟨by rfl, ?_⟩) ?_ ?_
         rotate_left
         ·intro w'
          go_simp
          with_reducible rfl
         rotate_left
         ·simp only [Act.put, sA, sZ, sS, i64_w, i32_w]
          rfl
         refine pure_ (i := 4) (N := some 36) (v := ?_) (a' := ?_) (bm 14 21) rfl rfl (any_of HT_.out (by kernel_rfl)) (fun _ _ _ h => h) (Or.inl ⟨by rfl, ?_⟩) ?_ ?_
         rotate_left
         ·intro w'
          go_simp
          with_reducible rfl
         rotate_left
         ·simp only [Act.put, sA, sZ, sS, i64_w, i32_w]
          rfl
         refine pure_ (i := 6) (N := some 38) (v := ?_) (a' := ?_) (bm 14 85) rfl rfl (any_of HT_.out (by kernel_rfl)) (fun _ _ _ h => h) (Or.inl ⟨by rfl, ?_⟩) ?_ ?_
         rotate_left
         ·intro w'
          go_simp
          with_reducible rfl
         rotate_left
         ·simp only [Act.put, sA, sZ, sS, i64_w, i32_w]
          rfl
         refine pure_ (i := 8) (N := some 40) (v := ?_) (a' := ?_) (bm 14 341) rfl rfl (any_of HT_.out (by kernel_rfl)) (fun _ _ _ h => h) (Or.inl ⟨by rfl, ?_⟩) ?_ ?_
         rotate_left
         ·intro w'
          go_simp
          with_reducible rfl
         rotate_left
         ·simp only [Act.put, sA, sZ, sS, i64_w, i32_w]
          rfl
         refine take_ (i := 1) (N := some 33) (v := ?_) (a' := ?_) (bm 14 343) rfl rfl (take_ofW HT_.out HW_.out (by kernel_rfl)) (fun _ _ _ h => h) (Or.inl ⟨by rfl, ?_⟩) hHeld ?_ ?_
         rotate_left
         ·rintro w' ⟨s0, s1, s2, s3⟩
          go_simp
          with_reducible rfl
         rotate_left
         ·simp only [Act.put, sA, sZ, sS, i64_w, i32_w]
          rfl
         refine take_ (i := 3) (N := some 35) (v := ?_) (a' := ?_) (bm 14 351) rfl rfl (take_ofW HT_.out HW_.out (by kernel_rfl)) (fun _ _ _ h => h) (Or.inl ⟨by rfl, ?_⟩) hHeld ?_ ?_
         rotate_left
         ·rintro w' ⟨s0, s1, s2, s3⟩
          go_simp
          with_reducible rfl
         rotate_left
         ·simp only [Act.put, sA, sZ, sS, i64_w, i32_w]
          rfl
         refine take_ (i := 5) (N := some 37) (v := ?_) (a' := ?_) (bm 14 383) rfl rfl (take_ofW HT_.out HW_.out (by kernel_rfl)) (fun _ _ _ h => h) (Or.inl ⟨by rfl, ?_⟩) hHeld ?_ ?_
         rotate_left
         ·rintro w' ⟨s0, s1, s2, s3⟩
          go_simp
          with_reducible rfl
         rotate_left
         ·simp only [Act.put, sA, sZ, sS, i64_w, i32_w]
          rfl
         refine take_ (i := 7) (N := some 39) (v := ?_) (a' := ?_) (bm 14 511) rfl rfl (take_ofW HT_.out HW_.out (by kernel_rfl)) (fun _ _ _ h => h) (Or.inl ⟨by rfl, ?_⟩) hHeld ?_ ?_
         rotate_left
         ·rintro w' ⟨s0, s1, s2, s3⟩
          go_simp
          with_reducible rfl
         rotate_left
         ·simp only [Act.put, sA, sZ, sS, i64_w, i32_w]
          rfl
         refine pure_ (i := 9) (N := some 41) (v := ?_) (a' := ?_) (bm 14 1023) rfl rfl (any_of HT_.out (by kernel_rfl)) (fun _ _ _ h => h) (Or.inl ⟨by rfl, ?_⟩) ?_ ?_
         rotate_left
         ·intro w'
          go_simp
          with_reducible rfl
         rotate_left
         ·simp only [Act.put, sA, sZ, sS, i64_w, i32_w]
          rfl
         refine pure_ (i := 10) (N := some 42) (v := ?_) (a' := ?_) (bm 14 2047) rfl rfl (any_of HT_.out (by kernel_rfl)) (fun _ _ _ h => h) (Or.inl ⟨by rfl, ?_⟩) ?_ ?_
         rotate_left
         ·intro w'
          go_simp
          with_reducible rfl
         rotate_left
         ·simp only [Act.put, sA, sZ, sS, i64_w, i32_w]
          rfl
         refine pure_ (i := 11) (N := some 43) (v := ?_) (a' := ?_) (bm 14 4095) rfl rfl (any_of HT_.out (by kernel_rfl)) (fun _ _ _ h => h) (Or.inl ⟨by rfl, ?_⟩) ?_ ?_
         rotate_left
         ·intro w'
          go_simp
          with_reducible rfl
         rotate_left
         ·simp only [Act.put, sA, sZ, sS, i64_w, i32_w]
          rfl
         refine one_ (i := 12) (N := some 8) (bm 14 8191) rfl rfl (one_of HT_.out (by kernel_rfl)) (by decide) (fun K hK => ?_)
         refine box_step ?hg (N := 8) ?hd (cs := #[.int .i64 0, .int .i64 0, .int .i64 0, .int .i64 0, .bool false, .string (⟨#[]⟩ : ByteArray), .slice none 0 0]) (t := 28) ?hr ?_; (case hd => rfl); (case hg => rfl); (case hr => first | (go_simp; done) | (go_simp; rfl))
         intro gb125 hg w86 hbox hb
         have n0_ := bX BK120 hb
         have n1_ := bX BK121 hb
         have n2_ := bX BK122 hb
         have n3_ := bS HB hb
         have n4_ := Aside0.mk (hbox)
         have n5_ := Aside0.mk ((by rw [hg]; exact (below_size (by repeat (first | (with_reducible first | exact HB.out | apply below_alloc | apply pw_below_drewN | apply below_drew1 | refine below_set ?_ GE120.out | refine below_set ?_ GE121.out | refine below_set ?_ GE122.out) | exact HB.out))) : w.heap.size ≤ gb125))
         have n6_ := Aside0.mk ((by rw [hg]; exact (below_size (by repeat (first | (with_reducible first | exact HB.out | apply below_alloc | apply pw_below_drewN | apply below_drew1 | refine below_set ?_ GE120.out | refine below_set ?_ GE121.out | refine below_set ?_ GE122.out) | exact HB.out))) : w.heap.size ≤ gb125))
         have n7_ := Aside0.mk ((by rw [hg]; exact Nat.ne_of_lt (bLt BK120) : gb120 ≠ gb125))
         have n8_ := Aside0.mk ((by rw [hg]; exact Nat.ne_of_gt (bLt BK120) : gb125 ≠ gb120))
         have n9_ := Aside0.mk ((by rw [hg]; exact Nat.ne_of_lt (bLt BK121) : gb121 ≠ gb125))
         have n10_ := Aside0.mk ((by rw [hg]; exact Nat.ne_of_gt (bLt BK121) : gb125 ≠ gb121))
         have n11_ := Aside0.mk ((by rw [hg]; exact Nat.ne_of_lt (bLt BK122) : gb122 ≠ gb125))
         have n12_ := Aside0.mk ((by rw [hg]; exact Nat.ne_of_gt (bLt BK122) : gb125 ≠ gb122))
         clear BK120
         clear BK121
         clear BK122
         clear HB
         have BK120 := n0_
         have BK121 := n1_
         have BK122 := n2_
         have HB := n3_
         have BK125 := n4_
         have GW125 := n5_
         have GE125 := n6_
         have NB120_125 := n7_
         have NB125_120 := n8_
         have NB121_125 := n9_
         have NB125_121 := n10_
         have NB122_125 := n11_
         have NB125_122 := n12_
         clear n0_ n1_ n2_ n3_ n4_ n5_ n6_ n7_ n8_ n9_ n10_ n11_ n12_
         clear hb hbox hg
         refine hK.out _ _ (cz4 BK120) (fun hHeld => ?_)
         clear hK K
         refine norm_ (a' := ?_) ?_ ?_
         rotate_left
         ·show Act.put _ (some 8) _ = _
          simp only [Act.put, sA, sZ, sS, i64_w, i32_w]
          rfl
         refine one_ (i := 13) (N := none) (bm 14 16383) rfl rfl (one_of HT_.out (by kernel_rfl)) (by decide) (fun K hK => ?_)
         have hs87 : w86.cell? ⟨gb125, 0, none⟩ = some (.int .i64 0) := (blk_cell BK125.out 0).trans rfl
         have hfs87 := blk_frozen BK125.out 0
         have hns87_0 := NB120_125.out
         have hns87_1 := NB121_125.out
         have hns87_2 := NB122_125.out
         have hms87_0 := NB125_120.out
         have hms87_1 := NB125_121.out
         have hms87_2 := NB125_122.out
         have hs88 : w86.cell? ⟨gb125, 1, none⟩ = some (.int .i64 0) := (blk_cell BK125.out 1).trans rfl
         have hfs88 := blk_frozen BK125.out 1
         have hns88_0 := NB120_125.out
         have hns88_1 := NB121_125.out
         have hns88_2 := NB122_125.out
         have hms88_0 := NB125_120.out
         have hms88_1 := NB125_121.out
         have hms88_2 := NB125_122.out
         have hs89 : w86.cell? ⟨gb125, 2, none⟩ = some (.int .i64 0) := (blk_cell BK125.out 2).trans rfl
         have hfs89 := blk_frozen BK125.out 2
         have hns89_0 := NB120_125.out
         have hns89_1 := NB121_125.out
         have hns89_2 := NB122_125.out
         have hms89_0 := NB125_120.out
         have hms89_1 := NB125_121.out
         have hms89_2 := NB125_122.out
         have hs90 : w86.cell? ⟨gb125, 3, none⟩ = some (.int .i64 0) := (blk_cell BK125.out 3).trans rfl
         have hfs90 := blk_frozen BK125.out 3
         have hns90_0 := NB120_125.out
         have hns90_1 := NB121_125.out
         have hns90_2 := NB122_125.out
         have hms90_0 := NB125_120.out
         have hms90_1 := NB125_121.out
         have hms90_2 := NB125_122.out
         have hs91 : w86.cell? ⟨gb125, 4, none⟩ = some (.bool false) := (blk_cell BK125.out 4).trans rfl
         have hfs91 := blk_frozen BK125.out 4
         have hns91_0 := NB120_125.out
         have hns91_1 := NB121_125.out
         have hns91_2 := NB122_125.out
         have hms91_0 := NB125_120.out
         have hms91_1 := NB125_121.out
         have hms91_2 := NB125_122.out
         have hs92 : w86.cell? ⟨gb125, 5, none⟩ = some (.string (⟨#[]⟩ : ByteArray)) := (blk_cell BK125.out 5).trans rfl
         have hfs92 := blk_frozen BK125.out 5
         have hns92_0 := NB120_125.out
         have hns92_1 := NB121_125.out
         have hns92_2 := NB122_125.out
         have hms92_0 := NB125_120.out
         have hms92_1 := NB125_121.out
         have hms92_2 := NB125_122.out
         have hs93 : w86.cell? ⟨gb125, 6, none⟩ = some (.slice none 0 0) := (blk_cell BK125.out 6).trans rfl
         have hfs93 := blk_frozen BK125.out 6
         have hns93_0 := NB120_125.out
         have hns93_1 := NB121_125.out
         have hns93_2 := NB122_125.out
         have hms93_0 := NB125_120.out
         have hms93_1 := NB125_121.out
         have hms93_2 := NB125_122.out
         refine skip_ (w1 := ?_) (by rfl) rfl ?_ ?_
         rotate_left
         ·go_simp
          rfl
         refine hK.out _ _ ⟨((cell_far (p := ⟨gb125, _, none⟩) NB120_125.out _).trans (((cell_far (p := ⟨gb125, _, none⟩) NB120_125.out _).trans (((cell_far (p := ⟨gb125, _, none⟩) NB120_125.out _).trans (((cell_far (p := ⟨gb125, _, none⟩) NB120_125.out _).trans (((cell_far (p := ⟨gb125, _, none⟩) NB120_125.out _).trans (((cell_far (p := ⟨gb125, _, none⟩) NB120_125.out _).trans (((cell_far (p := ⟨gb125, _, none⟩) NB120_125.out _).trans (hHeld.1)))))))))))))), ((cell_far (p := ⟨gb125, _, none⟩) NB120_125.out _).trans (((cell_far (p := ⟨gb125, _, none⟩) NB120_125.out _).trans (((cell_far (p := ⟨gb125, _, none⟩) NB120_125.out _).trans (((cell_far (p := ⟨gb125, _, none⟩) NB120_125.out _).trans (((cell_far (p := ⟨gb125, _, none⟩) NB120_125.out _).trans (((cell_far (p := ⟨gb125, _, none⟩) NB120_125.out _).trans (((cell_far (p := ⟨gb125, _, none⟩) NB120_125.out _).trans (hHeld.2.1)))))))))))))), ((cell_far (p := ⟨gb125, _, none⟩) NB120_125.out _).trans (((cell_far (p := ⟨gb125, _, none⟩) NB120_125.out _).trans (((cell_far (p := ⟨gb125, _, none⟩) NB120_125.out _).trans (((cell_far (p := ⟨gb125, _, none⟩) NB120_125.out _).trans (((cell_far (p := ⟨gb125, _, none⟩) NB120_125.out _).trans (((cell_far (p := ⟨gb125, _, none⟩) NB120_125.out _).trans (((cell_far (p := ⟨gb125, _, none⟩) NB120_125.out _).trans (hHeld.2.2.1)))))))))))))), ((cell_far (p := ⟨gb125, _, none⟩) NB120_125.out _).trans (((cell_far (p := ⟨gb125, _, none⟩) NB120_125.out _).trans (((cell_far (p := ⟨gb125, _, none⟩) NB120_125.out _).trans (((cell_far (p := ⟨gb125, _, none⟩) NB120_125.out _).trans (((cell_far (p := ⟨gb125, _, none⟩) NB120_125.out _).trans (((cell_far (p := ⟨gb125, _, none⟩) NB120_125.out _).trans (((cell_far (p := ⟨gb125, _, none⟩) NB120_125.out _).trans (hHeld.2.2.2))))))))))))))⟩ (fun hHeld => ?_)
         clear hK K
         refine done_ (done_of HT_.out (by kernel_rfl)) ?_
         have hnb94 := NB120_125.out
         have hnc94 := NB125_120.out
         obtain ⟨hcz95_0, hcz95_1, hcz95_2, hcz95_3⟩ := cz4 BK120
         obtain ⟨hfz95_0, hfz95_1, hfz95_2, hfz95_3⟩ := fz4 BK120
         have hnb96 := NB125_121.out
         have hnc96 := NB121_125.out
         have hnb97 := NB125_122.out
         have hnc97 := NB122_125.out
         obtain ⟨hcz98_0, hcz98_1, hcz98_2, hcz98_3, hcz98_4, hcz98_5, hcz98_6⟩ := cz7 BK125
         obtain ⟨hfz98_0, hfz98_1, hfz98_2, hfz98_3, hfz98_4, hfz98_5, hfz98_6⟩ := fz7 BK125
         try go_wp2
         have n0_ : Aside0 ((((((((((w86.setCell ⟨gb125, 0, none⟩ (.int .i64 8)).setCell ⟨gb125, 1, none⟩ (.int .i64 0)).setCell ⟨gb125, 2, none⟩ (.int .i64 a0_1)).setCell ⟨gb125, 3, none⟩ (.int .i64 0)).setCell ⟨gb125, 4, none⟩ (.bool false)).setCell ⟨gb125, 5, none⟩ (.string (a0_2.extract (a0_1 : Int).toNat ((wrap64 (a0_1 + (ji25))) : Int).toNat))).setCell ⟨gb125, 6, none⟩ (.slice none 0 0)).setCell ⟨gb125, 4, none⟩ (.bool ((wrap64 (a0_1 + (ji25))) == (a0_2.size : Int)))).setCell ⟨gb120, 1, none⟩ (.int .i64 (wrap64 (a0_1 + (ji25))))).heap[gb120]? = some (.cells #[.int .i64 a0_0, .int .i64 (wrap64 (a0_1 + (ji25))), .string a0_2, .bool true] 25 (0, 0))) := ⟨by (with_reducible repeat (first | refine bN ?_ _ | refine bD ?_ | refine bA ?_ _)); refine blk_put (cs := #[.int .i64 a0_0, .int .i64 a0_1, .string a0_2, .bool true]) ?_ 1 _ rfl; (with_reducible repeat (first | refine bN ?_ _ | refine bD ?_ | refine bA ?_ _)); refine blk_far ?_ NB120_125.out _; (with_reducible repeat (first | refine bN ?_ _ | refine bD ?_ | refine bA ?_ _)); refine blk_far ?_ NB120_125.out _; (with_reducible repeat (first | refine bN ?_ _ | refine bD ?_ | refine bA ?_ _)); refine blk_far ?_ NB120_125.out _; (with_reducible repeat (first | refine bN ?_ _ | refine bD ?_ | refine bA ?_ _)); refine blk_far ?_ NB120_125.out _; (with_reducible repeat (first | refine bN ?_ _ | refine bD ?_ | refine bA ?_ _)); refine blk_far ?_ NB120_125.out _; (with_reducible repeat (first | refine bN ?_ _ | refine bD ?_ | refine bA ?_ _)); refine blk_far ?_ NB120_125.out _; (with_reducible repeat (first | refine bN ?_ _ | refine bD ?_ | refine bA ?_ _)); refine blk_far ?_ NB120_125.out _; (with_reducible repeat (first | refine bN ?_ _ | refine bD ?_ | refine bA ?_ _)); refine blk_far ?_ NB120_125.out _; (with_reducible repeat (first | refine bN ?_ _ | refine bD ?_ | refine bA ?_ _)); exact BK120.out⟩
         have n1_ : Aside0 ((((((((((w86.setCell ⟨gb125, 0, none⟩ (.int .i64 8)).setCell ⟨gb125, 1, none⟩ (.int .i64 0)).setCell ⟨gb125, 2, none⟩ (.int .i64 a0_1)).setCell ⟨gb125, 3, none⟩ (.int .i64 0)).setCell ⟨gb125, 4, none⟩ (.bool false)).setCell ⟨gb125, 5, none⟩ (.string (a0_2.extract (a0_1 : Int).toNat ((wrap64 (a0_1 + (ji25))) : Int).toNat))).setCell ⟨gb125, 6, none⟩ (.slice none 0 0)).setCell ⟨gb125, 4, none⟩ (.bool ((wrap64 (a0_1 + (ji25))) == (a0_2.size : Int)))).setCell ⟨gb120, 1, none⟩ (.int .i64 (wrap64 (a0_1 + (ji25))))).heap[gb121]? = some (.cells #[.int .i64 0, .int .i64 0, .string (⟨#[]⟩ : ByteArray), .bool false] 25 (0, 0))) := ⟨by (with_reducible repeat (first | refine bN ?_ _ | refine bD ?_ | refine bA ?_ _)); refine blk_far ?_ NB121_120.out _; (with_reducible repeat (first | refine bN ?_ _ | refine bD ?_ | refine bA ?_ _)); refine blk_far ?_ NB121_125.out _; (with_reducible repeat (first | refine bN ?_ _ | refine bD ?_ | refine bA ?_ _)); refine blk_far ?_ NB121_125.out _; (with_reducible repeat (first | refine bN ?_ _ | refine bD ?_ | refine bA ?_ _)); refine blk_far ?_ NB121_125.out _; (with_reducible repeat (first | refine bN ?_ _ | refine bD ?_ | refine bA ?_ _)); refine blk_far ?_ NB121_125.out _; (with_reducible repeat (first | refine bN ?_ _ | refine bD ?_ | refine bA ?_ _)); refine blk_far ?_ NB121_125.out _; (with_reducible repeat (first | refine bN ?_ _ | refine bD ?_ | refine bA ?_ _)); refine blk_far ?_ NB121_125.out _; (with_reducible repeat (first | refine bN ?_ _ | refine bD ?_ | refine bA ?_ _)); refine blk_far ?_ NB121_125.out _; (with_reducible repeat (first | refine bN ?_ _ | refine bD ?_ | refine bA ?_ _)); refine blk_far ?_ NB121_125.out _; (with_reducible repeat (first | refine bN ?_ _ | refine bD ?_ | refine bA ?_ _)); exact BK121.out⟩
         have n2_ : Aside0 ((((((((((w86.setCell ⟨gb125, 0, none⟩ (.int .i64 8)).setCell ⟨gb125, 1, none⟩ (.int .i64 0)).setCell ⟨gb125, 2, none⟩ (.int .i64 a0_1)).setCell ⟨gb125, 3, none⟩ (.int .i64 0)).setCell ⟨gb125, 4, none⟩ (.bool false)).setCell ⟨gb125, 5, none⟩ (.string (a0_2.extract (a0_1 : Int).toNat ((wrap64 (a0_1 + (ji25))) : Int).toNat))).setCell ⟨gb125, 6, none⟩ (.slice none 0 0)).setCell ⟨gb125, 4, none⟩ (.bool ((wrap64 (a0_1 + (ji25))) == (a0_2.size : Int)))).setCell ⟨gb120, 1, none⟩ (.int .i64 (wrap64 (a0_1 + (ji25))))).heap[gb122]? = some (.cells #[.int .i64 0, .int .i64 0, .int .i64 0, .int .i64 0, .bool false, .string (⟨#[]⟩ : ByteArray), .slice none 0 0] 28 (0, 0))) := ⟨by (with_reducible repeat (first | refine bN ?_ _ | refine bD ?_ | refine bA ?_ _)); refine blk_far ?_ NB122_120.out _; (with_reducible repeat (first | refine bN ?_ _ | refine bD ?_ | refine bA ?_ _)); refine blk_far ?_ NB122_125.out _; (with_reducible repeat (first | refine bN ?_ _ | refine bD ?_ | refine bA ?_ _)); refine blk_far ?_ NB122_125.out _; (with_reducible repeat (first | refine bN ?_ _ | refine bD ?_ | refine bA ?_ _)); refine blk_far ?_ NB122_125.out _; (with_reducible repeat (first | refine bN ?_ _ | refine bD ?_ | refine bA ?_ _)); refine blk_far ?_ NB122_125.out _; (with_reducible repeat (first | refine bN ?_ _ | refine bD ?_ | refine bA ?_ _)); refine blk_far ?_ NB122_125.out _; (with_reducible repeat (first | refine bN ?_ _ | refine bD ?_ | refine bA ?_ _)); refine blk_far ?_ NB122_125.out _; (with_reducible repeat (first | refine bN ?_ _ | refine bD ?_ | refine bA ?_ _)); refine blk_far ?_ NB122_125.out _; (with_reducible repeat (first | refine bN ?_ _ | refine bD ?_ | refine bA ?_ _)); refine blk_far ?_ NB122_125.out _; (with_reducible repeat (first | refine bN ?_ _ | refine bD ?_ | refine bA ?_ _)); exact BK122.out⟩
         have n3_ : Aside0 ((((((((((w86.setCell ⟨gb125, 0, none⟩ (.int .i64 8)).setCell ⟨gb125, 1, none⟩ (.int .i64 0)).setCell ⟨gb125, 2, none⟩ (.int .i64 a0_1)).setCell ⟨gb125, 3, none⟩ (.int .i64 0)).setCell ⟨gb125, 4, none⟩ (.bool false)).setCell ⟨gb125, 5, none⟩ (.string (a0_2.extract (a0_1 : Int).toNat ((wrap64 (a0_1 + (ji25))) : Int).toNat))).setCell ⟨gb125, 6, none⟩ (.slice none 0 0)).setCell ⟨gb125, 4, none⟩ (.bool ((wrap64 (a0_1 + (ji25))) == (a0_2.size : Int)))).setCell ⟨gb120, 1, none⟩ (.int .i64 (wrap64 (a0_1 + (ji25))))).heap[gb125]? = some (.cells #[.int .i64 8, .int .i64 0, .int .i64 a0_1, .int .i64 0, .bool ((wrap64 (a0_1 + (ji25))) == (a0_2.size : Int)), .string (a0_2.extract (a0_1 : Int).toNat ((wrap64 (a0_1 + (ji25))) : Int).toNat), .slice none 0 0] 28 (0, 0))) := ⟨by (with_reducible repeat (first | refine bN ?_ _ | refine bD ?_ | refine bA ?_ _)); refine blk_far ?_ NB125_120.out _; (with_reducible repeat (first | refine bN ?_ _ | refine bD ?_ | refine bA ?_ _)); refine blk_put (cs := #[.int .i64 8, .int .i64 0, .int .i64 a0_1, .int .i64 0, .bool false, .string (a0_2.extract (a0_1 : Int).toNat ((wrap64 (a0_1 + (ji25))) : Int).toNat), .slice none 0 0]) ?_ 4 _ rfl; (with_reducible repeat (first | refine bN ?_ _ | refine bD ?_ | refine bA ?_ _)); refine blk_put (cs := #[.int .i64 8, .int .i64 0, .int .i64 a0_1, .int .i64 0, .bool false, .string (a0_2.extract (a0_1 : Int).toNat ((wrap64 (a0_1 + (ji25))) : Int).toNat), .slice none 0 0]) ?_ 6 _ rfl; (with_reducible repeat (first | refine bN ?_ _ | refine bD ?_ | refine bA ?_ _)); refine blk_put (cs := #[.int .i64 8, .int .i64 0, .int .i64 a0_1, .int .i64 0, .bool false, .string (⟨#[]⟩ : ByteArray), .slice none 0 0]) ?_ 5 _ rfl; (with_reducible repeat (first | refine bN ?_ _ | refine bD ?_ | refine bA ?_ _)); refine blk_put (cs := #[.int .i64 8, .int .i64 0, .int .i64 a0_1, .int .i64 0, .bool false, .string (⟨#[]⟩ : ByteArray), .slice none 0 0]) ?_ 4 _ rfl; (with_reducible repeat (first | refine bN ?_ _ | refine bD ?_ | refine bA ?_ _)); refine blk_put (cs := #[.int .i64 8, .int .i64 0, .int .i64 a0_1, .int .i64 0, .bool false, .string (⟨#[]⟩ : ByteArray), .slice none 0 0]) ?_ 3 _ rfl; (with_reducible repeat (first | refine bN ?_ _ | refine bD ?_ | refine bA ?_ _)); refine blk_put (cs := #[.int .i64 8, .int .i64 0, .int .i64 0, .int .i64 0, .bool false, .string (⟨#[]⟩ : ByteArray), .slice none 0 0]) ?_ 2 _ rfl; (with_reducible repeat (first | refine bN ?_ _ | refine bD ?_ | refine bA ?_ _)); refine blk_put (cs := #[.int .i64 8, .int .i64 0, .int .i64 0, .int .i64 0, .bool false, .string (⟨#[]⟩ : ByteArray), .slice none 0 0]) ?_ 1 _ rfl; (with_reducible repeat (first | refine bN ?_ _ | refine bD ?_ | refine bA ?_ _)); refine blk_put (cs := #[.int .i64 0, .int .i64 0, .int .i64 0, .int .i64 0, .bool false, .string (⟨#[]⟩ : ByteArray), .slice none 0 0]) ?_ 0 _ rfl; (with_reducible repeat (first | refine bN ?_ _ | refine bD ?_ | refine bA ?_ _)); exact BK125.out⟩
         have n4_ : Aside0 (Below w.heap.size w (((((((((w86.setCell ⟨gb125, 0, none⟩ (.int .i64 8)).setCell ⟨gb125, 1, none⟩ (.int .i64 0)).setCell ⟨gb125, 2, none⟩ (.int .i64 a0_1)).setCell ⟨gb125, 3, none⟩ (.int .i64 0)).setCell ⟨gb125, 4, none⟩ (.bool false)).setCell ⟨gb125, 5, none⟩ (.string (a0_2.extract (a0_1 : Int).toNat ((wrap64 (a0_1 + (ji25))) : Int).toNat))).setCell ⟨gb125, 6, none⟩ (.slice none 0 0)).setCell ⟨gb125, 4, none⟩ (.bool ((wrap64 (a0_1 + (ji25))) == (a0_2.size : Int)))).setCell ⟨gb120, 1, none⟩ (.int .i64 (wrap64 (a0_1 + (ji25)))))) := ⟨by repeat (first | (with_reducible first | exact HB.out | apply below_alloc | apply pw_below_drewN | apply below_drew1 | refine below_set ?_ GE120.out | refine below_set ?_ GE121.out | refine below_set ?_ GE122.out | refine below_set ?_ GE125.out) | exact HB.out)⟩
         (try clear BK120)
         (try clear BK121)
         (try clear BK122)
         (try clear BK125)
         (try clear HB)
         generalize (((((((((w86.setCell ⟨gb125, 0, none⟩ (.int .i64 8)).setCell ⟨gb125, 1, none⟩ (.int .i64 0)).setCell ⟨gb125, 2, none⟩ (.int .i64 a0_1)).setCell ⟨gb125, 3, none⟩ (.int .i64 0)).setCell ⟨gb125, 4, none⟩ (.bool false)).setCell ⟨gb125, 5, none⟩ (.string (a0_2.extract (a0_1 : Int).toNat ((wrap64 (a0_1 + (ji25))) : Int).toNat))).setCell ⟨gb125, 6, none⟩ (.slice none 0 0)).setCell ⟨gb125, 4, none⟩ (.bool ((wrap64 (a0_1 + (ji25))) == (a0_2.size : Int)))).setCell ⟨gb120, 1, none⟩ (.int .i64 (wrap64 (a0_1 + (ji25))))) = w99 at n0_ n1_ n2_ n3_ n4_ ⊢
         have BK120 := n0_
         have BK121 := n1_
         have BK122 := n2_
         have BK125 := n3_
         have HB := n4_
         clear n0_ n1_ n2_ n3_ n4_
         have n0_ := Aside0.mk (blk_drew BK120.out)
         have n1_ := Aside0.mk (blk_drew BK121.out)
         have n2_ := Aside0.mk (blk_drew BK122.out)
         have n3_ := Aside0.mk (blk_drew BK125.out)
         have n4_ := Aside0.mk (below_drew1 HB.out)
         clear BK120
         clear BK121
         clear BK122
         clear BK125
         clear HB
         have BK120 := n0_
         have BK121 := n1_
         have BK122 := n2_
         have BK125 := n3_
         have HB := n4_
         clear n0_ n1_ n2_ n3_ n4_
         refine start_ (n := 5) (S := fun w' => w'.cell? ⟨gb120, 0, none⟩ = some (.int .i64 a0_0) ∧ w'.cell? ⟨gb120, 1, none⟩ = some (.int .i64 (wrap64 (a0_1 + (ji25)))) ∧ w'.cell? ⟨gb120, 2, none⟩ = some (.string a0_2) ∧ w'.cell? ⟨gb120, 3, none⟩ = some (.bool true) ∧ w'.cell? ⟨gb125, 0, none⟩ = some (.int .i64 8) ∧ w'.cell? ⟨gb125, 1, none⟩ = some (.int .i64 0) ∧ w'.cell? ⟨gb125, 2, none⟩ = some (.int .i64 a0_1) ∧ w'.cell? ⟨gb125, 3, none⟩ = some (.int .i64 0) ∧ w'.cell? ⟨gb125, 4, none⟩ = some (.bool ((wrap64 (a0_1 + (ji25))) == (a0_2.size : Int))) ∧ w'.cell? ⟨gb125, 5, none⟩ = some (.string (a0_2.extract (a0_1 : Int).toNat ((wrap64 (a0_1 + (ji25))) : Int).toNat)) ∧ w'.cell? ⟨gb125, 6, none⟩ = some (.slice none 0 0)) (ds := []) #[false, false, false, false, false] (by kernel_rfl) rfl rfl (cx4 BK120 (cz7 BK125)) (fun hHeld => ?_)
         generalize w99.drew = w100 at BK120 BK121 BK122 BK125 HB hHeld ⊢
         refine take_ (i := 0) (N := some 71) (v := ?_) (a' := ?_) #[true, false, false, false, false] rfl rfl (by kernel_rfl) (fun _ _ _ h => h) (Or.inl ⟨by rfl, ?_⟩) hHeld ?_ ?_
         rotate_left
         ·rintro w' ⟨s0, s1, s2, s3, s4, s5, s6, s7, s8, s9, s10⟩
          go_simp
          with_reducible rfl
         rotate_left
         ·simp only [Act.put, sA, sZ, sS, i64_w, i32_w]
          rfl
         refine take_ (i := 1) (N := some 72) (v := ?_) (a' := ?_) #[true, true, false, false, false] rfl rfl (by kernel_rfl) (fun _ _ _ h => h) (Or.inl ⟨by rfl, ?_⟩) hHeld ?_ ?_
         rotate_left
         ·rintro w' ⟨s0, s1, s2, s3, s4, s5, s6, s7, s8, s9, s10⟩
          go_simp
          with_reducible rfl
         rotate_left
         ·simp only [Act.put, sA, sZ, sS, i64_w, i32_w]
          rfl
         refine one_ (i := 2) (N := none) #[true, true, true, false, false] rfl rfl (by kernel_rfl) (by decide) (fun K hK => ?_)
         have hs101 : w100.cell? ⟨gb121, 0, none⟩ = some (.int .i64 0) := (blk_cell BK121.out 0).trans rfl
         have hfs101 := blk_frozen BK121.out 0
         have hns101_0 := NB120_121.out
         have hns101_2 := NB122_121.out
         have hns101_3 := NB125_121.out
         have hms101_0 := NB121_120.out
         have hms101_2 := NB121_122.out
         have hms101_3 := NB121_125.out
         have hs102 : w100.cell? ⟨gb121, 1, none⟩ = some (.int .i64 0) := (blk_cell BK121.out 1).trans rfl
         have hfs102 := blk_frozen BK121.out 1
         have hns102_0 := NB120_121.out
         have hns102_2 := NB122_121.out
         have hns102_3 := NB125_121.out
         have hms102_0 := NB121_120.out
         have hms102_2 := NB121_122.out
         have hms102_3 := NB121_125.out
         have hs103 : w100.cell? ⟨gb121, 2, none⟩ = some (.string (⟨#[]⟩ : ByteArray)) := (blk_cell BK121.out 2).trans rfl
         have hfs103 := blk_frozen BK121.out 2
         have hns103_0 := NB120_121.out
         have hns103_2 := NB122_121.out
         have hns103_3 := NB125_121.out
         have hms103_0 := NB121_120.out
         have hms103_2 := NB121_122.out
         have hms103_3 := NB121_125.out
         have hs104 : w100.cell? ⟨gb121, 3, none⟩ = some (.bool false) := (blk_cell BK121.out 3).trans rfl
         have hfs104 := blk_frozen BK121.out 3
         have hns104_0 := NB120_121.out
         have hns104_2 := NB122_121.out
         have hns104_3 := NB125_121.out
         have hms104_0 := NB121_120.out
         have hms104_2 := NB121_122.out
         have hms104_3 := NB121_125.out
         refine skip_ (w1 := ?_) (by rfl) rfl ?_ ?_
         rotate_left
         ·go_simp
          rfl
         refine hK.out _ _ ⟨((cell_far (p := ⟨gb121, _, none⟩) NB120_121.out _).trans (((cell_far (p := ⟨gb121, _, none⟩) NB120_121.out _).trans (((cell_far (p := ⟨gb121, _, none⟩) NB120_121.out _).trans (((cell_far (p := ⟨gb121, _, none⟩) NB120_121.out _).trans (hHeld.1)))))))), ((cell_far (p := ⟨gb121, _, none⟩) NB120_121.out _).trans (((cell_far (p := ⟨gb121, _, none⟩) NB120_121.out _).trans (((cell_far (p := ⟨gb121, _, none⟩) NB120_121.out _).trans (((cell_far (p := ⟨gb121, _, none⟩) NB120_121.out _).trans (hHeld.2.1)))))))), ((cell_far (p := ⟨gb121, _, none⟩) NB120_121.out _).trans (((cell_far (p := ⟨gb121, _, none⟩) NB120_121.out _).trans (((cell_far (p := ⟨gb121, _, none⟩) NB120_121.out _).trans (((cell_far (p := ⟨gb121, _, none⟩) NB120_121.out _).trans (hHeld.2.2.1)))))))), ((cell_far (p := ⟨gb121, _, none⟩) NB120_121.out _).trans (((cell_far (p := ⟨gb121, _, none⟩) NB120_121.out _).trans (((cell_far (p := ⟨gb121, _, none⟩) NB120_121.out _).trans (((cell_far (p := ⟨gb121, _, none⟩) NB120_121.out _).trans (hHeld.2.2.2.1)))))))), ((cell_far (p := ⟨gb121, _, none⟩) NB125_121.out _).trans (((cell_far (p := ⟨gb121, _, none⟩) NB125_121.out _).trans (((cell_far (p := ⟨gb121, _, none⟩) NB125_121.out _).trans (((cell_far (p := ⟨gb121, _, none⟩) NB125_121.out _).trans (hHeld.2.2.2.2.1)))))))), ((cell_far (p := ⟨gb121, _, none⟩) NB125_121.out _).trans (((cell_far (p := ⟨gb121, _, none⟩) NB125_121.out _).trans (((cell_far (p := ⟨gb121, _, none⟩) NB125_121.out _).trans (((cell_far (p := ⟨gb121, _, none⟩) NB125_121.out _).trans (hHeld.2.2.2.2.2.1)))))))), ((cell_far (p := ⟨gb121, _, none⟩) NB125_121.out _).trans (((cell_far (p := ⟨gb121, _, none⟩) NB125_121.out _).trans (((cell_far (p := ⟨gb121, _, none⟩) NB125_121.out _).trans (((cell_far (p := ⟨gb121, _, none⟩) NB125_121.out _).trans (hHeld.2.2.2.2.2.2.1)))))))), ((cell_far (p := ⟨gb121, _, none⟩) NB125_121.out _).trans (((cell_far (p := ⟨gb121, _, none⟩) NB125_121.out _).trans (((cell_far (p := ⟨gb121, _, none⟩) NB125_121.out _).trans (((cell_far (p := ⟨gb121, _, none⟩) NB125_121.out _).trans (hHeld.2.2.2.2.2.2.2.1)))))))), ((cell_far (p := ⟨gb121, _, none⟩) NB125_121.out _).trans (((cell_far (p := ⟨gb121, _, none⟩) NB125_121.out _).trans (((cell_far (p := ⟨gb121, _, none⟩) NB125_121.out _).trans (((cell_far (p := ⟨gb121, _, none⟩) NB125_121.out _).trans (hHeld.2.2.2.2.2.2.2.2.1)))))))), ((cell_far (p := ⟨gb121, _, none⟩) NB125_121.out _).trans (((cell_far (p := ⟨gb121, _, none⟩) NB125_121.out _).trans (((cell_far (p := ⟨gb121, _, none⟩) NB125_121.out _).trans (((cell_far (p := ⟨gb121, _, none⟩) NB125_121.out _).trans (hHeld.2.2.2.2.2.2.2.2.2.1)))))))), ((cell_far (p := ⟨gb121, _, none⟩) NB125_121.out _).trans (((cell_far (p := ⟨gb121, _, none⟩) NB125_121.out _).trans (((cell_far (p := ⟨gb121, _, none⟩) NB125_121.out _).trans (((cell_far (p := ⟨gb121, _, none⟩) NB125_121.out _).trans (hHeld.2.2.2.2.2.2.2.2.2.2))))))))⟩ (fun hHeld => ?_)
         clear hK K
         refine one_ (i := 3) (N := none) #[true, true, true, true, false] rfl rfl (by kernel_rfl) (by decide) (fun K hK => ?_)
         have hs105 : w100.cell? ⟨gb122, 0, none⟩ = some (.int .i64 0) := (blk_cell BK122.out 0).trans rfl
         have hfs105 := blk_frozen BK122.out 0
         have hns105_0 := NB120_122.out
         have hns105_1 := NB121_122.out
         have hns105_3 := NB125_122.out
         have hms105_0 := NB122_120.out
         have hms105_1 := NB122_121.out
         have hms105_3 := NB122_125.out
         have hs106 : w100.cell? ⟨gb122, 1, none⟩ = some (.int .i64 0) := (blk_cell BK122.out 1).trans rfl
         have hfs106 := blk_frozen BK122.out 1
         have hns106_0 := NB120_122.out
         have hns106_1 := NB121_122.out
         have hns106_3 := NB125_122.out
         have hms106_0 := NB122_120.out
         have hms106_1 := NB122_121.out
         have hms106_3 := NB122_125.out
         have hs107 : w100.cell? ⟨gb122, 2, none⟩ = some (.int .i64 0) := (blk_cell BK122.out 2).trans rfl
         have hfs107 := blk_frozen BK122.out 2
         have hns107_0 := NB120_122.out
         have hns107_1 := NB121_122.out
         have hns107_3 := NB125_122.out
         have hms107_0 := NB122_120.out
         have hms107_1 := NB122_121.out
         have hms107_3 := NB122_125.out
         have hs108 : w100.cell? ⟨gb122, 3, none⟩ = some (.int .i64 0) := (blk_cell BK122.out 3).trans rfl
         have hfs108 := blk_frozen BK122.out 3
         have hns108_0 := NB120_122.out
         have hns108_1 := NB121_122.out
         have hns108_3 := NB125_122.out
         have hms108_0 := NB122_120.out
         have hms108_1 := NB122_121.out
         have hms108_3 := NB122_125.out
         have hs109 : w100.cell? ⟨gb122, 4, none⟩ = some (.bool false) := (blk_cell BK122.out 4).trans rfl
         have hfs109 := blk_frozen BK122.out 4
         have hns109_0 := NB120_122.out
         have hns109_1 := NB121_122.out
         have hns109_3 := NB125_122.out
         have hms109_0 := NB122_120.out
         have hms109_1 := NB122_121.out
         have hms109_3 := NB122_125.out
         have hs110 : w100.cell? ⟨gb122, 5, none⟩ = some (.string (⟨#[]⟩ : ByteArray)) := (blk_cell BK122.out 5).trans rfl
         have hfs110 := blk_frozen BK122.out 5
         have hns110_0 := NB120_122.out
         have hns110_1 := NB121_122.out
         have hns110_3 := NB125_122.out
         have hms110_0 := NB122_120.out
         have hms110_1 := NB122_121.out
         have hms110_3 := NB122_125.out
         have hs111 : w100.cell? ⟨gb122, 6, none⟩ = some (.slice none 0 0) := (blk_cell BK122.out 6).trans rfl
         have hfs111 := blk_frozen BK122.out 6
         have hns111_0 := NB120_122.out
         have hns111_1 := NB121_122.out
         have hns111_3 := NB125_122.out
         have hms111_0 := NB122_120.out
         have hms111_1 := NB122_121.out
         have hms111_3 := NB122_125.out
         refine skip_ (w1 := ?_) (by rfl) rfl ?_ ?_
         rotate_left
         ·go_simp
          rfl
         refine hK.out _ _ ⟨((cell_far (p := ⟨gb122, _, none⟩) NB120_122.out _).trans (((cell_far (p := ⟨gb122, _, none⟩) NB120_122.out _).trans (((cell_far (p := ⟨gb122, _, none⟩) NB120_122.out _).trans (((cell_far (p := ⟨gb122, _, none⟩) NB120_122.out _).trans (((cell_far (p := ⟨gb122, _, none⟩) NB120_122.out _).trans (((cell_far (p := ⟨gb122, _, none⟩) NB120_122.out _).trans (((cell_far (p := ⟨gb122, _, none⟩) NB120_122.out _).trans (hHeld.1)))))))))))))), ((cell_far (p := ⟨gb122, _, none⟩) NB120_122.out _).trans (((cell_far (p := ⟨gb122, _, none⟩) NB120_122.out _).trans (((cell_far (p := ⟨gb122, _, none⟩) NB120_122.out _).trans (((cell_far (p := ⟨gb122, _, none⟩) NB120_122.out _).trans (((cell_far (p := ⟨gb122, _, none⟩) NB120_122.out _).trans (((cell_far (p := ⟨gb122, _, none⟩) NB120_122.out _).trans (((cell_far (p := ⟨gb122, _, none⟩) NB120_122.out _).trans (hHeld.2.1)))))))))))))), ((cell_far (p := ⟨gb122, _, none⟩) NB120_122.out _).trans (((cell_far (p := ⟨gb122, _, none⟩) NB120_122.out _).trans (((cell_far (p := ⟨gb122, _, none⟩) NB120_122.out _).trans (((cell_far (p := ⟨gb122, _, none⟩) NB120_122.out _).trans (((cell_far (p := ⟨gb122, _, none⟩) NB120_122.out _).trans (((cell_far (p := ⟨gb122, _, none⟩) NB120_122.out _).trans (((cell_far (p := ⟨gb122, _, none⟩) NB120_122.out _).trans (hHeld.2.2.1)))))))))))))), ((cell_far (p := ⟨gb122, _, none⟩) NB120_122.out _).trans (((cell_far (p := ⟨gb122, _, none⟩) NB120_122.out _).trans (((cell_far (p := ⟨gb122, _, none⟩) NB120_122.out _).trans (((cell_far (p := ⟨gb122, _, none⟩) NB120_122.out _).trans (((cell_far (p := ⟨gb122, _, none⟩) NB120_122.out _).trans (((cell_far (p := ⟨gb122, _, none⟩) NB120_122.out _).trans (((cell_far (p := ⟨gb122, _, none⟩) NB120_122.out _).trans (hHeld.2.2.2.1)))))))))))))), ((cell_far (p := ⟨gb122, _, none⟩) NB125_122.out _).trans (((cell_far (p := ⟨gb122, _, none⟩) NB125_122.out _).trans (((cell_far (p := ⟨gb122, _, none⟩) NB125_122.out _).trans (((cell_far (p := ⟨gb122, _, none⟩) NB125_122.out _).trans (((cell_far (p := ⟨gb122, _, none⟩) NB125_122.out _).trans (((cell_far (p := ⟨gb122, _, none⟩) NB125_122.out _).trans (((cell_far (p := ⟨gb122, _, none⟩) NB125_122.out _).trans (hHeld.2.2.2.2.1)))))))))))))), ((cell_far (p := ⟨gb122, _, none⟩) NB125_122.out _).trans (((cell_far (p := ⟨gb122, _, none⟩) NB125_122.out _).trans (((cell_far (p := ⟨gb122, _, none⟩) NB125_122.out _).trans (((cell_far (p := ⟨gb122, _, none⟩) NB125_122.out _).trans (((cell_far (p := ⟨gb122, _, none⟩) NB125_122.out _).trans (((cell_far (p := ⟨gb122, _, none⟩) NB125_122.out _).trans (((cell_far (p := ⟨gb122, _, none⟩) NB125_122.out _).trans (hHeld.2.2.2.2.2.1)))))))))))))), ((cell_far (p := ⟨gb122, _, none⟩) NB125_122.out _).trans (((cell_far (p := ⟨gb122, _, none⟩) NB125_122.out _).trans (((cell_far (p := ⟨gb122, _, none⟩) NB125_122.out _).trans (((cell_far (p := ⟨gb122, _, none⟩) NB125_122.out _).trans (((cell_far (p := ⟨gb122, _, none⟩) NB125_122.out _).trans (((cell_far (p := ⟨gb122, _, none⟩) NB125_122.out _).trans (((cell_far (p := ⟨gb122, _, none⟩) NB125_122.out _).trans (hHeld.2.2.2.2.2.2.1)))))))))))))), ((cell_far (p := ⟨gb122, _, none⟩) NB125_122.out _).trans (((cell_far (p := ⟨gb122, _, none⟩) NB125_122.out _).trans (((cell_far (p := ⟨gb122, _, none⟩) NB125_122.out _).trans (((cell_far (p := ⟨gb122, _, none⟩) NB125_122.out _).trans (((cell_far (p := ⟨gb122, _, none⟩) NB125_122.out _).trans (((cell_far (p := ⟨gb122, _, none⟩) NB125_122.out _).trans (((cell_far (p := ⟨gb122, _, none⟩) NB125_122.out _).trans (hHeld.2.2.2.2.2.2.2.1)))))))))))))), ((cell_far (p := ⟨gb122, _, none⟩) NB125_122.out _).trans (((cell_far (p := ⟨gb122, _, none⟩) NB125_122.out _).trans (((cell_far (p := ⟨gb122, _, none⟩) NB125_122.out _).trans (((cell_far (p := ⟨gb122, _, none⟩) NB125_122.out _).trans (((cell_far (p := ⟨gb122, _, none⟩) NB125_122.out _).trans (((cell_far (p := ⟨gb122, _, none⟩) NB125_122.out _).trans (((cell_far (p := ⟨gb122, _, none⟩) NB125_122.out _).trans (hHeld.2.2.2.2.2.2.2.2.1)))))))))))))), ((cell_far (p := ⟨gb122, _, none⟩) NB125_122.out _).trans (((cell_far (p := ⟨gb122, _, none⟩) NB125_122.out _).trans (((cell_far (p := ⟨gb122, _, none⟩) NB125_122.out _).trans (((cell_far (p := ⟨gb122, _, none⟩) NB125_122.out _).trans (((cell_far (p := ⟨gb122, _, none⟩) NB125_122.out _).trans (((cell_far (p := ⟨gb122, _, none⟩) NB125_122.out _).trans (((cell_far (p := ⟨gb122, _, none⟩) NB125_122.out _).trans (hHeld.2.2.2.2.2.2.2.2.2.1)))))))))))))), ((cell_far (p := ⟨gb122, _, none⟩) NB125_122.out _).trans (((cell_far (p := ⟨gb122, _, none⟩) NB125_122.out _).trans (((cell_far (p := ⟨gb122, _, none⟩) NB125_122.out _).trans (((cell_far (p := ⟨gb122, _, none⟩) NB125_122.out _).trans (((cell_far (p := ⟨gb122, _, none⟩) NB125_122.out _).trans (((cell_far (p := ⟨gb122, _, none⟩) NB125_122.out _).trans (((cell_far (p := ⟨gb122, _, none⟩) NB125_122.out _).trans (hHeld.2.2.2.2.2.2.2.2.2.2))))))))))))))⟩ (fun hHeld => ?_)
         clear hK K
         refine pure_ (i := 4) (N := some 6) (v := ?_) (a' := ?_) #[true, true, true, true, true] rfl rfl (by kernel_rfl) (fun _ _ _ h => h) (Or.inl ⟨by rfl, ?_⟩) ?_ ?_
         rotate_left
         ·intro w'
          go_simp
          with_reducible rfl
         rotate_left
         ·simp only [Act.put, sA, sZ, sS, i64_w, i32_w]
          rfl
         refine done_ (by kernel_rfl) ?_
         try go_wp2
         refine bodyPost_ret (results_list (rs := [.cell 4 25, .cell 5 28, .tmp 6]) rfl (by simp) (.cell gb121 25 #[.int .i64 a0_0, .int .i64 (wrap64 (a0_1 + (ji25))), .string a0_2, .bool true] (0, 0) _ rfl (by (with_reducible repeat (first | refine bN ?_ _ | refine bD ?_ | refine bA ?_ _)); refine blk_far ?_ NB121_122.out _; (with_reducible repeat (first | refine bN ?_ _ | refine bD ?_ | refine bA ?_ _)); refine blk_far ?_ NB121_122.out _; (with_reducible repeat (first | refine bN ?_ _ | refine bD ?_ | refine bA ?_ _)); refine blk_far ?_ NB121_122.out _; (with_reducible repeat (first | refine bN ?_ _ | refine bD ?_ | refine bA ?_ _)); refine blk_far ?_ NB121_122.out _; (with_reducible repeat (first | refine bN ?_ _ | refine bD ?_ | refine bA ?_ _)); refine blk_far ?_ NB121_122.out _; (with_reducible repeat (first | refine bN ?_ _ | refine bD ?_ | refine bA ?_ _)); refine blk_far ?_ NB121_122.out _; (with_reducible repeat (first | refine bN ?_ _ | refine bD ?_ | refine bA ?_ _)); refine blk_far ?_ NB121_122.out _; (with_reducible repeat (first | refine bN ?_ _ | refine bD ?_ | refine bA ?_ _)); refine blk_put (cs := #[.int .i64 a0_0, .int .i64 (wrap64 (a0_1 + (ji25))), .string a0_2, .bool false]) ?_ 3 _ rfl; (with_reducible repeat (first | refine bN ?_ _ | refine bD ?_ | refine bA ?_ _)); refine blk_put (cs := #[.int .i64 a0_0, .int .i64 (wrap64 (a0_1 + (ji25))), .string (⟨#[]⟩ : ByteArray), .bool false]) ?_ 2 _ rfl; (with_reducible repeat (first | refine bN ?_ _ | refine bD ?_ | refine bA ?_ _)); refine blk_put (cs := #[.int .i64 a0_0, .int .i64 0, .string (⟨#[]⟩ : ByteArray), .bool false]) ?_ 1 _ rfl; (with_reducible repeat (first | refine bN ?_ _ | refine bD ?_ | refine bA ?_ _)); refine blk_put (cs := #[.int .i64 0, .int .i64 0, .string (⟨#[]⟩ : ByteArray), .bool false]) ?_ 0 _ rfl; (with_reducible repeat (first | refine bN ?_ _ | refine bD ?_ | refine bA ?_ _)); exact BK121.out) Try.underlying25 rfl (by kernel_rfl) (.cell gb122 28 #[.int .i64 8, .int .i64 0, .int .i64 a0_1, .int .i64 0, .bool ((wrap64 (a0_1 + (ji25))) == (a0_2.size : Int)), .string (a0_2.extract (a0_1 : Int).toNat ((wrap64 (a0_1 + (ji25))) : Int).toNat), .slice none 0 0] (0, 0) _ rfl (by (with_reducible repeat (first | refine bN ?_ _ | refine bD ?_ | refine bA ?_ _)); refine blk_put (cs := #[.int .i64 8, .int .i64 0, .int .i64 a0_1, .int .i64 0, .bool ((wrap64 (a0_1 + (ji25))) == (a0_2.size : Int)), .string (a0_2.extract (a0_1 : Int).toNat ((wrap64 (a0_1 + (ji25))) : Int).toNat), .slice none 0 0]) ?_ 6 _ rfl; (with_reducible repeat (first | refine bN ?_ _ | refine bD ?_ | refine bA ?_ _)); refine blk_put (cs := #[.int .i64 8, .int .i64 0, .int .i64 a0_1, .int .i64 0, .bool ((wrap64 (a0_1 + (ji25))) == (a0_2.size : Int)), .string (⟨#[]⟩ : ByteArray), .slice none 0 0]) ?_ 5 _ rfl; (with_reducible repeat (first | refine bN ?_ _ | refine bD ?_ | refine bA ?_ _)); refine blk_put (cs := #[.int .i64 8, .int .i64 0, .int .i64 a0_1, .int .i64 0, .bool false, .string (⟨#[]⟩ : ByteArray), .slice none 0 0]) ?_ 4 _ rfl; (with_reducible repeat (first | refine bN ?_ _ | refine bD ?_ | refine bA ?_ _)); refine blk_put (cs := #[.int .i64 8, .int .i64 0, .int .i64 a0_1, .int .i64 0, .bool false, .string (⟨#[]⟩ : ByteArray), .slice none 0 0]) ?_ 3 _ rfl; (with_reducible repeat (first | refine bN ?_ _ | refine bD ?_ | refine bA ?_ _)); refine blk_put (cs := #[.int .i64 8, .int .i64 0, .int .i64 0, .int .i64 0, .bool false, .string (⟨#[]⟩ : ByteArray), .slice none 0 0]) ?_ 2 _ rfl; (with_reducible repeat (first | refine bN ?_ _ | refine bD ?_ | refine bA ?_ _)); refine blk_put (cs := #[.int .i64 8, .int .i64 0, .int .i64 0, .int .i64 0, .bool false, .string (⟨#[]⟩ : ByteArray), .slice none 0 0]) ?_ 1 _ rfl; (with_reducible repeat (first | refine bN ?_ _ | refine bD ?_ | refine bA ?_ _)); refine blk_put (cs := #[.int .i64 0, .int .i64 0, .int .i64 0, .int .i64 0, .bool false, .string (⟨#[]⟩ : ByteArray), .slice none 0 0]) ?_ 0 _ rfl; (with_reducible repeat (first | refine bN ?_ _ | refine bD ?_ | refine bA ?_ _)); refine blk_far ?_ NB122_121.out _; (with_reducible repeat (first | refine bN ?_ _ | refine bD ?_ | refine bA ?_ _)); refine blk_far ?_ NB122_121.out _; (with_reducible repeat (first | refine bN ?_ _ | refine bD ?_ | refine bA ?_ _)); refine blk_far ?_ NB122_121.out _; (with_reducible repeat (first | refine bN ?_ _ | refine bD ?_ | refine bA ?_ _)); refine blk_far ?_ NB122_121.out _; (with_reducible repeat (first | refine bN ?_ _ | refine bD ?_ | refine bA ?_ _)); exact BK122.out) Try.underlying28 rfl (by kernel_rfl) (.tmp .nil)))) rfl ?_
         exact ⟨_, by first | rfl | (simp [errW_none, errW_some] <;> rfl) | (simp only [← hji24, ← hji25]; first | rfl | (simp [errW_none, errW_some] <;> rfl)) | (simp [*, errW_none, errW_some] <;> rfl), by first | exact Kd.R_nil _ _ _ _ _ | exact Kd.N_nil _ _ _ _ _ | exact Kd.V_nil _ _ _ _ _ | exact Kd.Q_nil _ _ _ _ _ | exact Kd.S_nil _ _ _ _ _, by repeat (first | (with_reducible first | exact HB.out | apply below_alloc | apply pw_below_drewN | apply below_drew1 | refine below_set ?_ GE120.out | refine below_set ?_ GE121.out | refine below_set ?_ GE122.out | refine below_set ?_ GE125.out) | exact HB.out)⟩
       ·replace c29 := Bool.eq_false_iff.mpr c29
        subst c29
        have H1 : (if (ji25) = 0 then (some (0, 0, (⟨#[]⟩ : ByteArray), false, 0, 0, 0, 0, false, (⟨#[]⟩ : ByteArray), ([] : List (S203)), false)) else (some (a0_0, wrap64 (a0_1 + (ji25)), a0_2, false, 8, 0, a0_1, 0, false, a0_2.extract (a0_1 : Int).toNat ((wrap64 (a0_1 + (ji25))) : Int).toNat, ([] : List (S203)), true))) = some (r1, r2, r3, r4, r5, r6, r7, r8, r9, r10, r11, r12) := by rw [if_neg (show ¬ (false = true) by decide)] at H; exact H
        clear H
        have H := H1
        clear H1
        by_cases c112 : (ji25) = 0
        ·rw [if_pos c112] at H
         have c112b0 : ((ji25) == 0) = true := beq_iff_eq.mpr c112
         have c112b1 : ((ji25) != 0) = false := bne_eq_false_iff_eq.mpr c112
         clear c112
         simp only [Option.some.injEq, Prod.mk.injEq] at H
         obtain ⟨rfl, rfl, rfl, rfl, rfl, rfl, rfl, rfl, rfl, rfl, rfl, rfl⟩ := H
         have hnb113 := NB120_121.out
         have hnc113 := NB121_120.out
         have hnb114 := NB120_122.out
         have hnc114 := NB122_120.out
         obtain ⟨hcz115_0, hcz115_1, hcz115_2, hcz115_3⟩ := cz4 BK120
         obtain ⟨hfz115_0, hfz115_1, hfz115_2, hfz115_3⟩ := fz4 BK120
         try go_wp2
         have n0_ := Aside0.mk (blk_drew BK120.out)
         have n1_ := Aside0.mk (blk_drew BK121.out)
         have n2_ := Aside0.mk (blk_drew BK122.out)
         have n3_ := Aside0.mk (below_drew1 HB.out)
         clear BK120
         clear BK121
         clear BK122
         clear HB
         have BK120 := n0_
         have BK121 := n1_
         have BK122 := n2_
         have HB := n3_
         clear n0_ n1_ n2_ n3_
         refine start_ (n := 14) (S := fun w' => w'.cell? ⟨gb120, 0, none⟩ = some (.int .i64 a0_0) ∧ w'.cell? ⟨gb120, 1, none⟩ = some (.int .i64 a0_1) ∧ w'.cell? ⟨gb120, 2, none⟩ = some (.string a0_2) ∧ w'.cell? ⟨gb120, 3, none⟩ = some (.bool false)) (ds := []) (bm 14 0) (by kernel_rfl) rfl rfl (cz4 BK120) (fun hHeld => ?_); refine with_tabW impl_NextPiece.tab4 impl_NextPiece.bits4 (fun HT_ HW_ => ?_)
         generalize wc.drew = w116 at BK120 BK121 BK122 HB hHeld ⊢
         refine pure_ (i := 0) (N := some 32) (v := ?_) (a' := ?_) (bm 14 1) rfl rfl (any_of HT_.out (by kernel_rfl)) (fun _ _ _ h => h) (Or.inl ⟨by rfl, ?_⟩) ?_ ?_
         rotate_left
         ·intro w'
          go_simp
          with_reducible rfl
         rotate_left
         ·simp only [Act.put, sA, sZ, sS, i64_w, i32_w]
          rfl
         refine pure_ (i := 2) (N := some 34) (v := ?_) (a' := ?_) (bm 14 5) rfl rfl (any_of HT_.out (by kernel_rfl)) (fun _ _ _ h => h) (Or.inl ⟨by rfl, ?_⟩) ?_ ?_
         rotate_left
         ·intro w'
          go_simp
          with_reducible rfl
         rotate_left
         ·simp only [Act.put, sA, sZ, sS, i64_w, i32_w]
          rfl
         refine pure_ (i := 4) (N := some 36) (v := ?_) (a' := ?_) (bm 14 21) rfl rfl (any_of HT_.out (by kernel_rfl)) (fun _ _ _ h => h) (Or.inl ⟨by rfl, ?_⟩) ?_ ?_
         rotate_left
         ·intro w'
          go_simp
          with_reducible rfl
         rotate_left
         ·simp only [Act.put, sA, sZ, sS, i64_w, i32_w]
          rfl
         refine pure_ (i := 6) (N := some 38) (v := ?_) (a' := ?_) (bm 14 85) rfl rfl (any_of HT_.out (by kernel_rfl)) (fun _ _ _ h => h) (Or.inl ⟨by rfl, ?_⟩) ?_ ?_
         rotate_left
         ·intro w'
          go_simp
          with_reducible rfl
         rotate_left
         ·simp only [Act.put, sA, sZ, sS, i64_w, i32_w]
          rfl
         refine pure_ (i := 8) (N := some 40) (v := ?_) (a' := ?_) (bm 14 341) rfl rfl (any_of HT_.out (by kernel_rfl)) (fun _ _ _ h => h) (Or.inl ⟨by rfl, ?_⟩) ?_ ?_
         rotate_left
         ·intro w'
          go_simp
          with_reducible rfl
         rotate_left
         ·simp only [Act.put, sA, sZ, sS, i64_w, i32_w]
          rfl
         refine take_ (i := 1) (N := some 33) (v := ?_) (a' := ?_) (bm 14 343) rfl rfl (take_ofW HT_.out HW_.out (by kernel_rfl)) (fun _ _ _ h => h) (Or.inl ⟨by rfl, ?_⟩) hHeld ?_ ?_
         rotate_left
         ·rintro w' ⟨s0, s1, s2, s3⟩
          go_simp
          with_reducible rfl
         rotate_left
         ·simp only [Act.put, sA, sZ, sS, i64_w, i32_w]
          rfl
         refine take_ (i := 3) (N := some 35) (v := ?_) (a' := ?_) (bm 14 351) rfl rfl (take_ofW HT_.out HW_.out (by kernel_rfl)) (fun _ _ _ h => h) (Or.inl ⟨by rfl, ?_⟩) hHeld ?_ ?_
         rotate_left
         ·rintro w' ⟨s0, s1, s2, s3⟩
          go_simp
          with_reducible rfl
         rotate_left
         ·simp only [Act.put, sA, sZ, sS, i64_w, i32_w]
          rfl
         refine take_ (i := 5) (N := some 37) (v := ?_) (a' := ?_) (bm 14 383) rfl rfl (take_ofW HT_.out HW_.out (by kernel_rfl)) (fun _ _ _ h => h) (Or.inl ⟨by rfl, ?_⟩) hHeld ?_ ?_
         rotate_left
         ·rintro w' ⟨s0, s1, s2, s3⟩
          go_simp
          with_reducible rfl
         rotate_left
         ·simp only [Act.put, sA, sZ, sS, i64_w, i32_w]
          rfl
         refine take_ (i := 7) (N := some 39) (v := ?_) (a' := ?_) (bm 14 511) rfl rfl (take_ofW HT_.out HW_.out (by kernel_rfl)) (fun _ _ _ h => h) (Or.inl ⟨by rfl, ?_⟩) hHeld ?_ ?_
         rotate_left
         ·rintro w' ⟨s0, s1, s2, s3⟩
          go_simp
          with_reducible rfl
         rotate_left
         ·simp only [Act.put, sA, sZ, sS, i64_w, i32_w]
          rfl
         refine pure_ (i := 9) (N := some 41) (v := ?_) (a' := ?_) (bm 14 1023) rfl rfl (any_of HT_.out (by kernel_rfl)) (fun _ _ _ h => h) (Or.inl ⟨by rfl, ?_⟩) ?_ ?_
         rotate_left
         ·intro w'
          go_simp
          with_reducible rfl
         rotate_left
         ·simp only [Act.put, sA, sZ, sS, i64_w, i32_w]
          rfl
         refine pure_ (i := 10) (N := some 42) (v := ?_) (a' := ?_) (bm 14 2047) rfl rfl (any_of HT_.out (by kernel_rfl)) (fun _ _ _ h => h) (Or.inl ⟨by rfl, ?_⟩) ?_ ?_
         rotate_left
         ·intro w'
          go_simp
          with_reducible rfl
         rotate_left
         ·simp only [Act.put, sA, sZ, sS, i64_w, i32_w]
          rfl
         refine pure_ (i := 11) (N := some 43) (v := ?_) (a' := ?_) (bm 14 4095) rfl rfl (any_of HT_.out (by kernel_rfl)) (fun _ _ _ h => h) (Or.inl ⟨by rfl, ?_⟩) ?_ ?_
         rotate_left
         ·intro w'
          go_simp
          with_reducible rfl
         rotate_left
         ·simp only [Act.put, sA, sZ, sS, i64_w, i32_w]
          rfl
         refine one_ (i := 12) (N := some 8) (bm 14 8191) rfl rfl (one_of HT_.out (by kernel_rfl)) (by decide) (fun K hK => ?_)
         refine box_step ?hg (N := 8) ?hd (cs := #[.int .i64 0, .int .i64 0, .int .i64 0, .int .i64 0, .bool false, .string (⟨#[]⟩ : ByteArray), .slice none 0 0]) (t := 28) ?hr ?_; (case hd => rfl); (case hg => rfl); (case hr => first | (go_simp; done) | (go_simp; rfl))
         intro gb125 hg w117 hbox hb
         have n0_ := bX BK120 hb
         have n1_ := bX BK121 hb
         have n2_ := bX BK122 hb
         have n3_ := bS HB hb
         have n4_ := Aside0.mk (hbox)
         have n5_ := Aside0.mk ((by rw [hg]; exact (below_size (by repeat (first | (with_reducible first | exact HB.out | apply below_alloc | apply pw_below_drewN | apply below_drew1 | refine below_set ?_ GE120.out | refine below_set ?_ GE121.out | refine below_set ?_ GE122.out) | exact HB.out))) : w.heap.size ≤ gb125))
         have n6_ := Aside0.mk ((by rw [hg]; exact (below_size (by repeat (first | (with_reducible first | exact HB.out | apply below_alloc | apply pw_below_drewN | apply below_drew1 | refine below_set ?_ GE120.out | refine below_set ?_ GE121.out | refine below_set ?_ GE122.out) | exact HB.out))) : w.heap.size ≤ gb125))
         have n7_ := Aside0.mk ((by rw [hg]; exact Nat.ne_of_lt (bLt BK120) : gb120 ≠ gb125))
         have n8_ := Aside0.mk ((by rw [hg]; exact Nat.ne_of_gt (bLt BK120) : gb125 ≠ gb120))
         have n9_ := Aside0.mk ((by rw [hg]; exact Nat.ne_of_lt (bLt BK121) : gb121 ≠ gb125))
         have n10_ := Aside0.mk ((by rw [hg]; exact Nat.ne_of_gt (bLt BK121) : gb125 ≠ gb121))
         have n11_ := Aside0.mk ((by rw [hg]; exact Nat.ne_of_lt (bLt BK122) : gb122 ≠ gb125))
         have n12_ := Aside0.mk ((by rw [hg]; exact Nat.ne_of_gt (bLt BK122) : gb125 ≠ gb122))
         clear BK120
         clear BK121
         clear BK122
         clear HB
         have BK120 := n0_
         have BK121 := n1_
         have BK122 := n2_
         have HB := n3_
         have BK125 := n4_
         have GW125 := n5_
         have GE125 := n6_
         have NB120_125 := n7_
         have NB125_120 := n8_
         have NB121_125 := n9_
         have NB125_121 := n10_
         have NB122_125 := n11_
         have NB125_122 := n12_
         clear n0_ n1_ n2_ n3_ n4_ n5_ n6_ n7_ n8_ n9_ n10_ n11_ n12_
         clear hb hbox hg
         refine hK.out _ _ (cz4 BK120) (fun hHeld => ?_)
         clear hK K
         refine norm_ (a' := ?_) ?_ ?_
         rotate_left
         ·show Act.put _ (some 8) _ = _
          simp only [Act.put, sA, sZ, sS, i64_w, i32_w]
          rfl
         refine one_ (i := 13) (N := none) (bm 14 16383) rfl rfl (one_of HT_.out (by kernel_rfl)) (by decide) (fun K hK => ?_)
         have hs118 : w117.cell? ⟨gb125, 0, none⟩ = some (.int .i64 0) := (blk_cell BK125.out 0).trans rfl
         have hfs118 := blk_frozen BK125.out 0
         have hns118_0 := NB120_125.out
         have hns118_1 := NB121_125.out
         have hns118_2 := NB122_125.out
         have hms118_0 := NB125_120.out
         have hms118_1 := NB125_121.out
         have hms118_2 := NB125_122.out
         have hs119 : w117.cell? ⟨gb125, 1, none⟩ = some (.int .i64 0) := (blk_cell BK125.out 1).trans rfl
         have hfs119 := blk_frozen BK125.out 1
         have hns119_0 := NB120_125.out
         have hns119_1 := NB121_125.out
         have hns119_2 := NB122_125.out
         have hms119_0 := NB125_120.out
         have hms119_1 := NB125_121.out
         have hms119_2 := NB125_122.out
         have hs120 : w117.cell? ⟨gb125, 2, none⟩ = some (.int .i64 0) := (blk_cell BK125.out 2).trans rfl
         have hfs120 := blk_frozen BK125.out 2
         have hns120_0 := NB120_125.out
         have hns120_1 := NB121_125.out
         have hns120_2 := NB122_125.out
         have hms120_0 := NB125_120.out
         have hms120_1 := NB125_121.out
         have hms120_2 := NB125_122.out
         have hs121 : w117.cell? ⟨gb125, 3, none⟩ = some (.int .i64 0) := (blk_cell BK125.out 3).trans rfl
         have hfs121 := blk_frozen BK125.out 3
         have hns121_0 := NB120_125.out
         have hns121_1 := NB121_125.out
         have hns121_2 := NB122_125.out
         have hms121_0 := NB125_120.out
         have hms121_1 := NB125_121.out
         have hms121_2 := NB125_122.out
         have hs122 : w117.cell? ⟨gb125, 4, none⟩ = some (.bool false) := (blk_cell BK125.out 4).trans rfl
         have hfs122 := blk_frozen BK125.out 4
         have hns122_0 := NB120_125.out
         have hns122_1 := NB121_125.out
         have hns122_2 := NB122_125.out
         have hms122_0 := NB125_120.out
         have hms122_1 := NB125_121.out
         have hms122_2 := NB125_122.out
         have hs123 : w117.cell? ⟨gb125, 5, none⟩ = some (.string (⟨#[]⟩ : ByteArray)) := (blk_cell BK125.out 5).trans rfl
         have hfs123 := blk_frozen BK125.out 5
         have hns123_0 := NB120_125.out
         have hns123_1 := NB121_125.out
         have hns123_2 := NB122_125.out
         have hms123_0 := NB125_120.out
         have hms123_1 := NB125_121.out
         have hms123_2 := NB125_122.out
         have hs124 : w117.cell? ⟨gb125, 6, none⟩ = some (.slice none 0 0) := (blk_cell BK125.out 6).trans rfl
         have hfs124 := blk_frozen BK125.out 6
         have hns124_0 := NB120_125.out
         have hns124_1 := NB121_125.out
         have hns124_2 := NB122_125.out
         have hms124_0 := NB125_120.out
         have hms124_1 := NB125_121.out
         have hms124_2 := NB125_122.out
         refine skip_ (w1 := ?_) (by rfl) rfl ?_ ?_
         rotate_left
         ·go_simp
          rfl
         refine hK.out _ _ ⟨((cell_far (p := ⟨gb125, _, none⟩) NB120_125.out _).trans (((cell_far (p := ⟨gb125, _, none⟩) NB120_125.out _).trans (((cell_far (p := ⟨gb125, _, none⟩) NB120_125.out _).trans (((cell_far (p := ⟨gb125, _, none⟩) NB120_125.out _).trans (((cell_far (p := ⟨gb125, _, none⟩) NB120_125.out _).trans (((cell_far (p := ⟨gb125, _, none⟩) NB120_125.out _).trans (((cell_far (p := ⟨gb125, _, none⟩) NB120_125.out _).trans (hHeld.1)))))))))))))), ((cell_far (p := ⟨gb125, _, none⟩) NB120_125.out _).trans (((cell_far (p := ⟨gb125, _, none⟩) NB120_125.out _).trans (((cell_far (p := ⟨gb125, _, none⟩) NB120_125.out _).trans (((cell_far (p := ⟨gb125, _, none⟩) NB120_125.out _).trans (((cell_far (p := ⟨gb125, _, none⟩) NB120_125.out _).trans (((cell_far (p := ⟨gb125, _, none⟩) NB120_125.out _).trans (((cell_far (p := ⟨gb125, _, none⟩) NB120_125.out _).trans (hHeld.2.1)))))))))))))), ((cell_far (p := ⟨gb125, _, none⟩) NB120_125.out _).trans (((cell_far (p := ⟨gb125, _, none⟩) NB120_125.out _).trans (((cell_far (p := ⟨gb125, _, none⟩) NB120_125.out _).trans (((cell_far (p := ⟨gb125, _, none⟩) NB120_125.out _).trans (((cell_far (p := ⟨gb125, _, none⟩) NB120_125.out _).trans (((cell_far (p := ⟨gb125, _, none⟩) NB120_125.out _).trans (((cell_far (p := ⟨gb125, _, none⟩) NB120_125.out _).trans (hHeld.2.2.1)))))))))))))), ((cell_far (p := ⟨gb125, _, none⟩) NB120_125.out _).trans (((cell_far (p := ⟨gb125, _, none⟩) NB120_125.out _).trans (((cell_far (p := ⟨gb125, _, none⟩) NB120_125.out _).trans (((cell_far (p := ⟨gb125, _, none⟩) NB120_125.out _).trans (((cell_far (p := ⟨gb125, _, none⟩) NB120_125.out _).trans (((cell_far (p := ⟨gb125, _, none⟩) NB120_125.out _).trans (((cell_far (p := ⟨gb125, _, none⟩) NB120_125.out _).trans (hHeld.2.2.2))))))))))))))⟩ (fun hHeld => ?_)
         clear hK K
         refine done_ (done_of HT_.out (by kernel_rfl)) ?_
         have hnb125 := NB120_125.out
         have hnc125 := NB125_120.out
         obtain ⟨hcz126_0, hcz126_1, hcz126_2, hcz126_3⟩ := cz4 BK120
         obtain ⟨hfz126_0, hfz126_1, hfz126_2, hfz126_3⟩ := fz4 BK120
         have hnb127 := NB125_121.out
         have hnc127 := NB121_125.out
         have hnb128 := NB125_122.out
         have hnc128 := NB122_125.out
         obtain ⟨hcz129_0, hcz129_1, hcz129_2, hcz129_3, hcz129_4, hcz129_5, hcz129_6⟩ := cz7 BK125
         obtain ⟨hfz129_0, hfz129_1, hfz129_2, hfz129_3, hfz129_4, hfz129_5, hfz129_6⟩ := fz7 BK125
         have hnb130 := NB121_122.out
         have hnc130 := NB122_121.out
         obtain ⟨hcz131_0, hcz131_1, hcz131_2, hcz131_3⟩ := cz4 BK121
         obtain ⟨hfz131_0, hfz131_1, hfz131_2, hfz131_3⟩ := fz4 BK121
         obtain ⟨hcz132_0, hcz132_1, hcz132_2, hcz132_3, hcz132_4, hcz132_5, hcz132_6⟩ := cz7 BK122
         obtain ⟨hfz132_0, hfz132_1, hfz132_2, hfz132_3, hfz132_4, hfz132_5, hfz132_6⟩ := fz7 BK122
         try go_wp2
         refine bodyPost_ret (results_list (rs := [.cell 4 25, .cell 5 28, .tmp 6]) rfl (by simp) (.cell gb121 25 #[.int .i64 0, .int .i64 0, .string (⟨#[]⟩ : ByteArray), .bool false] (0, 0) _ rfl (by (with_reducible repeat (first | refine bN ?_ _ | refine bD ?_ | refine bA ?_ _)); refine blk_far ?_ NB121_122.out _; (with_reducible repeat (first | refine bN ?_ _ | refine bD ?_ | refine bA ?_ _)); refine blk_far ?_ NB121_122.out _; (with_reducible repeat (first | refine bN ?_ _ | refine bD ?_ | refine bA ?_ _)); refine blk_far ?_ NB121_122.out _; (with_reducible repeat (first | refine bN ?_ _ | refine bD ?_ | refine bA ?_ _)); refine blk_far ?_ NB121_122.out _; (with_reducible repeat (first | refine bN ?_ _ | refine bD ?_ | refine bA ?_ _)); refine blk_far ?_ NB121_122.out _; (with_reducible repeat (first | refine bN ?_ _ | refine bD ?_ | refine bA ?_ _)); refine blk_far ?_ NB121_122.out _; (with_reducible repeat (first | refine bN ?_ _ | refine bD ?_ | refine bA ?_ _)); refine blk_far ?_ NB121_122.out _; (with_reducible repeat (first | refine bN ?_ _ | refine bD ?_ | refine bA ?_ _)); refine blk_put (cs := #[.int .i64 0, .int .i64 0, .string (⟨#[]⟩ : ByteArray), .bool false]) ?_ 3 _ rfl; (with_reducible repeat (first | refine bN ?_ _ | refine bD ?_ | refine bA ?_ _)); refine blk_put (cs := #[.int .i64 0, .int .i64 0, .string (⟨#[]⟩ : ByteArray), .bool false]) ?_ 2 _ rfl; (with_reducible repeat (first | refine bN ?_ _ | refine bD ?_ | refine bA ?_ _)); refine blk_put (cs := #[.int .i64 0, .int .i64 0, .string (⟨#[]⟩ : ByteArray), .bool false]) ?_ 1 _ rfl; (with_reducible repeat (first | refine bN ?_ _ | refine bD ?_ | refine bA ?_ _)); refine blk_put (cs := #[.int .i64 0, .int .i64 0, .string (⟨#[]⟩ : ByteArray), .bool false]) ?_ 0 _ rfl; (with_reducible repeat (first | refine bN ?_ _ | refine bD ?_ | refine bA ?_ _)); refine blk_far ?_ NB121_125.out _; (with_reducible repeat (first | refine bN ?_ _ | refine bD ?_ | refine bA ?_ _)); refine blk_far ?_ NB121_125.out _; (with_reducible repeat (first | refine bN ?_ _ | refine bD ?_ | refine bA ?_ _)); refine blk_far ?_ NB121_125.out _; (with_reducible repeat (first | refine bN ?_ _ | refine bD ?_ | refine bA ?_ _)); refine blk_far ?_ NB121_125.out _; (with_reducible repeat (first | refine bN ?_ _ | refine bD ?_ | refine bA ?_ _)); refine blk_far ?_ NB121_125.out _; (with_reducible repeat (first | refine bN ?_ _ | refine bD ?_ | refine bA ?_ _)); refine blk_far ?_ NB121_125.out _; (with_reducible repeat (first | refine bN ?_ _ | refine bD ?_ | refine bA ?_ _)); refine blk_far ?_ NB121_125.out _; (with_reducible repeat (first | refine bN ?_ _ | refine bD ?_ | refine bA ?_ _)); refine blk_far ?_ NB121_125.out _; (with_reducible repeat (first | refine bN ?_ _ | refine bD ?_ | refine bA ?_ _)); exact BK121.out) Try.underlying25 rfl (by kernel_rfl) (.cell gb122 28 #[.int .i64 0, .int .i64 0, .int .i64 0, .int .i64 0, .bool false, .string (⟨#[]⟩ : ByteArray), .slice none 0 0] (0, 0) _ rfl (by (with_reducible repeat (first | refine bN ?_ _ | refine bD ?_ | refine bA ?_ _)); refine blk_put (cs := #[.int .i64 0, .int .i64 0, .int .i64 0, .int .i64 0, .bool false, .string (⟨#[]⟩ : ByteArray), .slice none 0 0]) ?_ 6 _ rfl; (with_reducible repeat (first | refine bN ?_ _ | refine bD ?_ | refine bA ?_ _)); refine blk_put (cs := #[.int .i64 0, .int .i64 0, .int .i64 0, .int .i64 0, .bool false, .string (⟨#[]⟩ : ByteArray), .slice none 0 0]) ?_ 5 _ rfl; (with_reducible repeat (first | refine bN ?_ _ | refine bD ?_ | refine bA ?_ _)); refine blk_put (cs := #[.int .i64 0, .int .i64 0, .int .i64 0, .int .i64 0, .bool false, .string (⟨#[]⟩ : ByteArray), .slice none 0 0]) ?_ 4 _ rfl; (with_reducible repeat (first | refine bN ?_ _ | refine bD ?_ | refine bA ?_ _)); refine blk_put (cs := #[.int .i64 0, .int .i64 0, .int .i64 0, .int .i64 0, .bool false, .string (⟨#[]⟩ : ByteArray), .slice none 0 0]) ?_ 3 _ rfl; (with_reducible repeat (first | refine bN ?_ _ | refine bD ?_ | refine bA ?_ _)); refine blk_put (cs := #[.int .i64 0, .int .i64 0, .int .i64 0, .int .i64 0, .bool false, .string (⟨#[]⟩ : ByteArray), .slice none 0 0]) ?_ 2 _ rfl; (with_reducible repeat (first | refine bN ?_ _ | refine bD ?_ | refine bA ?_ _)); refine blk_put (cs := #[.int .i64 0, .int .i64 0, .int .i64 0, .int .i64 0, .bool false, .string (⟨#[]⟩ : ByteArray), .slice none 0 0]) ?_ 1 _ rfl; (with_reducible repeat (first | refine bN ?_ _ | refine bD ?_ | refine bA ?_ _)); refine blk_put (cs := #[.int .i64 0, .int .i64 0, .int .i64 0, .int .i64 0, .bool false, .string (⟨#[]⟩ : ByteArray), .slice none 0 0]) ?_ 0 _ rfl; (with_reducible repeat (first | refine bN ?_ _ | refine bD ?_ | refine bA ?_ _)); refine blk_far ?_ NB122_121.out _; (with_reducible repeat (first | refine bN ?_ _ | refine bD ?_ | refine bA ?_ _)); refine blk_far ?_ NB122_121.out _; (with_reducible repeat (first | refine bN ?_ _ | refine bD ?_ | refine bA ?_ _)); refine blk_far ?_ NB122_121.out _; (with_reducible repeat (first | refine bN ?_ _ | refine bD ?_ | refine bA ?_ _)); refine blk_far ?_ NB122_121.out _; (with_reducible repeat (first | refine bN ?_ _ | refine bD ?_ | refine bA ?_ _)); refine blk_far ?_ NB122_125.out _; (with_reducible repeat (first | refine bN ?_ _ | refine bD ?_ | refine bA ?_ _)); refine blk_far ?_ NB122_125.out _; (with_reducible repeat (first | refine bN ?_ _ | refine bD ?_ | refine bA ?_ _)); refine blk_far ?_ NB122_125.out _; (with_reducible repeat (first | refine bN ?_ _ | refine bD ?_ | refine bA ?_ _)); refine blk_far ?_ NB122_125.out _; (with_reducible repeat (first | refine bN ?_ _ | refine bD ?_ | refine bA ?_ _)); refine blk_far ?_ NB122_125.out _; (with_reducible repeat (first | refine bN ?_ _ | refine bD ?_ | refine bA ?_ _)); refine blk_far ?_ NB122_125.out _; (with_reducible repeat (first | refine bN ?_ _ | refine bD ?_ | refine bA ?_ _)); refine blk_far ?_ NB122_125.out _; (with_reducible repeat (first | refine bN ?_ _ | refine bD ?_ | refine bA ?_ _)); refine blk_far ?_ NB122_125.out _; (with_reducible repeat (first | refine bN ?_ _ | refine bD ?_ | refine bA ?_ _)); exact BK122.out) Try.underlying28 rfl (by kernel_rfl) (.tmp .nil)))) rfl ?_
         exact ⟨_, by first | rfl | (simp [errW_none, errW_some] <;> rfl) | (simp only [← hji24, ← hji25]; first | rfl | (simp [errW_none, errW_some] <;> rfl)) | (simp [*, errW_none, errW_some] <;> rfl), by first | exact Kd.R_nil _ _ _ _ _ | exact Kd.N_nil _ _ _ _ _ | exact Kd.V_nil _ _ _ _ _ | exact Kd.Q_nil _ _ _ _ _ | exact Kd.S_nil _ _ _ _ _, by repeat (first | (with_reducible first | exact HB.out | apply below_alloc | apply pw_below_drewN | apply below_drew1 | refine below_set ?_ GE120.out | refine below_set ?_ GE121.out | refine below_set ?_ GE122.out | refine below_set ?_ GE125.out) | exact HB.out)⟩
        ·rw [if_neg c112] at H
         have c112b0 : ((ji25) == 0) = false := beq_eq_false_iff_ne.mpr c112
         have c112b1 : ((ji25) != 0) = true := bne_iff_ne.mpr c112
         simp only [Option.some.injEq, Prod.mk.injEq] at H
         obtain ⟨rfl, rfl, rfl, rfl, rfl, rfl, rfl, rfl, rfl, rfl, rfl, rfl⟩ := H
         have hnb133 := NB120_121.out
         have hnc133 := NB121_120.out
         have hnb134 := NB120_122.out
         have hnc134 := NB122_120.out
         obtain ⟨hcz135_0, hcz135_1, hcz135_2, hcz135_3⟩ := cz4 BK120
         obtain ⟨hfz135_0, hfz135_1, hfz135_2, hfz135_3⟩ := fz4 BK120
         try go_wp2
         have n0_ := Aside0.mk (blk_drew BK120.out)
         have n1_ := Aside0.mk (blk_drew BK121.out)
         have n2_ := Aside0.mk (blk_drew BK122.out)
         have n3_ := Aside0.mk (below_drew1 HB.out)
         clear BK120
         clear BK121
         clear BK122
         clear HB
         have BK120 := n0_
         have BK121 := n1_
         have BK122 := n2_
         have HB := n3_
         clear n0_ n1_ n2_ n3_
         refine start_ (n := 14) (S := fun w' => w'.cell? ⟨gb120, 0, none⟩ = some (.int .i64 a0_0) ∧ w'.cell? ⟨gb120, 1, none⟩ = some (.int .i64 a0_1) ∧ w'.cell? ⟨gb120, 2, none⟩ = some (.string a0_2) ∧ w'.cell? ⟨gb120, 3, none⟩ = some (.bool false)) (ds := []) (bm 14 0) (by kernel_rfl) rfl rfl (cz4 BK120) (fun hHeld => ?_); refine with_tabW impl_NextPiece.tab4 impl_NextPiece.bits4 (fun HT_ HW_ => ?_)
         generalize wc.drew = w136 at BK120 BK121 BK122 HB hHeld ⊢
         refine pure_ (i := 0) (N := some 32) (v := ?_) (a' := ?_) (bm 14 1) rfl rfl (any_of HT_.out (by kernel_rfl)) (fun _ _ _ h => h) (Or.inl ⟨by rfl, ?_⟩) ?_ ?_
         rotate_left
         ·intro w'
          go_simp
          with_reducible rfl
         rotate_left
         ·simp only [Act.put, sA, sZ, sS, i64_w, i32_w]
          rfl
         refine pure_ (i := 2) (N := some 34) (v := ?_) (a' := ?_) (bm 14 5) rfl rfl (any_of HT_.out (by kernel_rfl)) (fun _ _ _ h => h) (Or.inl ⟨by rfl, ?_⟩) ?_ ?_
         rotate_left
         ·intro w'
          go_simp
          with_reducible rfl
         rotate_left
         ·simp only [Act.put, sA, sZ, sS, i64_w, i32_w]
          rfl
         refine pure_ (i := 4) (N := some 36) (v := ?_) (a' := ?_) (bm 14 21) rfl rfl (any_of HT_.out (by kernel_rfl)) (fun _ _ _ h => h) (Or.inl ⟨by rfl, ?_⟩) ?_ ?_
         rotate_left
         ·intro w'
          go_simp
          with_reducible rfl
         rotate_left
         ·simp only [Act.put, sA, sZ, sS, i64_w, i32_w]
          rfl
         refine pure_ (i := 6) (N := some 38) (v := ?_) (a' := ?_) (bm 14 85) rfl rfl (any_of HT_.out (by kernel_rfl)) (fun _ _ _ h => h) (Or.inl ⟨by rfl, ?_⟩) ?_ ?_
         rotate_left
         ·intro w'
          go_simp
          with_reducible rfl
         rotate_left
         ·simp only [Act.put, sA, sZ, sS, i64_w, i32_w]
          rfl
         refine pure_ (i := 8) (N := some 40) (v := ?_) (a' := ?_) (bm 14 341) rfl rfl (any_of HT_.out (by kernel_rfl)) (fun _ _ _ h => h) (Or.inl ⟨by rfl, ?_⟩) ?_ ?_
         rotate_left
         ·intro w'
          go_simp
          with_reducible rfl
         rotate_left
         ·simp only [Act.put, sA, sZ, sS, i64_w, i32_w]
          rfl
         refine take_ (i := 1) (N := some 33) (v := ?_) (a' := ?_) (bm 14 343) rfl rfl (take_ofW HT_.out HW_.out (by kernel_rfl)) (fun _ _ _ h => h) (Or.inl ⟨by rfl, ?_⟩) hHeld ?_ ?_
         rotate_left
         ·rintro w' ⟨s0, s1, s2, s3⟩
          go_simp
          with_reducible rfl
         rotate_left
         ·simp only [Act.put, sA, sZ, sS, i64_w, i32_w]
          rfl
         refine take_ (i := 3) (N := some 35) (v := ?_) (a' := ?_) (bm 14 351) rfl rfl (take_ofW HT_.out HW_.out (by kernel_rfl)) (fun _ _ _ h => h) (Or.inl ⟨by rfl, ?_⟩) hHeld ?_ ?_
         rotate_left
         ·rintro w' ⟨s0, s1, s2, s3⟩
          go_simp
          with_reducible rfl
         rotate_left
         ·simp only [Act.put, sA, sZ, sS, i64_w, i32_w]
          rfl
         refine take_ (i := 5) (N := some 37) (v := ?_) (a' := ?_) (bm 14 383) rfl rfl (take_ofW HT_.out HW_.out (by kernel_rfl)) (fun _ _ _ h => h) (Or.inl ⟨by rfl, ?_⟩) hHeld ?_ ?_
         rotate_left
         ·rintro w' ⟨s0, s1, s2, s3⟩
          go_simp
          with_reducible rfl
         rotate_left
         ·simp only [Act.put, sA, sZ, sS, i64_w, i32_w]
          rfl
         refine take_ (i := 7) (N := some 39) (v := ?_) (a' := ?_) (bm 14 511) rfl rfl (take_ofW HT_.out HW_.out (by kernel_rfl)) (fun _ _ _ h => h) (Or.inl ⟨by rfl, ?_⟩) hHeld ?_ ?_
         rotate_left
         ·rintro w' ⟨s0, s1, s2, s3⟩
          go_simp
          with_reducible rfl
         rotate_left
         ·simp only [Act.put, sA, sZ, sS, i64_w, i32_w]
          rfl
         refine pure_ (i := 9) (N := some 41) (v := ?_) (a' := ?_) (bm 14 1023) rfl rfl (any_of HT_.out (by kernel_rfl)) (fun _ _ _ h => h) (Or.inl ⟨by rfl, ?_⟩) ?_ ?_
         rotate_left
         ·intro w'
          go_simp
          with_reducible rfl
         rotate_left
         ·simp only [Act.put, sA, sZ, sS, i64_w, i32_w]
          rfl
         refine pure_ (i := 10) (N := some 42) (v := ?_) (a' := ?_) (bm 14 2047) rfl rfl (any_of HT_.out (by kernel_rfl)) (fun _ _ _ h => h) (Or.inl ⟨by rfl, ?_⟩) ?_ ?_
         rotate_left
         ·intro w'
          go_simp
          with_reducible rfl
         rotate_left
         ·simp only [Act.put, sA, sZ, sS, i64_w, i32_w]
          rfl
         refine pure_ (i := 11) (N := some 43) (v := ?_) (a' := ?_) (bm 14 4095) rfl rfl (any_of HT_.out (by kernel_rfl)) (fun _ _ _ h => h) (Or.inl ⟨by rfl, ?_⟩) ?_ ?_
         rotate_left
         ·intro w'
          go_simp
          with_reducible rfl
         rotate_left
         ·simp only [Act.put, sA, sZ, sS, i64_w, i32_w]
          rfl
         refine one_ (i := 12) (N := some 8) (bm 14 8191) rfl rfl (one_of HT_.out (by kernel_rfl)) (by decide) (fun K hK => ?_)
         refine box_step ?hg (N := 8) ?hd (cs := #[.int .i64 0, .int .i64 0, .int .i64 0, .int .i64 0, .bool false, .string (⟨#[]⟩ : ByteArray), .slice none 0 0]) (t := 28) ?hr ?_; (case hd => rfl); (case hg => rfl); (case hr => first | (go_simp; done) | (go_simp; rfl))
         intro gb125 hg w137 hbox hb
         have n0_ := bX BK120 hb
         have n1_ := bX BK121 hb
         have n2_ := bX BK122 hb
         have n3_ := bS HB hb
         have n4_ := Aside0.mk (hbox)
         have n5_ := Aside0.mk ((by rw [hg]; exact (below_size (by repeat (first | (with_reducible first | exact HB.out | apply below_alloc | apply pw_below_drewN | apply below_drew1 | refine below_set ?_ GE120.out | refine below_set ?_ GE121.out | refine below_set ?_ GE122.out) | exact HB.out))) : w.heap.size ≤ gb125))
         have n6_ := Aside0.mk ((by rw [hg]; exact (below_size (by repeat (first | (with_reducible first | exact HB.out | apply below_alloc | apply pw_below_drewN | apply below_drew1 | refine below_set ?_ GE120.out | refine below_set ?_ GE121.out | refine below_set ?_ GE122.out) | exact HB.out))) : w.heap.size ≤ gb125))
         have n7_ := Aside0.mk ((by rw [hg]; exact Nat.ne_of_lt (bLt BK120) : gb120 ≠ gb125))
         have n8_ := Aside0.mk ((by rw [hg]; exact Nat.ne_of_gt (bLt BK120) : gb125 ≠ gb120))
         have n9_ := Aside0.mk ((by rw [hg]; exact Nat.ne_of_lt (bLt BK121) : gb121 ≠ gb125))
         have n10_ := Aside0.mk ((by rw [hg]; exact Nat.ne_of_gt (bLt BK121) : gb125 ≠ gb121))
         have n11_ := Aside0.mk ((by rw [hg]; exact Nat.ne_of_lt (bLt BK122) : gb122 ≠ gb125))
         have n12_ := Aside0.mk ((by rw [hg]; exact Nat.ne_of_gt (bLt BK122) : gb125 ≠ gb122))
         clear BK120
         clear BK121
         clear BK122
         clear HB
         have BK120 := n0_
         have BK121 := n1_
         have BK122 := n2_
         have HB := n3_
         have BK125 := n4_
         have GW125 := n5_
         have GE125 := n6_
         have NB120_125 := n7_
         have NB125_120 := n8_
         have NB121_125 := n9_
         have NB125_121 := n10_
         have NB122_125 := n11_
         have NB125_122 := n12_
         clear n0_ n1_ n2_ n3_ n4_ n5_ n6_ n7_ n8_ n9_ n10_ n11_ n12_
         clear hb hbox hg
         refine hK.out _ _ (cz4 BK120) (fun hHeld => ?_)
         clear hK K
         refine norm_ (a' := ?_) ?_ ?_
         rotate_left
         ·show Act.put _ (some 8) _ = _
          simp only [Act.put, sA, sZ, sS, i64_w, i32_w]
          rfl
         refine one_ (i := 13) (N := none) (bm 14 16383) rfl rfl (one_of HT_.out (by kernel_rfl)) (by decide) (fun K hK => ?_)
         have hs138 : w137.cell? ⟨gb125, 0, none⟩ = some (.int .i64 0) := (blk_cell BK125.out 0).trans rfl
         have hfs138 := blk_frozen BK125.out 0
         have hns138_0 := NB120_125.out
         have hns138_1 := NB121_125.out
         have hns138_2 := NB122_125.out
         have hms138_0 := NB125_120.out
         have hms138_1 := NB125_121.out
         have hms138_2 := NB125_122.out
         have hs139 : w137.cell? ⟨gb125, 1, none⟩ = some (.int .i64 0) := (blk_cell BK125.out 1).trans rfl
         have hfs139 := blk_frozen BK125.out 1
         have hns139_0 := NB120_125.out
         have hns139_1 := NB121_125.out
         have hns139_2 := NB122_125.out
         have hms139_0 := NB125_120.out
         have hms139_1 := NB125_121.out
         have hms139_2 := NB125_122.out
         have hs140 : w137.cell? ⟨gb125, 2, none⟩ = some (.int .i64 0) := (blk_cell BK125.out 2).trans rfl
         have hfs140 := blk_frozen BK125.out 2
         have hns140_0 := NB120_125.out
         have hns140_1 := NB121_125.out
         have hns140_2 := NB122_125.out
         have hms140_0 := NB125_120.out
         have hms140_1 := NB125_121.out
         have hms140_2 := NB125_122.out
         have hs141 : w137.cell? ⟨gb125, 3, none⟩ = some (.int .i64 0) := (blk_cell BK125.out 3).trans rfl
         have hfs141 := blk_frozen BK125.out 3
         have hns141_0 := NB120_125.out
         have hns141_1 := NB121_125.out
         have hns141_2 := NB122_125.out
         have hms141_0 := NB125_120.out
         have hms141_1 := NB125_121.out
         have hms141_2 := NB125_122.out
         have hs142 : w137.cell? ⟨gb125, 4, none⟩ = some (.bool false) := (blk_cell BK125.out 4).trans rfl
         have hfs142 := blk_frozen BK125.out 4
         have hns142_0 := NB120_125.out
         have hns142_1 := NB121_125.out
         have hns142_2 := NB122_125.out
         have hms142_0 := NB125_120.out
         have hms142_1 := NB125_121.out
         have hms142_2 := NB125_122.out
         have hs143 : w137.cell? ⟨gb125, 5, none⟩ = some (.string (⟨#[]⟩ : ByteArray)) := (blk_cell BK125.out 5).trans rfl
         have hfs143 := blk_frozen BK125.out 5
         have hns143_0 := NB120_125.out
         have hns143_1 := NB121_125.out
         have hns143_2 := NB122_125.out
         have hms143_0 := NB125_120.out
         have hms143_1 := NB125_121.out
         have hms143_2 := NB125_122.out
         have hs144 : w137.cell? ⟨gb125, 6, none⟩ = some (.slice none 0 0) := (blk_cell BK125.out 6).trans rfl
         have hfs144 := blk_frozen BK125.out 6
         have hns144_0 := NB120_125.out
         have hns144_1 := NB121_125.out
         have hns144_2 := NB122_125.out
         have hms144_0 := NB125_120.out
         have hms144_1 := NB125_121.out
         have hms144_2 := NB125_122.out
         refine skip_ (w1 := ?_) (by rfl) rfl ?_ ?_
         rotate_left
         ·go_simp
          rfl
         refine hK.out _ _ ⟨((cell_far (p := ⟨gb125, _, none⟩) NB120_125.out _).trans (((cell_far (p := ⟨gb125, _, none⟩) NB120_125.out _).trans (((cell_far (p := ⟨gb125, _, none⟩) NB120_125.out _).trans (((cell_far (p := ⟨gb125, _, none⟩) NB120_125.out _).trans (((cell_far (p := ⟨gb125, _, none⟩) NB120_125.out _).trans (((cell_far (p := ⟨gb125, _, none⟩) NB120_125.out _).trans (((cell_far (p := ⟨gb125, _, none⟩) NB120_125.out _).trans (hHeld.1)))))))))))))), ((cell_far (p := ⟨gb125, _, none⟩) NB120_125.out _).trans (((cell_far (p := ⟨gb125, _, none⟩) NB120_125.out _).trans (((cell_far (p := ⟨gb125, _, none⟩) NB120_125.out _).trans (((cell_far (p := ⟨gb125, _, none⟩) NB120_125.out _).trans (((cell_far (p := ⟨gb125, _, none⟩) NB120_125.out _).trans (((cell_far (p := ⟨gb125, _, none⟩) NB120_125.out _).trans (((cell_far (p := ⟨gb125, _, none⟩) NB120_125.out _).trans (hHeld.2.1)))))))))))))), ((cell_far (p := ⟨gb125, _, none⟩) NB120_125.out _).trans (((cell_far (p := ⟨gb125, _, none⟩) NB120_125.out _).trans (((cell_far (p := ⟨gb125, _, none⟩) NB120_125.out _).trans (((cell_far (p := ⟨gb125, _, none⟩) NB120_125.out _).trans (((cell_far (p := ⟨gb125, _, none⟩) NB120_125.out _).trans (((cell_far (p := ⟨gb125, _, none⟩) NB120_125.out _).trans (((cell_far (p := ⟨gb125, _, none⟩) NB120_125.out _).trans (hHeld.2.2.1)))))))))))))), ((cell_far (p := ⟨gb125, _, none⟩) NB120_125.out _).trans (((cell_far (p := ⟨gb125, _, none⟩) NB120_125.out _).trans (((cell_far (p := ⟨gb125, _, none⟩) NB120_125.out _).trans (((cell_far (p := ⟨gb125, _, none⟩) NB120_125.out _).trans (((cell_far (p := ⟨gb125, _, none⟩) NB120_125.out _).trans (((cell_far (p := ⟨gb125, _, none⟩) NB120_125.out _).trans (((cell_far (p := ⟨gb125, _, none⟩) NB120_125.out _).trans (hHeld.2.2.2))))))))))))))⟩ (fun hHeld => ?_)
         clear hK K
         refine done_ (done_of HT_.out (by kernel_rfl)) ?_
         have hnb145 := NB120_125.out
         have hnc145 := NB125_120.out
         obtain ⟨hcz146_0, hcz146_1, hcz146_2, hcz146_3⟩ := cz4 BK120
         obtain ⟨hfz146_0, hfz146_1, hfz146_2, hfz146_3⟩ := fz4 BK120
         have hnb147 := NB125_121.out
         have hnc147 := NB121_125.out
         have hnb148 := NB125_122.out
         have hnc148 := NB122_125.out
         obtain ⟨hcz149_0, hcz149_1, hcz149_2, hcz149_3, hcz149_4, hcz149_5, hcz149_6⟩ := cz7 BK125
         obtain ⟨hfz149_0, hfz149_1, hfz149_2, hfz149_3, hfz149_4, hfz149_5, hfz149_6⟩ := fz7 BK125
         try go_wp2
         have n0_ : Aside0 ((((((((((w137.setCell ⟨gb125, 0, none⟩ (.int .i64 8)).setCell ⟨gb125, 1, none⟩ (.int .i64 0)).setCell ⟨gb125, 2, none⟩ (.int .i64 a0_1)).setCell ⟨gb125, 3, none⟩ (.int .i64 0)).setCell ⟨gb125, 4, none⟩ (.bool false)).setCell ⟨gb125, 5, none⟩ (.string (a0_2.extract (a0_1 : Int).toNat ((wrap64 (a0_1 + (ji25))) : Int).toNat))).setCell ⟨gb125, 6, none⟩ (.slice none 0 0)).setCell ⟨gb125, 4, none⟩ (.bool false)).setCell ⟨gb120, 1, none⟩ (.int .i64 (wrap64 (a0_1 + (ji25))))).heap[gb120]? = some (.cells #[.int .i64 a0_0, .int .i64 (wrap64 (a0_1 + (ji25))), .string a0_2, .bool false] 25 (0, 0))) := ⟨by (with_reducible repeat (first | refine bN ?_ _ | refine bD ?_ | refine bA ?_ _)); refine blk_put (cs := #[.int .i64 a0_0, .int .i64 a0_1, .string a0_2, .bool false]) ?_ 1 _ rfl; (with_reducible repeat (first | refine bN ?_ _ | refine bD ?_ | refine bA ?_ _)); refine blk_far ?_ NB120_125.out _; (with_reducible repeat (first | refine bN ?_ _ | refine bD ?_ | refine bA ?_ _)); refine blk_far ?_ NB120_125.out _; (with_reducible repeat (first | refine bN ?_ _ | refine bD ?_ | refine bA ?_ _)); refine blk_far ?_ NB120_125.out _; (with_reducible repeat (first | refine bN ?_ _ | refine bD ?_ | refine bA ?_ _)); refine blk_far ?_ NB120_125.out _; (with_reducible repeat (first | refine bN ?_ _ | refine bD ?_ | refine bA ?_ _)); refine blk_far ?_ NB120_125.out _; (with_reducible repeat (first | refine bN ?_ _ | refine bD ?_ | refine bA ?_ _)); refine blk_far ?_ NB120_125.out _; (with_reducible repeat (first | refine bN ?_ _ | refine bD ?_ | refine bA ?_ _)); refine blk_far ?_ NB120_125.out _; (with_reducible repeat (first | refine bN ?_ _ | refine bD ?_ | refine bA ?_ _)); refine blk_far ?_ NB120_125.out _; (with_reducible repeat (first | refine bN ?_ _ | refine bD ?_ | refine bA ?_ _)); exact BK120.out⟩
         have n1_ : Aside0 ((((((((((w137.setCell ⟨gb125, 0, none⟩ (.int .i64 8)).setCell ⟨gb125, 1, none⟩ (.int .i64 0)).setCell ⟨gb125, 2, none⟩ (.int .i64 a0_1)).setCell ⟨gb125, 3, none⟩ (.int .i64 0)).setCell ⟨gb125, 4, none⟩ (.bool false)).setCell ⟨gb125, 5, none⟩ (.string (a0_2.extract (a0_1 : Int).toNat ((wrap64 (a0_1 + (ji25))) : Int).toNat))).setCell ⟨gb125, 6, none⟩ (.slice none 0 0)).setCell ⟨gb125, 4, none⟩ (.bool false)).setCell ⟨gb120, 1, none⟩ (.int .i64 (wrap64 (a0_1 + (ji25))))).heap[gb121]? = some (.cells #[.int .i64 0, .int .i64 0, .string (⟨#[]⟩ : ByteArray), .bool false] 25 (0, 0))) := ⟨by (with_reducible repeat (first | refine bN ?_ _ | refine bD ?_ | refine bA ?_ _)); refine blk_far ?_ NB121_120.out _; (with_reducible repeat (first | refine bN ?_ _ | refine bD ?_ | refine bA ?_ _)); refine blk_far ?_ NB121_125.out _; (with_reducible repeat (first | refine bN ?_ _ | refine bD ?_ | refine bA ?_ _)); refine blk_far ?_ NB121_125.out _; (with_reducible repeat (first | refine bN ?_ _ | refine bD ?_ | refine bA ?_ _)); refine blk_far ?_ NB121_125.out _; (with_reducible repeat (first | refine bN ?_ _ | refine bD ?_ | refine bA ?_ _)); refine blk_far ?_ NB121_125.out _; (with_reducible repeat (first | refine bN ?_ _ | refine bD ?_ | refine bA ?_ _)); refine blk_far ?_ NB121_125.out _; (with_reducible repeat (first | refine bN ?_ _ | refine bD ?_ | refine bA ?_ _)); refine blk_far ?_ NB121_125.out _; (with_reducible repeat (first | refine bN ?_ _ | refine bD ?_ | refine bA ?_ _)); refine blk_far ?_ NB121_125.out _; (with_reducible repeat (first | refine bN ?_ _ | refine bD ?_ | refine bA ?_ _)); refine blk_far ?_ NB121_125.out _; (with_reducible repeat (first | refine bN ?_ _ | refine bD ?_ | refine bA ?_ _)); exact BK121.out⟩
         have n2_ : Aside0 ((((((((((w137.setCell ⟨gb125, 0, none⟩ (.int .i64 8)).setCell ⟨gb125, 1, none⟩ (.int .i64 0)).setCell ⟨gb125, 2, none⟩ (.int .i64 a0_1)).setCell ⟨gb125, 3, none⟩ (.int .i64 0)).setCell ⟨gb125, 4, none⟩ (.bool false)).setCell ⟨gb125, 5, none⟩ (.string (a0_2.extract (a0_1 : Int).toNat ((wrap64 (a0_1 + (ji25))) : Int).toNat))).setCell ⟨gb125, 6, none⟩ (.slice none 0 0)).setCell ⟨gb125, 4, none⟩ (.bool false)).setCell ⟨gb120, 1, none⟩ (.int .i64 (wrap64 (a0_1 + (ji25))))).heap[gb122]? = some (.cells #[.int .i64 0, .int .i64 0, .int .i64 0, .int .i64 0, .bool false, .string (⟨#[]⟩ : ByteArray), .slice none 0 0] 28 (0, 0))) := ⟨by (with_reducible repeat (first | refine bN ?_ _ | refine bD ?_ | refine bA ?_ _)); refine blk_far ?_ NB122_120.out _; (with_reducible repeat (first | refine bN ?_ _ | refine bD ?_ | refine bA ?_ _)); refine blk_far ?_ NB122_125.out _; (with_reducible repeat (first | refine bN ?_ _ | refine bD ?_ | refine bA ?_ _)); refine blk_far ?_ NB122_125.out _; (with_reducible repeat (first | refine bN ?_ _ | refine bD ?_ | refine bA ?_ _)); refine blk_far ?_ NB122_125.out _; (with_reducible repeat (first | refine bN ?_ _ | refine bD ?_ | refine bA ?_ _)); refine blk_far ?_ NB122_125.out _; (with_reducible repeat (first | refine bN ?_ _ | refine bD ?_ | refine bA ?_ _)); refine blk_far ?_ NB122_125.out _; (with_reducible repeat (first | refine bN ?_ _ | refine bD ?_ | refine bA ?_ _)); refine blk_far ?_ NB122_125.out _; (with_reducible repeat (first | refine bN ?_ _ | refine bD ?_ | refine bA ?_ _)); refine blk_far ?_ NB122_125.out _; (with_reducible repeat (first | refine bN ?_ _ | refine bD ?_ | refine bA ?_ _)); refine blk_far ?_ NB122_125.out _; (with_reducible repeat (first | refine bN ?_ _ | refine bD ?_ | refine bA ?_ _)); exact BK122.out⟩
         have n3_ : Aside0 ((((((((((w137.setCell ⟨gb125, 0, none⟩ (.int .i64 8)).setCell ⟨gb125, 1, none⟩ (.int .i64 0)).setCell ⟨gb125, 2, none⟩ (.int .i64 a0_1)).setCell ⟨gb125, 3, none⟩ (.int .i64 0)).setCell ⟨gb125, 4, none⟩ (.bool false)).setCell ⟨gb125, 5, none⟩ (.string (a0_2.extract (a0_1 : Int).toNat ((wrap64 (a0_1 + (ji25))) : Int).toNat))).setCell ⟨gb125, 6, none⟩ (.slice none 0 0)).setCell ⟨gb125, 4, none⟩ (.bool false)).setCell ⟨gb120, 1, none⟩ (.int .i64 (wrap64 (a0_1 + (ji25))))).heap[gb125]? = some (.cells #[.int .i64 8, .int .i64 0, .int .i64 a0_1, .int .i64 0, .bool false, .string (a0_2.extract (a0_1 : Int).toNat ((wrap64 (a0_1 + (ji25))) : Int).toNat), .slice none 0 0] 28 (0, 0))) := ⟨by (with_reducible repeat (first | refine bN ?_ _ | refine bD ?_ | refine bA ?_ _)); refine blk_far ?_ NB125_120.out _; (with_reducible repeat (first | refine bN ?_ _ | refine bD ?_ | refine bA ?_ _)); refine blk_put (cs := #[.int .i64 8, .int .i64 0, .int .i64 a0_1, .int .i64 0, .bool false, .string (a0_2.extract (a0_1 : Int).toNat ((wrap64 (a0_1 + (ji25))) : Int).toNat), .slice none 0 0]) ?_ 4 _ rfl; (with_reducible repeat (first | refine bN ?_ _ | refine bD ?_ | refine bA ?_ _)); refine blk_put (cs := #[.int .i64 8, .int .i64 0, .int .i64 a0_1, .int .i64 0, .bool false, .string (a0_2.extract (a0_1 : Int).toNat ((wrap64 (a0_1 + (ji25))) : Int).toNat), .slice none 0 0]) ?_ 6 _ rfl; (with_reducible repeat (first | refine bN ?_ _ | refine bD ?_ | refine bA ?_ _)); refine blk_put (cs := #[.int .i64 8, .int .i64 0, .int .i64 a0_1, .int .i64 0, .bool false, .string (⟨#[]⟩ : ByteArray), .slice none 0 0]) ?_ 5 _ rfl; (with_reducible repeat (first | refine bN ?_ _ | refine bD ?_ | refine bA ?_ _)); refine blk_put (cs := #[.int .i64 8, .int .i64 0, .int .i64 a0_1, .int .i64 0, .bool false, .string (⟨#[]⟩ : ByteArray), .slice none 0 0]) ?_ 4 _ rfl; (with_reducible repeat (first | refine bN ?_ _ | refine bD ?_ | refine bA ?_ _)); refine blk_put (cs := #[.int .i64 8, .int .i64 0, .int .i64 a0_1, .int .i64 0, .bool false, .string (⟨#[]⟩ : ByteArray), .slice none 0 0]) ?_ 3 _ rfl; (with_reducible repeat (first | refine bN ?_ _ | refine bD ?_ | refine bA ?_ _)); refine blk_put (cs := #[.int .i64 8, .int .i64 0, .int .i64 0, .int .i64 0, .bool false, .string (⟨#[]⟩ : ByteArray), .slice none 0 0]) ?_ 2 _ rfl; (with_reducible repeat (first | refine bN ?_ _ | refine bD ?_ | refine bA ?_ _)); refine blk_put (cs := #[.int .i64 8, .int .i64 0, .int .i64 0, .int .i64 0, .bool false, .string (⟨#[]⟩ : ByteArray), .slice none 0 0]) ?_ 1 _ rfl; (with_reducible repeat (first | refine bN ?_ _ | refine bD ?_ | refine bA ?_ _)); refine blk_put (cs := #[.int .i64 0, .int .i64 0, .int .i64 0, .int .i64 0, .bool false, .string (⟨#[]⟩ : ByteArray), .slice none 0 0]) ?_ 0 _ rfl; (with_reducible repeat (first | refine bN ?_ _ | refine bD ?_ | refine bA ?_ _)); exact BK125.out⟩
         have n4_ : Aside0 (Below w.heap.size w (((((((((w137.setCell ⟨gb125, 0, none⟩ (.int .i64 8)).setCell ⟨gb125, 1, none⟩ (.int .i64 0)).setCell ⟨gb125, 2, none⟩ (.int .i64 a0_1)).setCell ⟨gb125, 3, none⟩ (.int .i64 0)).setCell ⟨gb125, 4, none⟩ (.bool false)).setCell ⟨gb125, 5, none⟩ (.string (a0_2.extract (a0_1 : Int).toNat ((wrap64 (a0_1 + (ji25))) : Int).toNat))).setCell ⟨gb125, 6, none⟩ (.slice none 0 0)).setCell ⟨gb125, 4, none⟩ (.bool false)).setCell ⟨gb120, 1, none⟩ (.int .i64 (wrap64 (a0_1 + (ji25)))))) := ⟨by repeat (first | (with_reducible first | exact HB.out | apply below_alloc | apply pw_below_drewN | apply below_drew1 | refine below_set ?_ GE120.out | refine below_set ?_ GE121.out | refine below_set ?_ GE122.out | refine below_set ?_ GE125.out) | exact HB.out)⟩
         (try clear BK120)
         (try clear BK121)
         (try clear BK122)
         (try clear BK125)
         (try clear HB)
         generalize (((((((((w137.setCell ⟨gb125, 0, none⟩ (.int .i64 8)).setCell ⟨gb125, 1, none⟩ (.int .i64 0)).setCell ⟨gb125, 2, none⟩ (.int .i64 a0_1)).setCell ⟨gb125, 3, none⟩ (.int .i64 0)).setCell ⟨gb125, 4, none⟩ (.bool false)).setCell ⟨gb125, 5, none⟩ (.string (a0_2.extract (a0_1 : Int).toNat ((wrap64 (a0_1 + (ji25))) : Int).toNat))).setCell ⟨gb125, 6, none⟩ (.slice none 0 0)).setCell ⟨gb125, 4, none⟩ (.bool false)).setCell ⟨gb120, 1, none⟩ (.int .i64 (wrap64 (a0_1 + (ji25))))) = w150 at n0_ n1_ n2_ n3_ n4_ ⊢
         have BK120 := n0_
         have BK121 := n1_
         have BK122 := n2_
         have BK125 := n3_
         have HB := n4_
         clear n0_ n1_ n2_ n3_ n4_
         have n0_ := Aside0.mk (blk_drew BK120.out)
         have n1_ := Aside0.mk (blk_drew BK121.out)
         have n2_ := Aside0.mk (blk_drew BK122.out)
         have n3_ := Aside0.mk (blk_drew BK125.out)
         have n4_ := Aside0.mk (below_drew1 HB.out)
         clear BK120
         clear BK121
         clear BK122
         clear BK125
         clear HB
         have BK120 := n0_
         have BK121 := n1_
         have BK122 := n2_
         have BK125 := n3_
         have HB := n4_
         clear n0_ n1_ n2_ n3_ n4_
         refine start_ (n := 5) (S := fun w' => w'.cell? ⟨gb120, 0, none⟩ = some (.int .i64 a0_0) ∧ w'.cell? ⟨gb120, 1, none⟩ = some (.int .i64 (wrap64 (a0_1 + (ji25)))) ∧ w'.cell? ⟨gb120, 2, none⟩ = some (.string a0_2) ∧ w'.cell? ⟨gb120, 3, none⟩ = some (.bool false) ∧ w'.cell? ⟨gb125, 0, none⟩ = some (.int .i64 8) ∧ w'.cell? ⟨gb125, 1, none⟩ = some (.int .i64 0) ∧ w'.cell? ⟨gb125, 2, none⟩ = some (.int .i64 a0_1) ∧ w'.cell? ⟨gb125, 3, none⟩ = some (.int .i64 0) ∧ w'.cell? ⟨gb125, 4, none⟩ = some (.bool false) ∧ w'.cell? ⟨gb125, 5, none⟩ = some (.string (a0_2.extract (a0_1 : Int).toNat ((wrap64 (a0_1 + (ji25))) : Int).toNat)) ∧ w'.cell? ⟨gb125, 6, none⟩ = some (.slice none 0 0)) (ds := []) #[false, false, false, false, false] (by kernel_rfl) rfl rfl (cx4 BK120 (cz7 BK125)) (fun hHeld => ?_)
         generalize w150.drew = w151 at BK120 BK121 BK122 BK125 HB hHeld ⊢
         refine take_ (i := 0) (N := some 71) (v := ?_) (a' := ?_) #[true, false, false, false, false] rfl rfl (by kernel_rfl) (fun _ _ _ h => h) (Or.inl ⟨by rfl, ?_⟩) hHeld ?_ ?_
         rotate_left
         ·rintro w' ⟨s0, s1, s2, s3, s4, s5, s6, s7, s8, s9, s10⟩
          go_simp
          with_reducible rfl
         rotate_left
         ·simp only [Act.put, sA, sZ, sS, i64_w, i32_w]
          rfl
         refine take_ (i := 1) (N := some 72) (v := ?_) (a' := ?_) #[true, true, false, false, false] rfl rfl (by kernel_rfl) (fun _ _ _ h => h) (Or.inl ⟨by rfl, ?_⟩) hHeld ?_ ?_
         rotate_left
         ·rintro w' ⟨s0, s1, s2, s3, s4, s5, s6, s7, s8, s9, s10⟩
          go_simp
          with_reducible rfl
         rotate_left
         ·simp only [Act.put, sA, sZ, sS, i64_w, i32_w]
          rfl
         refine one_ (i := 2) (N := none) #[true, true, true, false, false] rfl rfl (by kernel_rfl) (by decide) (fun K hK => ?_)
         have hs152 : w151.cell? ⟨gb121, 0, none⟩ = some (.int .i64 0) := (blk_cell BK121.out 0).trans rfl
         have hfs152 := blk_frozen BK121.out 0
         have hns152_0 := NB120_121.out
         have hns152_2 := NB122_121.out
         have hns152_3 := NB125_121.out
         have hms152_0 := NB121_120.out
         have hms152_2 := NB121_122.out
         have hms152_3 := NB121_125.out
         have hs153 : w151.cell? ⟨gb121, 1, none⟩ = some (.int .i64 0) := (blk_cell BK121.out 1).trans rfl
         have hfs153 := blk_frozen BK121.out 1
         have hns153_0 := NB120_121.out
         have hns153_2 := NB122_121.out
         have hns153_3 := NB125_121.out
         have hms153_0 := NB121_120.out
         have hms153_2 := NB121_122.out
         have hms153_3 := NB121_125.out
         have hs154 : w151.cell? ⟨gb121, 2, none⟩ = some (.string (⟨#[]⟩ : ByteArray)) := (blk_cell BK121.out 2).trans rfl
         have hfs154 := blk_frozen BK121.out 2
         have hns154_0 := NB120_121.out
         have hns154_2 := NB122_121.out
         have hns154_3 := NB125_121.out
         have hms154_0 := NB121_120.out
         have hms154_2 := NB121_122.out
         have hms154_3 := NB121_125.out
         have hs155 : w151.cell? ⟨gb121, 3, none⟩ = some (.bool false) := (blk_cell BK121.out 3).trans rfl
         have hfs155 := blk_frozen BK121.out 3
         have hns155_0 := NB120_121.out
         have hns155_2 := NB122_121.out
         have hns155_3 := NB125_121.out
         have hms155_0 := NB121_120.out
         have hms155_2 := NB121_122.out
         have hms155_3 := NB121_125.out
         refine skip_ (w1 := ?_) (by rfl) rfl ?_ ?_
         rotate_left
         ·go_simp
          rfl
         refine hK.out _ _ ⟨((cell_far (p := ⟨gb121, _, none⟩) NB120_121.out _).trans (((cell_far (p := ⟨gb121, _, none⟩) NB120_121.out _).trans (((cell_far (p := ⟨gb121, _, none⟩) NB120_121.out _).trans (((cell_far (p := ⟨gb121, _, none⟩) NB120_121.out _).trans (hHeld.1)))))))), ((cell_far (p := ⟨gb121, _, none⟩) NB120_121.out _).trans (((cell_far (p := ⟨gb121, _, none⟩) NB120_121.out _).trans (((cell_far (p := ⟨gb121, _, none⟩) NB120_121.out _).trans (((cell_far (p := ⟨gb121, _, none⟩) NB120_121.out _).trans (hHeld.2.1)))))))), ((cell_far (p := ⟨gb121, _, none⟩) NB120_121.out _).trans (((cell_far (p := ⟨gb121, _, none⟩) NB120_121.out _).trans (((cell_far (p := ⟨gb121, _, none⟩) NB120_121.out _).trans (((cell_far (p := ⟨gb121, _, none⟩) NB120_121.out _).trans (hHeld.2.2.1)))))))), ((cell_far (p := ⟨gb121, _, none⟩) NB120_121.out _).trans (((cell_far (p := ⟨gb121, _, none⟩) NB120_121.out _).trans (((cell_far (p := ⟨gb121, _, none⟩) NB120_121.out _).trans (((cell_far (p := ⟨gb121, _, none⟩) NB120_121.out _).trans (hHeld.2.2.2.1)))))))), ((cell_far (p := ⟨gb121, _, none⟩) NB125_121.out _).trans (((cell_far (p := ⟨gb121, _, none⟩) NB125_121.out _).trans (((cell_far (p := ⟨gb121, _, none⟩) NB125_121.out _).trans (((cell_far (p := ⟨gb121, _, none⟩) NB125_121.out _).trans (hHeld.2.2.2.2.1)))))))), ((cell_far (p := ⟨gb121, _, none⟩) NB125_121.out _).trans (((cell_far (p := ⟨gb121, _, none⟩) NB125_121.out _).trans (((cell_far (p := ⟨gb121, _, none⟩) NB125_121.out _).trans (((cell_far (p := ⟨gb121, _, none⟩) NB125_121.out _).trans (hHeld.2.2.2.2.2.1)))))))), ((cell_far (p := ⟨gb121, _, none⟩) NB125_121.out _).trans (((cell_far (p := ⟨gb121, _, none⟩) NB125_121.out _).trans (((cell_far (p := ⟨gb121, _, none⟩) NB125_121.out _).trans (((cell_far (p := ⟨gb121, _, none⟩) NB125_121.out _).trans (hHeld.2.2.2.2.2.2.1)))))))), ((cell_far (p := ⟨gb121, _, none⟩) NB125_121.out _).trans (((cell_far (p := ⟨gb121, _, none⟩) NB125_121.out _).trans (((cell_far (p := ⟨gb121, _, none⟩) NB125_121.out _).trans (((cell_far (p := ⟨gb121, _, none⟩) NB125_121.out _).trans (hHeld.2.2.2.2.2.2.2.1)))))))), ((cell_far (p := ⟨gb121, _, none⟩) NB125_121.out _).trans (((cell_far (p := ⟨gb121, _, none⟩) NB125_121.out _).trans (((cell_far (p := ⟨gb121, _, none⟩) NB125_121.out _).trans (((cell_far (p := ⟨gb121, _, none⟩) NB125_121.out _).trans (hHeld.2.2.2.2.2.2.2.2.1)))))))), ((cell_far (p := ⟨gb121, _, none⟩) NB125_121.out _).trans (((cell_far (p := ⟨gb121, _, none⟩) NB125_121.out _).trans (((cell_far (p := ⟨gb121, _, none⟩) NB125_121.out _).trans (((cell_far (p := ⟨gb121, _, none⟩) NB125_121.out _).trans (hHeld.2.2.2.2.2.2.2.2.2.1)))))))), ((cell_far (p := ⟨gb121, _, none⟩) NB125_121.out _).trans (((cell_far (p := ⟨gb121, _, none⟩) NB125_121.out _).trans (((cell_far (p := ⟨gb121, _, none⟩) NB125_121.out _).trans (((cell_far (p := ⟨gb121, _, none⟩) NB125_121.out _).trans (hHeld.2.2.2.2.2.2.2.2.2.2))))))))⟩ (fun hHeld => ?_)
         clear hK K
         refine one_ (i := 3) (N := none) #[true, true, true, true, false] rfl rfl (by kernel_rfl) (by decide) (fun K hK => ?_)
         have hs156 : w151.cell? ⟨gb122, 0, none⟩ = some (.int .i64 0) := (blk_cell BK122.out 0).trans rfl
         have hfs156 := blk_frozen BK122.out 0
         have hns156_0 := NB120_122.out
         have hns156_1 := NB121_122.out
         have hns156_3 := NB125_122.out
         have hms156_0 := NB122_120.out
         have hms156_1 := NB122_121.out
         have hms156_3 := NB122_125.out
         have hs157 : w151.cell? ⟨gb122, 1, none⟩ = some (.int .i64 0) := (blk_cell BK122.out 1).trans rfl
         have hfs157 := blk_frozen BK122.out 1
         have hns157_0 := NB120_122.out
         have hns157_1 := NB121_122.out
         have hns157_3 := NB125_122.out
         have hms157_0 := NB122_120.out
         have hms157_1 := NB122_121.out
         have hms157_3 := NB122_125.out
         have hs158 : w151.cell? ⟨gb122, 2, none⟩ = some (.int .i64 0) := (blk_cell BK122.out 2).trans rfl
         have hfs158 := blk_frozen BK122.out 2
         have hns158_0 := NB120_122.out
         have hns158_1 := NB121_122.out
         have hns158_3 := NB125_122.out
         have hms158_0 := NB122_120.out
         have hms158_1 := NB122_121.out
         have hms158_3 := NB122_125.out
         have hs159 : w151.cell? ⟨gb122, 3, none⟩ = some (.int .i64 0) := (blk_cell BK122.out 3).trans rfl
         have hfs159 := blk_frozen BK122.out 3
         have hns159_0 := NB120_122.out
         have hns159_1 := NB121_122.out
         have hns159_3 := NB125_122.out
         have hms159_0 := NB122_120.out
         have hms159_1 := NB122_121.out
         have hms159_3 := NB122_125.out
         have hs160 : w151.cell? ⟨gb122, 4, none⟩ = some (.bool false) := (blk_cell BK122.out 4).trans rfl
         have hfs160 := blk_frozen BK122.out 4
         have hns160_0 := NB120_122.out
         have hns160_1 := NB121_122.out
         have hns160_3 := NB125_122.out
         have hms160_0 := NB122_120.out
         have hms160_1 := NB122_121.out
         have hms160_3 := NB122_125.out
         have hs161 : w151.cell? ⟨gb122, 5, none⟩ = some (.string (⟨#[]⟩ : ByteArray)) := (blk_cell BK122.out 5).trans rfl
         have hfs161 := blk_frozen BK122.out 5
         have hns161_0 := NB120_122.out
         have hns161_1 := NB121_122.out
         have hns161_3 := NB125_122.out
         have hms161_0 := NB122_120.out
         have hms161_1 := NB122_121.out
         have hms161_3 := NB122_125.out
         have hs162 : w151.cell? ⟨gb122, 6, none⟩ = some (.slice none 0 0) := (blk_cell BK122.out 6).trans rfl
         have hfs162 := blk_frozen BK122.out 6
         have hns162_0 := NB120_122.out
         have hns162_1 := NB121_122.out
         have hns162_3 := NB125_122.out
         have hms162_0 := NB122_120.out
         have hms162_1 := NB122_121.out
         have hms162_3 := NB122_125.out
         refine skip_ (w1 := ?_) (by rfl) rfl ?_ ?_
         rotate_left
         ·go_simp
          rfl
         refine hK.out _ _ ⟨((cell_far (p := ⟨gb122, _, none⟩) NB120_122.out _).trans (((cell_far (p := ⟨gb122, _, none⟩) NB120_122.out _).trans (((cell_far (p := ⟨gb122, _, none⟩) NB120_122.out _).trans (((cell_far (p := ⟨gb122, _, none⟩) NB120_122.out _).trans (((cell_far (p := ⟨gb122, _, none⟩) NB120_122.out _).trans (((cell_far (p := ⟨gb122, _, none⟩) NB120_122.out _).trans (((cell_far (p := ⟨gb122, _, none⟩) NB120_122.out _).trans (hHeld.1)))))))))))))), ((cell_far (p := ⟨gb122, _, none⟩) NB120_122.out _).trans (((cell_far (p := ⟨gb122, _, none⟩) NB120_122.out _).trans (((cell_far (p := ⟨gb122, _, none⟩) NB120_122.out _).trans (((cell_far (p := ⟨gb122, _, none⟩) NB120_122.out _).trans (((cell_far (p := ⟨gb122, _, none⟩) NB120_122.out _).trans (((cell_far (p := ⟨gb122, _, none⟩) NB120_122.out _).trans (((cell_far (p := ⟨gb122, _, none⟩) NB120_122.out _).trans (hHeld.2.1)))))))))))))), ((cell_far (p := ⟨gb122, _, none⟩) NB120_122.out _).trans (((cell_far (p := ⟨gb122, _, none⟩) NB120_122.out _).trans (((cell_far (p := ⟨gb122, _, none⟩) NB120_122.out _).trans (((cell_far (p := ⟨gb122, _, none⟩) NB120_122.out _).trans (((cell_far (p := ⟨gb122, _, none⟩) NB120_122.out _).trans (((cell_far (p := ⟨gb122, _, none⟩) NB120_122.out _).trans (((cell_far (p := ⟨gb122, _, none⟩) NB120_122.out _).trans (hHeld.2.2.1)))))))))))))), ((cell_far (p := ⟨gb122, _, none⟩) NB120_122.out _).trans (((cell_far (p := ⟨gb122, _, none⟩) NB120_122.out _).trans (((cell_far (p := ⟨gb122, _, none⟩) NB120_122.out _).trans (((cell_far (p := ⟨gb122, _, none⟩) NB120_122.out _).trans (((cell_far (p := ⟨gb122, _, none⟩) NB120_122.out _).trans (((cell_far (p := ⟨gb122, _, none⟩) NB120_122.out _).trans (((cell_far (p := ⟨gb122, _, none⟩) NB120_122.out _).trans (hHeld.2.2.2.1)))))))))))))), ((cell_far (p := ⟨gb122, _, none⟩) NB125_122.out _).trans (((cell_far (p := ⟨gb122, _, none⟩) NB125_122.out _).trans (((cell_far (p := ⟨gb122, _, none⟩) NB125_122.out _).trans (((cell_far (p := ⟨gb122, _, none⟩) NB125_122.out _).trans (((cell_far (p := ⟨gb122, _, none⟩) NB125_122.out _).trans (((cell_far (p := ⟨gb122, _, none⟩) NB125_122.out _).trans (((cell_far (p := ⟨gb122, _, none⟩) NB125_122.out _).trans (hHeld.2.2.2.2.1)))))))))))))), ((cell_far (p := ⟨gb122, _, none⟩) NB125_122.out _).trans (((cell_far (p := ⟨gb122, _, none⟩) NB125_122.out _).trans (((cell_far (p := ⟨gb122, _, none⟩) NB125_122.out _).trans (((cell_far (p := ⟨gb122, _, none⟩) NB125_122.out _).trans (((cell_far (p := ⟨gb122, _, none⟩) NB125_122.out _).trans (((cell_far (p := ⟨gb122, _, none⟩) NB125_122.out _).trans (((cell_far (p := ⟨gb122, _, none⟩) NB125_122.out _).trans (hHeld.2.2.2.2.2.1)))))))))))))), ((cell_far (p := ⟨gb122, _, none⟩) NB125_122.out _).trans (((cell_far (p := ⟨gb122, _, none⟩) NB125_122.out _).trans (((cell_far (p := ⟨gb122, _, none⟩) NB125_122.out _).trans (((cell_far (p := ⟨gb122, _, none⟩) NB125_122.out _).trans (((cell_far (p := ⟨gb122, _, none⟩) NB125_122.out _).trans (((cell_far (p := ⟨gb122, _, none⟩) NB125_122.out _).trans (((cell_far (p := ⟨gb122, _, none⟩) NB125_122.out _).trans (hHeld.2.2.2.2.2.2.1)))))))))))))), ((cell_far (p := ⟨gb122, _, none⟩) NB125_122.out _).trans (((cell_far (p := ⟨gb122, _, none⟩) NB125_122.out _).trans (((cell_far (p := ⟨gb122, _, none⟩) NB125_122.out _).trans (((cell_far (p := ⟨gb122, _, none⟩) NB125_122.out _).trans (((cell_far (p := ⟨gb122, _, none⟩) NB125_122.out _).trans (((cell_far (p := ⟨gb122, _, none⟩) NB125_122.out _).trans (((cell_far (p := ⟨gb122, _, none⟩) NB125_122.out _).trans (hHeld.2.2.2.2.2.2.2.1)))))))))))))), ((cell_far (p := ⟨gb122, _, none⟩) NB125_122.out _).trans (((cell_far (p := ⟨gb122, _, none⟩) NB125_122.out _).trans (((cell_far (p := ⟨gb122, _, none⟩) NB125_122.out _).trans (((cell_far (p := ⟨gb122, _, none⟩) NB125_122.out _).trans (((cell_far (p := ⟨gb122, _, none⟩) NB125_122.out _).trans (((cell_far (p := ⟨gb122, _, none⟩) NB125_122.out _).trans (((cell_far (p := ⟨gb122, _, none⟩) NB125_122.out _).trans (hHeld.2.2.2.2.2.2.2.2.1)))))))))))))), ((cell_far (p := ⟨gb122, _, none⟩) NB125_122.out _).trans (((cell_far (p := ⟨gb122, _, none⟩) NB125_122.out _).trans (((cell_far (p := ⟨gb122, _, none⟩) NB125_122.out _).trans (((cell_far (p := ⟨gb122, _, none⟩) NB125_122.out _).trans (((cell_far (p := ⟨gb122, _, none⟩) NB125_122.out _).trans (((cell_far (p := ⟨gb122, _, none⟩) NB125_122.out _).trans (((cell_far (p := ⟨gb122, _, none⟩) NB125_122.out _).trans (hHeld.2.2.2.2.2.2.2.2.2.1)))))))))))))), ((cell_far (p := ⟨gb122, _, none⟩) NB125_122.out _).trans (((cell_far (p := ⟨gb122, _, none⟩) NB125_122.out _).trans (((cell_far (p := ⟨gb122, _, none⟩) NB125_122.out _).trans (((cell_far (p := ⟨gb122, _, none⟩) NB125_122.out _).trans (((cell_far (p := ⟨gb122, _, none⟩) NB125_122.out _).trans (((cell_far (p := ⟨gb122, _, none⟩) NB125_122.out _).trans (((cell_far (p := ⟨gb122, _, none⟩) NB125_122.out _).trans (hHeld.2.2.2.2.2.2.2.2.2.2))))))))))))))⟩ (fun hHeld => ?_)
         clear hK K
         refine pure_ (i := 4) (N := some 6) (v := ?_) (a' := ?_) #[true, true, true, true, true] rfl rfl (by kernel_rfl) (fun _ _ _ h => h) (Or.inl ⟨by rfl, ?_⟩) ?_ ?_
         rotate_left
         ·intro w'
          go_simp
          with_reducible rfl
         rotate_left
         ·simp only [Act.put, sA, sZ, sS, i64_w, i32_w]
          rfl
         refine done_ (by kernel_rfl) ?_
         try go_wp2
         refine bodyPost_ret (results_list (rs := [.cell 4 25, .cell 5 28, .tmp 6]) rfl (by simp) (.cell gb121 25 #[.int .i64 a0_0, .int .i64 (wrap64 (a0_1 + (ji25))), .string a0_2, .bool false] (0, 0) _ rfl (by (with_reducible repeat (first | refine bN ?_ _ | refine bD ?_ | refine bA ?_ _)); refine blk_far ?_ NB121_122.out _; (with_reducible repeat (first | refine bN ?_ _ | refine bD ?_ | refine bA ?_ _)); refine blk_far ?_ NB121_122.out _; (with_reducible repeat (first | refine bN ?_ _ | refine bD ?_ | refine bA ?_ _)); refine blk_far ?_ NB121_122.out _; (with_reducible repeat (first | refine bN ?_ _ | refine bD ?_ | refine bA ?_ _)); refine blk_far ?_ NB121_122.out _; (with_reducible repeat (first | refine bN ?_ _ | refine bD ?_ | refine bA ?_ _)); refine blk_far ?_ NB121_122.out _; (with_reducible repeat (first | refine bN ?_ _ | refine bD ?_ | refine bA ?_ _)); refine blk_far ?_ NB121_122.out _; (with_reducible repeat (first | refine bN ?_ _ | refine bD ?_ | refine bA ?_ _)); refine blk_far ?_ NB121_122.out _; (with_reducible repeat (first | refine bN ?_ _ | refine bD ?_ | refine bA ?_ _)); refine blk_put (cs := #[.int .i64 a0_0, .int .i64 (wrap64 (a0_1 + (ji25))), .string a0_2, .bool false]) ?_ 3 _ rfl; (with_reducible repeat (first | refine bN ?_ _ | refine bD ?_ | refine bA ?_ _)); refine blk_put (cs := #[.int .i64 a0_0, .int .i64 (wrap64 (a0_1 + (ji25))), .string (⟨#[]⟩ : ByteArray), .bool false]) ?_ 2 _ rfl; (with_reducible repeat (first | refine bN ?_ _ | refine bD ?_ | refine bA ?_ _)); refine blk_put (cs := #[.int .i64 a0_0, .int .i64 0, .string (⟨#[]⟩ : ByteArray), .bool false]) ?_ 1 _ rfl; (with_reducible repeat (first | refine bN ?_ _ | refine bD ?_ | refine bA ?_ _)); refine blk_put (cs := #[.int .i64 0, .int .i64 0, .string (⟨#[]⟩ : ByteArray), .bool false]) ?_ 0 _ rfl; (with_reducible repeat (first | refine bN ?_ _ | refine bD ?_ | refine bA ?_ _)); exact BK121.out) Try.underlying25 rfl (by kernel_rfl) (.cell gb122 28 #[.int .i64 8, .int .i64 0, .int .i64 a0_1, .int .i64 0, .bool false, .string (a0_2.extract (a0_1 : Int).toNat ((wrap64 (a0_1 + (ji25))) : Int).toNat), .slice none 0 0] (0, 0) _ rfl (by (with_reducible repeat (first | refine bN ?_ _ | refine bD ?_ | refine bA ?_ _)); refine blk_put (cs := #[.int .i64 8, .int .i64 0, .int .i64 a0_1, .int .i64 0, .bool false, .string (a0_2.extract (a0_1 : Int).toNat ((wrap64 (a0_1 + (ji25))) : Int).toNat), .slice none 0 0]) ?_ 6 _ rfl; (with_reducible repeat (first | refine bN ?_ _ | refine bD ?_ | refine bA ?_ _)); refine blk_put (cs := #[.int .i64 8, .int .i64 0, .int .i64 a0_1, .int .i64 0, .bool false, .string (⟨#[]⟩ : ByteArray), .slice none 0 0]) ?_ 5 _ rfl; (with_reducible repeat (first | refine bN ?_ _ | refine bD ?_ | refine bA ?_ _)); refine blk_put (cs := #[.int .i64 8, .int .i64 0, .int .i64 a0_1, .int .i64 0, .bool false, .string (⟨#[]⟩ : ByteArray), .slice none 0 0]) ?_ 4 _ rfl; (with_reducible repeat (first | refine bN ?_ _ | refine bD ?_ | refine bA ?_ _)); refine blk_put (cs := #[.int .i64 8, .int .i64 0, .int .i64 a0_1, .int .i64 0, .bool false, .string (⟨#[]⟩ : ByteArray), .slice none 0 0]) ?_ 3 _ rfl; (with_reducible repeat (first | refine bN ?_ _ | refine bD ?_ | refine bA ?_ _)); refine blk_put (cs := #[.int .i64 8, .int .i64 0, .int .i64 0, .int .i64 0, .bool false, .string (⟨#[]⟩ : ByteArray), .slice none 0 0]) ?_ 2 _ rfl; (with_reducible repeat (first | refine bN ?_ _ | refine bD ?_ | refine bA ?_ _)); refine blk_put (cs := #[.int .i64 8, .int .i64 0, .int .i64 0, .int .i64 0, .bool false, .string (⟨#[]⟩ : ByteArray), .slice none 0 0]) ?_ 1 _ rfl; (with_reducible repeat (first | refine bN ?_ _ | refine bD ?_ | refine bA ?_ _)); refine blk_put (cs := #[.int .i64 0, .int .i64 0, .int .i64 0, .int .i64 0, .bool false, .string (⟨#[]⟩ : ByteArray), .slice none 0 0]) ?_ 0 _ rfl; (with_reducible repeat (first | refine bN ?_ _ | refine bD ?_ | refine bA ?_ _)); refine blk_far ?_ NB122_121.out _; (with_reducible repeat (first | refine bN ?_ _ | refine bD ?_ | refine bA ?_ _)); refine blk_far ?_ NB122_121.out _; (with_reducible repeat (first | refine bN ?_ _ | refine bD ?_ | refine bA ?_ _)); refine blk_far ?_ NB122_121.out _; (with_reducible repeat (first | refine bN ?_ _ | refine bD ?_ | refine bA ?_ _)); refine blk_far ?_ NB122_121.out _; (with_reducible repeat (first | refine bN ?_ _ | refine bD ?_ | refine bA ?_ _)); exact BK122.out) Try.underlying28 rfl (by kernel_rfl) (.tmp .nil)))) rfl ?_
         exact ⟨_, by first | rfl | (simp [errW_none, errW_some] <;> rfl) | (simp only [← hji24, ← hji25]; first | rfl | (simp [errW_none, errW_some] <;> rfl)) | (simp [*, errW_none, errW_some] <;> rfl), by first | exact Kd.R_nil _ _ _ _ _ | exact Kd.N_nil _ _ _ _ _ | exact Kd.V_nil _ _ _ _ _ | exact Kd.Q_nil _ _ _ _ _ | exact Kd.S_nil _ _ _ _ _, by repeat (first | (with_reducible first | exact HB.out | apply below_alloc | apply pw_below_drewN | apply below_drew1 | refine below_set ?_ GE120.out | refine below_set ?_ GE121.out | refine below_set ?_ GE122.out | refine below_set ?_ GE125.out) | exact HB.out)⟩
      ·rw [if_neg c28] at H
       exact absurd H (by simp)
     ·rw [if_neg c27] at H
      exact absurd H (by simp)
    ·rw [if_neg c26] at H
     exact absurd H (by simp)

end Go.Proofs.Ythkmjfapljmmpaa.PFnExactNextPiece
