-- Written by a program of this session (wip/xprint.py).
import Derived.Test.YtkcdhphhacjkhaaPFnExactCheckTokenx0
import Derived.Test.YtkcdhphhacjkhaaPFnExactCheckTokenx1
import Derived.Test.YtkcdhphhacjkhaaPFnExactCheckTokenx2
namespace Go.Proofs.Ytkcdhphhacjkhaa.PFnExactCheckToken
open Go.RowKit Go.Proofs.YtkcdhphhacjkhaaW.PrintWords Go.Proofs.YtkcdhphhacjkhaaW.PrintLast Go.Proofs.YtkcdhphhacjkhaaW.PrintMore
open Go.Proofs.Ytkcdhphhacjkhaa.ShortK (bN bD bA sA sZ sS mR mB bX bLt bS cz2 fz2 cx2 cz3 fz3 cx3 cz4 fz4 cx4 cz5 fz5 cx5 cz6 fz6 cx6 cz7 fz7 cx7 cz8 fz8 cx8 cz9 fz9 cx9 cz10 fz10 cx10 cz11 fz11 cx11 cz12 fz12 cx12)
open Go.Proofs.Ytkcdhphhacjkhaa.StoreK (bm)
attribute [local go_sem] Go.Proofs.Ytkcdhphhacjkhaa.StoreK.isSome_setCell max2_int min2_int max_two min_two max_three min_three max_four min_four   -- for this text's walks alone
set_option linter.unusedVariables false
set_option linter.unusedSimpArgs false

/-! ### impl_CheckToken: function 12 -/
mutual
def impl_CheckToken.j0 : Nat → List ByteArray → ByteArray → ByteArray → Int → Int → Bool → Option (ByteArray × Int × Bool × Int)
 | 0, _, _, _, _, _, _ => none
 | k + 1, x0, x1, x2, x3, x4, x17 => if x17 = true then (some ((⟨#[]⟩ : ByteArray), 0, false, 1)) else ((impl_in.f (x2.size : Int) 37 57).bind fun t129 => (if t129 = true then (if 0 < (x2.size : Int) then (if (bt x2 0) > 1 then (some ((⟨#[]⟩ : ByteArray), 0, false, 2)) else (impl_CheckToken.l0 k x1 x2 x3 x4 x0 (x0.length : Int) 0)) else (none)) else (some ((⟨#[]⟩ : ByteArray), 0, false, 2))))
def impl_CheckToken.l0 : Nat → ByteArray → ByteArray → Int → Int → List ByteArray → Int → Int → Option (ByteArray × Int × Bool × Int)
 | 0, _, _, _, _, _, _, _ => none
 | k + 1, x1, x2, x3, x4, x48, x49, x50 => if x50 < x49 then (if 0 ≤ x50 then (if x50 < (x48.length : Int) then (if 1 ≤ 13 then (if 13 ≤ (x2.size : Int) then (if 0 ≤ 1 then (if 1 ≤ (x2.size : Int) then (if (x2.extract 0 1).size + x1.size ≤ 9223372036854775807 then ((impl_OpenText.f (rdOf ByteArray.empty x48 x50) (x2.extract 1 13) ((x2.extract 0 1) ++ x1) (x2.extract 13 x2.size)).bind fun bt131 => (if bt131.2 = true then (if 0 ≤ 8 then (if 8 ≤ (bt131.1.size : Int) then ((impl_numberOf.f (bt131.1.extract 0 8)).bind fun t133 => (if t133 > (IntKind.u64.wrap (x3)) then (some ((⟨#[]⟩ : ByteArray), 0, false, 4)) else (if (wrap64 (x3 - (wrap64 (t133)))) > x4 then (some ((⟨#[]⟩ : ByteArray), 0, false, 4)) else (if 0 < (x2.size : Int) then (some (bt131.1.extract 8 bt131.1.size, wrap64 (t133), ((bt x2 0) == 1), 0)) else (none))))) else (none)) else (none)) else (impl_CheckToken.l0 k x1 x2 x3 x4 x48 x49 (wrap64 (x50 + 1))))) else (none)) else (none)) else (none)) else (none)) else (none)) else (none)) else (none)) else (some ((⟨#[]⟩ : ByteArray), 0, false, 3))
end
def impl_CheckToken.f (k : Nat) (l0 : List ByteArray) (a1 : ByteArray) (a2 : ByteArray) (a3 : Int) (a4 : Int) : Option (ByteArray × Int × Bool × Int) := (impl_tokenKeysOk.f l0).bind fun t125 => (if t125 = true then ((impl_isAddress.f a1).bind fun t126 => (if t126 = true then ((impl_isTime.f a3).bind fun t127 => (if t127 = true then ((impl_in.f a4 0 1000000).bind fun t128 => (impl_CheckToken.j0 k l0 a1 a2 a3 a4 (!t128))) else (impl_CheckToken.j0 k l0 a1 a2 a3 a4 true))) else (impl_CheckToken.j0 k l0 a1 a2 a3 a4 true))) else (impl_CheckToken.j0 k l0 a1 a2 a3 a4 true))
theorem impl_CheckToken.mono_l : ∀ k, (∀ y0 y1 y2 y3 y4 y5, LeO (impl_CheckToken.j0 k y0 y1 y2 y3 y4 y5) (impl_CheckToken.j0 (k + 1) y0 y1 y2 y3 y4 y5)) ∧ (∀ y0 y1 y2 y3 y4 y5 y6, LeO (impl_CheckToken.l0 k y0 y1 y2 y3 y4 y5 y6) (impl_CheckToken.l0 (k + 1) y0 y1 y2 y3 y4 y5 y6))
 | 0 => ⟨fun _ _ _ _ _ _ r h => by simp [impl_CheckToken.j0] at h, fun _ _ _ _ _ _ _ r h => by simp [impl_CheckToken.l0] at h⟩
 | k + 1 => by
  obtain ⟨ih0, ih1⟩ := impl_CheckToken.mono_l k
  refine ⟨?_, ?_⟩
  ·intro y0 y1 y2 y3 y4 y5
   unfold impl_CheckToken.j0
   repeat' first
   | (with_reducible exact ih0 _ _ _ _ _ _)
   | (with_reducible exact ih1 _ _ _ _ _ _ _)
   | (with_reducible exact LeO.refl _)
   | (with_reducible exact LeO.none _)
   | (with_reducible refine LeO.ite ?_ ?_)
   | (with_reducible refine LeO.bind ?_ (fun _ => ?_))
   | exact ih0 _ _ _ _ _ _
   | exact ih1 _ _ _ _ _ _ _
   | exact LeO.none _
   | refine LeO.ite ?_ ?_
   | refine LeO.bind ?_ (fun _ => ?_)
  ·intro y0 y1 y2 y3 y4 y5 y6
   unfold impl_CheckToken.l0
   repeat' first
   | (with_reducible exact ih0 _ _ _ _ _ _)
   | (with_reducible exact ih1 _ _ _ _ _ _ _)
   | (with_reducible exact LeO.refl _)
   | (with_reducible exact LeO.none _)
   | (with_reducible refine LeO.ite ?_ ?_)
   | (with_reducible refine LeO.bind ?_ (fun _ => ?_))
   | exact ih0 _ _ _ _ _ _
   | exact ih1 _ _ _ _ _ _ _
   | exact LeO.none _
   | refine LeO.ite ?_ ?_
   | refine LeO.bind ?_ (fun _ => ?_)
theorem impl_CheckToken.mono : ∀ a0 a1 a2 a3 a4 k, LeO (impl_CheckToken.f k a0 a1 a2 a3 a4) (impl_CheckToken.f (k + 1) a0 a1 a2 a3 a4) := by
 intro a0 a1 a2 a3 a4 k
 obtain ⟨ih0, ih1⟩ := impl_CheckToken.mono_l k
 unfold impl_CheckToken.f
 repeat' first
   | (with_reducible exact ih0 _ _ _ _ _ _)
   | (with_reducible exact ih1 _ _ _ _ _ _ _)
   | (with_reducible exact LeO.refl _)
   | (with_reducible exact LeO.none _)
   | (with_reducible refine LeO.ite ?_ ?_)
   | (with_reducible refine LeO.bind ?_ (fun _ => ?_))
   | exact ih0 _ _ _ _ _ _
   | exact ih1 _ _ _ _ _ _ _
   | exact LeO.none _
   | refine LeO.ite ?_ ?_
   | refine LeO.bind ?_ (fun _ => ?_)
def impl_CheckToken.T8 : Bool × List (List Nat × List Nat) := (true, [([], []), ([], []), ([1], [1]), ([], []), ([3], [3]), ([], []), ([4, 5], [4, 5]), ([], []), ([7], [7]), ([0, 2, 6, 8], [0, 2, 6, 8]), ([9], [9]), ([10], [10]), ([10], [10]), ([11, 9, 0, 1, 2, 3, 4, 5, 6, 7, 8, 9, 10, 11], [11]), ([12, 13, 0, 1, 2, 3, 4, 5, 6, 7, 8, 9, 10, 11, 12, 13], [12])])
def impl_CheckToken.B8 : List Nat := [0, 0, 2, 0, 8, 0, 56, 0, 128, 511, 1023, 2047, 2047, 4095, 16383]
theorem impl_CheckToken.tab8 : rtab .any (opsOf Try.f12 8) = impl_CheckToken.T8 := by kernel_rfl
theorem impl_CheckToken.bits8 : waitsOk impl_CheckToken.T8.2 impl_CheckToken.B8 = true := by kernel_rfl
def impl_CheckToken.T13 : Bool × List (List Nat × List Nat) := (true, [([], []), ([0], [0]), ([], []), ([2], [2]), ([], []), ([4], [4]), ([5], [5]), ([1, 3, 6], [1, 3, 6]), ([7, 0, 1, 2, 3, 4, 5, 6, 7], [7]), ([8, 0, 1, 2, 3, 4, 5, 6, 7, 8], [])])
def impl_CheckToken.B13 : List Nat := [0, 1, 0, 4, 0, 16, 48, 127, 255, 511]
theorem impl_CheckToken.tab13 : rtab .any (opsOf Try.f12 13) = impl_CheckToken.T13 := by kernel_rfl
theorem impl_CheckToken.bits13 : waitsOk impl_CheckToken.T13.2 impl_CheckToken.B13 = true := by kernel_rfl
set_option maxHeartbeats 64000000 in
set_option maxRecDepth 100000 in
theorem impl_CheckToken.calls (k : Nat) (A0 : Option Addr) (c0 : Nat) (l0 : List ByteArray) (a1 : ByteArray) (a2 : ByteArray) (a3 : Int) (a4 : Int) (r1 : ByteArray) (r2 : Int) (r3 : Bool) (r4 : Int) (w : World) (hr0 : Kd.C Kd.string w A0 l0.length l0) (hc0 : l0.length ≤ c0) (h : impl_CheckToken.f k l0 a1 a2 a3 a4 = some (r1, r2, r3, r4)) :
  Calls Try.prog 12 #[.slice A0 l0.length c0, .string a1, .string a2, .int .i64 a3, .int .i64 a4] w fun e w' => e = .returned (.tuple #[.agg #[.string r1, .int .i64 r2, .bool r3], .int .i64 r4]) ∧ Below w.heap.size w w' := by
 have hu27 := Try.underlying27
 have HR0 := Aside0.mk hr0
 have HC0 := Aside0.mk hc0
 clear hr0 hc0
 have HB := Aside0.mk (Below.refl w.heap.size w)
 have H : ((impl_tokenKeysOk.f l0).bind fun t125 => (if t125 = true then ((impl_isAddress.f a1).bind fun t126 => (if t126 = true then ((impl_isTime.f a3).bind fun t127 => (if t127 = true then ((impl_in.f a4 0 1000000).bind fun t128 => (impl_CheckToken.j0 k l0 a1 a2 a3 a4 (!t128))) else (impl_CheckToken.j0 k l0 a1 a2 a3 a4 true))) else (impl_CheckToken.j0 k l0 a1 a2 a3 a4 true))) else (impl_CheckToken.j0 k l0 a1 a2 a3 a4 true))) = some (r1, r2, r3, r4) := h
 clear h
 have HC6 := Aside0.mk H
 clear H
 go_enter Try.func12, Try.ntmps12
 go_upto_region 1 with (first | ((with_reducible refine gate_dst (N := 10) rfl ?_); refine box_event ?hg (N := 10) ?hd (cs := #[.string (⟨#[]⟩ : ByteArray), .int .i64 0, .bool false]) (t := 27) ?hr ?_; (case hd => rfl); (case hg => rfl); (case hr => first | (go_simp; done) | (go_simp; rfl)); intro gb124 hg w7 hbox hb; have n0_ := bS HB hb; have n1_ := Aside0.mk (hbox); have n2_ := Aside0.mk ((by rw [hg]; exact (below_size (by repeat (first | (with_reducible first | exact HB.out | apply below_alloc | apply pw_below_drewN | apply below_drew1) | exact HB.out))) : w.heap.size ≤ gb124)); have n3_ := n2_; clear HB; have HB := n0_; have BK124 := n1_; have GW124 := n2_; have GE124 := n3_; clear n0_ n1_ n2_ n3_; clear hb hbox hg))
 (try simp only [Act.put, sA, sZ, sS])
 go_cut [17] (fun v17 wc => ∃ (kq : Nat) (x17_5 : Bool), v17 = .bool x17_5 ∧ Aside0 (impl_CheckToken.j0 kq l0 a1 a2 a3 a4 x17_5 = some (r1, r2, r3, r4)) ∧ Aside0 (kq ≤ k) ∧ Aside0 (wc.heap[gb124]? = some (.cells #[.string (⟨#[]⟩ : ByteArray), .int .i64 0, .bool false] 27 (0, 0))) ∧ Aside0 (Below w.heap.size w wc))
 case first =>
  have H := HC6.out
  clear HC6
  replace H := Option.bind_eq_some_iff.mp H
  obtain ⟨t125, A80, H⟩ := H
  replace H : (if t125 = true then ((impl_isAddress.f a1).bind fun t126 => (if t126 = true then ((impl_isTime.f a3).bind fun t127 => (if t127 = true then ((impl_in.f a4 0 1000000).bind fun t128 => (impl_CheckToken.j0 k l0 a1 a2 a3 a4 (!t128))) else (impl_CheckToken.j0 k l0 a1 a2 a3 a4 true))) else (impl_CheckToken.j0 k l0 a1 a2 a3 a4 true))) else (impl_CheckToken.j0 k l0 a1 a2 a3 a4 true)) = some (r1, r2, r3, r4) := H
  have A8 := Aside0.mk A80
  clear A80
  by_cases c9 : t125 = true
  ·subst c9
   have H1 : ((impl_isAddress.f a1).bind fun t126 => (if t126 = true then ((impl_isTime.f a3).bind fun t127 => (if t127 = true then ((impl_in.f a4 0 1000000).bind fun t128 => (impl_CheckToken.j0 k l0 a1 a2 a3 a4 (!t128))) else (impl_CheckToken.j0 k l0 a1 a2 a3 a4 true))) else (impl_CheckToken.j0 k l0 a1 a2 a3 a4 true))) = some (r1, r2, r3, r4) := by rw [if_pos rfl] at H; exact H
   clear H
   have H := H1
   clear H1
   replace H := Option.bind_eq_some_iff.mp H
   obtain ⟨t126, A100, H⟩ := H
   replace H : (if t126 = true then ((impl_isTime.f a3).bind fun t127 => (if t127 = true then ((impl_in.f a4 0 1000000).bind fun t128 => (impl_CheckToken.j0 k l0 a1 a2 a3 a4 (!t128))) else (impl_CheckToken.j0 k l0 a1 a2 a3 a4 true))) else (impl_CheckToken.j0 k l0 a1 a2 a3 a4 true)) = some (r1, r2, r3, r4) := H
   have A10 := Aside0.mk A100
   clear A100
   by_cases c11 : t126 = true
   ·subst c11
    have H1 : ((impl_isTime.f a3).bind fun t127 => (if t127 = true then ((impl_in.f a4 0 1000000).bind fun t128 => (impl_CheckToken.j0 k l0 a1 a2 a3 a4 (!t128))) else (impl_CheckToken.j0 k l0 a1 a2 a3 a4 true))) = some (r1, r2, r3, r4) := by rw [if_pos rfl] at H; exact H
    clear H
    have H := H1
    clear H1
    replace H := Option.bind_eq_some_iff.mp H
    obtain ⟨t127, A120, H⟩ := H
    replace H : (if t127 = true then ((impl_in.f a4 0 1000000).bind fun t128 => (impl_CheckToken.j0 k l0 a1 a2 a3 a4 (!t128))) else (impl_CheckToken.j0 k l0 a1 a2 a3 a4 true)) = some (r1, r2, r3, r4) := H
    have A12 := Aside0.mk A120
    clear A120
    by_cases c13 : t127 = true
    ·subst c13
     have H1 : ((impl_in.f a4 0 1000000).bind fun t128 => (impl_CheckToken.j0 k l0 a1 a2 a3 a4 (!t128))) = some (r1, r2, r3, r4) := by rw [if_pos rfl] at H; exact H
     clear H
     have H := H1
     clear H1
     replace H := Option.bind_eq_some_iff.mp H
     obtain ⟨t128, A140, H⟩ := H
     replace H : (impl_CheckToken.j0 k l0 a1 a2 a3 a4 (!t128)) = some (r1, r2, r3, r4) := H
     have A14 := Aside0.mk A140
     clear A140
     have H' := Aside0.mk H
     clear H
     go_wp2_with (first | ((with_reducible refine gate_callee (f := 25) rfl ?_); refine goesL_ (some 19) rfl rfl Try.func25 (by kernel_rfl) rfl #[.slice A0 l0.length c0] rfl (by (try simp only [List.map_toArray, List.map_cons, List.map_nil]); first | done | rfl | (simp only [List.length_drop, List.length_take]; rfl)) ?_; (with_reducible refine (impl_tokenKeysOk.calls _ _ l0 true _ ?side1 ?side2 A8.out).mono ?_); (case side1 => repeat (first | exact (Kd.C_below HR0.out HB.out) | (with_reducible refine Kd.C_alloc ?_ _) | (with_reducible refine Kd.C_drewN ?_ _) | (with_reducible refine Kd.C_drew ?_))); (case side2 => exact HC0.out); rintro e w15 ⟨rfl, hb⟩; refine ⟨_, rfl, ?_⟩; have n0_ := bX BK124 hb; have n1_ := bS HB hb; clear BK124; clear HB; have BK124 := n0_; have HB := n1_; clear n0_ n1_; (try clear hb); (try clear hb2); (try clear hk); (try clear hi)) | (go_at_call 19; (with_reducible refine (impl_isAddress.calls a1 true _ A10.out).mono ?_); rintro e w' ⟨rfl, ⟨nd, rfl⟩⟩) | (go_at_call 26; (with_reducible refine (impl_isTime.calls a3 true _ A12.out).mono ?_); rintro e w' ⟨rfl, ⟨nd, rfl⟩⟩) | (go_at_call 27; (with_reducible refine (impl_in.calls a4 0 1000000 t128 _ A14.out).mono ?_); rintro e w' ⟨rfl, ⟨nd, rfl⟩⟩))
     go_meet
     case rel => exact ⟨_, (!t128), (by first | rfl | (simp; done) | (simp [*]; done)), H', ⟨by first | omega | exact Nat.le_refl _⟩, ⟨by (with_reducible repeat (first | refine bN ?_ _ | refine bD ?_ | refine bA ?_ _)); exact BK124.out⟩, ⟨by repeat (first | (with_reducible first | exact HB.out | apply below_alloc | apply pw_below_drewN | apply below_drew1 | refine below_set ?_ GE124.out) | exact HB.out)⟩⟩
    ·replace c13 := Bool.eq_false_iff.mpr c13
     subst c13
     have H1 : (impl_CheckToken.j0 k l0 a1 a2 a3 a4 true) = some (r1, r2, r3, r4) := by rw [if_neg (show ¬ (false = true) by decide)] at H; exact H
     clear H
     have H := H1
     clear H1
     have H' := Aside0.mk H
     clear H
     go_wp2_with (first | ((with_reducible refine gate_callee (f := 25) rfl ?_); refine goesL_ (some 19) rfl rfl Try.func25 (by kernel_rfl) rfl #[.slice A0 l0.length c0] rfl (by (try simp only [List.map_toArray, List.map_cons, List.map_nil]); first | done | rfl | (simp only [List.length_drop, List.length_take]; rfl)) ?_; (with_reducible refine (impl_tokenKeysOk.calls _ _ l0 true _ ?side1 ?side2 A8.out).mono ?_); (case side1 => repeat (first | exact (Kd.C_below HR0.out HB.out) | (with_reducible refine Kd.C_alloc ?_ _) | (with_reducible refine Kd.C_drewN ?_ _) | (with_reducible refine Kd.C_drew ?_))); (case side2 => exact HC0.out); rintro e w16 ⟨rfl, hb⟩; refine ⟨_, rfl, ?_⟩; have n0_ := bX BK124 hb; have n1_ := bS HB hb; clear BK124; clear HB; have BK124 := n0_; have HB := n1_; clear n0_ n1_; (try clear hb); (try clear hb2); (try clear hk); (try clear hi)) | (go_at_call 19; (with_reducible refine (impl_isAddress.calls a1 true _ A10.out).mono ?_); rintro e w' ⟨rfl, ⟨nd, rfl⟩⟩) | (go_at_call 26; (with_reducible refine (impl_isTime.calls a3 false _ A12.out).mono ?_); rintro e w' ⟨rfl, ⟨nd, rfl⟩⟩))
     go_meet
     case rel => exact ⟨_, (true), (by first | rfl | (simp; done) | (simp [*]; done)), H', ⟨by first | omega | exact Nat.le_refl _⟩, ⟨by (with_reducible repeat (first | refine bN ?_ _ | refine bD ?_ | refine bA ?_ _)); exact BK124.out⟩, ⟨by repeat (first | (with_reducible first | exact HB.out | apply below_alloc | apply pw_below_drewN | apply below_drew1 | refine below_set ?_ GE124.out) | exact HB.out)⟩⟩
   ·replace c11 := Bool.eq_false_iff.mpr c11
    subst c11
    have H1 : (impl_CheckToken.j0 k l0 a1 a2 a3 a4 true) = some (r1, r2, r3, r4) := by rw [if_neg (show ¬ (false = true) by decide)] at H; exact H
    clear H
    have H := H1
    clear H1
    have H' := Aside0.mk H
    clear H
    go_wp2_with (first | ((with_reducible refine gate_callee (f := 25) rfl ?_); refine goesL_ (some 19) rfl rfl Try.func25 (by kernel_rfl) rfl #[.slice A0 l0.length c0] rfl (by (try simp only [List.map_toArray, List.map_cons, List.map_nil]); first | done | rfl | (simp only [List.length_drop, List.length_take]; rfl)) ?_; (with_reducible refine (impl_tokenKeysOk.calls _ _ l0 true _ ?side1 ?side2 A8.out).mono ?_); (case side1 => repeat (first | exact (Kd.C_below HR0.out HB.out) | (with_reducible refine Kd.C_alloc ?_ _) | (with_reducible refine Kd.C_drewN ?_ _) | (with_reducible refine Kd.C_drew ?_))); (case side2 => exact HC0.out); rintro e w17 ⟨rfl, hb⟩; refine ⟨_, rfl, ?_⟩; have n0_ := bX BK124 hb; have n1_ := bS HB hb; clear BK124; clear HB; have BK124 := n0_; have HB := n1_; clear n0_ n1_; (try clear hb); (try clear hb2); (try clear hk); (try clear hi)) | (go_at_call 19; (with_reducible refine (impl_isAddress.calls a1 false _ A10.out).mono ?_); rintro e w' ⟨rfl, ⟨nd, rfl⟩⟩))
    go_meet
    case rel => exact ⟨_, (true), (by first | rfl | (simp; done) | (simp [*]; done)), H', ⟨by first | omega | exact Nat.le_refl _⟩, ⟨by (with_reducible repeat (first | refine bN ?_ _ | refine bD ?_ | refine bA ?_ _)); exact BK124.out⟩, ⟨by repeat (first | (with_reducible first | exact HB.out | apply below_alloc | apply pw_below_drewN | apply below_drew1 | refine below_set ?_ GE124.out) | exact HB.out)⟩⟩
  ·replace c9 := Bool.eq_false_iff.mpr c9
   subst c9
   have H1 : (impl_CheckToken.j0 k l0 a1 a2 a3 a4 true) = some (r1, r2, r3, r4) := by rw [if_neg (show ¬ (false = true) by decide)] at H; exact H
   clear H
   have H := H1
   clear H1
   have H' := Aside0.mk H
   clear H
   go_wp2_with (first | ((with_reducible refine gate_callee (f := 25) rfl ?_); refine goesL_ (some 19) rfl rfl Try.func25 (by kernel_rfl) rfl #[.slice A0 l0.length c0] rfl (by (try simp only [List.map_toArray, List.map_cons, List.map_nil]); first | done | rfl | (simp only [List.length_drop, List.length_take]; rfl)) ?_; (with_reducible refine (impl_tokenKeysOk.calls _ _ l0 false _ ?side1 ?side2 A8.out).mono ?_); (case side1 => repeat (first | exact (Kd.C_below HR0.out HB.out) | (with_reducible refine Kd.C_alloc ?_ _) | (with_reducible refine Kd.C_drewN ?_ _) | (with_reducible refine Kd.C_drew ?_))); (case side2 => exact HC0.out); rintro e w18 ⟨rfl, hb⟩; refine ⟨_, rfl, ?_⟩; have n0_ := bX BK124 hb; have n1_ := bS HB hb; clear BK124; clear HB; have BK124 := n0_; have HB := n1_; clear n0_ n1_; (try clear hb); (try clear hb2); (try clear hk); (try clear hi)))
   go_meet
   case rel => exact ⟨_, (true), (by first | rfl | (simp; done) | (simp [*]; done)), H', ⟨by first | omega | exact Nat.le_refl _⟩, ⟨by (with_reducible repeat (first | refine bN ?_ _ | refine bD ?_ | refine bA ?_ _)); exact BK124.out⟩, ⟨by repeat (first | (with_reducible first | exact HB.out | apply below_alloc | apply pw_below_drewN | apply below_drew1 | refine below_set ?_ GE124.out) | exact HB.out)⟩⟩
 case rest =>
  clear HC6
  try clear c1
  try clear c2
  try clear p2
  try clear c9
  try clear c11
  try clear c12
  try clear c13
  obtain ⟨kq, x17_5, rfl, HA, HJ5, BK124, HB⟩ := hcut
  cases kq with
  | zero => exact absurd HA.out (by simp [impl_CheckToken.j0])
  | succ kj5 =>
   have H := HA.out
   clear HA
   simp only [impl_CheckToken.j0] at H
   by_cases c19 : x17_5 = true
   ·subst c19
    have H1 : (some ((⟨#[]⟩ : ByteArray), 0, false, 1)) = some (r1, r2, r3, r4) := by rw [if_pos rfl] at H; exact H
    clear H
    have H := H1
    clear H1
    simp only [Option.some.injEq, Prod.mk.injEq] at H
    obtain ⟨rfl, rfl, rfl, rfl⟩ := H
    obtain ⟨hcz20_0, hcz20_1, hcz20_2⟩ := cz3 BK124
    obtain ⟨hfz20_0, hfz20_1, hfz20_2⟩ := fz3 BK124
    go_wp2
    refine bodyPost_ret (results_ct rfl _ _ gb124 27 #[.string (⟨#[]⟩ : ByteArray), .int .i64 0, .bool false] (0, 0) _ rfl (by (with_reducible repeat (first | refine bN ?_ _ | refine bD ?_ | refine bA ?_ _)); refine blk_put (cs := #[.string (⟨#[]⟩ : ByteArray), .int .i64 0, .bool false]) ?_ 2 _ rfl; (with_reducible repeat (first | refine bN ?_ _ | refine bD ?_ | refine bA ?_ _)); refine blk_put (cs := #[.string (⟨#[]⟩ : ByteArray), .int .i64 0, .bool false]) ?_ 1 _ rfl; (with_reducible repeat (first | refine bN ?_ _ | refine bD ?_ | refine bA ?_ _)); refine blk_put (cs := #[.string (⟨#[]⟩ : ByteArray), .int .i64 0, .bool false]) ?_ 0 _ rfl; (with_reducible repeat (first | refine bN ?_ _ | refine bD ?_ | refine bA ?_ _)); exact BK124.out) Try.underlying27 rfl (by kernel_rfl)) rfl ?_
    exact ⟨by first | rfl | (simp [errW_none, errW_some] <;> rfl) | (simp [*, errW_none, errW_some] <;> rfl), by repeat (first | (with_reducible first | exact HB.out | apply below_alloc | apply pw_below_drewN | apply below_drew1 | refine below_set ?_ GE124.out) | exact HB.out)⟩
   ·replace c19 := Bool.eq_false_iff.mpr c19
    subst c19
    have H1 : ((impl_in.f (a2.size : Int) 37 57).bind fun t129 => (if t129 = true then (if 0 < (a2.size : Int) then (if (bt a2 0) > 1 then (some ((⟨#[]⟩ : ByteArray), 0, false, 2)) else (impl_CheckToken.l0 kj5 a1 a2 a3 a4 l0 (l0.length : Int) 0)) else (none)) else (some ((⟨#[]⟩ : ByteArray), 0, false, 2)))) = some (r1, r2, r3, r4) := by rw [if_neg (show ¬ (false = true) by decide)] at H; exact H
    clear H
    have H := H1
    clear H1
    replace H := Option.bind_eq_some_iff.mp H
    obtain ⟨t129, A210, H⟩ := H
    replace H : (if t129 = true then (if 0 < (a2.size : Int) then (if (bt a2 0) > 1 then (some ((⟨#[]⟩ : ByteArray), 0, false, 2)) else (impl_CheckToken.l0 kj5 a1 a2 a3 a4 l0 (l0.length : Int) 0)) else (none)) else (some ((⟨#[]⟩ : ByteArray), 0, false, 2))) = some (r1, r2, r3, r4) := H
    have A21 := Aside0.mk A210
    clear A210
    by_cases c22 : t129 = true
    ·subst c22
     have H1 : (if 0 < (a2.size : Int) then (if (bt a2 0) > 1 then (some ((⟨#[]⟩ : ByteArray), 0, false, 2)) else (impl_CheckToken.l0 kj5 a1 a2 a3 a4 l0 (l0.length : Int) 0)) else (none)) = some (r1, r2, r3, r4) := by rw [if_pos rfl] at H; exact H
     clear H
     have H := H1
     clear H1
     by_cases c23 : 0 < (a2.size : Int)
     ·rw [if_pos c23] at H
      have c23b0 : decide (0 < (a2.size : Int)) = true := decide_eq_true c23
      have c23b1 : decide (0 < a2.size) = true := decide_eq_true (by omega)
      clear c23
      by_cases c25 : (bt a2 0) > 1
      ·rw [if_pos c25] at H
       have c25b0 : decide (1 < (bt a2 0)) = true := decide_eq_true c25
       clear c25
       simp only [Option.some.injEq, Prod.mk.injEq] at H
       obtain ⟨rfl, rfl, rfl, rfl⟩ := H
       go_wp2_with (first | ((with_reducible refine gate_callee (f := 27) rfl ?_); refine goesL_ (some 40) rfl rfl Try.func27 (by kernel_rfl) rfl #[.int .i64 (a2.size : Int), .int .i64 37, .int .i64 57] rfl (by (try simp only [List.map_toArray, List.map_cons, List.map_nil]); first | done | rfl | (simp only [List.length_drop, List.length_take]; rfl)) ?_; (with_reducible refine (impl_in.calls (a2.size : Int) 37 57 true _ A21.out).mono ?_); rintro e w' ⟨rfl, ⟨nd, rfl⟩⟩; refine ⟨_, rfl, ?_⟩; (try (rw [drewN_self wc]; generalize hq_ : World.drewN wc _ = wc; have n0_ : Aside0 (wc.heap[gb124]? = some (.cells #[.string (⟨#[]⟩ : ByteArray), .int .i64 0, .bool false] 27 (0, 0))) := ⟨by rw [← hq_]; exact (mB BK124)⟩; have n1_ : Aside0 (Below w.heap.size w wc) := ⟨by rw [← hq_]; exact (by repeat (first | (with_reducible first | exact HB.out | apply below_alloc | apply pw_below_drewN | apply below_drew1 | refine below_set ?_ GE124.out) | exact HB.out))⟩; clear BK124 HB hq_; have BK124 := n0_; have HB := n1_; clear n0_ n1_)); have p24 : 0 ≤ (0 : Int) := (by omega); have q24 : 0 < a2.size := (by have : (0 : Int) < (a2.size : Int) := of_decide_eq_true (by first | (with_reducible assumption) | assumption); omega); have hx24 : ∀ h : 0 < a2.size, ((a2[0]'h).toNat : Int) = bt a2 0 := bt_at a2 0; clear p24; have qi24 : (0 < (a2.size : Int)) = True := eq_true (of_decide_eq_true (by first | (with_reducible assumption) | assumption)); replace q24 := eq_true q24; obtain ⟨hcz26_0, hcz26_1, hcz26_2⟩ := cz3 BK124; obtain ⟨hfz26_0, hfz26_1, hfz26_2⟩ := fz3 BK124))
       refine bodyPost_ret (results_ct rfl _ _ gb124 27 #[.string (⟨#[]⟩ : ByteArray), .int .i64 0, .bool false] (0, 0) _ rfl (by (with_reducible repeat (first | refine bN ?_ _ | refine bD ?_ | refine bA ?_ _)); refine blk_put (cs := #[.string (⟨#[]⟩ : ByteArray), .int .i64 0, .bool false]) ?_ 2 _ rfl; (with_reducible repeat (first | refine bN ?_ _ | refine bD ?_ | refine bA ?_ _)); refine blk_put (cs := #[.string (⟨#[]⟩ : ByteArray), .int .i64 0, .bool false]) ?_ 1 _ rfl; (with_reducible repeat (first | refine bN ?_ _ | refine bD ?_ | refine bA ?_ _)); refine blk_put (cs := #[.string (⟨#[]⟩ : ByteArray), .int .i64 0, .bool false]) ?_ 0 _ rfl; (with_reducible repeat (first | refine bN ?_ _ | refine bD ?_ | refine bA ?_ _)); exact BK124.out) Try.underlying27 rfl (by kernel_rfl)) rfl ?_
       exact ⟨by first | rfl | (simp [errW_none, errW_some] <;> rfl) | (simp [*, errW_none, errW_some] <;> rfl), by repeat (first | (with_reducible first | exact HB.out | apply below_alloc | apply pw_below_drewN | apply below_drew1 | refine below_set ?_ GE124.out) | exact HB.out)⟩
      ·rw [if_neg c25] at H
       have c25b0 : decide (1 < (bt a2 0)) = false := decide_eq_false c25
       clear c25
       have H' := Aside0.mk H
       clear H
       go_wp2_with (first | ((with_reducible refine gate_callee (f := 27) rfl ?_); refine goesL_ (some 40) rfl rfl Try.func27 (by kernel_rfl) rfl #[.int .i64 (a2.size : Int), .int .i64 37, .int .i64 57] rfl (by (try simp only [List.map_toArray, List.map_cons, List.map_nil]); first | done | rfl | (simp only [List.length_drop, List.length_take]; rfl)) ?_; (with_reducible refine (impl_in.calls (a2.size : Int) 37 57 true _ A21.out).mono ?_); rintro e w' ⟨rfl, ⟨nd, rfl⟩⟩; refine ⟨_, rfl, ?_⟩; have p24 : 0 ≤ (0 : Int) := (by omega); have q24 : 0 < a2.size := (by have : (0 : Int) < (a2.size : Int) := of_decide_eq_true (by first | (with_reducible assumption) | assumption); omega); have hx24 : ∀ h : 0 < a2.size, ((a2[0]'h).toNat : Int) = bt a2 0 := bt_at a2 0; clear p24; have qi24 : (0 < (a2.size : Int)) = True := eq_true (of_decide_eq_true (by first | (with_reducible assumption) | assumption)); replace q24 := eq_true q24))
       go_loopg [50] kj5 (fun kq v50 w' => ∃ (x50_2 : Int) (x125000_2 : ByteArray) (x125001_2 : Int) (x125002_2 : Bool), v50 = .int .i64 x50_2 ∧ Aside0 (impl_CheckToken.l0 kq a1 a2 a3 a4 l0 (l0.length : Int) x50_2 = some (r1, r2, r3, r4)) ∧ Aside0 (kq ≤ kj5) ∧ Aside0 (w'.heap[gb124]? = some (.cells #[.string x125000_2, .int .i64 x125001_2, .bool x125002_2] 27 (0, 0))) ∧ Aside0 (Below w.heap.size w w'))
       case atStart => exact ⟨(0), ((⟨#[]⟩ : ByteArray)), (0), (false), (by first | rfl | (simp; done) | (simp [*]; done)), H', ⟨Nat.le_refl _⟩, ⟨by (with_reducible repeat (first | refine bN ?_ _ | refine bD ?_ | refine bA ?_ _)); exact BK124.out⟩, ⟨by repeat (first | (with_reducible first | exact HB.out | apply below_alloc | apply pw_below_drewN | apply below_drew1 | refine below_set ?_ GE124.out) | exact HB.out)⟩⟩
       case round =>
        clear H'
        try clear c1
        try clear c2
        try clear p2
        try clear q2
        try clear hx2
        try clear qi2
        try clear c9
        try clear c11
        try clear c12
        try clear c13
        try clear c19
        try clear c22
        try clear c23
        try clear c23b0
        try clear c23b1
        try clear p24
        try clear q24
        try clear hx24
        try clear qi24
        try clear c25
        try clear c25b0
        try clear hcz20_0
        try clear hcz20_1
        try clear hcz20_2
        try clear hcz26_0
        try clear hcz26_1
        try clear hcz26_2
        try clear hfz20_0
        try clear hfz20_1
        try clear hfz20_2
        try clear hfz26_0
        try clear hfz26_1
        try clear hfz26_2
        try clear p2
        try clear p24
        try clear q24
        obtain ⟨x50_2, x125000_2, x125001_2, x125002_2, rfl, HA, HK2, BK124, HB⟩ := hrel
        cases gk with
        | zero => exact absurd HA.out (by simp [impl_CheckToken.l0])
        | succ k2 =>
         have H := HA.out
         clear HA
         simp only [impl_CheckToken.l0] at H
         by_cases c27 : x50_2 < (l0.length : Int)
         ·rw [if_pos c27] at H
          have c27b0 : decide (x50_2 < (l0.length : Int)) = true := decide_eq_true c27
          clear c27
          by_cases c28 : 0 ≤ x50_2
          ·rw [if_pos c28] at H
           have c28b0 : decide (0 ≤ x50_2) = true := decide_eq_true c28
           clear c28
           by_cases c29 : x50_2 < (l0.length : Int)
           ·rw [if_pos c29] at H
            have c29b0 : decide (x50_2 < (l0.length : Int)) = true := decide_eq_true c29
            clear c29
            by_cases c30 : 1 ≤ 13
            ·rw [if_pos c30] at H
             have c30b0 := eq_true c30
             have c30b1 : decide (1 ≤ 13) = true := decide_eq_true c30
             clear c30
             by_cases c31 : 13 ≤ (a2.size : Int)
             ·rw [if_pos c31] at H
              have c31b0 := eq_true c31
              have c31b1 : decide (13 ≤ (a2.size : Int)) = true := decide_eq_true c31
              clear c31
              by_cases c32 : 0 ≤ 1
              ·rw [if_pos c32] at H
               have c32b0 := eq_true c32
               have c32b1 : decide (0 ≤ 1) = true := decide_eq_true c32
               clear c32
               by_cases c33 : 1 ≤ (a2.size : Int)
               ·rw [if_pos c33] at H
                have c33b0 := eq_true c33
                have c33b1 : decide (1 ≤ (a2.size : Int)) = true := decide_eq_true c33
                clear c33
                by_cases c34 : (a2.extract 0 1).size + a1.size ≤ 9223372036854775807
                ·rw [if_pos c34] at H
                 have c34b0 := eq_true c34
                 have c34b1 : decide ((a2.extract 0 1).size + a1.size ≤ 9223372036854775807) = true := decide_eq_true c34
                 (try (have c34b1x := c34b1; simp only [ByteArray.size_extract, Nat.min_self] at c34b1x))
                 try have c34b2 : (9223372036854775807 < (a2.extract 0 1).size + a1.size) = False := eq_false (Nat.not_lt.2 c34)
                 try have c34b4 : (9223372036854775807 < _) = False := (by have sz_x := c34b2; simp only [ByteArray.size_extract, Nat.sub_zero] at sz_x; exact sz_x)
                 have c35b0 := eq_true (of_decide_eq_true (by first | (with_reducible assumption) | assumption) : 13 ≤ (a2.size : Int))
                 replace H := Option.bind_eq_some_iff.mp H
                 obtain ⟨⟨t131, t132⟩, A360, H⟩ := H
                 replace H : (if t132 = true then (if 0 ≤ 8 then (if 8 ≤ (t131.size : Int) then ((impl_numberOf.f (t131.extract 0 8)).bind fun t133 => (if t133 > (IntKind.u64.wrap (a3)) then (some ((⟨#[]⟩ : ByteArray), 0, false, 4)) else (if (wrap64 (a3 - (wrap64 (t133)))) > a4 then (some ((⟨#[]⟩ : ByteArray), 0, false, 4)) else (if 0 < (a2.size : Int) then (some (t131.extract 8 t131.size, wrap64 (t133), ((bt a2 0) == 1), 0)) else (none))))) else (none)) else (none)) else (impl_CheckToken.l0 k2 a1 a2 a3 a4 l0 (l0.length : Int) (wrap64 (x50_2 + 1)))) = some (r1, r2, r3, r4) := H
                 have A36 := Aside0.mk A360
                 clear A360
                 by_cases c37 : t132 = true
                 ·subst c37
                  have H1 : (if 0 ≤ 8 then (if 8 ≤ (t131.size : Int) then ((impl_numberOf.f (t131.extract 0 8)).bind fun t133 => (if t133 > (IntKind.u64.wrap (a3)) then (some ((⟨#[]⟩ : ByteArray), 0, false, 4)) else (if (wrap64 (a3 - (wrap64 (t133)))) > a4 then (some ((⟨#[]⟩ : ByteArray), 0, false, 4)) else (if 0 < (a2.size : Int) then (some (t131.extract 8 t131.size, wrap64 (t133), ((bt a2 0) == 1), 0)) else (none))))) else (none)) else (none)) = some (r1, r2, r3, r4) := by rw [if_pos rfl] at H; exact H
                  clear H
                  have H := H1
                  clear H1
                  by_cases c38 : 0 ≤ 8
                  ·rw [if_pos c38] at H
                   have c38b0 := eq_true c38
                   have c38b1 : decide (0 ≤ 8) = true := decide_eq_true c38
                   clear c38
                   by_cases c39 : 8 ≤ (t131.size : Int)
                   ·rw [if_pos c39] at H
                    have c39b0 := eq_true c39
                    have c39b1 : decide (8 ≤ (t131.size : Int)) = true := decide_eq_true c39
                    clear c39
                    replace H := Option.bind_eq_some_iff.mp H
                    obtain ⟨t133, A400, H⟩ := H
                    replace H : (if t133 > (IntKind.u64.wrap (a3)) then (some ((⟨#[]⟩ : ByteArray), 0, false, 4)) else (if (wrap64 (a3 - (wrap64 (t133)))) > a4 then (some ((⟨#[]⟩ : ByteArray), 0, false, 4)) else (if 0 < (a2.size : Int) then (some (t131.extract 8 t131.size, wrap64 (t133), ((bt a2 0) == 1), 0)) else (none)))) = some (r1, r2, r3, r4) := H
                    have A40 := Aside0.mk A400
                    clear A400
                    by_cases c41 : t133 > (IntKind.u64.wrap (a3))
                    ·rw [if_pos c41] at H
                     have c41b0 : decide ((IntKind.u64.wrap (a3)) < t133) = true := decide_eq_true c41
                     clear c41
                     simp only [Option.some.injEq, Prod.mk.injEq] at H
                     obtain ⟨rfl, rfl, rfl, rfl⟩ := H
                     have p130 : 0 ≤ (x50_2 : Int) := of_decide_eq_true (by first | (with_reducible assumption) | assumption)
                     have q130 : x50_2 < (l0.length : Int) := of_decide_eq_true (by first | (with_reducible assumption) | assumption)
                     obtain ⟨ad130, e130, hx130_0⟩ := Kd.at_string HR0.out x50_2 p130 q130
                     cases e130
                     replace hx130_0 := (HB.out.cell (World.block_lt_of_cell? w _ hx130_0)).trans hx130_0
                     replace p130 := eq_true p130
                     replace q130 := eq_true q130
                     try go_wp2
                     have n0_ := Aside0.mk (blk_drew BK124.out)
                     have n1_ := Aside0.mk (below_drew1 HB.out)
                     clear BK124
                     clear HB
                     have BK124 := n0_
                     have HB := n1_
                     clear n0_ n1_
                     refine start_ (n := 15) (S := fun w' => True) (ds := []) (bm 15 0) (by kernel_rfl) rfl rfl trivial (fun hHeld => ?_); refine with_tabW impl_CheckToken.tab8 impl_CheckToken.bits8 (fun HT_ HW_ => ?_)
                     generalize wr.drew = w42 at BK124 HB hHeld ⊢
                     refine pure_ (i := 0) (N := some 55) (v := ?_) (a' := ?_) (bm 15 1) rfl rfl (any_of HT_.out (by kernel_rfl)) (fun _ _ _ h => h) (Or.inl ⟨by rfl, ?_⟩) ?_ ?_
                     rotate_left
                     ·intro w'
                      go_simp
                      with_reducible rfl
                     rotate_left
                     ·simp only [Act.put, sA, sZ, sS, i64_w, i32_w]
                      rfl
                     refine pure_ (i := 1) (N := some 56) (v := ?_) (a' := ?_) (bm 15 3) rfl rfl (any_of HT_.out (by kernel_rfl)) (fun _ _ _ h => h) (Or.inl ⟨by rfl, ?_⟩) ?_ ?_
                     rotate_left
                     ·intro w'
                      go_simp
                      with_reducible rfl
                     rotate_left
                     ·simp only [Act.put, sA, sZ, sS, i64_w, i32_w]
                      rfl
                     refine pure_ (i := 2) (N := some 57) (v := ?_) (a' := ?_) (bm 15 7) rfl rfl (any_of HT_.out (by kernel_rfl)) (fun _ _ _ h => h) (Or.inl ⟨by rfl, ?_⟩) ?_ ?_
                     rotate_left
                     ·intro w'
                      go_simp
                      with_reducible rfl
                     rotate_left
                     ·simp only [Act.put, sA, sZ, sS, i64_w, i32_w]
                      rfl
                     refine pure_ (i := 3) (N := some 58) (v := ?_) (a' := ?_) (bm 15 15) rfl rfl (any_of HT_.out (by kernel_rfl)) (fun _ _ _ h => h) (Or.inl ⟨by rfl, ?_⟩) ?_ ?_
                     rotate_left
                     ·intro w'
                      go_simp
                      with_reducible rfl
                     rotate_left
                     ·simp only [Act.put, sA, sZ, sS, i64_w, i32_w]
                      rfl
                     refine pure_ (i := 4) (N := some 59) (v := ?_) (a' := ?_) (bm 15 31) rfl rfl (any_of HT_.out (by kernel_rfl)) (fun _ _ _ h => h) (Or.inl ⟨by rfl, ?_⟩) ?_ ?_
                     rotate_left
                     ·intro w'
                      go_simp
                      with_reducible rfl
                     rotate_left
                     ·simp only [Act.put, sA, sZ, sS, i64_w, i32_w]
                      rfl
                     refine pure_ (i := 5) (N := some 60) (v := ?_) (a' := ?_) (bm 15 63) rfl rfl (any_of HT_.out (by kernel_rfl)) (fun _ _ _ h => h) (Or.inl ⟨by rfl, ?_⟩) ?_ ?_
                     rotate_left
                     ·intro w'
                      go_simp
                      with_reducible rfl
                     rotate_left
                     ·simp only [Act.put, sA, sZ, sS, i64_w, i32_w]
                      rfl
                     refine pure_ (i := 6) (N := some 61) (v := ?_) (a' := ?_) (bm 15 127) rfl rfl (any_of HT_.out (by kernel_rfl)) (fun _ _ _ h => h) (Or.inl ⟨by rfl, ?_⟩) ?_ ?_
                     rotate_left
                     ·intro w'
                      go_simp
                      with_reducible rfl
                     rotate_left
                     ·simp only [Act.put, sA, sZ, sS, i64_w, i32_w]
                      rfl
                     refine pure_ (i := 7) (N := some 62) (v := ?_) (a' := ?_) (bm 15 255) rfl rfl (any_of HT_.out (by kernel_rfl)) (fun _ _ _ h => h) (Or.inl ⟨by rfl, ?_⟩) ?_ ?_
                     rotate_left
                     ·intro w'
                      go_simp
                      with_reducible rfl
                     rotate_left
                     ·simp only [Act.put, sA, sZ, sS, i64_w, i32_w]
                      rfl
                     refine pure_ (i := 8) (N := some 63) (v := ?_) (a' := ?_) (bm 15 511) rfl rfl (any_of HT_.out (by kernel_rfl)) (fun _ _ _ h => h) (Or.inl ⟨by rfl, ?_⟩) ?_ ?_
                     rotate_left
                     ·intro w'
                      go_simp
                      with_reducible rfl
                     rotate_left
                     ·simp only [Act.put, sA, sZ, sS, i64_w, i32_w]
                      rfl
                     refine one_ (i := 9) (N := some 64) (bm 15 1023) rfl rfl (one_of HT_.out (by kernel_rfl)) (by decide) (fun K hK => ?_)
                     refine goes_ Try.func28 (by kernel_rfl) rfl #[.string (rdOf ByteArray.empty l0 x50_2), .string (a2.extract 1 13), .string ((a2.extract 0 1) ++ a1), .string (a2.extract 13 a2.size)] (by rfl) rfl rfl (by (try simp only [List.map_toArray, List.map_cons, List.map_nil]); first | done | rfl | (simp only [List.length_drop, List.length_take]; rfl)) ?_
                     with_reducible refine (impl_OpenText.calls (rdOf ByteArray.empty l0 x50_2) (a2.extract 1 13) ((a2.extract 0 1) ++ a1) (a2.extract 13 a2.size) t131 true _ A36.out).mono ?_
                     rintro e w43 ⟨rfl, hb⟩
                     refine ⟨_, rfl, ?_⟩
                     have n0_ := bX BK124 hb
                     have n1_ := bS HB hb
                     clear BK124
                     clear HB
                     have BK124 := n0_
                     have HB := n1_
                     clear n0_ n1_
                     (try clear hb)
                     (try clear hb2)
                     (try clear hk)
                     (try clear hi)
                     refine hK.out _ _ trivial (fun hHeld => ?_)
                     clear hK K
                     refine norm_ (a' := ?_) ?_ ?_
                     rotate_left
                     ·show Act.put _ (some 64) _ = _
                      simp only [Act.put, sA, sZ, sS, i64_w, i32_w]
                      rfl
                     refine pure_ (i := 10) (N := some 54) (v := ?_) (a' := ?_) (bm 15 2047) rfl rfl (any_of HT_.out (by kernel_rfl)) (fun _ _ _ h => h) (Or.inl ⟨by rfl, ?_⟩) ?_ ?_
                     rotate_left
                     ·intro w'
                      go_simp
                      with_reducible rfl
                     rotate_left
                     ·simp only [Act.put, sA, sZ, sS, i64_w, i32_w]
                      rfl
                     refine pure_ (i := 11) (N := some 65) (v := ?_) (a' := ?_) (bm 15 4095) rfl rfl (any_of HT_.out (by kernel_rfl)) (fun _ _ _ h => h) (Or.inl ⟨by rfl, ?_⟩) ?_ ?_
                     rotate_left
                     ·intro w'
                      go_simp
                      with_reducible rfl
                     rotate_left
                     ·simp only [Act.put, sA, sZ, sS, i64_w, i32_w]
                      rfl
                     refine pure_ (i := 12) (N := some 66) (v := ?_) (a' := ?_) (bm 15 8191) rfl rfl (any_of HT_.out (by kernel_rfl)) (fun _ _ _ h => h) (Or.inl ⟨by rfl, ?_⟩) ?_ ?_
                     rotate_left
                     ·intro w'
                      go_simp
                      with_reducible rfl
                     rotate_left
                     ·simp only [Act.put, sA, sZ, sS, i64_w, i32_w]
                      rfl
                     refine pure_ (i := 13) (N := some 14) (v := ?_) (a' := ?_) (bm 15 16383) rfl rfl (any_of HT_.out (by kernel_rfl)) (fun _ _ _ h => h) (Or.inl ⟨by rfl, ?_⟩) ?_ ?_
                     rotate_left
                     ·intro w'
                      go_simp
                      with_reducible rfl
                     rotate_left
                     ·simp only [Act.put, sA, sZ, sS, i64_w, i32_w]
                      rfl
                     refine pure_ (i := 14) (N := some 15) (v := ?_) (a' := ?_) (bm 15 32767) rfl rfl (any_of HT_.out (by kernel_rfl)) (fun _ _ _ h => h) (Or.inl ⟨by rfl, ?_⟩) ?_ ?_
                     rotate_left
                     ·intro w'
                      go_simp
                      with_reducible rfl
                     rotate_left
                     ·simp only [Act.put, sA, sZ, sS, i64_w, i32_w]
                      rfl
                     refine done_ (done_of HT_.out (by kernel_rfl)) ?_
                     try go_wp2_with (first | ((with_reducible refine gate_callee (f := 29) rfl ?_); refine goesL_ (some 71) rfl rfl Try.func29 (by kernel_rfl) rfl #[.string (t131.extract 0 8)] rfl (by (try simp only [List.map_toArray, List.map_cons, List.map_nil]); first | done | rfl | (simp only [List.length_drop, List.length_take]; rfl)) ?_; (with_reducible refine (impl_numberOf.calls (t131.extract 0 8) t133 _ A40.out).mono ?_); rintro e w' ⟨rfl, ⟨nd, rfl⟩⟩; refine ⟨_, rfl, ?_⟩; (try (rw [drewN_self w43]; generalize hq_ : World.drewN w43 _ = w43; have n0_ : Aside0 (w43.heap[gb124]? = some (.cells #[.string x125000_2, .int .i64 x125001_2, .bool x125002_2] 27 (0, 0))) := ⟨by rw [← hq_]; exact (mB BK124)⟩; have n1_ : Aside0 (Below w.heap.size w w43) := ⟨by rw [← hq_]; exact (by repeat (first | (with_reducible first | exact HB.out | apply below_alloc | apply pw_below_drewN | apply below_drew1 | refine below_set ?_ GE124.out) | exact HB.out))⟩; clear BK124 HB hq_; have BK124 := n0_; have HB := n1_; clear n0_ n1_)); obtain ⟨hcz44_0, hcz44_1, hcz44_2⟩ := cz3 BK124; obtain ⟨hfz44_0, hfz44_1, hfz44_2⟩ := fz3 BK124))
                     refine bodyPost_ret (results_ct rfl _ _ gb124 27 #[.string (⟨#[]⟩ : ByteArray), .int .i64 0, .bool false] (0, 0) _ rfl (by (with_reducible repeat (first | refine bN ?_ _ | refine bD ?_ | refine bA ?_ _)); refine blk_put (cs := #[.string (⟨#[]⟩ : ByteArray), .int .i64 0, .bool x125002_2]) ?_ 2 _ rfl; (with_reducible repeat (first | refine bN ?_ _ | refine bD ?_ | refine bA ?_ _)); refine blk_put (cs := #[.string (⟨#[]⟩ : ByteArray), .int .i64 x125001_2, .bool x125002_2]) ?_ 1 _ rfl; (with_reducible repeat (first | refine bN ?_ _ | refine bD ?_ | refine bA ?_ _)); refine blk_put (cs := #[.string x125000_2, .int .i64 x125001_2, .bool x125002_2]) ?_ 0 _ rfl; (with_reducible repeat (first | refine bN ?_ _ | refine bD ?_ | refine bA ?_ _)); exact BK124.out) Try.underlying27 rfl (by kernel_rfl)) rfl ?_
                     exact ⟨by first | rfl | (simp [errW_none, errW_some] <;> rfl) | (simp [*, errW_none, errW_some] <;> rfl), by repeat (first | (with_reducible first | exact HB.out | apply below_alloc | apply pw_below_drewN | apply below_drew1 | refine below_set ?_ GE124.out) | exact HB.out)⟩
                    ·rw [if_neg c41] at H
                     have c41b0 : decide ((IntKind.u64.wrap (a3)) < t133) = false := decide_eq_false c41
                     clear c41
                     by_cases c45 : (wrap64 (a3 - (wrap64 (t133)))) > a4
                     ·rw [if_pos c45] at H
                      have c45b0 : decide (a4 < (wrap64 (a3 - (wrap64 (t133))))) = true := decide_eq_true c45
                      (try (have c45b1 : decide (a4 < (IntKind.i64.wrap (a3 - (IntKind.i64.wrap (t133))))) = true := by simp only [i64_w]; exact (decide_eq_true c45)))
                      clear c45
                      simp only [Option.some.injEq, Prod.mk.injEq] at H
                      obtain ⟨rfl, rfl, rfl, rfl⟩ := H
                      have p130 : 0 ≤ (x50_2 : Int) := of_decide_eq_true (by first | (with_reducible assumption) | assumption)
                      have q130 : x50_2 < (l0.length : Int) := of_decide_eq_true (by first | (with_reducible assumption) | assumption)
                      obtain ⟨ad130, e130, hx130_0⟩ := Kd.at_string HR0.out x50_2 p130 q130
                      cases e130
                      replace hx130_0 := (HB.out.cell (World.block_lt_of_cell? w _ hx130_0)).trans hx130_0
                      replace p130 := eq_true p130
                      replace q130 := eq_true q130
                      try go_wp2
                      have n0_ := Aside0.mk (blk_drew BK124.out)
                      have n1_ := Aside0.mk (below_drew1 HB.out)
                      clear BK124
                      clear HB
                      have BK124 := n0_
                      have HB := n1_
                      clear n0_ n1_
                      refine start_ (n := 15) (S := fun w' => True) (ds := []) (bm 15 0) (by kernel_rfl) rfl rfl trivial (fun hHeld => ?_); refine with_tabW impl_CheckToken.tab8 impl_CheckToken.bits8 (fun HT_ HW_ => ?_)
                      generalize wr.drew = w46 at BK124 HB hHeld ⊢
                      refine pure_ (i := 0) (N := some 55) (v := ?_) (a' := ?_) (bm 15 1) rfl rfl (any_of HT_.out (by kernel_rfl)) (fun _ _ _ h => h) (Or.inl ⟨by rfl, ?_⟩) ?_ ?_
                      rotate_left
                      ·intro w'
                       go_simp
                       with_reducible rfl
                      rotate_left
                      ·simp only [Act.put, sA, sZ, sS, i64_w, i32_w]
                       rfl
                      refine pure_ (i := 1) (N := some 56) (v := ?_) (a' := ?_) (bm 15 3) rfl rfl (any_of HT_.out (by kernel_rfl)) (fun _ _ _ h => h) (Or.inl ⟨by rfl, ?_⟩) ?_ ?_
                      rotate_left
                      ·intro w'
                       go_simp
                       with_reducible rfl
                      rotate_left
                      ·simp only [Act.put, sA, sZ, sS, i64_w, i32_w]
                       rfl
                      refine pure_ (i := 2) (N := some 57) (v := ?_) (a' := ?_) (bm 15 7) rfl rfl (any_of HT_.out (by kernel_rfl)) (fun _ _ _ h => h) (Or.inl ⟨by rfl, ?_⟩) ?_ ?_
                      rotate_left
                      ·intro w'
                       go_simp
                       with_reducible rfl
                      rotate_left
                      ·simp only [Act.put, sA, sZ, sS, i64_w, i32_w]
                       rfl
                      refine pure_ (i := 3) (N := some 58) (v := ?_) (a' := ?_) (bm 15 15) rfl rfl (any_of HT_.out (by kernel_rfl)) (fun _ _ _ h => h) (Or.inl ⟨by rfl, ?_⟩) ?_ ?_
                      rotate_left
                      ·intro w'
                       go_simp
                       with_reducible rfl
                      rotate_left
                      ·simp only [Act.put, sA, sZ, sS, i64_w, i32_w]
                       rfl
                      refine pure_ (i := 4) (N := some 59) (v := ?_) (a' := ?_) (bm 15 31) rfl rfl (any_of HT_.out (by kernel_rfl)) (fun _ _ _ h => h) (Or.inl ⟨by rfl, ?_⟩) ?_ ?_
                      rotate_left
                      ·intro w'
                       go_simp
                       with_reducible rfl
                      rotate_left
                      ·simp only [Act.put, sA, sZ, sS, i64_w, i32_w]
                       rfl
                      refine pure_ (i := 5) (N := some 60) (v := ?_) (a' := ?_) (bm 15 63) rfl rfl (any_of HT_.out (by kernel_rfl)) (fun _ _ _ h => h) (Or.inl ⟨by rfl, ?_⟩) ?_ ?_
                      rotate_left
                      ·intro w'
                       go_simp
                       with_reducible rfl
                      rotate_left
                      ·simp only [Act.put, sA, sZ, sS, i64_w, i32_w]
                       rfl
                      refine pure_ (i := 6) (N := some 61) (v := ?_) (a' := ?_) (bm 15 127) rfl rfl (any_of HT_.out (by kernel_rfl)) (fun _ _ _ h => h) (Or.inl ⟨by rfl, ?_⟩) ?_ ?_
                      rotate_left
                      ·intro w'
                       go_simp
                       with_reducible rfl
                      rotate_left
                      ·simp only [Act.put, sA, sZ, sS, i64_w, i32_w]
                       rfl
                      refine pure_ (i := 7) (N := some 62) (v := ?_) (a' := ?_) (bm 15 255) rfl rfl (any_of HT_.out (by kernel_rfl)) (fun _ _ _ h => h) (Or.inl ⟨by rfl, ?_⟩) ?_ ?_
                      rotate_left
                      ·intro w'
                       go_simp
                       with_reducible rfl
                      rotate_left
                      ·simp only [Act.put, sA, sZ, sS, i64_w, i32_w]
                       rfl
                      refine pure_ (i := 8) (N := some 63) (v := ?_) (a' := ?_) (bm 15 511) rfl rfl (any_of HT_.out (by kernel_rfl)) (fun _ _ _ h => h) (Or.inl ⟨by rfl, ?_⟩) ?_ ?_
                      rotate_left
                      ·intro w'
                       go_simp
                       with_reducible rfl
                      rotate_left
                      ·simp only [Act.put, sA, sZ, sS, i64_w, i32_w]
                       rfl
                      refine one_ (i := 9) (N := some 64) (bm 15 1023) rfl rfl (one_of HT_.out (by kernel_rfl)) (by decide) (fun K hK => ?_)
                      refine goes_ Try.func28 (by kernel_rfl) rfl #[.string (rdOf ByteArray.empty l0 x50_2), .string (a2.extract 1 13), .string ((a2.extract 0 1) ++ a1), .string (a2.extract 13 a2.size)] (by rfl) rfl rfl (by (try simp only [List.map_toArray, List.map_cons, List.map_nil]); first | done | rfl | (simp only [List.length_drop, List.length_take]; rfl)) ?_
                      with_reducible refine (impl_OpenText.calls (rdOf ByteArray.empty l0 x50_2) (a2.extract 1 13) ((a2.extract 0 1) ++ a1) (a2.extract 13 a2.size) t131 true _ A36.out).mono ?_
                      rintro e w47 ⟨rfl, hb⟩
                      refine ⟨_, rfl, ?_⟩
                      have n0_ := bX BK124 hb
                      have n1_ := bS HB hb
                      clear BK124
                      clear HB
                      have BK124 := n0_
                      have HB := n1_
                      clear n0_ n1_
                      (try clear hb)
                      (try clear hb2)
                      (try clear hk)
                      (try clear hi)
                      refine hK.out _ _ trivial (fun hHeld => ?_)
                      clear hK K
                      refine norm_ (a' := ?_) ?_ ?_
                      rotate_left
                      ·show Act.put _ (some 64) _ = _
                       simp only [Act.put, sA, sZ, sS, i64_w, i32_w]
                       rfl
                      refine pure_ (i := 10) (N := some 54) (v := ?_) (a' := ?_) (bm 15 2047) rfl rfl (any_of HT_.out (by kernel_rfl)) (fun _ _ _ h => h) (Or.inl ⟨by rfl, ?_⟩) ?_ ?_
                      rotate_left
                      ·intro w'
                       go_simp
                       with_reducible rfl
                      rotate_left
                      ·simp only [Act.put, sA, sZ, sS, i64_w, i32_w]
                       rfl
                      refine pure_ (i := 11) (N := some 65) (v := ?_) (a' := ?_) (bm 15 4095) rfl rfl (any_of HT_.out (by kernel_rfl)) (fun _ _ _ h => h) (Or.inl ⟨by rfl, ?_⟩) ?_ ?_
                      rotate_left
                      ·intro w'
                       go_simp
                       with_reducible rfl
                      rotate_left
                      ·simp only [Act.put, sA, sZ, sS, i64_w, i32_w]
                       rfl
                      refine pure_ (i := 12) (N := some 66) (v := ?_) (a' := ?_) (bm 15 8191) rfl rfl (any_of HT_.out (by kernel_rfl)) (fun _ _ _ h => h) (Or.inl ⟨by rfl, ?_⟩) ?_ ?_
                      rotate_left
                      ·intro w'
                       go_simp
                       with_reducible rfl
                      rotate_left
                      ·simp only [Act.put, sA, sZ, sS, i64_w, i32_w]
                       rfl
                      refine pure_ (i := 13) (N := some 14) (v := ?_) (a' := ?_) (bm 15 16383) rfl rfl (any_of HT_.out (by kernel_rfl)) (fun _ _ _ h => h) (Or.inl ⟨by rfl, ?_⟩) ?_ ?_
                      rotate_left
                      ·intro w'
                       go_simp
                       with_reducible rfl
                      rotate_left
                      ·simp only [Act.put, sA, sZ, sS, i64_w, i32_w]
                       rfl
                      refine pure_ (i := 14) (N := some 15) (v := ?_) (a' := ?_) (bm 15 32767) rfl rfl (any_of HT_.out (by kernel_rfl)) (fun _ _ _ h => h) (Or.inl ⟨by rfl, ?_⟩) ?_ ?_
                      rotate_left
                      ·intro w'
                       go_simp
                       with_reducible rfl
                      rotate_left
                      ·simp only [Act.put, sA, sZ, sS, i64_w, i32_w]
                       rfl
                      refine done_ (done_of HT_.out (by kernel_rfl)) ?_
                      try go_wp2_with (first | ((with_reducible refine gate_callee (f := 29) rfl ?_); refine goesL_ (some 71) rfl rfl Try.func29 (by kernel_rfl) rfl #[.string (t131.extract 0 8)] rfl (by (try simp only [List.map_toArray, List.map_cons, List.map_nil]); first | done | rfl | (simp only [List.length_drop, List.length_take]; rfl)) ?_; (with_reducible refine (impl_numberOf.calls (t131.extract 0 8) t133 _ A40.out).mono ?_); rintro e w' ⟨rfl, ⟨nd, rfl⟩⟩; refine ⟨_, rfl, ?_⟩; (try (rw [drewN_self w47]; generalize hq_ : World.drewN w47 _ = w47; have n0_ : Aside0 (w47.heap[gb124]? = some (.cells #[.string x125000_2, .int .i64 x125001_2, .bool x125002_2] 27 (0, 0))) := ⟨by rw [← hq_]; exact (mB BK124)⟩; have n1_ : Aside0 (Below w.heap.size w w47) := ⟨by rw [← hq_]; exact (by repeat (first | (with_reducible first | exact HB.out | apply below_alloc | apply pw_below_drewN | apply below_drew1 | refine below_set ?_ GE124.out) | exact HB.out))⟩; clear BK124 HB hq_; have BK124 := n0_; have HB := n1_; clear n0_ n1_)); obtain ⟨hcz48_0, hcz48_1, hcz48_2⟩ := cz3 BK124; obtain ⟨hfz48_0, hfz48_1, hfz48_2⟩ := fz3 BK124))
                      refine bodyPost_ret (results_ct rfl _ _ gb124 27 #[.string (⟨#[]⟩ : ByteArray), .int .i64 0, .bool false] (0, 0) _ rfl (by (with_reducible repeat (first | refine bN ?_ _ | refine bD ?_ | refine bA ?_ _)); refine blk_put (cs := #[.string (⟨#[]⟩ : ByteArray), .int .i64 0, .bool x125002_2]) ?_ 2 _ rfl; (with_reducible repeat (first | refine bN ?_ _ | refine bD ?_ | refine bA ?_ _)); refine blk_put (cs := #[.string (⟨#[]⟩ : ByteArray), .int .i64 x125001_2, .bool x125002_2]) ?_ 1 _ rfl; (with_reducible repeat (first | refine bN ?_ _ | refine bD ?_ | refine bA ?_ _)); refine blk_put (cs := #[.string x125000_2, .int .i64 x125001_2, .bool x125002_2]) ?_ 0 _ rfl; (with_reducible repeat (first | refine bN ?_ _ | refine bD ?_ | refine bA ?_ _)); exact BK124.out) Try.underlying27 rfl (by kernel_rfl)) rfl ?_
                      exact ⟨by first | rfl | (simp [errW_none, errW_some] <;> rfl) | (simp [*, errW_none, errW_some] <;> rfl), by repeat (first | (with_reducible first | exact HB.out | apply below_alloc | apply pw_below_drewN | apply below_drew1 | refine below_set ?_ GE124.out) | exact HB.out)⟩
                     ·rw [if_neg c45] at H
                      have c45b0 : decide (a4 < (wrap64 (a3 - (wrap64 (t133))))) = false := decide_eq_false c45
                      (try (have c45b1 : decide (a4 < (IntKind.i64.wrap (a3 - (IntKind.i64.wrap (t133))))) = false := by simp only [i64_w]; exact (decide_eq_false c45)))
                      clear c45
                      have c49b0 := eq_true (of_decide_eq_true (by first | (with_reducible assumption) | assumption) : 8 ≤ (t131.size : Int))
                      by_cases c50 : 0 < (a2.size : Int)
                      ·rw [if_pos c50] at H
                       have c50b0 : decide (0 < (a2.size : Int)) = true := decide_eq_true c50
                       have c50b1 : decide (0 < a2.size) = true := decide_eq_true (by omega)
                       clear c50
                       simp only [Option.some.injEq, Prod.mk.injEq] at H
                       obtain ⟨rfl, rfl, rfl, rfl⟩ := H
                       have p130 : 0 ≤ (x50_2 : Int) := of_decide_eq_true (by first | (with_reducible assumption) | assumption)
                       have q130 : x50_2 < (l0.length : Int) := of_decide_eq_true (by first | (with_reducible assumption) | assumption)
                       obtain ⟨ad130, e130, hx130_0⟩ := Kd.at_string HR0.out x50_2 p130 q130
                       cases e130
                       replace hx130_0 := (HB.out.cell (World.block_lt_of_cell? w _ hx130_0)).trans hx130_0
                       replace p130 := eq_true p130
                       replace q130 := eq_true q130
                       try go_wp2
                       have n0_ := Aside0.mk (blk_drew BK124.out)
                       have n1_ := Aside0.mk (below_drew1 HB.out)
                       clear BK124
                       clear HB
                       have BK124 := n0_
                       have HB := n1_
                       clear n0_ n1_
                       refine start_ (n := 15) (S := fun w' => True) (ds := []) (bm 15 0) (by kernel_rfl) rfl rfl trivial (fun hHeld => ?_); refine with_tabW impl_CheckToken.tab8 impl_CheckToken.bits8 (fun HT_ HW_ => ?_)
                       generalize wr.drew = w52 at BK124 HB hHeld ⊢
                       refine pure_ (i := 0) (N := some 55) (v := ?_) (a' := ?_) (bm 15 1) rfl rfl (any_of HT_.out (by kernel_rfl)) (fun _ _ _ h => h) (Or.inl ⟨by rfl, ?_⟩) ?_ ?_
                       rotate_left
                       ·intro w'
                        go_simp
                        with_reducible rfl
                       rotate_left
                       ·simp only [Act.put, sA, sZ, sS, i64_w, i32_w]
                        rfl
                       refine pure_ (i := 1) (N := some 56) (v := ?_) (a' := ?_) (bm 15 3) rfl rfl (any_of HT_.out (by kernel_rfl)) (fun _ _ _ h => h) (Or.inl ⟨by rfl, ?_⟩) ?_ ?_
                       rotate_left
                       ·intro w'
                        go_simp
                        with_reducible rfl
                       rotate_left
                       ·simp only [Act.put, sA, sZ, sS, i64_w, i32_w]
                        rfl
                       refine pure_ (i := 2) (N := some 57) (v := ?_) (a' := ?_) (bm 15 7) rfl rfl (any_of HT_.out (by kernel_rfl)) (fun _ _ _ h => h) (Or.inl ⟨by rfl, ?_⟩) ?_ ?_
                       rotate_left
                       ·intro w'
                        go_simp
                        with_reducible rfl
                       rotate_left
                       ·simp only [Act.put, sA, sZ, sS, i64_w, i32_w]
                        rfl
                       refine pure_ (i := 3) (N := some 58) (v := ?_) (a' := ?_) (bm 15 15) rfl rfl (any_of HT_.out (by kernel_rfl)) (fun _ _ _ h => h) (Or.inl ⟨by rfl, ?_⟩) ?_ ?_
                       rotate_left
                       ·intro w'
                        go_simp
                        with_reducible rfl
                       rotate_left
                       ·simp only [Act.put, sA, sZ, sS, i64_w, i32_w]
                        rfl
                       refine pure_ (i := 4) (N := some 59) (v := ?_) (a' := ?_) (bm 15 31) rfl rfl (any_of HT_.out (by kernel_rfl)) (fun _ _ _ h => h) (Or.inl ⟨by rfl, ?_⟩) ?_ ?_
                       rotate_left
                       ·intro w'
                        go_simp
                        with_reducible rfl
                       rotate_left
                       ·simp only [Act.put, sA, sZ, sS, i64_w, i32_w]
                        rfl
                       refine pure_ (i := 5) (N := some 60) (v := ?_) (a' := ?_) (bm 15 63) rfl rfl (any_of HT_.out (by kernel_rfl)) (fun _ _ _ h => h) (Or.inl ⟨by rfl, ?_⟩) ?_ ?_
                       rotate_left
                       ·intro w'
                        go_simp
                        with_reducible rfl
                       rotate_left
                       ·simp only [Act.put, sA, sZ, sS, i64_w, i32_w]
                        rfl
                       refine pure_ (i := 6) (N := some 61) (v := ?_) (a' := ?_) (bm 15 127) rfl rfl (any_of HT_.out (by kernel_rfl)) (fun _ _ _ h => h) (Or.inl ⟨by rfl, ?_⟩) ?_ ?_
                       rotate_left
                       ·intro w'
                        go_simp
                        with_reducible rfl
                       rotate_left
                       ·simp only [Act.put, sA, sZ, sS, i64_w, i32_w]
                        rfl
                       refine pure_ (i := 7) (N := some 62) (v := ?_) (a' := ?_) (bm 15 255) rfl rfl (any_of HT_.out (by kernel_rfl)) (fun _ _ _ h => h) (Or.inl ⟨by rfl, ?_⟩) ?_ ?_
                       rotate_left
                       ·intro w'
                        go_simp
                        with_reducible rfl
                       rotate_left
                       ·simp only [Act.put, sA, sZ, sS, i64_w, i32_w]
                        rfl
                       refine pure_ (i := 8) (N := some 63) (v := ?_) (a' := ?_) (bm 15 511) rfl rfl (any_of HT_.out (by kernel_rfl)) (fun _ _ _ h => h) (Or.inl ⟨by rfl, ?_⟩) ?_ ?_
                       rotate_left
                       ·intro w'
                        go_simp
                        with_reducible rfl
                       rotate_left
                       ·simp only [Act.put, sA, sZ, sS, i64_w, i32_w]
                        rfl
                       refine one_ (i := 9) (N := some 64) (bm 15 1023) rfl rfl (one_of HT_.out (by kernel_rfl)) (by decide) (fun K hK => ?_)
                       refine goes_ Try.func28 (by kernel_rfl) rfl #[.string (rdOf ByteArray.empty l0 x50_2), .string (a2.extract 1 13), .string ((a2.extract 0 1) ++ a1), .string (a2.extract 13 a2.size)] (by rfl) rfl rfl (by (try simp only [List.map_toArray, List.map_cons, List.map_nil]); first | done | rfl | (simp only [List.length_drop, List.length_take]; rfl)) ?_
                       with_reducible refine (impl_OpenText.calls (rdOf ByteArray.empty l0 x50_2) (a2.extract 1 13) ((a2.extract 0 1) ++ a1) (a2.extract 13 a2.size) t131 true _ A36.out).mono ?_
                       rintro e w53 ⟨rfl, hb⟩
                       refine ⟨_, rfl, ?_⟩
                       have n0_ := bX BK124 hb
                       have n1_ := bS HB hb
                       clear BK124
                       clear HB
                       have BK124 := n0_
                       have HB := n1_
                       clear n0_ n1_
                       (try clear hb)
                       (try clear hb2)
                       (try clear hk)
                       (try clear hi)
                       refine hK.out _ _ trivial (fun hHeld => ?_)
                       clear hK K
                       refine norm_ (a' := ?_) ?_ ?_
                       rotate_left
                       ·show Act.put _ (some 64) _ = _
                        simp only [Act.put, sA, sZ, sS, i64_w, i32_w]
                        rfl
                       refine pure_ (i := 10) (N := some 54) (v := ?_) (a' := ?_) (bm 15 2047) rfl rfl (any_of HT_.out (by kernel_rfl)) (fun _ _ _ h => h) (Or.inl ⟨by rfl, ?_⟩) ?_ ?_
                       rotate_left
                       ·intro w'
                        go_simp
                        with_reducible rfl
                       rotate_left
                       ·simp only [Act.put, sA, sZ, sS, i64_w, i32_w]
                        rfl
                       refine pure_ (i := 11) (N := some 65) (v := ?_) (a' := ?_) (bm 15 4095) rfl rfl (any_of HT_.out (by kernel_rfl)) (fun _ _ _ h => h) (Or.inl ⟨by rfl, ?_⟩) ?_ ?_
                       rotate_left
                       ·intro w'
                        go_simp
                        with_reducible rfl
                       rotate_left
                       ·simp only [Act.put, sA, sZ, sS, i64_w, i32_w]
                        rfl
                       refine pure_ (i := 12) (N := some 66) (v := ?_) (a' := ?_) (bm 15 8191) rfl rfl (any_of HT_.out (by kernel_rfl)) (fun _ _ _ h => h) (Or.inl ⟨by rfl, ?_⟩) ?_ ?_
                       rotate_left
                       ·intro w'
                        go_simp
                        with_reducible rfl
                       rotate_left
                       ·simp only [Act.put, sA, sZ, sS, i64_w, i32_w]
                        rfl
                       refine pure_ (i := 13) (N := some 14) (v := ?_) (a' := ?_) (bm 15 16383) rfl rfl (any_of HT_.out (by kernel_rfl)) (fun _ _ _ h => h) (Or.inl ⟨by rfl, ?_⟩) ?_ ?_
                       rotate_left
                       ·intro w'
                        go_simp
                        with_reducible rfl
                       rotate_left
                       ·simp only [Act.put, sA, sZ, sS, i64_w, i32_w]
                        rfl
                       refine pure_ (i := 14) (N := some 15) (v := ?_) (a' := ?_) (bm 15 32767) rfl rfl (any_of HT_.out (by kernel_rfl)) (fun _ _ _ h => h) (Or.inl ⟨by rfl, ?_⟩) ?_ ?_
                       rotate_left
                       ·intro w'
                        go_simp
                        with_reducible rfl
                       rotate_left
                       ·simp only [Act.put, sA, sZ, sS, i64_w, i32_w]
                        rfl
                       refine done_ (done_of HT_.out (by kernel_rfl)) ?_
                       try go_wp2_with (first | ((with_reducible refine gate_callee (f := 29) rfl ?_); refine goesL_ (some 71) rfl rfl Try.func29 (by kernel_rfl) rfl #[.string (t131.extract 0 8)] rfl (by (try simp only [List.map_toArray, List.map_cons, List.map_nil]); first | done | rfl | (simp only [List.length_drop, List.length_take]; rfl)) ?_; (with_reducible refine (impl_numberOf.calls (t131.extract 0 8) t133 _ A40.out).mono ?_); rintro e w' ⟨rfl, ⟨nd, rfl⟩⟩; refine ⟨_, rfl, ?_⟩; (try (rw [drewN_self w53]; generalize hq_ : World.drewN w53 _ = w53; have n0_ : Aside0 (w53.heap[gb124]? = some (.cells #[.string x125000_2, .int .i64 x125001_2, .bool x125002_2] 27 (0, 0))) := ⟨by rw [← hq_]; exact (mB BK124)⟩; have n1_ : Aside0 (Below w.heap.size w w53) := ⟨by rw [← hq_]; exact (by repeat (first | (with_reducible first | exact HB.out | apply below_alloc | apply pw_below_drewN | apply below_drew1 | refine below_set ?_ GE124.out) | exact HB.out))⟩; clear BK124 HB hq_; have BK124 := n0_; have HB := n1_; clear n0_ n1_))))
                       have n0_ := Aside0.mk (blk_drew BK124.out)
                       have n1_ := Aside0.mk (below_drew1 HB.out)
                       clear BK124
                       clear HB
                       have BK124 := n0_
                       have HB := n1_
                       clear n0_ n1_
                       have p51 : 0 ≤ (0 : Int) := (by omega)
                       have q51 : 0 < a2.size := (by have : (0 : Int) < (a2.size : Int) := of_decide_eq_true (by first | (with_reducible assumption) | assumption); omega)
                       have hx51 : ∀ h : 0 < a2.size, ((a2[0]'h).toNat : Int) = bt a2 0 := bt_at a2 0
                       clear p51
                       have qi51 : (0 < (a2.size : Int)) = True := eq_true (of_decide_eq_true (by first | (with_reducible assumption) | assumption))
                       replace q51 := eq_true q51
                       refine start_ (n := 10) (S := fun w' => True) (ds := []) (bm 10 0) (by kernel_rfl) rfl rfl trivial (fun hHeld => ?_); refine with_tabW impl_CheckToken.tab13 impl_CheckToken.bits13 (fun HT_ HW_ => ?_)
                       generalize w53.drew = w54 at BK124 HB hHeld ⊢
                       refine pure_ (i := 0) (N := some 85) (v := ?_) (a' := ?_) (bm 10 1) rfl rfl (any_of HT_.out (by kernel_rfl)) (fun _ _ _ h => h) (Or.inl ⟨by rfl, ?_⟩) ?_ ?_
                       rotate_left
                       ·intro w'
                        go_simp
                        with_reducible rfl
                       rotate_left
                       ·simp only [Act.put, sA, sZ, sS, i64_w, i32_w]
                        rfl
                       refine pure_ (i := 1) (N := some 86) (v := ?_) (a' := ?_) (bm 10 3) rfl rfl (any_of HT_.out (by kernel_rfl)) (fun _ _ _ h => h) (Or.inl ⟨by rfl, ?_⟩) ?_ ?_
                       rotate_left
                       ·intro w'
                        go_simp
                        with_reducible rfl
                       rotate_left
                       ·simp only [Act.put, sA, sZ, sS, i64_w, i32_w]
                        rfl
                       refine pure_ (i := 2) (N := some 87) (v := ?_) (a' := ?_) (bm 10 7) rfl rfl (any_of HT_.out (by kernel_rfl)) (fun _ _ _ h => h) (Or.inl ⟨by rfl, ?_⟩) ?_ ?_
                       rotate_left
                       ·intro w'
                        go_simp
                        with_reducible rfl
                       rotate_left
                       ·simp only [Act.put, sA, sZ, sS, i64_w, i32_w]
                        rfl
                       refine pure_ (i := 3) (N := some 88) (v := ?_) (a' := ?_) (bm 10 15) rfl rfl (any_of HT_.out (by kernel_rfl)) (fun _ _ _ h => h) (Or.inl ⟨by rfl, ?_⟩) ?_ ?_
                       rotate_left
                       ·intro w'
                        go_simp
                        with_reducible rfl
                       rotate_left
                       ·simp only [Act.put, sA, sZ, sS, i64_w, i32_w]
                        rfl
                       refine pure_ (i := 4) (N := some 89) (v := ?_) (a' := ?_) (bm 10 31) rfl rfl (any_of HT_.out (by kernel_rfl)) (fun _ _ _ h => h) (Or.inl ⟨by rfl, ?_⟩) ?_ ?_
                       rotate_left
                       ·intro w'
                        go_simp
                        with_reducible rfl
                       rotate_left
                       ·simp only [Act.put, sA, sZ, sS, i64_w, i32_w]
                        rfl
                       refine take_ (i := 5) (N := some 90) (v := ?_) (a' := ?_) (bm 10 63) rfl rfl (take_ofW HT_.out HW_.out (by kernel_rfl)) (fun _ _ _ h => h) (Or.inl ⟨by rfl, ?_⟩) hHeld ?_ ?_
                       rotate_left
                       ·intro w' _
                        go_simp
                        with_reducible rfl
                       rotate_left
                       ·simp only [Act.put, sA, sZ, sS, i64_w, i32_w]
                        rfl
                       refine pure_ (i := 6) (N := some 91) (v := ?_) (a' := ?_) (bm 10 127) rfl rfl (any_of HT_.out (by kernel_rfl)) (fun _ _ _ h => h) (Or.inl ⟨by rfl, ?_⟩) ?_ ?_
                       rotate_left
                       ·intro w'
                        go_simp
                        with_reducible rfl
                       rotate_left
                       ·simp only [Act.put, sA, sZ, sS, i64_w, i32_w]
                        rfl
                       refine pure_ (i := 7) (N := some 92) (v := ?_) (a' := ?_) (bm 10 255) rfl rfl (any_of HT_.out (by kernel_rfl)) (fun _ _ _ h => h) (Or.inl ⟨by rfl, ?_⟩) ?_ ?_
                       rotate_left
                       ·intro w'
                        go_simp
                        with_reducible rfl
                       rotate_left
                       ·simp only [Act.put, sA, sZ, sS, i64_w, i32_w]
                        rfl
                       refine one_ (i := 8) (N := none) (bm 10 511) rfl rfl (one_of HT_.out (by kernel_rfl)) (by decide) (fun K hK => ?_)
                       have hs55 : w54.cell? ⟨gb124, 0, none⟩ = some (.string x125000_2) := (blk_cell BK124.out 0).trans rfl
                       have hfs55 := blk_frozen BK124.out 0
                       have hs56 : w54.cell? ⟨gb124, 1, none⟩ = some (.int .i64 x125001_2) := (blk_cell BK124.out 1).trans rfl
                       have hfs56 := blk_frozen BK124.out 1
                       have hs57 : w54.cell? ⟨gb124, 2, none⟩ = some (.bool x125002_2) := (blk_cell BK124.out 2).trans rfl
                       have hfs57 := blk_frozen BK124.out 2
                       refine skip_ (w1 := ?_) (by rfl) rfl ?_ ?_
                       rotate_left
                       ·go_simp
                        rfl
                       refine hK.out _ _ trivial (fun hHeld => ?_)
                       clear hK K
                       refine pure_ (i := 9) (N := some 11) (v := ?_) (a' := ?_) (bm 10 1023) rfl rfl (any_of HT_.out (by kernel_rfl)) (fun _ _ _ h => h) (Or.inl ⟨by rfl, ?_⟩) ?_ ?_
                       rotate_left
                       ·intro w'
                        go_simp
                        with_reducible rfl
                       rotate_left
                       ·simp only [Act.put, sA, sZ, sS, i64_w, i32_w]
                        rfl
                       refine done_ (done_of HT_.out (by kernel_rfl)) ?_
                       try go_wp2
                       refine bodyPost_ret (results_ct rfl _ _ gb124 27 #[.string (t131.extract 8 t131.size), .int .i64 (wrap64 (t133)), .bool ((bt a2 0) == 1)] (0, 0) _ rfl (by (with_reducible repeat (first | refine bN ?_ _ | refine bD ?_ | refine bA ?_ _)); refine blk_put (cs := #[.string (t131.extract 8 t131.size), .int .i64 (wrap64 (t133)), .bool x125002_2]) ?_ 2 _ rfl; (with_reducible repeat (first | refine bN ?_ _ | refine bD ?_ | refine bA ?_ _)); refine blk_put (cs := #[.string (t131.extract 8 t131.size), .int .i64 x125001_2, .bool x125002_2]) ?_ 1 _ rfl; (with_reducible repeat (first | refine bN ?_ _ | refine bD ?_ | refine bA ?_ _)); refine blk_put (cs := #[.string x125000_2, .int .i64 x125001_2, .bool x125002_2]) ?_ 0 _ rfl; (with_reducible repeat (first | refine bN ?_ _ | refine bD ?_ | refine bA ?_ _)); exact BK124.out) Try.underlying27 rfl (by kernel_rfl)) rfl ?_
                       exact ⟨by first | rfl | (simp [errW_none, errW_some] <;> rfl) | (simp [*, errW_none, errW_some] <;> rfl), by repeat (first | (with_reducible first | exact HB.out | apply below_alloc | apply pw_below_drewN | apply below_drew1 | refine below_set ?_ GE124.out) | exact HB.out)⟩
                      ·rw [if_neg c50] at H
                       exact absurd H (by simp)
                   ·rw [if_neg c39] at H
                    exact absurd H (by simp)
                  ·rw [if_neg c38] at H
                   exact absurd H (by simp)
                 ·replace c37 := Bool.eq_false_iff.mpr c37
                  subst c37
                  have H1 : (impl_CheckToken.l0 k2 a1 a2 a3 a4 l0 (l0.length : Int) (wrap64 (x50_2 + 1))) = some (r1, r2, r3, r4) := by rw [if_neg (show ¬ (false = true) by decide)] at H; exact H
                  clear H
                  have H := H1
                  clear H1
                  have H' := Aside0.mk H
                  clear H
                  have p130 : 0 ≤ (x50_2 : Int) := of_decide_eq_true (by first | (with_reducible assumption) | assumption)
                  have q130 : x50_2 < (l0.length : Int) := of_decide_eq_true (by first | (with_reducible assumption) | assumption)
                  obtain ⟨ad130, e130, hx130_0⟩ := Kd.at_string HR0.out x50_2 p130 q130
                  cases e130
                  replace hx130_0 := (HB.out.cell (World.block_lt_of_cell? w _ hx130_0)).trans hx130_0
                  replace p130 := eq_true p130
                  replace q130 := eq_true q130
                  try go_wp2
                  have n0_ := Aside0.mk (blk_drew BK124.out)
                  have n1_ := Aside0.mk (below_drew1 HB.out)
                  clear BK124
                  clear HB
                  have BK124 := n0_
                  have HB := n1_
                  clear n0_ n1_
                  refine start_ (n := 15) (S := fun w' => True) (ds := []) (bm 15 0) (by kernel_rfl) rfl rfl trivial (fun hHeld => ?_); refine with_tabW impl_CheckToken.tab8 impl_CheckToken.bits8 (fun HT_ HW_ => ?_)
                  generalize wr.drew = w58 at BK124 HB hHeld ⊢
                  refine pure_ (i := 0) (N := some 55) (v := ?_) (a' := ?_) (bm 15 1) rfl rfl (any_of HT_.out (by kernel_rfl)) (fun _ _ _ h => h) (Or.inl ⟨by rfl, ?_⟩) ?_ ?_
                  rotate_left
                  ·intro w'
                   go_simp
                   with_reducible rfl
                  rotate_left
                  ·simp only [Act.put, sA, sZ, sS, i64_w, i32_w]
                   rfl
                  refine pure_ (i := 1) (N := some 56) (v := ?_) (a' := ?_) (bm 15 3) rfl rfl (any_of HT_.out (by kernel_rfl)) (fun _ _ _ h => h) (Or.inl ⟨by rfl, ?_⟩) ?_ ?_
                  rotate_left
                  ·intro w'
                   go_simp
                   with_reducible rfl
                  rotate_left
                  ·simp only [Act.put, sA, sZ, sS, i64_w, i32_w]
                   rfl
                  refine pure_ (i := 2) (N := some 57) (v := ?_) (a' := ?_) (bm 15 7) rfl rfl (any_of HT_.out (by kernel_rfl)) (fun _ _ _ h => h) (Or.inl ⟨by rfl, ?_⟩) ?_ ?_
                  rotate_left
                  ·intro w'
                   go_simp
                   with_reducible rfl
                  rotate_left
                  ·simp only [Act.put, sA, sZ, sS, i64_w, i32_w]
                   rfl
                  refine pure_ (i := 3) (N := some 58) (v := ?_) (a' := ?_) (bm 15 15) rfl rfl (any_of HT_.out (by kernel_rfl)) (fun _ _ _ h => h) (Or.inl ⟨by rfl, ?_⟩) ?_ ?_
                  rotate_left
                  ·intro w'
                   go_simp
                   with_reducible rfl
                  rotate_left
                  ·simp only [Act.put, sA, sZ, sS, i64_w, i32_w]
                   rfl
                  refine pure_ (i := 4) (N := some 59) (v := ?_) (a' := ?_) (bm 15 31) rfl rfl (any_of HT_.out (by kernel_rfl)) (fun _ _ _ h => h) (Or.inl ⟨by rfl, ?_⟩) ?_ ?_
                  rotate_left
                  ·intro w'
                   go_simp
                   with_reducible rfl
                  rotate_left
                  ·simp only [Act.put, sA, sZ, sS, i64_w, i32_w]
                   rfl
                  refine pure_ (i := 5) (N := some 60) (v := ?_) (a' := ?_) (bm 15 63) rfl rfl (any_of HT_.out (by kernel_rfl)) (fun _ _ _ h => h) (Or.inl ⟨by rfl, ?_⟩) ?_ ?_
                  rotate_left
                  ·intro w'
                   go_simp
                   with_reducible rfl
                  rotate_left
                  ·simp only [Act.put, sA, sZ, sS, i64_w, i32_w]
                   rfl
                  refine pure_ (i := 6) (N := some 61) (v := ?_) (a' := ?_) (bm 15 127) rfl rfl (any_of HT_.out (by kernel_rfl)) (fun _ _ _ h => h) (Or.inl ⟨by rfl, ?_⟩) ?_ ?_
                  rotate_left
                  ·intro w'
                   go_simp
                   with_reducible rfl
                  rotate_left
                  ·simp only [Act.put, sA, sZ, sS, i64_w, i32_w]
                   rfl
                  refine pure_ (i := 7) (N := some 62) (v := ?_) (a' := ?_) (bm 15 255) rfl rfl (any_of HT_.out (by kernel_rfl)) (fun _ _ _ h => h) (Or.inl ⟨by rfl, ?_⟩) ?_ ?_
                  rotate_left
                  ·intro w'
                   go_simp
                   with_reducible rfl
                  rotate_left
                  ·simp only [Act.put, sA, sZ, sS, i64_w, i32_w]
                   rfl
                  refine pure_ (i := 8) (N := some 63) (v := ?_) (a' := ?_) (bm 15 511) rfl rfl (any_of HT_.out (by kernel_rfl)) (fun _ _ _ h => h) (Or.inl ⟨by rfl, ?_⟩) ?_ ?_
                  rotate_left
                  ·intro w'
                   go_simp
                   with_reducible rfl
                  rotate_left
                  ·simp only [Act.put, sA, sZ, sS, i64_w, i32_w]
                   rfl
                  refine one_ (i := 9) (N := some 64) (bm 15 1023) rfl rfl (one_of HT_.out (by kernel_rfl)) (by decide) (fun K hK => ?_)
                  refine goes_ Try.func28 (by kernel_rfl) rfl #[.string (rdOf ByteArray.empty l0 x50_2), .string (a2.extract 1 13), .string ((a2.extract 0 1) ++ a1), .string (a2.extract 13 a2.size)] (by rfl) rfl rfl (by (try simp only [List.map_toArray, List.map_cons, List.map_nil]); first | done | rfl | (simp only [List.length_drop, List.length_take]; rfl)) ?_
                  with_reducible refine (impl_OpenText.calls (rdOf ByteArray.empty l0 x50_2) (a2.extract 1 13) ((a2.extract 0 1) ++ a1) (a2.extract 13 a2.size) t131 false _ A36.out).mono ?_
                  rintro e w59 ⟨rfl, hb⟩
                  refine ⟨_, rfl, ?_⟩
                  have n0_ := bX BK124 hb
                  have n1_ := bS HB hb
                  clear BK124
                  clear HB
                  have BK124 := n0_
                  have HB := n1_
                  clear n0_ n1_
                  (try clear hb)
                  (try clear hb2)
                  (try clear hk)
                  (try clear hi)
                  refine hK.out _ _ trivial (fun hHeld => ?_)
                  clear hK K
                  refine norm_ (a' := ?_) ?_ ?_
                  rotate_left
                  ·show Act.put _ (some 64) _ = _
                   simp only [Act.put, sA, sZ, sS, i64_w, i32_w]
                   rfl
                  refine pure_ (i := 10) (N := some 54) (v := ?_) (a' := ?_) (bm 15 2047) rfl rfl (any_of HT_.out (by kernel_rfl)) (fun _ _ _ h => h) (Or.inl ⟨by rfl, ?_⟩) ?_ ?_
                  rotate_left
                  ·intro w'
                   go_simp
                   with_reducible rfl
                  rotate_left
                  ·simp only [Act.put, sA, sZ, sS, i64_w, i32_w]
                   rfl
                  refine pure_ (i := 11) (N := some 65) (v := ?_) (a' := ?_) (bm 15 4095) rfl rfl (any_of HT_.out (by kernel_rfl)) (fun _ _ _ h => h) (Or.inl ⟨by rfl, ?_⟩) ?_ ?_
                  rotate_left
                  ·intro w'
                   go_simp
                   with_reducible rfl
                  rotate_left
                  ·simp only [Act.put, sA, sZ, sS, i64_w, i32_w]
                   rfl
                  refine pure_ (i := 12) (N := some 66) (v := ?_) (a' := ?_) (bm 15 8191) rfl rfl (any_of HT_.out (by kernel_rfl)) (fun _ _ _ h => h) (Or.inl ⟨by rfl, ?_⟩) ?_ ?_
                  rotate_left
                  ·intro w'
                   go_simp
                   with_reducible rfl
                  rotate_left
                  ·simp only [Act.put, sA, sZ, sS, i64_w, i32_w]
                   rfl
                  refine pure_ (i := 13) (N := some 14) (v := ?_) (a' := ?_) (bm 15 16383) rfl rfl (any_of HT_.out (by kernel_rfl)) (fun _ _ _ h => h) (Or.inl ⟨by rfl, ?_⟩) ?_ ?_
                  rotate_left
                  ·intro w'
                   go_simp
                   with_reducible rfl
                  rotate_left
                  ·simp only [Act.put, sA, sZ, sS, i64_w, i32_w]
                   rfl
                  refine pure_ (i := 14) (N := some 15) (v := ?_) (a' := ?_) (bm 15 32767) rfl rfl (any_of HT_.out (by kernel_rfl)) (fun _ _ _ h => h) (Or.inl ⟨by rfl, ?_⟩) ?_ ?_
                  rotate_left
                  ·intro w'
                   go_simp
                   with_reducible rfl
                  rotate_left
                  ·simp only [Act.put, sA, sZ, sS, i64_w, i32_w]
                   rfl
                  refine done_ (done_of HT_.out (by kernel_rfl)) ?_
                  try go_wp2
                  go_roundg k2
                  case measure => have := HJ5.out; have := HK2.out; omega
                  case rel => exact ⟨(wrap64 (x50_2 + 1)), (x125000_2), (x125001_2), (x125002_2), (by first | rfl | (simp; done) | (simp [*]; done)), H', ⟨by have := HJ5.out; have := HK2.out; omega⟩, ⟨by (with_reducible repeat (first | refine bN ?_ _ | refine bD ?_ | refine bA ?_ _)); exact BK124.out⟩, ⟨by repeat (first | (with_reducible first | exact HB.out | apply below_alloc | apply pw_below_drewN | apply below_drew1 | refine below_set ?_ GE124.out) | exact HB.out)⟩⟩
                ·rw [if_neg c34] at H
                 exact absurd H (by simp)
               ·rw [if_neg c33] at H
                exact absurd H (by simp)
              ·rw [if_neg c32] at H
               exact absurd H (by simp)
             ·rw [if_neg c31] at H
              exact absurd H (by simp)
            ·rw [if_neg c30] at H
             exact absurd H (by simp)
           ·rw [if_neg c29] at H
            exact absurd H (by simp)
          ·rw [if_neg c28] at H
           exact absurd H (by simp)
         ·rw [if_neg c27] at H
          have c27b0 : decide (x50_2 < (l0.length : Int)) = false := decide_eq_false c27
          clear c27
          simp only [Option.some.injEq, Prod.mk.injEq] at H
          obtain ⟨rfl, rfl, rfl, rfl⟩ := H
          obtain ⟨hcz60_0, hcz60_1, hcz60_2⟩ := cz3 BK124
          obtain ⟨hfz60_0, hfz60_1, hfz60_2⟩ := fz3 BK124
          go_wp2
          refine bodyPost_ret (results_ct rfl _ _ gb124 27 #[.string (⟨#[]⟩ : ByteArray), .int .i64 0, .bool false] (0, 0) _ rfl (by (with_reducible repeat (first | refine bN ?_ _ | refine bD ?_ | refine bA ?_ _)); refine blk_put (cs := #[.string (⟨#[]⟩ : ByteArray), .int .i64 0, .bool x125002_2]) ?_ 2 _ rfl; (with_reducible repeat (first | refine bN ?_ _ | refine bD ?_ | refine bA ?_ _)); refine blk_put (cs := #[.string (⟨#[]⟩ : ByteArray), .int .i64 x125001_2, .bool x125002_2]) ?_ 1 _ rfl; (with_reducible repeat (first | refine bN ?_ _ | refine bD ?_ | refine bA ?_ _)); refine blk_put (cs := #[.string x125000_2, .int .i64 x125001_2, .bool x125002_2]) ?_ 0 _ rfl; (with_reducible repeat (first | refine bN ?_ _ | refine bD ?_ | refine bA ?_ _)); exact BK124.out) Try.underlying27 rfl (by kernel_rfl)) rfl ?_
          exact ⟨by first | rfl | (simp [errW_none, errW_some] <;> rfl) | (simp [*, errW_none, errW_some] <;> rfl), by repeat (first | (with_reducible first | exact HB.out | apply below_alloc | apply pw_below_drewN | apply below_drew1 | refine below_set ?_ GE124.out) | exact HB.out)⟩
     ·rw [if_neg c23] at H
      exact absurd H (by simp)
    ·replace c22 := Bool.eq_false_iff.mpr c22
     subst c22
     have H1 : (some ((⟨#[]⟩ : ByteArray), 0, false, 2)) = some (r1, r2, r3, r4) := by rw [if_neg (show ¬ (false = true) by decide)] at H; exact H
     clear H
     have H := H1
     clear H1
     simp only [Option.some.injEq, Prod.mk.injEq] at H
     obtain ⟨rfl, rfl, rfl, rfl⟩ := H
     go_wp2_with (first | ((with_reducible refine gate_callee (f := 27) rfl ?_); refine goesL_ (some 40) rfl rfl Try.func27 (by kernel_rfl) rfl #[.int .i64 (a2.size : Int), .int .i64 37, .int .i64 57] rfl (by (try simp only [List.map_toArray, List.map_cons, List.map_nil]); first | done | rfl | (simp only [List.length_drop, List.length_take]; rfl)) ?_; (with_reducible refine (impl_in.calls (a2.size : Int) 37 57 false _ A21.out).mono ?_); rintro e w' ⟨rfl, ⟨nd, rfl⟩⟩; refine ⟨_, rfl, ?_⟩; (try (rw [drewN_self wc]; generalize hq_ : World.drewN wc _ = wc; have n0_ : Aside0 (wc.heap[gb124]? = some (.cells #[.string (⟨#[]⟩ : ByteArray), .int .i64 0, .bool false] 27 (0, 0))) := ⟨by rw [← hq_]; exact (mB BK124)⟩; have n1_ : Aside0 (Below w.heap.size w wc) := ⟨by rw [← hq_]; exact (by repeat (first | (with_reducible first | exact HB.out | apply below_alloc | apply pw_below_drewN | apply below_drew1 | refine below_set ?_ GE124.out) | exact HB.out))⟩; clear BK124 HB hq_; have BK124 := n0_; have HB := n1_; clear n0_ n1_)); obtain ⟨hcz61_0, hcz61_1, hcz61_2⟩ := cz3 BK124; obtain ⟨hfz61_0, hfz61_1, hfz61_2⟩ := fz3 BK124))
     refine bodyPost_ret (results_ct rfl _ _ gb124 27 #[.string (⟨#[]⟩ : ByteArray), .int .i64 0, .bool false] (0, 0) _ rfl (by (with_reducible repeat (first | refine bN ?_ _ | refine bD ?_ | refine bA ?_ _)); refine blk_put (cs := #[.string (⟨#[]⟩ : ByteArray), .int .i64 0, .bool false]) ?_ 2 _ rfl; (with_reducible repeat (first | refine bN ?_ _ | refine bD ?_ | refine bA ?_ _)); refine blk_put (cs := #[.string (⟨#[]⟩ : ByteArray), .int .i64 0, .bool false]) ?_ 1 _ rfl; (with_reducible repeat (first | refine bN ?_ _ | refine bD ?_ | refine bA ?_ _)); refine blk_put (cs := #[.string (⟨#[]⟩ : ByteArray), .int .i64 0, .bool false]) ?_ 0 _ rfl; (with_reducible repeat (first | refine bN ?_ _ | refine bD ?_ | refine bA ?_ _)); exact BK124.out) Try.underlying27 rfl (by kernel_rfl)) rfl ?_
     exact ⟨by first | rfl | (simp [errW_none, errW_some] <;> rfl) | (simp [*, errW_none, errW_some] <;> rfl), by repeat (first | (with_reducible first | exact HB.out | apply below_alloc | apply pw_below_drewN | apply below_drew1 | refine below_set ?_ GE124.out) | exact HB.out)⟩

end Go.Proofs.Ytkcdhphhacjkhaa.PFnExactCheckToken
