-- Written by a program of this session (wip/xprint.py).
import Derived.Test.YtkcdhphhacjkhaaPFnExactMintTokenx0
import Derived.Test.YtkcdhphhacjkhaaPFnExactMintTokenx1
namespace Go.Proofs.Ytkcdhphhacjkhaa.PFnExactMintToken
open Go.RowKit Go.Proofs.YtkcdhphhacjkhaaW.PrintWords Go.Proofs.YtkcdhphhacjkhaaW.PrintLast Go.Proofs.YtkcdhphhacjkhaaW.PrintMore
open Go.Proofs.Ytkcdhphhacjkhaa.ShortK (bN bD bA sA sZ sS mR mB bX bLt bS cz2 fz2 cx2 cz3 fz3 cx3 cz4 fz4 cx4 cz5 fz5 cx5 cz6 fz6 cx6 cz7 fz7 cx7 cz8 fz8 cx8 cz9 fz9 cx9 cz10 fz10 cx10 cz11 fz11 cx11 cz12 fz12 cx12)
open Go.Proofs.Ytkcdhphhacjkhaa.StoreK (bm)
attribute [local go_sem] Go.Proofs.Ytkcdhphhacjkhaa.StoreK.isSome_setCell max2_int min2_int max_two min_two max_three min_three max_four min_four   -- for this text's walks alone
set_option linter.unusedVariables false
set_option linter.unusedSimpArgs false

/-! ### impl_MintToken: function 8 -/
mutual
def impl_MintToken.j0 : Nat → ByteArray → ByteArray → ByteArray → Bool → ByteArray → Int → Bool → Option (ByteArray × Bool)
 | 0, _, _, _, _, _, _, _ => none
 | k + 1, x0, x1, x2, x30, x118000, x118001, x118002 => if x30 = true then (some ((⟨#[]⟩ : ByteArray), false)) else (if x118002 = true then (impl_MintToken.j1 k x0 x1 x2 (⟨#[1]⟩ : ByteArray) x118000 x118001 x118002) else (impl_MintToken.j1 k x0 x1 x2 (⟨#[0]⟩ : ByteArray) x118000 x118001 x118002))
def impl_MintToken.j1 : Nat → ByteArray → ByteArray → ByteArray → ByteArray → ByteArray → Int → Bool → Option (ByteArray × Bool)
 | 0, _, _, _, _, _, _, _ => none
 | k + 1, x0, x1, x2, x10, x118000, x118001, x118002 => if x10.size + x2.size ≤ 9223372036854775807 then ((impl_bigEndian.f (IntKind.u64.wrap (x118001)) 8).bind fun t121 => (if t121.size + x118000.size ≤ 9223372036854775807 then ((impl_SealText.f x0 x1 (x10 ++ x2) (t121 ++ x118000)).bind fun bt122 => (if x10.size + x1.size ≤ 9223372036854775807 then (if (x10 ++ x1).size + bt122.1.size ≤ 9223372036854775807 then (some ((x10 ++ x1) ++ bt122.1, true)) else (none)) else (none))) else (none))) else (none)
end
def impl_MintToken.f (k : Nat) (a0 : ByteArray) (a1 : ByteArray) (a2 : ByteArray) (a3_0 : ByteArray) (a3_1 : Int) (a3_2 : Bool) : Option (ByteArray × Bool) := (impl_isKey.f a0).bind fun t118 => (if t118 = true then (if (a1.size : Int) = 12 then ((impl_isAddress.f a2).bind fun t119 => (if t119 = true then ((impl_goodMinted.f a3_0 a3_1 a3_2).bind fun t120 => (impl_MintToken.j0 k a0 a1 a2 (!t120) a3_0 a3_1 a3_2)) else (impl_MintToken.j0 k a0 a1 a2 true a3_0 a3_1 a3_2))) else (impl_MintToken.j0 k a0 a1 a2 true a3_0 a3_1 a3_2)) else (impl_MintToken.j0 k a0 a1 a2 true a3_0 a3_1 a3_2))
theorem impl_MintToken.mono_l : ∀ k, (∀ y0 y1 y2 y3 y4 y5 y6, LeO (impl_MintToken.j0 k y0 y1 y2 y3 y4 y5 y6) (impl_MintToken.j0 (k + 1) y0 y1 y2 y3 y4 y5 y6)) ∧ (∀ y0 y1 y2 y3 y4 y5 y6, LeO (impl_MintToken.j1 k y0 y1 y2 y3 y4 y5 y6) (impl_MintToken.j1 (k + 1) y0 y1 y2 y3 y4 y5 y6))
 | 0 => ⟨fun _ _ _ _ _ _ _ r h => by simp [impl_MintToken.j0] at h, fun _ _ _ _ _ _ _ r h => by simp [impl_MintToken.j1] at h⟩
 | k + 1 => by
  obtain ⟨ih0, ih1⟩ := impl_MintToken.mono_l k
  refine ⟨?_, ?_⟩
  ·intro y0 y1 y2 y3 y4 y5 y6
   unfold impl_MintToken.j0
   repeat' first
   | (with_reducible exact ih0 _ _ _ _ _ _ _)
   | (with_reducible exact ih1 _ _ _ _ _ _ _)
   | (with_reducible exact LeO.refl _)
   | (with_reducible exact LeO.none _)
   | (with_reducible refine LeO.ite ?_ ?_)
   | (with_reducible refine LeO.bind ?_ (fun _ => ?_))
   | exact ih0 _ _ _ _ _ _ _
   | exact ih1 _ _ _ _ _ _ _
   | exact LeO.none _
   | refine LeO.ite ?_ ?_
   | refine LeO.bind ?_ (fun _ => ?_)
  ·intro y0 y1 y2 y3 y4 y5 y6
   unfold impl_MintToken.j1
   repeat' first
   | (with_reducible exact ih0 _ _ _ _ _ _ _)
   | (with_reducible exact ih1 _ _ _ _ _ _ _)
   | (with_reducible exact LeO.refl _)
   | (with_reducible exact LeO.none _)
   | (with_reducible refine LeO.ite ?_ ?_)
   | (with_reducible refine LeO.bind ?_ (fun _ => ?_))
   | exact ih0 _ _ _ _ _ _ _
   | exact ih1 _ _ _ _ _ _ _
   | exact LeO.none _
   | refine LeO.ite ?_ ?_
   | refine LeO.bind ?_ (fun _ => ?_)
theorem impl_MintToken.mono : ∀ a0 a1 a2 a3 a4 a5 k, LeO (impl_MintToken.f k a0 a1 a2 a3 a4 a5) (impl_MintToken.f (k + 1) a0 a1 a2 a3 a4 a5) := by
 intro a0 a1 a2 a3 a4 a5 k
 obtain ⟨ih0, ih1⟩ := impl_MintToken.mono_l k
 unfold impl_MintToken.f
 repeat' first
   | (with_reducible exact ih0 _ _ _ _ _ _ _)
   | (with_reducible exact ih1 _ _ _ _ _ _ _)
   | (with_reducible exact LeO.refl _)
   | (with_reducible exact LeO.none _)
   | (with_reducible refine LeO.ite ?_ ?_)
   | (with_reducible refine LeO.bind ?_ (fun _ => ?_))
   | exact ih0 _ _ _ _ _ _ _
   | exact ih1 _ _ _ _ _ _ _
   | exact LeO.none _
   | refine LeO.ite ?_ ?_
   | refine LeO.bind ?_ (fun _ => ?_)
def impl_MintToken.T6 : Bool × List (List Nat × List Nat) := (true, [([], []), ([], []), ([], []), ([], []), ([2, 3], [2, 3]), ([], []), ([5], [5]), ([6], [6]), ([7], [7]), ([], []), ([9], [9]), ([8, 10], [8, 10]), ([0, 1, 4, 11, 8], [0, 1, 4, 11]), ([12], [12]), ([13], [13]), ([13], [13]), ([14, 12, 0, 1, 2, 3, 4, 5, 6, 7, 8, 9, 10, 11, 12, 13, 14], [14]), ([15, 16, 0, 1, 2, 3, 4, 5, 6, 7, 8, 9, 10, 11, 12, 13, 14, 15, 16], [15])])
def impl_MintToken.B6 : List Nat := [0, 0, 0, 0, 12, 0, 32, 96, 224, 0, 512, 2016, 4095, 8191, 16383, 16383, 32767, 131071]
theorem impl_MintToken.tab6 : rtab .any (opsOf Try.f8 6) = impl_MintToken.T6 := by kernel_rfl
theorem impl_MintToken.bits6 : waitsOk impl_MintToken.T6.2 impl_MintToken.B6 = true := by kernel_rfl
set_option maxHeartbeats 64000000 in
set_option maxRecDepth 100000 in
theorem impl_MintToken.calls (k : Nat) (a0 : ByteArray) (a1 : ByteArray) (a2 : ByteArray) (a3_0 : ByteArray) (a3_1 : Int) (a3_2 : Bool) (r1 : ByteArray) (r2 : Bool) (w : World) (h : impl_MintToken.f k a0 a1 a2 a3_0 a3_1 a3_2 = some (r1, r2)) :
  Calls Try.prog 8 #[.string a0, .string a1, .string a2, .agg #[.string a3_0, .int .i64 a3_1, .bool a3_2]] w fun e w' => e = .returned (.tuple #[.string r1, .bool r2]) ∧ Below w.heap.size w w' := by
 have hu27 := Try.underlying27
 have HB := Aside0.mk (Below.refl w.heap.size w)
 have H : ((impl_isKey.f a0).bind fun t118 => (if t118 = true then (if (a1.size : Int) = 12 then ((impl_isAddress.f a2).bind fun t119 => (if t119 = true then ((impl_goodMinted.f a3_0 a3_1 a3_2).bind fun t120 => (impl_MintToken.j0 k a0 a1 a2 (!t120) a3_0 a3_1 a3_2)) else (impl_MintToken.j0 k a0 a1 a2 true a3_0 a3_1 a3_2))) else (impl_MintToken.j0 k a0 a1 a2 true a3_0 a3_1 a3_2)) else (impl_MintToken.j0 k a0 a1 a2 true a3_0 a3_1 a3_2))) = some (r1, r2) := h
 clear h
 have HC5 := Aside0.mk H
 clear H
 go_enter Try.func8, Try.ntmps8
 go_upto_region 1 with (first | ((with_reducible refine gate_dst (N := 7) rfl ?_); (try (refine gate_guard (by rfl) ?_; dsimp only)); refine box_event ?hg (N := 7) ?hd (cs := #[.string a3_0, .int .i64 a3_1, .bool a3_2]) (t := 27) ?hr ?_; (case hd => rfl); (case hg => rfl); (case hr => first | (go_simp; done) | (go_simp; rfl)); intro gb117 hg w6 hbox hb; have n0_ := bS HB hb; have n1_ := Aside0.mk (hbox); have n2_ := Aside0.mk ((by rw [hg]; exact (below_size (by repeat (first | (with_reducible first | exact HB.out | apply below_alloc | apply pw_below_drewN | apply below_drew1) | exact HB.out))) : w.heap.size ≤ gb117)); have n3_ := n2_; clear HB; have HB := n0_; have BK117 := n1_; have GW117 := n2_; have GE117 := n3_; clear n0_ n1_ n2_ n3_; clear hb hbox hg))
 (try simp only [Act.put, sA, sZ, sS])
 go_cut [30] (fun v30 wc => ∃ (kq : Nat) (x30_4 : Bool), v30 = .bool x30_4 ∧ Aside0 (impl_MintToken.j0 kq a0 a1 a2 x30_4 a3_0 a3_1 a3_2 = some (r1, r2)) ∧ Aside0 (kq ≤ k) ∧ Aside0 (wc.heap[gb117]? = some (.cells #[.string a3_0, .int .i64 a3_1, .bool a3_2] 27 (0, 0))) ∧ Aside0 (Below w.heap.size w wc))
 case first =>
  have H := HC5.out
  clear HC5
  replace H := Option.bind_eq_some_iff.mp H
  obtain ⟨t118, A70, H⟩ := H
  replace H : (if t118 = true then (if (a1.size : Int) = 12 then ((impl_isAddress.f a2).bind fun t119 => (if t119 = true then ((impl_goodMinted.f a3_0 a3_1 a3_2).bind fun t120 => (impl_MintToken.j0 k a0 a1 a2 (!t120) a3_0 a3_1 a3_2)) else (impl_MintToken.j0 k a0 a1 a2 true a3_0 a3_1 a3_2))) else (impl_MintToken.j0 k a0 a1 a2 true a3_0 a3_1 a3_2)) else (impl_MintToken.j0 k a0 a1 a2 true a3_0 a3_1 a3_2)) = some (r1, r2) := H
  have A7 := Aside0.mk A70
  clear A70
  by_cases c8 : t118 = true
  ·subst c8
   have H1 : (if (a1.size : Int) = 12 then ((impl_isAddress.f a2).bind fun t119 => (if t119 = true then ((impl_goodMinted.f a3_0 a3_1 a3_2).bind fun t120 => (impl_MintToken.j0 k a0 a1 a2 (!t120) a3_0 a3_1 a3_2)) else (impl_MintToken.j0 k a0 a1 a2 true a3_0 a3_1 a3_2))) else (impl_MintToken.j0 k a0 a1 a2 true a3_0 a3_1 a3_2)) = some (r1, r2) := by rw [if_pos rfl] at H; exact H
   clear H
   have H := H1
   clear H1
   by_cases c9 : (a1.size : Int) = 12
   ·rw [if_pos c9] at H
    have c9b0 : ((a1.size : Int) == 12) = true := beq_iff_eq.mpr c9
    have c9b1 : ((a1.size : Int) != 12) = false := bne_eq_false_iff_eq.mpr c9
    clear c9
    (first | rw [c9b0] | (simp only [i64_w, i32_w]; rw [c9b0]) | skip)
    replace H := Option.bind_eq_some_iff.mp H
    obtain ⟨t119, A100, H⟩ := H
    replace H : (if t119 = true then ((impl_goodMinted.f a3_0 a3_1 a3_2).bind fun t120 => (impl_MintToken.j0 k a0 a1 a2 (!t120) a3_0 a3_1 a3_2)) else (impl_MintToken.j0 k a0 a1 a2 true a3_0 a3_1 a3_2)) = some (r1, r2) := H
    have A10 := Aside0.mk A100
    clear A100
    by_cases c11 : t119 = true
    ·subst c11
     have H1 : ((impl_goodMinted.f a3_0 a3_1 a3_2).bind fun t120 => (impl_MintToken.j0 k a0 a1 a2 (!t120) a3_0 a3_1 a3_2)) = some (r1, r2) := by rw [if_pos rfl] at H; exact H
     clear H
     have H := H1
     clear H1
     replace H := Option.bind_eq_some_iff.mp H
     obtain ⟨t120, A120, H⟩ := H
     replace H : (impl_MintToken.j0 k a0 a1 a2 (!t120) a3_0 a3_1 a3_2) = some (r1, r2) := H
     have A12 := Aside0.mk A120
     clear A120
     have H' := Aside0.mk H
     clear H
     go_wp2_with (first | ((with_reducible refine gate_callee (f := 18) rfl ?_); refine goesL_ (some 14) rfl rfl Try.func18 (by kernel_rfl) rfl #[.string a0] rfl (by (try simp only [List.map_toArray, List.map_cons, List.map_nil]); first | done | rfl | (simp only [List.length_drop, List.length_take]; rfl)) ?_; (with_reducible refine (impl_isKey.calls a0 true _ A7.out).mono ?_); rintro e w' ⟨rfl, ⟨nd, rfl⟩⟩; refine ⟨_, rfl, ?_⟩) | (go_at_call 19; (with_reducible refine (impl_isAddress.calls a2 true _ A10.out).mono ?_); rintro e w' ⟨rfl, ⟨nd, rfl⟩⟩; obtain ⟨hcz13_0, hcz13_1, hcz13_2⟩ := cz3 BK117; obtain ⟨hfz13_0, hfz13_1, hfz13_2⟩ := fz3 BK117) | (go_at_call 20; (with_reducible refine (impl_goodMinted.calls a3_0 a3_1 a3_2 t120 _ A12.out).mono ?_); rintro e w14 ⟨rfl, hb⟩; have n0_ := bX BK117 hb; have n1_ := bS HB hb; clear BK117; clear HB; have BK117 := n0_; have HB := n1_; clear n0_ n1_; (try clear hb); (try clear hb2); (try clear hk); (try clear hi)))
     go_meet
     case rel => exact ⟨_, (!t120), (by first | rfl | (simp; done) | (simp [*]; done)), H', ⟨by first | omega | exact Nat.le_refl _⟩, ⟨by (with_reducible repeat (first | refine bN ?_ _ | refine bD ?_ | refine bA ?_ _)); exact BK117.out⟩, ⟨by repeat (first | (with_reducible first | exact HB.out | apply below_alloc | apply pw_below_drewN | apply below_drew1 | refine below_set ?_ GE117.out) | exact HB.out)⟩⟩
    ·replace c11 := Bool.eq_false_iff.mpr c11
     subst c11
     have H1 : (impl_MintToken.j0 k a0 a1 a2 true a3_0 a3_1 a3_2) = some (r1, r2) := by rw [if_neg (show ¬ (false = true) by decide)] at H; exact H
     clear H
     have H := H1
     clear H1
     have H' := Aside0.mk H
     clear H
     go_wp2_with (first | ((with_reducible refine gate_callee (f := 18) rfl ?_); refine goesL_ (some 14) rfl rfl Try.func18 (by kernel_rfl) rfl #[.string a0] rfl (by (try simp only [List.map_toArray, List.map_cons, List.map_nil]); first | done | rfl | (simp only [List.length_drop, List.length_take]; rfl)) ?_; (with_reducible refine (impl_isKey.calls a0 true _ A7.out).mono ?_); rintro e w' ⟨rfl, ⟨nd, rfl⟩⟩; refine ⟨_, rfl, ?_⟩) | (go_at_call 19; (with_reducible refine (impl_isAddress.calls a2 false _ A10.out).mono ?_); rintro e w' ⟨rfl, ⟨nd, rfl⟩⟩))
     go_meet
     case rel => exact ⟨_, (true), (by first | rfl | (simp; done) | (simp [*]; done)), H', ⟨by first | omega | exact Nat.le_refl _⟩, ⟨by (with_reducible repeat (first | refine bN ?_ _ | refine bD ?_ | refine bA ?_ _)); exact BK117.out⟩, ⟨by repeat (first | (with_reducible first | exact HB.out | apply below_alloc | apply pw_below_drewN | apply below_drew1 | refine below_set ?_ GE117.out) | exact HB.out)⟩⟩
   ·rw [if_neg c9] at H
    have c9b0 : ((a1.size : Int) == 12) = false := beq_eq_false_iff_ne.mpr c9
    have c9b1 : ((a1.size : Int) != 12) = true := bne_iff_ne.mpr c9
    (first | rw [c9b0] | (simp only [i64_w, i32_w]; rw [c9b0]) | skip)
    have H' := Aside0.mk H
    clear H
    go_wp2_with (first | ((with_reducible refine gate_callee (f := 18) rfl ?_); refine goesL_ (some 14) rfl rfl Try.func18 (by kernel_rfl) rfl #[.string a0] rfl (by (try simp only [List.map_toArray, List.map_cons, List.map_nil]); first | done | rfl | (simp only [List.length_drop, List.length_take]; rfl)) ?_; (with_reducible refine (impl_isKey.calls a0 true _ A7.out).mono ?_); rintro e w' ⟨rfl, ⟨nd, rfl⟩⟩; refine ⟨_, rfl, ?_⟩))
    go_meet
    case rel => exact ⟨_, (true), (by first | rfl | (simp; done) | (simp [*]; done)), H', ⟨by first | omega | exact Nat.le_refl _⟩, ⟨by (with_reducible repeat (first | refine bN ?_ _ | refine bD ?_ | refine bA ?_ _)); exact BK117.out⟩, ⟨by repeat (first | (with_reducible first | exact HB.out | apply below_alloc | apply pw_below_drewN | apply below_drew1 | refine below_set ?_ GE117.out) | exact HB.out)⟩⟩
  ·replace c8 := Bool.eq_false_iff.mpr c8
   subst c8
   have H1 : (impl_MintToken.j0 k a0 a1 a2 true a3_0 a3_1 a3_2) = some (r1, r2) := by rw [if_neg (show ¬ (false = true) by decide)] at H; exact H
   clear H
   have H := H1
   clear H1
   have H' := Aside0.mk H
   clear H
   go_wp2_with (first | ((with_reducible refine gate_callee (f := 18) rfl ?_); refine goesL_ (some 14) rfl rfl Try.func18 (by kernel_rfl) rfl #[.string a0] rfl (by (try simp only [List.map_toArray, List.map_cons, List.map_nil]); first | done | rfl | (simp only [List.length_drop, List.length_take]; rfl)) ?_; (with_reducible refine (impl_isKey.calls a0 false _ A7.out).mono ?_); rintro e w' ⟨rfl, ⟨nd, rfl⟩⟩; refine ⟨_, rfl, ?_⟩))
   go_meet
   case rel => exact ⟨_, (true), (by first | rfl | (simp; done) | (simp [*]; done)), H', ⟨by first | omega | exact Nat.le_refl _⟩, ⟨by (with_reducible repeat (first | refine bN ?_ _ | refine bD ?_ | refine bA ?_ _)); exact BK117.out⟩, ⟨by repeat (first | (with_reducible first | exact HB.out | apply below_alloc | apply pw_below_drewN | apply below_drew1 | refine below_set ?_ GE117.out) | exact HB.out)⟩⟩
 case rest =>
  clear HC5
  try clear c1
  try clear p2
  try clear c8
  try clear c9
  try clear c9b0
  try clear c9b1
  try clear c11
  try clear hcz13_0
  try clear hcz13_1
  try clear hcz13_2
  try clear hfz13_0
  try clear hfz13_1
  try clear hfz13_2
  obtain ⟨kq, x30_4, rfl, HA, HJ4, BK117, HB⟩ := hcut
  cases kq with
  | zero => exact absurd HA.out (by simp [impl_MintToken.j0])
  | succ kj4 =>
   have H := HA.out
   clear HA
   simp only [impl_MintToken.j0] at H
   by_cases c15 : x30_4 = true
   ·subst c15
    have H1 : (some ((⟨#[]⟩ : ByteArray), false)) = some (r1, r2) := by rw [if_pos rfl] at H; exact H
    clear H
    have H := H1
    clear H1
    simp only [Option.some.injEq, Prod.mk.injEq] at H
    obtain ⟨rfl, rfl⟩ := H
    go_wp2
    go_ret2
    exact ⟨by first | rfl | (simp [errW_none, errW_some] <;> rfl) | (simp [*, errW_none, errW_some] <;> rfl), by repeat (first | (with_reducible first | exact HB.out | apply below_alloc | apply pw_below_drewN | apply below_drew1 | refine below_set ?_ GE117.out) | exact HB.out)⟩
   ·replace c15 := Bool.eq_false_iff.mpr c15
    subst c15
    have H1 : (if a3_2 = true then (impl_MintToken.j1 kj4 a0 a1 a2 (⟨#[1]⟩ : ByteArray) a3_0 a3_1 a3_2) else (impl_MintToken.j1 kj4 a0 a1 a2 (⟨#[0]⟩ : ByteArray) a3_0 a3_1 a3_2)) = some (r1, r2) := by rw [if_neg (show ¬ (false = true) by decide)] at H; exact H
    clear H
    have H := H1
    clear H1
    have HC16 := Aside0.mk H
    clear H
    obtain ⟨hcz17_0, hcz17_1, hcz17_2⟩ := cz3 BK117
    obtain ⟨hfz17_0, hfz17_1, hfz17_2⟩ := fz3 BK117
    go_upto_if 32 with (fail)
    go_cut [10] (fun v10 wc => ∃ (kq : Nat) (x10_15 : ByteArray), v10 = .string x10_15 ∧ Aside0 (impl_MintToken.j1 kq a0 a1 a2 x10_15 a3_0 a3_1 a3_2 = some (r1, r2)) ∧ Aside0 (kq ≤ kj4) ∧ Aside0 (wc.heap[gb117]? = some (.cells #[.string a3_0, .int .i64 a3_1, .bool a3_2] 27 (0, 0))) ∧ Aside0 (Below w.heap.size w wc))
    case first =>
     have H := HC16.out
     clear HC16
     by_cases c18 : a3_2 = true
     ·subst c18
      have H1 : (impl_MintToken.j1 kj4 a0 a1 a2 (⟨#[1]⟩ : ByteArray) a3_0 a3_1 true) = some (r1, r2) := by rw [if_pos rfl] at H; exact H
      clear H
      have H := H1
      clear H1
      have H' := Aside0.mk H
      clear H
      go_wp2
      go_meet
      case rel => exact ⟨_, ((⟨#[1]⟩ : ByteArray)), (by first | rfl | (simp; done) | (simp [*]; done)), H', ⟨by have := HJ4.out; first | omega | exact Nat.le_refl _⟩, ⟨by (with_reducible repeat (first | refine bN ?_ _ | refine bD ?_ | refine bA ?_ _)); exact BK117.out⟩, ⟨by repeat (first | (with_reducible first | exact HB.out | apply below_alloc | apply pw_below_drewN | apply below_drew1 | refine below_set ?_ GE117.out) | exact HB.out)⟩⟩
     ·replace c18 := Bool.eq_false_iff.mpr c18
      subst c18
      have H1 : (impl_MintToken.j1 kj4 a0 a1 a2 (⟨#[0]⟩ : ByteArray) a3_0 a3_1 false) = some (r1, r2) := by rw [if_neg (show ¬ (false = true) by decide)] at H; exact H
      clear H
      have H := H1
      clear H1
      have H' := Aside0.mk H
      clear H
      go_wp2
      go_meet
      case rel => exact ⟨_, ((⟨#[0]⟩ : ByteArray)), (by first | rfl | (simp; done) | (simp [*]; done)), H', ⟨by have := HJ4.out; first | omega | exact Nat.le_refl _⟩, ⟨by (with_reducible repeat (first | refine bN ?_ _ | refine bD ?_ | refine bA ?_ _)); exact BK117.out⟩, ⟨by repeat (first | (with_reducible first | exact HB.out | apply below_alloc | apply pw_below_drewN | apply below_drew1 | refine below_set ?_ GE117.out) | exact HB.out)⟩⟩
    case rest =>
     clear HC16
     try clear c1
     try clear p2
     try clear c8
     try clear c9
     try clear c9b0
     try clear c9b1
     try clear c11
     try clear c15
     try clear c18
     try clear hcz13_0
     try clear hcz13_1
     try clear hcz13_2
     try clear hcz17_0
     try clear hcz17_1
     try clear hcz17_2
     try clear hfz13_0
     try clear hfz13_1
     try clear hfz13_2
     try clear hfz17_0
     try clear hfz17_1
     try clear hfz17_2
     try clear p2
     obtain ⟨kq, x10_15, rfl, HA, HJ15, BK117, HB⟩ := hcut
     cases kq with
     | zero => exact absurd HA.out (by simp [impl_MintToken.j1])
     | succ kj15 =>
      have H := HA.out
      clear HA
      simp only [impl_MintToken.j1] at H
      by_cases c19 : x10_15.size + a2.size ≤ 9223372036854775807
      ·rw [if_pos c19] at H
       have c19b0 := eq_true c19
       have c19b1 : decide (x10_15.size + a2.size ≤ 9223372036854775807) = true := decide_eq_true c19
       try have c19b2 : (9223372036854775807 < x10_15.size + a2.size) = False := eq_false (Nat.not_lt.2 c19)
       replace H := Option.bind_eq_some_iff.mp H
       obtain ⟨t121, A200, H⟩ := H
       replace H : (if t121.size + a3_0.size ≤ 9223372036854775807 then ((impl_SealText.f a0 a1 (x10_15 ++ a2) (t121 ++ a3_0)).bind fun bt122 => (if x10_15.size + a1.size ≤ 9223372036854775807 then (if (x10_15 ++ a1).size + bt122.1.size ≤ 9223372036854775807 then (some ((x10_15 ++ a1) ++ bt122.1, true)) else (none)) else (none))) else (none)) = some (r1, r2) := H
       have A20 := Aside0.mk A200
       clear A200
       by_cases c21 : t121.size + a3_0.size ≤ 9223372036854775807
       ·rw [if_pos c21] at H
        have c21b0 := eq_true c21
        have c21b1 : decide (t121.size + a3_0.size ≤ 9223372036854775807) = true := decide_eq_true c21
        try have c21b2 : (9223372036854775807 < t121.size + a3_0.size) = False := eq_false (Nat.not_lt.2 c21)
        replace H := Option.bind_eq_some_iff.mp H
        obtain ⟨⟨t122, t123⟩, A220, H⟩ := H
        replace H : (if x10_15.size + a1.size ≤ 9223372036854775807 then (if (x10_15 ++ a1).size + t122.size ≤ 9223372036854775807 then (some ((x10_15 ++ a1) ++ t122, true)) else (none)) else (none)) = some (r1, r2) := H
        have A22 := Aside0.mk A220
        clear A220
        by_cases c23 : x10_15.size + a1.size ≤ 9223372036854775807
        ·rw [if_pos c23] at H
         have c23b0 := eq_true c23
         have c23b1 : decide (x10_15.size + a1.size ≤ 9223372036854775807) = true := decide_eq_true c23
         try have c23b2 : (9223372036854775807 < x10_15.size + a1.size) = False := eq_false (Nat.not_lt.2 c23)
         by_cases c24 : (x10_15 ++ a1).size + t122.size ≤ 9223372036854775807
         ·rw [if_pos c24] at H
          have c24b0 := eq_true c24
          have c24b1 : decide ((x10_15 ++ a1).size + t122.size ≤ 9223372036854775807) = true := decide_eq_true c24
          try have c24b2 : (9223372036854775807 < (x10_15 ++ a1).size + t122.size) = False := eq_false (Nat.not_lt.2 c24)
          try have c24b3 : (9223372036854775807 < _) = False := (by have sz_app := c24b2; simp only [ByteArray.size_append] at sz_app; exact sz_app)
          simp only [Option.some.injEq, Prod.mk.injEq] at H
          obtain ⟨rfl, rfl⟩ := H
          try go_wp2
          have n0_ := Aside0.mk (blk_drew BK117.out)
          have n1_ := Aside0.mk (below_drew1 HB.out)
          clear BK117
          clear HB
          have BK117 := n0_
          have HB := n1_
          clear n0_ n1_
          refine start_ (n := 18) (S := fun w' => w'.cell? ⟨gb117, 0, none⟩ = some (.string a3_0) ∧ w'.cell? ⟨gb117, 1, none⟩ = some (.int .i64 a3_1) ∧ w'.cell? ⟨gb117, 2, none⟩ = some (.bool a3_2)) (ds := []) (bm 18 0) (by kernel_rfl) rfl rfl (cz3 BK117) (fun hHeld => ?_); refine with_tabW impl_MintToken.tab6 impl_MintToken.bits6 (fun HT_ HW_ => ?_)
          generalize wc.drew = w25 at BK117 HB hHeld ⊢
          refine pure_ (i := 0) (N := some 34) (v := ?_) (a' := ?_) (bm 18 1) rfl rfl (any_of HT_.out (by kernel_rfl)) (fun _ _ _ h => h) (Or.inl ⟨by rfl, ?_⟩) ?_ ?_
          rotate_left
          ·intro w'
           go_simp
           with_reducible rfl
          rotate_left
          ·simp only [Act.put, sA, sZ, sS, i64_w, i32_w]
           rfl
          refine pure_ (i := 1) (N := some 35) (v := ?_) (a' := ?_) (bm 18 3) rfl rfl (any_of HT_.out (by kernel_rfl)) (fun _ _ _ h => h) (Or.inl ⟨by rfl, ?_⟩) ?_ ?_
          rotate_left
          ·intro w'
           go_simp
           with_reducible rfl
          rotate_left
          ·simp only [Act.put, sA, sZ, sS, i64_w, i32_w]
           rfl
          refine pure_ (i := 2) (N := some 36) (v := ?_) (a' := ?_) (bm 18 7) rfl rfl (any_of HT_.out (by kernel_rfl)) (fun _ _ _ h => h) (Or.inl ⟨by rfl, ?_⟩) ?_ ?_
          rotate_left
          ·intro w'
           go_simp
           with_reducible rfl
          rotate_left
          ·simp only [Act.put, sA, sZ, sS, i64_w, i32_w]
           rfl
          refine pure_ (i := 3) (N := some 37) (v := ?_) (a' := ?_) (bm 18 15) rfl rfl (any_of HT_.out (by kernel_rfl)) (fun _ _ _ h => h) (Or.inl ⟨by rfl, ?_⟩) ?_ ?_
          rotate_left
          ·intro w'
           go_simp
           with_reducible rfl
          rotate_left
          ·simp only [Act.put, sA, sZ, sS, i64_w, i32_w]
           rfl
          refine pure_ (i := 4) (N := some 38) (v := ?_) (a' := ?_) (bm 18 31) rfl rfl (any_of HT_.out (by kernel_rfl)) (fun _ _ _ h => h) (Or.inl ⟨by rfl, ?_⟩) ?_ ?_
          rotate_left
          ·intro w'
           go_simp
           with_reducible rfl
          rotate_left
          ·simp only [Act.put, sA, sZ, sS, i64_w, i32_w]
           rfl
          refine pure_ (i := 5) (N := some 39) (v := ?_) (a' := ?_) (bm 18 63) rfl rfl (any_of HT_.out (by kernel_rfl)) (fun _ _ _ h => h) (Or.inl ⟨by rfl, ?_⟩) ?_ ?_
          rotate_left
          ·intro w'
           go_simp
           with_reducible rfl
          rotate_left
          ·simp only [Act.put, sA, sZ, sS, i64_w, i32_w]
           rfl
          refine pure_ (i := 9) (N := some 43) (v := ?_) (a' := ?_) (bm 18 575) rfl rfl (any_of HT_.out (by kernel_rfl)) (fun _ _ _ h => h) (Or.inl ⟨by rfl, ?_⟩) ?_ ?_
          rotate_left
          ·intro w'
           go_simp
           with_reducible rfl
          rotate_left
          ·simp only [Act.put, sA, sZ, sS, i64_w, i32_w]
           rfl
          refine take_ (i := 6) (N := some 40) (v := ?_) (a' := ?_) (bm 18 639) rfl rfl (take_ofW HT_.out HW_.out (by kernel_rfl)) (fun _ _ _ h => h) (Or.inl ⟨by rfl, ?_⟩) hHeld ?_ ?_
          rotate_left
          ·rintro w' ⟨s0, s1, s2⟩
           go_simp
           with_reducible rfl
          rotate_left
          ·simp only [Act.put, sA, sZ, sS, i64_w, i32_w]
           rfl
          refine pure_ (i := 7) (N := some 41) (v := ?_) (a' := ?_) (bm 18 767) rfl rfl (any_of HT_.out (by kernel_rfl)) (fun _ _ _ h => h) (Or.inl ⟨by rfl, ?_⟩) ?_ ?_
          rotate_left
          ·intro w'
           go_simp
           with_reducible rfl
          rotate_left
          ·simp only [Act.put, sA, sZ, sS, i64_w, i32_w]
           rfl
          refine take_ (i := 10) (N := some 44) (v := ?_) (a' := ?_) (bm 18 1791) rfl rfl (take_ofW HT_.out HW_.out (by kernel_rfl)) (fun _ _ _ h => h) (Or.inl ⟨by rfl, ?_⟩) hHeld ?_ ?_
          rotate_left
          ·rintro w' ⟨s0, s1, s2⟩
           go_simp
           with_reducible rfl
          rotate_left
          ·simp only [Act.put, sA, sZ, sS, i64_w, i32_w]
           rfl
          refine one_ (i := 8) (N := some 42) (bm 18 2047) rfl rfl (one_of HT_.out (by kernel_rfl)) (by decide) (fun K hK => ?_)
          refine goes_ Try.func22 (by kernel_rfl) rfl #[.int .u64 (IntKind.u64.wrap (a3_1)), .int .i64 8] (by rfl) rfl rfl (by (try simp only [List.map_toArray, List.map_cons, List.map_nil]); first | done | rfl | (simp only [List.length_drop, List.length_take]; rfl)) ?_
          with_reducible refine (impl_bigEndian.calls (IntKind.u64.wrap (a3_1)) 8 t121 _ A20.out).mono ?_
          rintro e w26 ⟨rfl, hb⟩
          refine ⟨_, rfl, ?_⟩
          have n0_ := bX BK117 hb
          have n1_ := bS HB hb
          clear BK117
          clear HB
          have BK117 := n0_
          have HB := n1_
          clear n0_ n1_
          (try clear hb)
          (try clear hb2)
          (try clear hk)
          (try clear hi)
          refine hK.out _ _ (cz3 BK117) (fun hHeld => ?_)
          clear hK K
          refine norm_ (a' := ?_) ?_ ?_
          rotate_left
          ·show Act.put _ (some 42) _ = _
           simp only [Act.put, sA, sZ, sS, i64_w, i32_w]
           rfl
          refine pure_ (i := 11) (N := some 45) (v := ?_) (a' := ?_) (bm 18 4095) rfl rfl (any_of HT_.out (by kernel_rfl)) (fun _ _ _ h => h) (Or.inl ⟨by rfl, ?_⟩) ?_ ?_
          rotate_left
          ·intro w'
           go_simp
           with_reducible rfl
          rotate_left
          ·simp only [Act.put, sA, sZ, sS, i64_w, i32_w]
           rfl
          refine one_ (i := 12) (N := some 46) (bm 18 8191) rfl rfl (one_of HT_.out (by kernel_rfl)) (by decide) (fun K hK => ?_)
          refine goes_ Try.func21 (by kernel_rfl) rfl #[.string a0, .string a1, .string (x10_15 ++ a2), .string (t121 ++ a3_0)] (by rfl) rfl rfl (by (try simp only [List.map_toArray, List.map_cons, List.map_nil]); first | done | rfl | (simp only [List.length_drop, List.length_take]; rfl)) ?_
          with_reducible refine (impl_SealText.calls a0 a1 (x10_15 ++ a2) (t121 ++ a3_0) t122 t123 _ A22.out).mono ?_
          rintro e w27 ⟨rfl, hb⟩
          refine ⟨_, rfl, ?_⟩
          have n0_ := bX BK117 hb
          have n1_ := bS HB hb
          clear BK117
          clear HB
          have BK117 := n0_
          have HB := n1_
          clear n0_ n1_
          (try clear hb)
          (try clear hb2)
          (try clear hk)
          (try clear hi)
          refine hK.out _ _ (cz3 BK117) (fun hHeld => ?_)
          clear hK K
          refine norm_ (a' := ?_) ?_ ?_
          rotate_left
          ·show Act.put _ (some 46) _ = _
           simp only [Act.put, sA, sZ, sS, i64_w, i32_w]
           rfl
          refine pure_ (i := 13) (N := some 33) (v := ?_) (a' := ?_) (bm 18 16383) rfl rfl (any_of HT_.out (by kernel_rfl)) (fun _ _ _ h => h) (Or.inl ⟨by rfl, ?_⟩) ?_ ?_
          rotate_left
          ·intro w'
           go_simp
           with_reducible rfl
          rotate_left
          ·simp only [Act.put, sA, sZ, sS, i64_w, i32_w]
           rfl
          refine pure_ (i := 14) (N := some 47) (v := ?_) (a' := ?_) (bm 18 32767) rfl rfl (any_of HT_.out (by kernel_rfl)) (fun _ _ _ h => h) (Or.inl ⟨by rfl, ?_⟩) ?_ ?_
          rotate_left
          ·intro w'
           go_simp
           with_reducible rfl
          rotate_left
          ·simp only [Act.put, sA, sZ, sS, i64_w, i32_w]
           rfl
          refine pure_ (i := 15) (N := some 48) (v := ?_) (a' := ?_) (bm 18 65535) rfl rfl (any_of HT_.out (by kernel_rfl)) (fun _ _ _ h => h) (Or.inl ⟨by rfl, ?_⟩) ?_ ?_
          rotate_left
          ·intro w'
           go_simp
           with_reducible rfl
          rotate_left
          ·simp only [Act.put, sA, sZ, sS, i64_w, i32_w]
           rfl
          refine pure_ (i := 16) (N := some 11) (v := ?_) (a' := ?_) (bm 18 131071) rfl rfl (any_of HT_.out (by kernel_rfl)) (fun _ _ _ h => h) (Or.inl ⟨by rfl, ?_⟩) ?_ ?_
          rotate_left
          ·intro w'
           go_simp
           with_reducible rfl
          rotate_left
          ·simp only [Act.put, sA, sZ, sS, i64_w, i32_w]
           rfl
          refine pure_ (i := 17) (N := some 12) (v := ?_) (a' := ?_) (bm 18 262143) rfl rfl (any_of HT_.out (by kernel_rfl)) (fun _ _ _ h => h) (Or.inl ⟨by rfl, ?_⟩) ?_ ?_
          rotate_left
          ·intro w'
           go_simp
           with_reducible rfl
          rotate_left
          ·simp only [Act.put, sA, sZ, sS, i64_w, i32_w]
           rfl
          refine done_ (done_of HT_.out (by kernel_rfl)) ?_
          try go_wp2
          go_ret2
          exact ⟨by first | rfl | (simp [errW_none, errW_some] <;> rfl) | (simp [*, errW_none, errW_some] <;> rfl), by repeat (first | (with_reducible first | exact HB.out | apply below_alloc | apply pw_below_drewN | apply below_drew1 | refine below_set ?_ GE117.out) | exact HB.out)⟩
         ·rw [if_neg c24] at H
          exact absurd H (by simp)
        ·rw [if_neg c23] at H
         exact absurd H (by simp)
       ·rw [if_neg c21] at H
        exact absurd H (by simp)
      ·rw [if_neg c19] at H
       exact absurd H (by simp)

/-! ### laws_FnExactMintToken: function 3 -/
def laws_FnExactMintToken.f (k : Nat) (a0 : ByteArray) (a1 : ByteArray) (a2 : ByteArray) (a3_0 : ByteArray) (a3_1 : Int) (a3_2 : Bool) : Option (Bool) := if (a0.size : Int) > 1048576 then (some true) else (if (a1.size : Int) > 1048576 then (some true) else (if (a2.size : Int) > 1048576 then (some true) else ((laws_szMinted.f a3_0 a3_1 a3_2 1048576).bind fun t125 => (if t125 < 0 then (some true) else ((laws_toMinted.f a3_0 a3_1 a3_2).bind fun bt126 => ((spec_MintToken.f k a0 a1 a2 bt126.1 bt126.2.1 bt126.2.2).bind fun bt129 => ((laws_toMinted.f a3_0 a3_1 a3_2).bind fun bt131 => ((impl_MintToken.f k a0 a1 a2 bt131.1 bt131.2.1 bt131.2.2).bind fun bt134 => (if bt134.1.toList = bt129.1.toList then (if (bt134.2 != bt129.2) = true then (some false) else (some true)) else (some false))))))))))
theorem laws_FnExactMintToken.mono : ∀ a0 a1 a2 a3 a4 a5 k, LeO (laws_FnExactMintToken.f k a0 a1 a2 a3 a4 a5) (laws_FnExactMintToken.f (k + 1) a0 a1 a2 a3 a4 a5) := by
 intro a0 a1 a2 a3 a4 a5 k
 unfold laws_FnExactMintToken.f
 repeat' first
   | (with_reducible exact impl_MintToken.mono _ _ _ _ _ _ _)
   | (with_reducible exact spec_MintToken.mono _ _ _ _ _ _ _)
   | (with_reducible exact LeO.refl _)
   | (with_reducible exact LeO.none _)
   | (with_reducible refine LeO.ite ?_ ?_)
   | (with_reducible refine LeO.bind ?_ (fun _ => ?_))
   | exact impl_MintToken.mono _ _ _ _ _ _ _
   | exact spec_MintToken.mono _ _ _ _ _ _ _
   | exact LeO.none _
   | refine LeO.ite ?_ ?_
   | refine LeO.bind ?_ (fun _ => ?_)
set_option maxHeartbeats 64000000 in
set_option maxRecDepth 100000 in
theorem laws_FnExactMintToken.calls (k : Nat) (a0 : ByteArray) (a1 : ByteArray) (a2 : ByteArray) (a3_0 : ByteArray) (a3_1 : Int) (a3_2 : Bool) (r : Bool) (w : World) (h : laws_FnExactMintToken.f k a0 a1 a2 a3_0 a3_1 a3_2 = some r) :
  Calls Try.prog 3 #[.string a0, .string a1, .string a2, .agg #[.string a3_0, .int .i64 a3_1, .bool a3_2]] w fun e w' => e = .returned (.bool r) ∧ Below w.heap.size w w' := by
 have hu23 := Try.underlying23
 have HB := Aside0.mk (Below.refl w.heap.size w)
 have H : (if (a0.size : Int) > 1048576 then (some true) else (if (a1.size : Int) > 1048576 then (some true) else (if (a2.size : Int) > 1048576 then (some true) else ((laws_szMinted.f a3_0 a3_1 a3_2 1048576).bind fun t125 => (if t125 < 0 then (some true) else ((laws_toMinted.f a3_0 a3_1 a3_2).bind fun bt126 => ((spec_MintToken.f k a0 a1 a2 bt126.1 bt126.2.1 bt126.2.2).bind fun bt129 => ((laws_toMinted.f a3_0 a3_1 a3_2).bind fun bt131 => ((impl_MintToken.f k a0 a1 a2 bt131.1 bt131.2.1 bt131.2.2).bind fun bt134 => (if bt134.1.toList = bt129.1.toList then (if (bt134.2 != bt129.2) = true then (some false) else (some true)) else (some false))))))))))) = some r := h
 clear h
 by_cases c5 : (a0.size : Int) > 1048576
 ·rw [if_pos c5] at H
  have c5b0 : decide (1048576 < (a0.size : Int)) = true := decide_eq_true c5
  have c5b1 : decide (1048576 < a0.size) = true := decide_eq_true (by omega)
  clear c5
  obtain rfl := Option.some.inj H
  go_enter Try.func3, Try.ntmps3
  go_wp2_with (first | ((with_reducible refine gate_dst (N := 7) rfl ?_); refine box_event ?hg (N := 7) ?hd (cs := #[.string a3_0, .int .i64 a3_1, .bool a3_2]) (t := 23) ?hr ?_; (case hd => rfl); (case hg => rfl); (case hr => first | (go_simp; done) | (go_simp; rfl)); intro gb124 hg w6 hbox hb; have n0_ := bS HB hb; have n1_ := Aside0.mk (hbox); have n2_ := Aside0.mk ((by rw [hg]; exact (below_size (by repeat (first | (with_reducible first | exact HB.out | apply below_alloc | apply pw_below_drewN | apply below_drew1) | exact HB.out))) : w.heap.size ≤ gb124)); have n3_ := n2_; clear HB; have HB := n0_; have BK124 := n1_; have GW124 := n2_; have GE124 := n3_; clear n0_ n1_ n2_ n3_; clear hb hbox hg))
  go_ret
  exact ⟨by first | rfl | (simp [errW_none, errW_some] <;> rfl) | (simp [*, errW_none, errW_some] <;> rfl), by repeat (first | (with_reducible first | exact HB.out | apply below_alloc | apply pw_below_drewN | apply below_drew1 | refine below_set ?_ GE124.out) | exact HB.out)⟩
 ·rw [if_neg c5] at H
  have c5b0 : decide (1048576 < (a0.size : Int)) = false := decide_eq_false c5
  have c5b1 : decide (1048576 < a0.size) = false := decide_eq_false (by omega)
  clear c5
  by_cases c7 : (a1.size : Int) > 1048576
  ·rw [if_pos c7] at H
   have c7b0 : decide (1048576 < (a1.size : Int)) = true := decide_eq_true c7
   have c7b1 : decide (1048576 < a1.size) = true := decide_eq_true (by omega)
   clear c7
   obtain rfl := Option.some.inj H
   go_enter Try.func3, Try.ntmps3
   go_wp2_with (first | ((with_reducible refine gate_dst (N := 7) rfl ?_); refine box_event ?hg (N := 7) ?hd (cs := #[.string a3_0, .int .i64 a3_1, .bool a3_2]) (t := 23) ?hr ?_; (case hd => rfl); (case hg => rfl); (case hr => first | (go_simp; done) | (go_simp; rfl)); intro gb124 hg w8 hbox hb; have n0_ := bS HB hb; have n1_ := Aside0.mk (hbox); have n2_ := Aside0.mk ((by rw [hg]; exact (below_size (by repeat (first | (with_reducible first | exact HB.out | apply below_alloc | apply pw_below_drewN | apply below_drew1) | exact HB.out))) : w.heap.size ≤ gb124)); have n3_ := n2_; clear HB; have HB := n0_; have BK124 := n1_; have GW124 := n2_; have GE124 := n3_; clear n0_ n1_ n2_ n3_; clear hb hbox hg))
   go_ret
   exact ⟨by first | rfl | (simp [errW_none, errW_some] <;> rfl) | (simp [*, errW_none, errW_some] <;> rfl), by repeat (first | (with_reducible first | exact HB.out | apply below_alloc | apply pw_below_drewN | apply below_drew1 | refine below_set ?_ GE124.out) | exact HB.out)⟩
  ·rw [if_neg c7] at H
   have c7b0 : decide (1048576 < (a1.size : Int)) = false := decide_eq_false c7
   have c7b1 : decide (1048576 < a1.size) = false := decide_eq_false (by omega)
   clear c7
   by_cases c9 : (a2.size : Int) > 1048576
   ·rw [if_pos c9] at H
    have c9b0 : decide (1048576 < (a2.size : Int)) = true := decide_eq_true c9
    have c9b1 : decide (1048576 < a2.size) = true := decide_eq_true (by omega)
    clear c9
    obtain rfl := Option.some.inj H
    go_enter Try.func3, Try.ntmps3
    go_wp2_with (first | ((with_reducible refine gate_dst (N := 7) rfl ?_); refine box_event ?hg (N := 7) ?hd (cs := #[.string a3_0, .int .i64 a3_1, .bool a3_2]) (t := 23) ?hr ?_; (case hd => rfl); (case hg => rfl); (case hr => first | (go_simp; done) | (go_simp; rfl)); intro gb124 hg w10 hbox hb; have n0_ := bS HB hb; have n1_ := Aside0.mk (hbox); have n2_ := Aside0.mk ((by rw [hg]; exact (below_size (by repeat (first | (with_reducible first | exact HB.out | apply below_alloc | apply pw_below_drewN | apply below_drew1) | exact HB.out))) : w.heap.size ≤ gb124)); have n3_ := n2_; clear HB; have HB := n0_; have BK124 := n1_; have GW124 := n2_; have GE124 := n3_; clear n0_ n1_ n2_ n3_; clear hb hbox hg))
    go_ret
    exact ⟨by first | rfl | (simp [errW_none, errW_some] <;> rfl) | (simp [*, errW_none, errW_some] <;> rfl), by repeat (first | (with_reducible first | exact HB.out | apply below_alloc | apply pw_below_drewN | apply below_drew1 | refine below_set ?_ GE124.out) | exact HB.out)⟩
   ·rw [if_neg c9] at H
    have c9b0 : decide (1048576 < (a2.size : Int)) = false := decide_eq_false c9
    have c9b1 : decide (1048576 < a2.size) = false := decide_eq_false (by omega)
    clear c9
    replace H := Option.bind_eq_some_iff.mp H
    obtain ⟨t125, A110, H⟩ := H
    replace H : (if t125 < 0 then (some true) else ((laws_toMinted.f a3_0 a3_1 a3_2).bind fun bt126 => ((spec_MintToken.f k a0 a1 a2 bt126.1 bt126.2.1 bt126.2.2).bind fun bt129 => ((laws_toMinted.f a3_0 a3_1 a3_2).bind fun bt131 => ((impl_MintToken.f k a0 a1 a2 bt131.1 bt131.2.1 bt131.2.2).bind fun bt134 => (if bt134.1.toList = bt129.1.toList then (if (bt134.2 != bt129.2) = true then (some false) else (some true)) else (some false))))))) = some r := H
    have A11 := Aside0.mk A110
    clear A110
    by_cases c12 : t125 < 0
    ·rw [if_pos c12] at H
     have c12b0 : decide (t125 < 0) = true := decide_eq_true c12
     clear c12
     obtain rfl := Option.some.inj H
     go_enter Try.func3, Try.ntmps3
     go_wp2_with (first | ((with_reducible refine gate_dst (N := 7) rfl ?_); refine box_event ?hg (N := 7) ?hd (cs := #[.string a3_0, .int .i64 a3_1, .bool a3_2]) (t := 23) ?hr ?_; (case hd => rfl); (case hg => rfl); (case hr => first | (go_simp; done) | (go_simp; rfl)); intro gb124 hg w13 hbox hb; have n0_ := bS HB hb; have n1_ := Aside0.mk (hbox); have n2_ := Aside0.mk ((by rw [hg]; exact (below_size (by repeat (first | (with_reducible first | exact HB.out | apply below_alloc | apply pw_below_drewN | apply below_drew1) | exact HB.out))) : w.heap.size ≤ gb124)); have n3_ := n2_; clear HB; have HB := n0_; have BK124 := n1_; have GW124 := n2_; have GE124 := n3_; clear n0_ n1_ n2_ n3_; clear hb hbox hg; obtain ⟨hcz14_0, hcz14_1, hcz14_2⟩ := cz3 BK124; obtain ⟨hfz14_0, hfz14_1, hfz14_2⟩ := fz3 BK124) | ((with_reducible refine gate_callee (f := 5) rfl ?_); refine goesL_ (some 25) rfl rfl Try.func5 (by kernel_rfl) rfl #[.agg #[.string a3_0, .int .i64 a3_1, .bool a3_2], .int .i64 1048576] rfl (by (try simp only [List.map_toArray, List.map_cons, List.map_nil]); first | done | rfl | (simp only [List.length_drop, List.length_take]; rfl)) ?_; (with_reducible refine (laws_szMinted.calls a3_0 a3_1 a3_2 1048576 t125 _ A11.out).mono ?_); rintro e w15 ⟨rfl, hb⟩; refine ⟨_, rfl, ?_⟩; have n0_ := bX BK124 hb; have n1_ := bS HB hb; clear BK124; clear HB; have BK124 := n0_; have HB := n1_; clear n0_ n1_; (try clear hb); (try clear hb2); (try clear hk); (try clear hi)))
     go_ret
     exact ⟨by first | rfl | (simp [errW_none, errW_some] <;> rfl) | (simp [*, errW_none, errW_some] <;> rfl), by repeat (first | (with_reducible first | exact HB.out | apply below_alloc | apply pw_below_drewN | apply below_drew1 | refine below_set ?_ GE124.out) | exact HB.out)⟩
    ·rw [if_neg c12] at H
     have c12b0 : decide (t125 < 0) = false := decide_eq_false c12
     clear c12
     replace H := Option.bind_eq_some_iff.mp H
     obtain ⟨⟨t126, t127, t128⟩, A160, H⟩ := H
     replace H : ((spec_MintToken.f k a0 a1 a2 t126 t127 t128).bind fun bt129 => ((laws_toMinted.f a3_0 a3_1 a3_2).bind fun bt131 => ((impl_MintToken.f k a0 a1 a2 bt131.1 bt131.2.1 bt131.2.2).bind fun bt134 => (if bt134.1.toList = bt129.1.toList then (if (bt134.2 != bt129.2) = true then (some false) else (some true)) else (some false))))) = some r := H
     have A16 := Aside0.mk A160
     clear A160
     replace H := Option.bind_eq_some_iff.mp H
     obtain ⟨⟨t129, t130⟩, A170, H⟩ := H
     replace H : ((laws_toMinted.f a3_0 a3_1 a3_2).bind fun bt131 => ((impl_MintToken.f k a0 a1 a2 bt131.1 bt131.2.1 bt131.2.2).bind fun bt134 => (if bt134.1.toList = t129.toList then (if (bt134.2 != t130) = true then (some false) else (some true)) else (some false)))) = some r := H
     have A17 := Aside0.mk A170
     clear A170
     replace H := Option.bind_eq_some_iff.mp H
     obtain ⟨⟨t131, t132, t133⟩, A180, H⟩ := H
     replace H : ((impl_MintToken.f k a0 a1 a2 t131 t132 t133).bind fun bt134 => (if bt134.1.toList = t129.toList then (if (bt134.2 != t130) = true then (some false) else (some true)) else (some false))) = some r := H
     have A18 := Aside0.mk A180
     clear A180
     replace H := Option.bind_eq_some_iff.mp H
     obtain ⟨⟨t134, t135⟩, A190, H⟩ := H
     replace H : (if t134.toList = t129.toList then (if (t135 != t130) = true then (some false) else (some true)) else (some false)) = some r := H
     have A19 := Aside0.mk A190
     clear A190
     by_cases c20 : t134.toList = t129.toList
     ·rw [if_pos c20] at H
      have c20b0 : (t134.toList == t129.toList) = true := beq_iff_eq.mpr c20
      have c20b1 : (t134.toList != t129.toList) = false := bne_eq_false_iff_eq.mpr c20
      clear c20
      by_cases c21 : (t135 != t130) = true
      ·rw [if_pos c21] at H
       have c21b0 : (t135 != t130) = true := c21
       (try (have c21b1 : decide (t135 = t130) = false := by simpa using c21))
       (try (have c21b2 : (t135 == t130) = false := by simpa using c21))
       (try (have c21b3 : ¬ (t135 = t130) := by simpa using c21))
       clear c21
       obtain rfl := Option.some.inj H
       go_enter Try.func3, Try.ntmps3
       go_wp2_with (first | ((with_reducible refine gate_dst (N := 7) rfl ?_); refine box_event ?hg (N := 7) ?hd (cs := #[.string a3_0, .int .i64 a3_1, .bool a3_2]) (t := 23) ?hr ?_; (case hd => rfl); (case hg => rfl); (case hr => first | (go_simp; done) | (go_simp; rfl)); intro gb124 hg w22 hbox hb; have n0_ := bS HB hb; have n1_ := Aside0.mk (hbox); have n2_ := Aside0.mk ((by rw [hg]; exact (below_size (by repeat (first | (with_reducible first | exact HB.out | apply below_alloc | apply pw_below_drewN | apply below_drew1) | exact HB.out))) : w.heap.size ≤ gb124)); have n3_ := n2_; clear HB; have HB := n0_; have BK124 := n1_; have GW124 := n2_; have GE124 := n3_; clear n0_ n1_ n2_ n3_; clear hb hbox hg; obtain ⟨hcz23_0, hcz23_1, hcz23_2⟩ := cz3 BK124; obtain ⟨hfz23_0, hfz23_1, hfz23_2⟩ := fz3 BK124) | ((with_reducible refine gate_callee (f := 5) rfl ?_); refine goesL_ (some 25) rfl rfl Try.func5 (by kernel_rfl) rfl #[.agg #[.string a3_0, .int .i64 a3_1, .bool a3_2], .int .i64 1048576] rfl (by (try simp only [List.map_toArray, List.map_cons, List.map_nil]); first | done | rfl | (simp only [List.length_drop, List.length_take]; rfl)) ?_; (with_reducible refine (laws_szMinted.calls a3_0 a3_1 a3_2 1048576 t125 _ A11.out).mono ?_); rintro e w24 ⟨rfl, hb⟩; refine ⟨_, rfl, ?_⟩; have n0_ := bX BK124 hb; have n1_ := bS HB hb; clear BK124; clear HB; have BK124 := n0_; have HB := n1_; clear n0_ n1_; (try clear hb); (try clear hb2); (try clear hk); (try clear hi); obtain ⟨hcz25_0, hcz25_1, hcz25_2⟩ := cz3 BK124; obtain ⟨hfz25_0, hfz25_1, hfz25_2⟩ := fz3 BK124) | ((with_reducible refine gate_callee (f := 7) rfl ?_); refine goesL_ (some 33) rfl rfl Try.func7 (by kernel_rfl) rfl #[.agg #[.string a3_0, .int .i64 a3_1, .bool a3_2]] rfl (by (try simp only [List.map_toArray, List.map_cons, List.map_nil]); first | done | rfl | (simp only [List.length_drop, List.length_take]; rfl)) ?_; (with_reducible refine (laws_toMinted.calls a3_0 a3_1 a3_2 t126 t127 t128 _ A16.out).mono ?_); rintro e w26 ⟨rfl, hb⟩; refine ⟨_, rfl, ?_⟩; have n0_ := bX BK124 hb; have n1_ := bS HB hb; clear BK124; clear HB; have BK124 := n0_; have HB := n1_; clear n0_ n1_; (try clear hb); (try clear hb2); (try clear hk); (try clear hi)) | ((with_reducible refine gate_callee (f := 6) rfl ?_); refine goesL_ (some 34) rfl rfl Try.func6 (by kernel_rfl) rfl #[.string a0, .string a1, .string a2, .agg #[.string t126, .int .i64 t127, .bool t128]] rfl (by (try simp only [List.map_toArray, List.map_cons, List.map_nil]); first | done | rfl | (simp only [List.length_drop, List.length_take]; rfl)) ?_; (with_reducible refine (spec_MintToken.calls k a0 a1 a2 t126 t127 t128 t129 t130 _ A17.out).mono ?_); rintro e w27 ⟨rfl, hb⟩; refine ⟨_, rfl, ?_⟩; have n0_ := bX BK124 hb; have n1_ := bS HB hb; clear BK124; clear HB; have BK124 := n0_; have HB := n1_; clear n0_ n1_; (try clear hb); (try clear hb2); (try clear hk); (try clear hi); obtain ⟨hcz28_0, hcz28_1, hcz28_2⟩ := cz3 BK124; obtain ⟨hfz28_0, hfz28_1, hfz28_2⟩ := fz3 BK124) | ((with_reducible refine gate_callee (f := 7) rfl ?_); refine goesL_ (some 42) rfl rfl Try.func7 (by kernel_rfl) rfl #[.agg #[.string a3_0, .int .i64 a3_1, .bool a3_2]] rfl (by (try simp only [List.map_toArray, List.map_cons, List.map_nil]); first | done | rfl | (simp only [List.length_drop, List.length_take]; rfl)) ?_; (with_reducible refine (laws_toMinted.calls a3_0 a3_1 a3_2 t131 t132 t133 _ A18.out).mono ?_); rintro e w29 ⟨rfl, hb⟩; refine ⟨_, rfl, ?_⟩; have n0_ := bX BK124 hb; have n1_ := bS HB hb; clear BK124; clear HB; have BK124 := n0_; have HB := n1_; clear n0_ n1_; (try clear hb); (try clear hb2); (try clear hk); (try clear hi)) | ((with_reducible refine gate_callee (f := 8) rfl ?_); refine goesL_ (some 43) rfl rfl Try.func8 (by kernel_rfl) rfl #[.string a0, .string a1, .string a2, .agg #[.string t131, .int .i64 t132, .bool t133]] rfl (by (try simp only [List.map_toArray, List.map_cons, List.map_nil]); first | done | rfl | (simp only [List.length_drop, List.length_take]; rfl)) ?_; (with_reducible refine (impl_MintToken.calls k a0 a1 a2 t131 t132 t133 t134 t135 _ A19.out).mono ?_); rintro e w30 ⟨rfl, hb⟩; refine ⟨_, rfl, ?_⟩; have n0_ := bX BK124 hb; have n1_ := bS HB hb; clear BK124; clear HB; have BK124 := n0_; have HB := n1_; clear n0_ n1_; (try clear hb); (try clear hb2); (try clear hk); (try clear hi)))
       go_ret
       exact ⟨by first | rfl | (simp [errW_none, errW_some] <;> rfl) | (simp [*, errW_none, errW_some] <;> rfl), by repeat (first | (with_reducible first | exact HB.out | apply below_alloc | apply pw_below_drewN | apply below_drew1 | refine below_set ?_ GE124.out) | exact HB.out)⟩
      ·rw [if_neg c21] at H
       have c21b0 : (t135 != t130) = false := by simpa using c21
       (try (have c21b1 : decide (t135 = t130) = true := by simpa using c21))
       (try (have c21b2 : (t135 == t130) = true := by simpa using c21))
       clear c21
       obtain rfl := Option.some.inj H
       go_enter Try.func3, Try.ntmps3
       go_wp2_with (first | ((with_reducible refine gate_dst (N := 7) rfl ?_); refine box_event ?hg (N := 7) ?hd (cs := #[.string a3_0, .int .i64 a3_1, .bool a3_2]) (t := 23) ?hr ?_; (case hd => rfl); (case hg => rfl); (case hr => first | (go_simp; done) | (go_simp; rfl)); intro gb124 hg w31 hbox hb; have n0_ := bS HB hb; have n1_ := Aside0.mk (hbox); have n2_ := Aside0.mk ((by rw [hg]; exact (below_size (by repeat (first | (with_reducible first | exact HB.out | apply below_alloc | apply pw_below_drewN | apply below_drew1) | exact HB.out))) : w.heap.size ≤ gb124)); have n3_ := n2_; clear HB; have HB := n0_; have BK124 := n1_; have GW124 := n2_; have GE124 := n3_; clear n0_ n1_ n2_ n3_; clear hb hbox hg; obtain ⟨hcz32_0, hcz32_1, hcz32_2⟩ := cz3 BK124; obtain ⟨hfz32_0, hfz32_1, hfz32_2⟩ := fz3 BK124) | ((with_reducible refine gate_callee (f := 5) rfl ?_); refine goesL_ (some 25) rfl rfl Try.func5 (by kernel_rfl) rfl #[.agg #[.string a3_0, .int .i64 a3_1, .bool a3_2], .int .i64 1048576] rfl (by (try simp only [List.map_toArray, List.map_cons, List.map_nil]); first | done | rfl | (simp only [List.length_drop, List.length_take]; rfl)) ?_; (with_reducible refine (laws_szMinted.calls a3_0 a3_1 a3_2 1048576 t125 _ A11.out).mono ?_); rintro e w33 ⟨rfl, hb⟩; refine ⟨_, rfl, ?_⟩; have n0_ := bX BK124 hb; have n1_ := bS HB hb; clear BK124; clear HB; have BK124 := n0_; have HB := n1_; clear n0_ n1_; (try clear hb); (try clear hb2); (try clear hk); (try clear hi); obtain ⟨hcz34_0, hcz34_1, hcz34_2⟩ := cz3 BK124; obtain ⟨hfz34_0, hfz34_1, hfz34_2⟩ := fz3 BK124) | ((with_reducible refine gate_callee (f := 7) rfl ?_); refine goesL_ (some 33) rfl rfl Try.func7 (by kernel_rfl) rfl #[.agg #[.string a3_0, .int .i64 a3_1, .bool a3_2]] rfl (by (try simp only [List.map_toArray, List.map_cons, List.map_nil]); first | done | rfl | (simp only [List.length_drop, List.length_take]; rfl)) ?_; (with_reducible refine (laws_toMinted.calls a3_0 a3_1 a3_2 t126 t127 t128 _ A16.out).mono ?_); rintro e w35 ⟨rfl, hb⟩; refine ⟨_, rfl, ?_⟩; have n0_ := bX BK124 hb; have n1_ := bS HB hb; clear BK124; clear HB; have BK124 := n0_; have HB := n1_; clear n0_ n1_; (try clear hb); (try clear hb2); (try clear hk); (try clear hi)) | ((with_reducible refine gate_callee (f := 6) rfl ?_); refine goesL_ (some 34) rfl rfl Try.func6 (by kernel_rfl) rfl #[.string a0, .string a1, .string a2, .agg #[.string t126, .int .i64 t127, .bool t128]] rfl (by (try simp only [List.map_toArray, List.map_cons, List.map_nil]); first | done | rfl | (simp only [List.length_drop, List.length_take]; rfl)) ?_; (with_reducible refine (spec_MintToken.calls k a0 a1 a2 t126 t127 t128 t129 t130 _ A17.out).mono ?_); rintro e w36 ⟨rfl, hb⟩; refine ⟨_, rfl, ?_⟩; have n0_ := bX BK124 hb; have n1_ := bS HB hb; clear BK124; clear HB; have BK124 := n0_; have HB := n1_; clear n0_ n1_; (try clear hb); (try clear hb2); (try clear hk); (try clear hi); obtain ⟨hcz37_0, hcz37_1, hcz37_2⟩ := cz3 BK124; obtain ⟨hfz37_0, hfz37_1, hfz37_2⟩ := fz3 BK124) | ((with_reducible refine gate_callee (f := 7) rfl ?_); refine goesL_ (some 42) rfl rfl Try.func7 (by kernel_rfl) rfl #[.agg #[.string a3_0, .int .i64 a3_1, .bool a3_2]] rfl (by (try simp only [List.map_toArray, List.map_cons, List.map_nil]); first | done | rfl | (simp only [List.length_drop, List.length_take]; rfl)) ?_; (with_reducible refine (laws_toMinted.calls a3_0 a3_1 a3_2 t131 t132 t133 _ A18.out).mono ?_); rintro e w38 ⟨rfl, hb⟩; refine ⟨_, rfl, ?_⟩; have n0_ := bX BK124 hb; have n1_ := bS HB hb; clear BK124; clear HB; have BK124 := n0_; have HB := n1_; clear n0_ n1_; (try clear hb); (try clear hb2); (try clear hk); (try clear hi)) | ((with_reducible refine gate_callee (f := 8) rfl ?_); refine goesL_ (some 43) rfl rfl Try.func8 (by kernel_rfl) rfl #[.string a0, .string a1, .string a2, .agg #[.string t131, .int .i64 t132, .bool t133]] rfl (by (try simp only [List.map_toArray, List.map_cons, List.map_nil]); first | done | rfl | (simp only [List.length_drop, List.length_take]; rfl)) ?_; (with_reducible refine (impl_MintToken.calls k a0 a1 a2 t131 t132 t133 t134 t135 _ A19.out).mono ?_); rintro e w39 ⟨rfl, hb⟩; refine ⟨_, rfl, ?_⟩; have n0_ := bX BK124 hb; have n1_ := bS HB hb; clear BK124; clear HB; have BK124 := n0_; have HB := n1_; clear n0_ n1_; (try clear hb); (try clear hb2); (try clear hk); (try clear hi)))
       go_ret
       exact ⟨by first | rfl | (simp [errW_none, errW_some] <;> rfl) | (simp [*, errW_none, errW_some] <;> rfl), by repeat (first | (with_reducible first | exact HB.out | apply below_alloc | apply pw_below_drewN | apply below_drew1 | refine below_set ?_ GE124.out) | exact HB.out)⟩
     ·rw [if_neg c20] at H
      have c20b0 : (t134.toList == t129.toList) = false := beq_eq_false_iff_ne.mpr c20
      have c20b1 : (t134.toList != t129.toList) = true := bne_iff_ne.mpr c20
      obtain rfl := Option.some.inj H
      go_enter Try.func3, Try.ntmps3
      go_wp2_with (first | ((with_reducible refine gate_dst (N := 7) rfl ?_); refine box_event ?hg (N := 7) ?hd (cs := #[.string a3_0, .int .i64 a3_1, .bool a3_2]) (t := 23) ?hr ?_; (case hd => rfl); (case hg => rfl); (case hr => first | (go_simp; done) | (go_simp; rfl)); intro gb124 hg w40 hbox hb; have n0_ := bS HB hb; have n1_ := Aside0.mk (hbox); have n2_ := Aside0.mk ((by rw [hg]; exact (below_size (by repeat (first | (with_reducible first | exact HB.out | apply below_alloc | apply pw_below_drewN | apply below_drew1) | exact HB.out))) : w.heap.size ≤ gb124)); have n3_ := n2_; clear HB; have HB := n0_; have BK124 := n1_; have GW124 := n2_; have GE124 := n3_; clear n0_ n1_ n2_ n3_; clear hb hbox hg; obtain ⟨hcz41_0, hcz41_1, hcz41_2⟩ := cz3 BK124; obtain ⟨hfz41_0, hfz41_1, hfz41_2⟩ := fz3 BK124) | ((with_reducible refine gate_callee (f := 5) rfl ?_); refine goesL_ (some 25) rfl rfl Try.func5 (by kernel_rfl) rfl #[.agg #[.string a3_0, .int .i64 a3_1, .bool a3_2], .int .i64 1048576] rfl (by (try simp only [List.map_toArray, List.map_cons, List.map_nil]); first | done | rfl | (simp only [List.length_drop, List.length_take]; rfl)) ?_; (with_reducible refine (laws_szMinted.calls a3_0 a3_1 a3_2 1048576 t125 _ A11.out).mono ?_); rintro e w42 ⟨rfl, hb⟩; refine ⟨_, rfl, ?_⟩; have n0_ := bX BK124 hb; have n1_ := bS HB hb; clear BK124; clear HB; have BK124 := n0_; have HB := n1_; clear n0_ n1_; (try clear hb); (try clear hb2); (try clear hk); (try clear hi); obtain ⟨hcz43_0, hcz43_1, hcz43_2⟩ := cz3 BK124; obtain ⟨hfz43_0, hfz43_1, hfz43_2⟩ := fz3 BK124) | ((with_reducible refine gate_callee (f := 7) rfl ?_); refine goesL_ (some 33) rfl rfl Try.func7 (by kernel_rfl) rfl #[.agg #[.string a3_0, .int .i64 a3_1, .bool a3_2]] rfl (by (try simp only [List.map_toArray, List.map_cons, List.map_nil]); first | done | rfl | (simp only [List.length_drop, List.length_take]; rfl)) ?_; (with_reducible refine (laws_toMinted.calls a3_0 a3_1 a3_2 t126 t127 t128 _ A16.out).mono ?_); rintro e w44 ⟨rfl, hb⟩; refine ⟨_, rfl, ?_⟩; have n0_ := bX BK124 hb; have n1_ := bS HB hb; clear BK124; clear HB; have BK124 := n0_; have HB := n1_; clear n0_ n1_; (try clear hb); (try clear hb2); (try clear hk); (try clear hi)) | ((with_reducible refine gate_callee (f := 6) rfl ?_); refine goesL_ (some 34) rfl rfl Try.func6 (by kernel_rfl) rfl #[.string a0, .string a1, .string a2, .agg #[.string t126, .int .i64 t127, .bool t128]] rfl (by (try simp only [List.map_toArray, List.map_cons, List.map_nil]); first | done | rfl | (simp only [List.length_drop, List.length_take]; rfl)) ?_; (with_reducible refine (spec_MintToken.calls k a0 a1 a2 t126 t127 t128 t129 t130 _ A17.out).mono ?_); rintro e w45 ⟨rfl, hb⟩; refine ⟨_, rfl, ?_⟩; have n0_ := bX BK124 hb; have n1_ := bS HB hb; clear BK124; clear HB; have BK124 := n0_; have HB := n1_; clear n0_ n1_; (try clear hb); (try clear hb2); (try clear hk); (try clear hi); obtain ⟨hcz46_0, hcz46_1, hcz46_2⟩ := cz3 BK124; obtain ⟨hfz46_0, hfz46_1, hfz46_2⟩ := fz3 BK124) | ((with_reducible refine gate_callee (f := 7) rfl ?_); refine goesL_ (some 42) rfl rfl Try.func7 (by kernel_rfl) rfl #[.agg #[.string a3_0, .int .i64 a3_1, .bool a3_2]] rfl (by (try simp only [List.map_toArray, List.map_cons, List.map_nil]); first | done | rfl | (simp only [List.length_drop, List.length_take]; rfl)) ?_; (with_reducible refine (laws_toMinted.calls a3_0 a3_1 a3_2 t131 t132 t133 _ A18.out).mono ?_); rintro e w47 ⟨rfl, hb⟩; refine ⟨_, rfl, ?_⟩; have n0_ := bX BK124 hb; have n1_ := bS HB hb; clear BK124; clear HB; have BK124 := n0_; have HB := n1_; clear n0_ n1_; (try clear hb); (try clear hb2); (try clear hk); (try clear hi)) | ((with_reducible refine gate_callee (f := 8) rfl ?_); refine goesL_ (some 43) rfl rfl Try.func8 (by kernel_rfl) rfl #[.string a0, .string a1, .string a2, .agg #[.string t131, .int .i64 t132, .bool t133]] rfl (by (try simp only [List.map_toArray, List.map_cons, List.map_nil]); first | done | rfl | (simp only [List.length_drop, List.length_take]; rfl)) ?_; (with_reducible refine (impl_MintToken.calls k a0 a1 a2 t131 t132 t133 t134 t135 _ A19.out).mono ?_); rintro e w48 ⟨rfl, hb⟩; refine ⟨_, rfl, ?_⟩; have n0_ := bX BK124 hb; have n1_ := bS HB hb; clear BK124; clear HB; have BK124 := n0_; have HB := n1_; clear n0_ n1_; (try clear hb); (try clear hb2); (try clear hk); (try clear hi)))
      go_ret
      exact ⟨by first | rfl | (simp [errW_none, errW_some] <;> rfl) | (simp [*, errW_none, errW_some] <;> rfl), by repeat (first | (with_reducible first | exact HB.out | apply below_alloc | apply pw_below_drewN | apply below_drew1 | refine below_set ?_ GE124.out) | exact HB.out)⟩

end Go.Proofs.Ytkcdhphhacjkhaa.PFnExactMintToken
