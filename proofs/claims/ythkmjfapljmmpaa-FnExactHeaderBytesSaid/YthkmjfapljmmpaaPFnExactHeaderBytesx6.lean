-- Written by a program of this session (wip/xprint.py).
import Derived.Test.YthkmjfapljmmpaaPFnExactHeaderBytesx0
import Derived.Test.YthkmjfapljmmpaaPFnExactHeaderBytesx5
namespace Go.Proofs.Ythkmjfapljmmpaa.PFnExactHeaderBytes
open Go.RowKit Go.Proofs.YthkmjfapljmmpaaW.PrintWords Go.Proofs.YthkmjfapljmmpaaW.PrintLast Go.Proofs.YthkmjfapljmmpaaW.PrintMore
open Go.Proofs.Ythkmjfapljmmpaa.ShortK (bN bD bA sA sZ sS cz2 fz2 cz3 fz3 cz4 fz4 cz5 fz5 cz6 fz6 cz7 fz7 cz8 fz8 cz9 fz9 cz10 fz10 cz11 fz11 cz12 fz12)
attribute [local go_sem] Go.Proofs.Ythkmjfapljmmpaa.StoreK.isSome_setCell max2_int min2_int max_two min_two max_three min_three max_four min_four   -- for this text's walks alone
set_option linter.unusedVariables false
set_option linter.unusedSimpArgs false

/-! ### impl_GoodHeader: function 133 -/
mutual
def impl_GoodHeader.j0 : Nat → Bool → Int → Int → Int → ByteArray → ByteArray → ByteArray → ByteArray → List Int → Option (Bool)
 | 0, _, _, _, _, _, _, _, _, _ => none
 | k + 1, x31, x151000, x151001, x151002, x151003, x151004, x151005, x151006, x151007 => if x31 = true then (some false) else (if x151000 = 0 then (if x151000 = 4 then (impl_GoodHeader.j1 k false x151000 x151001 x151002 x151003 x151004 x151005 x151006 x151007) else (impl_GoodHeader.j1 k (decide ((x151007.length : Int) > 0)) x151000 x151001 x151002 x151003 x151004 x151005 x151006 x151007)) else (if x151005.toList = ([] : List UInt8) then (if x151000 = 4 then (impl_GoodHeader.j1 k false x151000 x151001 x151002 x151003 x151004 x151005 x151006 x151007) else (impl_GoodHeader.j1 k (decide ((x151007.length : Int) > 0)) x151000 x151001 x151002 x151003 x151004 x151005 x151006 x151007)) else (impl_GoodHeader.j1 k true x151000 x151001 x151002 x151003 x151004 x151005 x151006 x151007)))
def impl_GoodHeader.j1 : Nat → Bool → Int → Int → Int → ByteArray → ByteArray → ByteArray → ByteArray → List Int → Option (Bool)
 | 0, _, _, _, _, _, _, _, _, _ => none
 | k + 1, x50, x151000, x151001, x151002, x151003, x151004, x151005, x151006, x151007 => if x50 = true then (some false) else ((impl_long.f x151000).bind fun t152 => (if t152 = true then ((impl_isVersion.f x151002).bind fun t153 => (if t153 = true then (some (x151006.toList != ([] : List UInt8))) else (some false))) else (if x151000 = 4 then ((slices_ContainsFunc_int_int_185.f x151007).bind fun t154 => (if x151002 = 0 then (if x151006.toList = ([] : List UInt8) then ((impl_in.f (x151007.length : Int) 1 20).bind fun t155 => (if t155 = true then (some (!t154)) else (some false))) else (some false)) else (some false))) else (if x151000 = 5 then (if x151002 = 0 then (some (x151004.toList == ([] : List UInt8))) else (some false)) else (some false)))))
end
def impl_GoodHeader.f (k : Nat) (a0_0 : Int) (a0_1 : Int) (a0_2 : Int) (a0_3 : ByteArray) (a0_4 : ByteArray) (a0_5 : ByteArray) (a0_6 : ByteArray) (l0_7 : List Int) : Option (Bool) := if (a0_3.size : Int) > 20 then (impl_GoodHeader.j0 k true a0_0 a0_1 a0_2 a0_3 a0_4 a0_5 a0_6 l0_7) else (if (a0_4.size : Int) > 20 then (impl_GoodHeader.j0 k true a0_0 a0_1 a0_2 a0_3 a0_4 a0_5 a0_6 l0_7) else ((impl_in.f a0_1 0 15).bind fun t151 => (if t151 = true then (if (a0_5.size : Int) > 200 then (impl_GoodHeader.j0 k true a0_0 a0_1 a0_2 a0_3 a0_4 a0_5 a0_6 l0_7) else (impl_GoodHeader.j0 k (decide ((a0_6.size : Int) > 1200)) a0_0 a0_1 a0_2 a0_3 a0_4 a0_5 a0_6 l0_7)) else (impl_GoodHeader.j0 k true a0_0 a0_1 a0_2 a0_3 a0_4 a0_5 a0_6 l0_7))))
theorem impl_GoodHeader.mono_l : ∀ k, (∀ y0 y1 y2 y3 y4 y5 y6 y7 y8, LeO (impl_GoodHeader.j0 k y0 y1 y2 y3 y4 y5 y6 y7 y8) (impl_GoodHeader.j0 (k + 1) y0 y1 y2 y3 y4 y5 y6 y7 y8)) ∧ (∀ y0 y1 y2 y3 y4 y5 y6 y7 y8, LeO (impl_GoodHeader.j1 k y0 y1 y2 y3 y4 y5 y6 y7 y8) (impl_GoodHeader.j1 (k + 1) y0 y1 y2 y3 y4 y5 y6 y7 y8))
 | 0 => ⟨fun _ _ _ _ _ _ _ _ _ r h => by simp [impl_GoodHeader.j0] at h, fun _ _ _ _ _ _ _ _ _ r h => by simp [impl_GoodHeader.j1] at h⟩
 | k + 1 => by
  obtain ⟨ih0, ih1⟩ := impl_GoodHeader.mono_l k
  refine ⟨?_, ?_⟩
  ·intro y0 y1 y2 y3 y4 y5 y6 y7 y8
   unfold impl_GoodHeader.j0
   repeat' first
   | (with_reducible exact ih0 _ _ _ _ _ _ _ _ _)
   | (with_reducible exact ih1 _ _ _ _ _ _ _ _ _)
   | (with_reducible exact LeO.refl _)
   | (with_reducible exact LeO.none _)
   | (with_reducible refine LeO.ite ?_ ?_)
   | (with_reducible refine LeO.bind ?_ (fun _ => ?_))
   | exact ih0 _ _ _ _ _ _ _ _ _
   | exact ih1 _ _ _ _ _ _ _ _ _
   | exact LeO.none _
   | refine LeO.ite ?_ ?_
   | refine LeO.bind ?_ (fun _ => ?_)
  ·intro y0 y1 y2 y3 y4 y5 y6 y7 y8
   unfold impl_GoodHeader.j1
   repeat' first
   | (with_reducible exact ih0 _ _ _ _ _ _ _ _ _)
   | (with_reducible exact ih1 _ _ _ _ _ _ _ _ _)
   | (with_reducible exact LeO.refl _)
   | (with_reducible exact LeO.none _)
   | (with_reducible refine LeO.ite ?_ ?_)
   | (with_reducible refine LeO.bind ?_ (fun _ => ?_))
   | exact ih0 _ _ _ _ _ _ _ _ _
   | exact ih1 _ _ _ _ _ _ _ _ _
   | exact LeO.none _
   | refine LeO.ite ?_ ?_
   | refine LeO.bind ?_ (fun _ => ?_)
theorem impl_GoodHeader.mono : ∀ a0 a1 a2 a3 a4 a5 a6 a7 k, LeO (impl_GoodHeader.f k a0 a1 a2 a3 a4 a5 a6 a7) (impl_GoodHeader.f (k + 1) a0 a1 a2 a3 a4 a5 a6 a7) := by
 intro a0 a1 a2 a3 a4 a5 a6 a7 k
 obtain ⟨ih0, ih1⟩ := impl_GoodHeader.mono_l k
 unfold impl_GoodHeader.f
 repeat' first
   | (with_reducible exact ih0 _ _ _ _ _ _ _ _ _)
   | (with_reducible exact ih1 _ _ _ _ _ _ _ _ _)
   | (with_reducible exact LeO.refl _)
   | (with_reducible exact LeO.none _)
   | (with_reducible refine LeO.ite ?_ ?_)
   | (with_reducible refine LeO.bind ?_ (fun _ => ?_))
   | exact ih0 _ _ _ _ _ _ _ _ _
   | exact ih1 _ _ _ _ _ _ _ _ _
   | exact LeO.none _
   | refine LeO.ite ?_ ?_
   | refine LeO.bind ?_ (fun _ => ?_)
set_option maxHeartbeats 64000000 in
set_option maxRecDepth 100000 in
theorem impl_GoodHeader.calls (k : Nat) (a0_0 : Int) (a0_1 : Int) (a0_2 : Int) (a0_3 : ByteArray) (a0_4 : ByteArray) (a0_5 : ByteArray) (a0_6 : ByteArray) (A0_7 : Option Addr) (c0_7 : Nat) (l0_7 : List Int) (r : Bool) (w : World) (hr0_7 : Kd.C (Kd.int .i64) w A0_7 l0_7.length l0_7) (hc0_7 : l0_7.length ≤ c0_7) (h : impl_GoodHeader.f k a0_0 a0_1 a0_2 a0_3 a0_4 a0_5 a0_6 l0_7 = some r) :
  Calls Try.prog 133 #[.agg #[.int .i64 a0_0, .int .i64 a0_1, .int .i64 a0_2, .string a0_3, .string a0_4, .string a0_5, .string a0_6, .slice A0_7 l0_7.length c0_7]] w fun e w' => e = .returned (.bool r) ∧ Below w.heap.size w w' := by
 have hu95 := Try.underlying95
 have HR0_7 := Aside0.mk hr0_7
 have HC0_7 := Aside0.mk hc0_7
 clear hr0_7 hc0_7
 have HB := Aside0.mk (Below.refl w.heap.size w)
 have H : (if (a0_3.size : Int) > 20 then (impl_GoodHeader.j0 k true a0_0 a0_1 a0_2 a0_3 a0_4 a0_5 a0_6 l0_7) else (if (a0_4.size : Int) > 20 then (impl_GoodHeader.j0 k true a0_0 a0_1 a0_2 a0_3 a0_4 a0_5 a0_6 l0_7) else ((impl_in.f a0_1 0 15).bind fun t151 => (if t151 = true then (if (a0_5.size : Int) > 200 then (impl_GoodHeader.j0 k true a0_0 a0_1 a0_2 a0_3 a0_4 a0_5 a0_6 l0_7) else (impl_GoodHeader.j0 k (decide ((a0_6.size : Int) > 1200)) a0_0 a0_1 a0_2 a0_3 a0_4 a0_5 a0_6 l0_7)) else (impl_GoodHeader.j0 k true a0_0 a0_1 a0_2 a0_3 a0_4 a0_5 a0_6 l0_7))))) = some r := h
 clear h
 have HC2 := Aside0.mk H
 clear H
 go_enter Try.func133, Try.ntmps133
 go_upto_region 1 with (first | ((with_reducible refine gate_dst (N := 1) rfl ?_); (try (refine gate_guard (by rfl) ?_; dsimp only)); refine box_event ?hg (N := 1) ?hd (cs := #[.int .i64 a0_0, .int .i64 a0_1, .int .i64 a0_2, .string a0_3, .string a0_4, .string a0_5, .string a0_6, .slice A0_7 l0_7.length c0_7]) (t := 95) ?hr ?_; (case hd => rfl); (case hg => rfl); (case hr => first | (go_simp; done) | (go_simp; rfl)); intro gb150 hg w3 hbox hb; have n0_ := Aside0.mk (below_step (by repeat (first | (with_reducible first | exact HB.out | apply below_alloc | apply pw_below_drewN | apply below_drew1) | exact HB.out)) hb); have n1_ := Aside0.mk (hbox); have n2_ := Aside0.mk ((by rw [hg]; exact (below_size (by repeat (first | (with_reducible first | exact HB.out | apply below_alloc | apply pw_below_drewN | apply below_drew1) | exact HB.out))) : w.heap.size ≤ gb150)); have n3_ := n2_; clear HB; have HB := n0_; have BK150 := n1_; have GW150 := n2_; have GE150 := n3_; clear n0_ n1_ n2_ n3_; clear hb hbox hg))
 (try simp only [Act.put, sA, sZ, sS])
 go_cut [31] (fun v31 wc => ∃ (kq : Nat) (x31_1 : Bool), v31 = .bool x31_1 ∧ Aside0 (impl_GoodHeader.j0 kq x31_1 a0_0 a0_1 a0_2 a0_3 a0_4 a0_5 a0_6 l0_7 = some r) ∧ Aside0 (kq ≤ k) ∧ Aside0 (wc.heap[gb150]? = some (.cells #[.int .i64 a0_0, .int .i64 a0_1, .int .i64 a0_2, .string a0_3, .string a0_4, .string a0_5, .string a0_6, (.slice A0_7 l0_7.length c0_7)] 95 (0, 0))) ∧ Aside0 (Below w.heap.size w wc))
 case first =>
  have H := HC2.out
  clear HC2
  by_cases c4 : (a0_3.size : Int) > 20
  ·rw [if_pos c4] at H
   have c4b0 : decide (20 < (a0_3.size : Int)) = true := decide_eq_true c4
   have c4b1 : decide (20 < a0_3.size) = true := decide_eq_true (by omega)
   clear c4
   (first | rw [c4b0] | (simp only [i64_w, i32_w]; rw [c4b0]) | skip)
   have H' := Aside0.mk H
   clear H
   obtain ⟨hcz5_0, hcz5_1, hcz5_2, hcz5_3, hcz5_4, hcz5_5, hcz5_6, hcz5_7⟩ := cz8 BK150
   obtain ⟨hfz5_0, hfz5_1, hfz5_2, hfz5_3, hfz5_4, hfz5_5, hfz5_6, hfz5_7⟩ := fz8 BK150
   go_wp2
   go_meet
   case rel => exact ⟨_, (true), (by first | rfl | (simp; done) | (simp [*]; done)), H', ⟨by first | omega | exact Nat.le_refl _⟩, ⟨by (with_reducible repeat (first | refine bN ?_ _ | refine bD ?_ | refine bA ?_ _)); exact BK150.out⟩, ⟨by repeat (first | (with_reducible first | exact HB.out | apply below_alloc | apply pw_below_drewN | apply below_drew1 | refine below_set ?_ GE150.out) | exact HB.out)⟩⟩
  ·rw [if_neg c4] at H
   have c4b0 : decide (20 < (a0_3.size : Int)) = false := decide_eq_false c4
   have c4b1 : decide (20 < a0_3.size) = false := decide_eq_false (by omega)
   clear c4
   (first | rw [c4b0] | (simp only [i64_w, i32_w]; rw [c4b0]) | skip)
   by_cases c6 : (a0_4.size : Int) > 20
   ·rw [if_pos c6] at H
    have c6b0 : decide (20 < (a0_4.size : Int)) = true := decide_eq_true c6
    have c6b1 : decide (20 < a0_4.size) = true := decide_eq_true (by omega)
    clear c6
    have H' := Aside0.mk H
    clear H
    obtain ⟨hcz7_0, hcz7_1, hcz7_2, hcz7_3, hcz7_4, hcz7_5, hcz7_6, hcz7_7⟩ := cz8 BK150
    obtain ⟨hfz7_0, hfz7_1, hfz7_2, hfz7_3, hfz7_4, hfz7_5, hfz7_6, hfz7_7⟩ := fz8 BK150
    go_wp2
    go_meet
    case rel => exact ⟨_, (true), (by first | rfl | (simp; done) | (simp [*]; done)), H', ⟨by first | omega | exact Nat.le_refl _⟩, ⟨by (with_reducible repeat (first | refine bN ?_ _ | refine bD ?_ | refine bA ?_ _)); exact BK150.out⟩, ⟨by repeat (first | (with_reducible first | exact HB.out | apply below_alloc | apply pw_below_drewN | apply below_drew1 | refine below_set ?_ GE150.out) | exact HB.out)⟩⟩
   ·rw [if_neg c6] at H
    have c6b0 : decide (20 < (a0_4.size : Int)) = false := decide_eq_false c6
    have c6b1 : decide (20 < a0_4.size) = false := decide_eq_false (by omega)
    clear c6
    replace H := Option.bind_eq_some_iff.mp H
    obtain ⟨t151, A80, H⟩ := H
    replace H : (if t151 = true then (if (a0_5.size : Int) > 200 then (impl_GoodHeader.j0 k true a0_0 a0_1 a0_2 a0_3 a0_4 a0_5 a0_6 l0_7) else (impl_GoodHeader.j0 k (decide ((a0_6.size : Int) > 1200)) a0_0 a0_1 a0_2 a0_3 a0_4 a0_5 a0_6 l0_7)) else (impl_GoodHeader.j0 k true a0_0 a0_1 a0_2 a0_3 a0_4 a0_5 a0_6 l0_7)) = some r := H
    have A8 := Aside0.mk A80
    clear A80
    by_cases c9 : t151 = true
    ·subst c9
     have H1 : (if (a0_5.size : Int) > 200 then (impl_GoodHeader.j0 k true a0_0 a0_1 a0_2 a0_3 a0_4 a0_5 a0_6 l0_7) else (impl_GoodHeader.j0 k (decide ((a0_6.size : Int) > 1200)) a0_0 a0_1 a0_2 a0_3 a0_4 a0_5 a0_6 l0_7)) = some r := by rw [if_pos rfl] at H; exact H
     clear H
     have H := H1
     clear H1
     by_cases c10 : (a0_5.size : Int) > 200
     ·rw [if_pos c10] at H
      have c10b0 : decide (200 < (a0_5.size : Int)) = true := decide_eq_true c10
      have c10b1 : decide (200 < a0_5.size) = true := decide_eq_true (by omega)
      clear c10
      have H' := Aside0.mk H
      clear H
      obtain ⟨hcz11_0, hcz11_1, hcz11_2, hcz11_3, hcz11_4, hcz11_5, hcz11_6, hcz11_7⟩ := cz8 BK150
      obtain ⟨hfz11_0, hfz11_1, hfz11_2, hfz11_3, hfz11_4, hfz11_5, hfz11_6, hfz11_7⟩ := fz8 BK150
      go_wp2_with (first | (go_at_call 80; (with_reducible refine (impl_in.calls a0_1 0 15 true _ A8.out).mono ?_); rintro e w' ⟨rfl, ⟨nd, rfl⟩⟩))
      go_meet
      case rel => exact ⟨_, (true), (by first | rfl | (simp; done) | (simp [*]; done)), H', ⟨by first | omega | exact Nat.le_refl _⟩, ⟨by (with_reducible repeat (first | refine bN ?_ _ | refine bD ?_ | refine bA ?_ _)); exact BK150.out⟩, ⟨by repeat (first | (with_reducible first | exact HB.out | apply below_alloc | apply pw_below_drewN | apply below_drew1 | refine below_set ?_ GE150.out) | exact HB.out)⟩⟩
     ·rw [if_neg c10] at H
      have c10b0 : decide (200 < (a0_5.size : Int)) = false := decide_eq_false c10
      have c10b1 : decide (200 < a0_5.size) = false := decide_eq_false (by omega)
      clear c10
      have H' := Aside0.mk H
      clear H
      obtain ⟨hcz12_0, hcz12_1, hcz12_2, hcz12_3, hcz12_4, hcz12_5, hcz12_6, hcz12_7⟩ := cz8 BK150
      obtain ⟨hfz12_0, hfz12_1, hfz12_2, hfz12_3, hfz12_4, hfz12_5, hfz12_6, hfz12_7⟩ := fz8 BK150
      go_wp2_with (first | (go_at_call 80; (with_reducible refine (impl_in.calls a0_1 0 15 true _ A8.out).mono ?_); rintro e w' ⟨rfl, ⟨nd, rfl⟩⟩))
      go_meet
      case rel => exact ⟨_, (decide ((a0_6.size : Int) > 1200)), (by first | rfl | (simp; done) | (simp [*]; done)), H', ⟨by first | omega | exact Nat.le_refl _⟩, ⟨by (with_reducible repeat (first | refine bN ?_ _ | refine bD ?_ | refine bA ?_ _)); exact BK150.out⟩, ⟨by repeat (first | (with_reducible first | exact HB.out | apply below_alloc | apply pw_below_drewN | apply below_drew1 | refine below_set ?_ GE150.out) | exact HB.out)⟩⟩
    ·replace c9 := Bool.eq_false_iff.mpr c9
     subst c9
     have H1 : (impl_GoodHeader.j0 k true a0_0 a0_1 a0_2 a0_3 a0_4 a0_5 a0_6 l0_7) = some r := by rw [if_neg (show ¬ (false = true) by decide)] at H; exact H
     clear H
     have H := H1
     clear H1
     have H' := Aside0.mk H
     clear H
     obtain ⟨hcz13_0, hcz13_1, hcz13_2, hcz13_3, hcz13_4, hcz13_5, hcz13_6, hcz13_7⟩ := cz8 BK150
     obtain ⟨hfz13_0, hfz13_1, hfz13_2, hfz13_3, hfz13_4, hfz13_5, hfz13_6, hfz13_7⟩ := fz8 BK150
     go_wp2_with (first | (go_at_call 80; (with_reducible refine (impl_in.calls a0_1 0 15 false _ A8.out).mono ?_); rintro e w' ⟨rfl, ⟨nd, rfl⟩⟩))
     go_meet
     case rel => exact ⟨_, (true), (by first | rfl | (simp; done) | (simp [*]; done)), H', ⟨by first | omega | exact Nat.le_refl _⟩, ⟨by (with_reducible repeat (first | refine bN ?_ _ | refine bD ?_ | refine bA ?_ _)); exact BK150.out⟩, ⟨by repeat (first | (with_reducible first | exact HB.out | apply below_alloc | apply pw_below_drewN | apply below_drew1 | refine below_set ?_ GE150.out) | exact HB.out)⟩⟩
 case rest =>
  clear HC2
  try clear c1
  try clear p2
  try clear c4
  try clear c4b0
  try clear c4b1
  try clear c6
  try clear c6b0
  try clear c6b1
  try clear c9
  try clear c10
  try clear c10b0
  try clear c10b1
  try clear c13
  try clear hcz11_0
  try clear hcz11_1
  try clear hcz11_2
  try clear hcz11_3
  try clear hcz11_4
  try clear hcz11_5
  try clear hcz11_6
  try clear hcz11_7
  try clear hcz12_0
  try clear hcz12_1
  try clear hcz12_2
  try clear hcz12_3
  try clear hcz12_4
  try clear hcz12_5
  try clear hcz12_6
  try clear hcz12_7
  try clear hcz13_0
  try clear hcz13_1
  try clear hcz13_2
  try clear hcz13_3
  try clear hcz13_4
  try clear hcz13_5
  try clear hcz13_6
  try clear hcz13_7
  try clear hcz5_0
  try clear hcz5_1
  try clear hcz5_2
  try clear hcz5_3
  try clear hcz5_4
  try clear hcz5_5
  try clear hcz5_6
  try clear hcz5_7
  try clear hcz7_0
  try clear hcz7_1
  try clear hcz7_2
  try clear hcz7_3
  try clear hcz7_4
  try clear hcz7_5
  try clear hcz7_6
  try clear hcz7_7
  try clear hfz11_0
  try clear hfz11_1
  try clear hfz11_2
  try clear hfz11_3
  try clear hfz11_4
  try clear hfz11_5
  try clear hfz11_6
  try clear hfz11_7
  try clear hfz12_0
  try clear hfz12_1
  try clear hfz12_2
  try clear hfz12_3
  try clear hfz12_4
  try clear hfz12_5
  try clear hfz12_6
  try clear hfz12_7
  try clear hfz13_0
  try clear hfz13_1
  try clear hfz13_2
  try clear hfz13_3
  try clear hfz13_4
  try clear hfz13_5
  try clear hfz13_6
  try clear hfz13_7
  try clear hfz5_0
  try clear hfz5_1
  try clear hfz5_2
  try clear hfz5_3
  try clear hfz5_4
  try clear hfz5_5
  try clear hfz5_6
  try clear hfz5_7
  try clear hfz7_0
  try clear hfz7_1
  try clear hfz7_2
  try clear hfz7_3
  try clear hfz7_4
  try clear hfz7_5
  try clear hfz7_6
  try clear hfz7_7
  obtain ⟨kq, x31_1, rfl, HA, HJ1, BK150, HB⟩ := hcut
  cases kq with
  | zero => exact absurd HA.out (by simp [impl_GoodHeader.j0])
  | succ kj1 =>
   have H := HA.out
   clear HA
   simp only [impl_GoodHeader.j0] at H
   by_cases c14 : x31_1 = true
   ·subst c14
    have H1 : (some false) = some r := by rw [if_pos rfl] at H; exact H
    clear H
    have H := H1
    clear H1
    obtain rfl := Option.some.inj H
    go_wp2
    go_ret
    exact ⟨by first | rfl | (simp only [Go.Proofs.Ythkmjfapljmmpaa.StoreK.ne_nil_b]; first | done | rfl | (simp; done)) | (simp [errW_none, errW_some] <;> rfl) | (simp [*, errW_none, errW_some] <;> rfl), by repeat (first | (with_reducible first | exact HB.out | apply below_alloc | apply pw_below_drewN | apply below_drew1 | refine below_set ?_ GE150.out) | exact HB.out)⟩
   ·replace c14 := Bool.eq_false_iff.mpr c14
    subst c14
    have H1 : (if a0_0 = 0 then (if a0_0 = 4 then (impl_GoodHeader.j1 kj1 false a0_0 a0_1 a0_2 a0_3 a0_4 a0_5 a0_6 l0_7) else (impl_GoodHeader.j1 kj1 (decide ((l0_7.length : Int) > 0)) a0_0 a0_1 a0_2 a0_3 a0_4 a0_5 a0_6 l0_7)) else (if a0_5.toList = ([] : List UInt8) then (if a0_0 = 4 then (impl_GoodHeader.j1 kj1 false a0_0 a0_1 a0_2 a0_3 a0_4 a0_5 a0_6 l0_7) else (impl_GoodHeader.j1 kj1 (decide ((l0_7.length : Int) > 0)) a0_0 a0_1 a0_2 a0_3 a0_4 a0_5 a0_6 l0_7)) else (impl_GoodHeader.j1 kj1 true a0_0 a0_1 a0_2 a0_3 a0_4 a0_5 a0_6 l0_7))) = some r := by rw [if_neg (show ¬ (false = true) by decide)] at H; exact H
    clear H
    have H := H1
    clear H1
    have HC15 := Aside0.mk H
    clear H
    go_upto_region 3 with (fail)
    go_cut [50] (fun v50 wc => ∃ (kq : Nat) (x50_14 : Bool), v50 = .bool x50_14 ∧ Aside0 (impl_GoodHeader.j1 kq x50_14 a0_0 a0_1 a0_2 a0_3 a0_4 a0_5 a0_6 l0_7 = some r) ∧ Aside0 (kq ≤ kj1) ∧ Aside0 (wc.heap[gb150]? = some (.cells #[.int .i64 a0_0, .int .i64 a0_1, .int .i64 a0_2, .string a0_3, .string a0_4, .string a0_5, .string a0_6, (.slice A0_7 l0_7.length c0_7)] 95 (0, 0))) ∧ Aside0 (Below w.heap.size w wc))
    case first =>
     have H := HC15.out
     clear HC15
     by_cases c16 : a0_0 = 0
     ·rw [if_pos c16] at H
      have c16b0 : (a0_0 == 0) = true := beq_iff_eq.mpr c16
      have c16b1 : (a0_0 != 0) = false := bne_eq_false_iff_eq.mpr c16
      clear c16
      (first | rw [c16b0] | (simp only [i64_w, i32_w]; rw [c16b0]) | skip)
      by_cases c17 : a0_0 = 4
      ·rw [if_pos c17] at H
       have c17b0 : (a0_0 == 4) = true := beq_iff_eq.mpr c17
       have c17b1 : (a0_0 != 4) = false := bne_eq_false_iff_eq.mpr c17
       clear c17
       have H' := Aside0.mk H
       clear H
       obtain ⟨hcz18_0, hcz18_1, hcz18_2, hcz18_3, hcz18_4, hcz18_5, hcz18_6, hcz18_7⟩ := cz8 BK150
       obtain ⟨hfz18_0, hfz18_1, hfz18_2, hfz18_3, hfz18_4, hfz18_5, hfz18_6, hfz18_7⟩ := fz8 BK150
       go_wp2
       go_meet
       case rel => exact ⟨_, (false), (by first | rfl | (simp; done) | (simp [*]; done)), H', ⟨by have := HJ1.out; first | omega | exact Nat.le_refl _⟩, ⟨by (with_reducible repeat (first | refine bN ?_ _ | refine bD ?_ | refine bA ?_ _)); exact BK150.out⟩, ⟨by repeat (first | (with_reducible first | exact HB.out | apply below_alloc | apply pw_below_drewN | apply below_drew1 | refine below_set ?_ GE150.out) | exact HB.out)⟩⟩
      ·rw [if_neg c17] at H
       have c17b0 : (a0_0 == 4) = false := beq_eq_false_iff_ne.mpr c17
       have c17b1 : (a0_0 != 4) = true := bne_iff_ne.mpr c17
       have H' := Aside0.mk H
       clear H
       obtain ⟨hcz19_0, hcz19_1, hcz19_2, hcz19_3, hcz19_4, hcz19_5, hcz19_6, hcz19_7⟩ := cz8 BK150
       obtain ⟨hfz19_0, hfz19_1, hfz19_2, hfz19_3, hfz19_4, hfz19_5, hfz19_6, hfz19_7⟩ := fz8 BK150
       go_wp2
       go_meet
       case rel => exact ⟨_, (decide ((l0_7.length : Int) > 0)), (by first | rfl | (simp; done) | (simp [*]; done)), H', ⟨by have := HJ1.out; first | omega | exact Nat.le_refl _⟩, ⟨by (with_reducible repeat (first | refine bN ?_ _ | refine bD ?_ | refine bA ?_ _)); exact BK150.out⟩, ⟨by repeat (first | (with_reducible first | exact HB.out | apply below_alloc | apply pw_below_drewN | apply below_drew1 | refine below_set ?_ GE150.out) | exact HB.out)⟩⟩
     ·rw [if_neg c16] at H
      have c16b0 : (a0_0 == 0) = false := beq_eq_false_iff_ne.mpr c16
      have c16b1 : (a0_0 != 0) = true := bne_iff_ne.mpr c16
      (first | rw [c16b0] | (simp only [i64_w, i32_w]; rw [c16b0]) | skip)
      by_cases c20 : a0_5.toList = ([] : List UInt8)
      ·rw [if_pos c20] at H
       have c20b0 : (a0_5.toList == ([] : List UInt8)) = true := beq_iff_eq.mpr c20
       have c20b1 : (a0_5.toList != ([] : List UInt8)) = false := bne_eq_false_iff_eq.mpr c20
       clear c20
       by_cases c21 : a0_0 = 4
       ·rw [if_pos c21] at H
        have c21b0 : (a0_0 == 4) = true := beq_iff_eq.mpr c21
        have c21b1 : (a0_0 != 4) = false := bne_eq_false_iff_eq.mpr c21
        clear c21
        have H' := Aside0.mk H
        clear H
        obtain ⟨hcz22_0, hcz22_1, hcz22_2, hcz22_3, hcz22_4, hcz22_5, hcz22_6, hcz22_7⟩ := cz8 BK150
        obtain ⟨hfz22_0, hfz22_1, hfz22_2, hfz22_3, hfz22_4, hfz22_5, hfz22_6, hfz22_7⟩ := fz8 BK150
        go_wp2
        go_meet
        case rel => exact ⟨_, (false), (by first | rfl | (simp; done) | (simp [*]; done)), H', ⟨by have := HJ1.out; first | omega | exact Nat.le_refl _⟩, ⟨by (with_reducible repeat (first | refine bN ?_ _ | refine bD ?_ | refine bA ?_ _)); exact BK150.out⟩, ⟨by repeat (first | (with_reducible first | exact HB.out | apply below_alloc | apply pw_below_drewN | apply below_drew1 | refine below_set ?_ GE150.out) | exact HB.out)⟩⟩
       ·rw [if_neg c21] at H
        have c21b0 : (a0_0 == 4) = false := beq_eq_false_iff_ne.mpr c21
        have c21b1 : (a0_0 != 4) = true := bne_iff_ne.mpr c21
        have H' := Aside0.mk H
        clear H
        obtain ⟨hcz23_0, hcz23_1, hcz23_2, hcz23_3, hcz23_4, hcz23_5, hcz23_6, hcz23_7⟩ := cz8 BK150
        obtain ⟨hfz23_0, hfz23_1, hfz23_2, hfz23_3, hfz23_4, hfz23_5, hfz23_6, hfz23_7⟩ := fz8 BK150
        go_wp2
        go_meet
        case rel => exact ⟨_, (decide ((l0_7.length : Int) > 0)), (by first | rfl | (simp; done) | (simp [*]; done)), H', ⟨by have := HJ1.out; first | omega | exact Nat.le_refl _⟩, ⟨by (with_reducible repeat (first | refine bN ?_ _ | refine bD ?_ | refine bA ?_ _)); exact BK150.out⟩, ⟨by repeat (first | (with_reducible first | exact HB.out | apply below_alloc | apply pw_below_drewN | apply below_drew1 | refine below_set ?_ GE150.out) | exact HB.out)⟩⟩
      ·rw [if_neg c20] at H
       have c20b0 : (a0_5.toList == ([] : List UInt8)) = false := beq_eq_false_iff_ne.mpr c20
       have c20b1 : (a0_5.toList != ([] : List UInt8)) = true := bne_iff_ne.mpr c20
       have H' := Aside0.mk H
       clear H
       obtain ⟨hcz24_0, hcz24_1, hcz24_2, hcz24_3, hcz24_4, hcz24_5, hcz24_6, hcz24_7⟩ := cz8 BK150
       obtain ⟨hfz24_0, hfz24_1, hfz24_2, hfz24_3, hfz24_4, hfz24_5, hfz24_6, hfz24_7⟩ := fz8 BK150
       go_wp2
       go_meet
       case rel => exact ⟨_, (true), (by first | rfl | (simp; done) | (simp [*]; done)), H', ⟨by have := HJ1.out; first | omega | exact Nat.le_refl _⟩, ⟨by (with_reducible repeat (first | refine bN ?_ _ | refine bD ?_ | refine bA ?_ _)); exact BK150.out⟩, ⟨by repeat (first | (with_reducible first | exact HB.out | apply below_alloc | apply pw_below_drewN | apply below_drew1 | refine below_set ?_ GE150.out) | exact HB.out)⟩⟩
    case rest =>
     clear HC15
     try clear c1
     try clear c2
     try clear p2
     try clear c4
     try clear c4b0
     try clear c4b1
     try clear c6
     try clear c6b0
     try clear c6b1
     try clear c9
     try clear c10
     try clear c10b0
     try clear c10b1
     try clear c13
     try clear c14
     try clear c16
     try clear c16b0
     try clear c16b1
     try clear c17
     try clear c17b0
     try clear c17b1
     try clear c20
     try clear c20b0
     try clear c20b1
     try clear c21
     try clear c21b0
     try clear c21b1
     try clear hcz11_0
     try clear hcz11_1
     try clear hcz11_2
     try clear hcz11_3
     try clear hcz11_4
     try clear hcz11_5
     try clear hcz11_6
     try clear hcz11_7
     try clear hcz12_0
     try clear hcz12_1
     try clear hcz12_2
     try clear hcz12_3
     try clear hcz12_4
     try clear hcz12_5
     try clear hcz12_6
     try clear hcz12_7
     try clear hcz13_0
     try clear hcz13_1
     try clear hcz13_2
     try clear hcz13_3
     try clear hcz13_4
     try clear hcz13_5
     try clear hcz13_6
     try clear hcz13_7
     try clear hcz18_0
     try clear hcz18_1
     try clear hcz18_2
     try clear hcz18_3
     try clear hcz18_4
     try clear hcz18_5
     try clear hcz18_6
     try clear hcz18_7
     try clear hcz19_0
     try clear hcz19_1
     try clear hcz19_2
     try clear hcz19_3
     try clear hcz19_4
     try clear hcz19_5
     try clear hcz19_6
     try clear hcz19_7
     try clear hcz22_0
     try clear hcz22_1
     try clear hcz22_2
     try clear hcz22_3
     try clear hcz22_4
     try clear hcz22_5
     try clear hcz22_6
     try clear hcz22_7
     try clear hcz23_0
     try clear hcz23_1
     try clear hcz23_2
     try clear hcz23_3
     try clear hcz23_4
     try clear hcz23_5
     try clear hcz23_6
     try clear hcz23_7
     try clear hcz24_0
     try clear hcz24_1
     try clear hcz24_2
     try clear hcz24_3
     try clear hcz24_4
     try clear hcz24_5
     try clear hcz24_6
     try clear hcz24_7
     try clear hcz5_0
     try clear hcz5_1
     try clear hcz5_2
     try clear hcz5_3
     try clear hcz5_4
     try clear hcz5_5
     try clear hcz5_6
     try clear hcz5_7
     try clear hcz7_0
     try clear hcz7_1
     try clear hcz7_2
     try clear hcz7_3
     try clear hcz7_4
     try clear hcz7_5
     try clear hcz7_6
     try clear hcz7_7
     try clear hfz11_0
     try clear hfz11_1
     try clear hfz11_2
     try clear hfz11_3
     try clear hfz11_4
     try clear hfz11_5
     try clear hfz11_6
     try clear hfz11_7
     try clear hfz12_0
     try clear hfz12_1
     try clear hfz12_2
     try clear hfz12_3
     try clear hfz12_4
     try clear hfz12_5
     try clear hfz12_6
     try clear hfz12_7
     try clear hfz13_0
     try clear hfz13_1
     try clear hfz13_2
     try clear hfz13_3
     try clear hfz13_4
     try clear hfz13_5
     try clear hfz13_6
     try clear hfz13_7
     try clear hfz18_0
     try clear hfz18_1
     try clear hfz18_2
     try clear hfz18_3
     try clear hfz18_4
     try clear hfz18_5
     try clear hfz18_6
     try clear hfz18_7
     try clear hfz19_0
     try clear hfz19_1
     try clear hfz19_2
     try clear hfz19_3
     try clear hfz19_4
     try clear hfz19_5
     try clear hfz19_6
     try clear hfz19_7
     try clear hfz22_0
     try clear hfz22_1
     try clear hfz22_2
     try clear hfz22_3
     try clear hfz22_4
     try clear hfz22_5
     try clear hfz22_6
     try clear hfz22_7
     try clear hfz23_0
     try clear hfz23_1
     try clear hfz23_2
     try clear hfz23_3
     try clear hfz23_4
     try clear hfz23_5
     try clear hfz23_6
     try clear hfz23_7
     try clear hfz24_0
     try clear hfz24_1
     try clear hfz24_2
     try clear hfz24_3
     try clear hfz24_4
     try clear hfz24_5
     try clear hfz24_6
     try clear hfz24_7
     try clear hfz5_0
     try clear hfz5_1
     try clear hfz5_2
     try clear hfz5_3
     try clear hfz5_4
     try clear hfz5_5
     try clear hfz5_6
     try clear hfz5_7
     try clear hfz7_0
     try clear hfz7_1
     try clear hfz7_2
     try clear hfz7_3
     try clear hfz7_4
     try clear hfz7_5
     try clear hfz7_6
     try clear hfz7_7
     try clear p2
     obtain ⟨kq, x50_14, rfl, HA, HJ14, BK150, HB⟩ := hcut
     cases kq with
     | zero => exact absurd HA.out (by simp [impl_GoodHeader.j1])
     | succ kj14 =>
      have H := HA.out
      clear HA
      simp only [impl_GoodHeader.j1] at H
      by_cases c25 : x50_14 = true
      ·subst c25
       have H1 : (some false) = some r := by rw [if_pos rfl] at H; exact H
       clear H
       have H := H1
       clear H1
       obtain rfl := Option.some.inj H
       go_wp2
       go_ret
       exact ⟨by first | rfl | (simp only [Go.Proofs.Ythkmjfapljmmpaa.StoreK.ne_nil_b]; first | done | rfl | (simp; done)) | (simp [errW_none, errW_some] <;> rfl) | (simp [*, errW_none, errW_some] <;> rfl), by repeat (first | (with_reducible first | exact HB.out | apply below_alloc | apply pw_below_drewN | apply below_drew1 | refine below_set ?_ GE150.out) | exact HB.out)⟩
      ·replace c25 := Bool.eq_false_iff.mpr c25
       subst c25
       have H1 : ((impl_long.f a0_0).bind fun t152 => (if t152 = true then ((impl_isVersion.f a0_2).bind fun t153 => (if t153 = true then (some (a0_6.toList != ([] : List UInt8))) else (some false))) else (if a0_0 = 4 then ((slices_ContainsFunc_int_int_185.f l0_7).bind fun t154 => (if a0_2 = 0 then (if a0_6.toList = ([] : List UInt8) then ((impl_in.f (l0_7.length : Int) 1 20).bind fun t155 => (if t155 = true then (some (!t154)) else (some false))) else (some false)) else (some false))) else (if a0_0 = 5 then (if a0_2 = 0 then (some (a0_4.toList == ([] : List UInt8))) else (some false)) else (some false))))) = some r := by rw [if_neg (show ¬ (false = true) by decide)] at H; exact H
       clear H
       have H := H1
       clear H1
       replace H := Option.bind_eq_some_iff.mp H
       obtain ⟨t152, A260, H⟩ := H
       replace H : (if t152 = true then ((impl_isVersion.f a0_2).bind fun t153 => (if t153 = true then (some (a0_6.toList != ([] : List UInt8))) else (some false))) else (if a0_0 = 4 then ((slices_ContainsFunc_int_int_185.f l0_7).bind fun t154 => (if a0_2 = 0 then (if a0_6.toList = ([] : List UInt8) then ((impl_in.f (l0_7.length : Int) 1 20).bind fun t155 => (if t155 = true then (some (!t154)) else (some false))) else (some false)) else (some false))) else (if a0_0 = 5 then (if a0_2 = 0 then (some (a0_4.toList == ([] : List UInt8))) else (some false)) else (some false)))) = some r := H
       have A26 := Aside0.mk A260
       clear A260
       by_cases c27 : t152 = true
       ·subst c27
        have H1 : ((impl_isVersion.f a0_2).bind fun t153 => (if t153 = true then (some (a0_6.toList != ([] : List UInt8))) else (some false))) = some r := by rw [if_pos rfl] at H; exact H
        clear H
        have H := H1
        clear H1
        replace H := Option.bind_eq_some_iff.mp H
        obtain ⟨t153, A280, H⟩ := H
        replace H : (if t153 = true then (some (a0_6.toList != ([] : List UInt8))) else (some false)) = some r := H
        have A28 := Aside0.mk A280
        clear A280
        by_cases c29 : t153 = true
        ·subst c29
         have H1 : (some (a0_6.toList != ([] : List UInt8))) = some r := by rw [if_pos rfl] at H; exact H
         clear H
         have H := H1
         clear H1
         obtain rfl := Option.some.inj H
         obtain ⟨hcz30_0, hcz30_1, hcz30_2, hcz30_3, hcz30_4, hcz30_5, hcz30_6, hcz30_7⟩ := cz8 BK150
         obtain ⟨hfz30_0, hfz30_1, hfz30_2, hfz30_3, hfz30_4, hfz30_5, hfz30_6, hfz30_7⟩ := fz8 BK150
         go_wp2_with (first | ((with_reducible refine gate_callee (f := 182) rfl ?_); refine goesL_ (some 54) rfl rfl Try.func182 (by kernel_rfl) rfl #[.int .i64 a0_0] rfl (by (try simp only [List.map_toArray, List.map_cons, List.map_nil]); first | done | rfl | (simp only [List.length_drop, List.length_take]; rfl)) ?_; (with_reducible refine (impl_long.calls a0_0 true _ A26.out).mono ?_); rintro e w' ⟨rfl, ⟨nd, rfl⟩⟩; refine ⟨_, rfl, ?_⟩) | ((with_reducible refine gate_callee (f := 183) rfl ?_); refine goesL_ (some 57) rfl rfl Try.func183 (by kernel_rfl) rfl #[.int .i64 a0_2] rfl (by (try simp only [List.map_toArray, List.map_cons, List.map_nil]); first | done | rfl | (simp only [List.length_drop, List.length_take]; rfl)) ?_; (with_reducible refine (impl_isVersion.calls a0_2 true _ A28.out).mono ?_); rintro e w' ⟨rfl, ⟨nd, rfl⟩⟩; refine ⟨_, rfl, ?_⟩))
         go_ret
         exact ⟨by first | rfl | (simp only [Go.Proofs.Ythkmjfapljmmpaa.StoreK.ne_nil_b]; first | done | rfl | (simp; done)) | (simp [errW_none, errW_some] <;> rfl) | (simp [*, errW_none, errW_some] <;> rfl), by repeat (first | (with_reducible first | exact HB.out | apply below_alloc | apply pw_below_drewN | apply below_drew1 | refine below_set ?_ GE150.out) | exact HB.out)⟩
        ·replace c29 := Bool.eq_false_iff.mpr c29
         subst c29
         have H1 : (some false) = some r := by rw [if_neg (show ¬ (false = true) by decide)] at H; exact H
         clear H
         have H := H1
         clear H1
         obtain rfl := Option.some.inj H
         obtain ⟨hcz31_0, hcz31_1, hcz31_2, hcz31_3, hcz31_4, hcz31_5, hcz31_6, hcz31_7⟩ := cz8 BK150
         obtain ⟨hfz31_0, hfz31_1, hfz31_2, hfz31_3, hfz31_4, hfz31_5, hfz31_6, hfz31_7⟩ := fz8 BK150
         go_wp2_with (first | ((with_reducible refine gate_callee (f := 182) rfl ?_); refine goesL_ (some 54) rfl rfl Try.func182 (by kernel_rfl) rfl #[.int .i64 a0_0] rfl (by (try simp only [List.map_toArray, List.map_cons, List.map_nil]); first | done | rfl | (simp only [List.length_drop, List.length_take]; rfl)) ?_; (with_reducible refine (impl_long.calls a0_0 true _ A26.out).mono ?_); rintro e w' ⟨rfl, ⟨nd, rfl⟩⟩; refine ⟨_, rfl, ?_⟩) | ((with_reducible refine gate_callee (f := 183) rfl ?_); refine goesL_ (some 57) rfl rfl Try.func183 (by kernel_rfl) rfl #[.int .i64 a0_2] rfl (by (try simp only [List.map_toArray, List.map_cons, List.map_nil]); first | done | rfl | (simp only [List.length_drop, List.length_take]; rfl)) ?_; (with_reducible refine (impl_isVersion.calls a0_2 false _ A28.out).mono ?_); rintro e w' ⟨rfl, ⟨nd, rfl⟩⟩; refine ⟨_, rfl, ?_⟩))
         go_ret
         exact ⟨by first | rfl | (simp only [Go.Proofs.Ythkmjfapljmmpaa.StoreK.ne_nil_b]; first | done | rfl | (simp; done)) | (simp [errW_none, errW_some] <;> rfl) | (simp [*, errW_none, errW_some] <;> rfl), by repeat (first | (with_reducible first | exact HB.out | apply below_alloc | apply pw_below_drewN | apply below_drew1 | refine below_set ?_ GE150.out) | exact HB.out)⟩
       ·replace c27 := Bool.eq_false_iff.mpr c27
        subst c27
        have H1 : (if a0_0 = 4 then ((slices_ContainsFunc_int_int_185.f l0_7).bind fun t154 => (if a0_2 = 0 then (if a0_6.toList = ([] : List UInt8) then ((impl_in.f (l0_7.length : Int) 1 20).bind fun t155 => (if t155 = true then (some (!t154)) else (some false))) else (some false)) else (some false))) else (if a0_0 = 5 then (if a0_2 = 0 then (some (a0_4.toList == ([] : List UInt8))) else (some false)) else (some false))) = some r := by rw [if_neg (show ¬ (false = true) by decide)] at H; exact H
        clear H
        have H := H1
        clear H1
        by_cases c32 : a0_0 = 4
        ·rw [if_pos c32] at H
         have c32b0 : (a0_0 == 4) = true := beq_iff_eq.mpr c32
         have c32b1 : (a0_0 != 4) = false := bne_eq_false_iff_eq.mpr c32
         clear c32
         replace H := Option.bind_eq_some_iff.mp H
         obtain ⟨t154, A330, H⟩ := H
         replace H : (if a0_2 = 0 then (if a0_6.toList = ([] : List UInt8) then ((impl_in.f (l0_7.length : Int) 1 20).bind fun t155 => (if t155 = true then (some (!t154)) else (some false))) else (some false)) else (some false)) = some r := H
         have A33 := Aside0.mk A330
         clear A330
         by_cases c34 : a0_2 = 0
         ·rw [if_pos c34] at H
          have c34b0 : (a0_2 == 0) = true := beq_iff_eq.mpr c34
          have c34b1 : (a0_2 != 0) = false := bne_eq_false_iff_eq.mpr c34
          clear c34
          by_cases c35 : a0_6.toList = ([] : List UInt8)
          ·rw [if_pos c35] at H
           have c35b0 : (a0_6.toList == ([] : List UInt8)) = true := beq_iff_eq.mpr c35
           have c35b1 : (a0_6.toList != ([] : List UInt8)) = false := bne_eq_false_iff_eq.mpr c35
           clear c35
           replace H := Option.bind_eq_some_iff.mp H
           obtain ⟨t155, A360, H⟩ := H
           replace H : (if t155 = true then (some (!t154)) else (some false)) = some r := H
           have A36 := Aside0.mk A360
           clear A360
           by_cases c37 : t155 = true
           ·subst c37
            have H1 : (some (!t154)) = some r := by rw [if_pos rfl] at H; exact H
            clear H
            have H := H1
            clear H1
            obtain rfl := Option.some.inj H
            obtain ⟨hcz38_0, hcz38_1, hcz38_2, hcz38_3, hcz38_4, hcz38_5, hcz38_6, hcz38_7⟩ := cz8 BK150
            obtain ⟨hfz38_0, hfz38_1, hfz38_2, hfz38_3, hfz38_4, hfz38_5, hfz38_6, hfz38_7⟩ := fz8 BK150
            go_wp2_with (first | ((with_reducible refine gate_callee (f := 182) rfl ?_); refine goesL_ (some 54) rfl rfl Try.func182 (by kernel_rfl) rfl #[.int .i64 a0_0] rfl (by (try simp only [List.map_toArray, List.map_cons, List.map_nil]); first | done | rfl | (simp only [List.length_drop, List.length_take]; rfl)) ?_; (with_reducible refine (impl_long.calls a0_0 false _ A26.out).mono ?_); rintro e w' ⟨rfl, ⟨nd, rfl⟩⟩; refine ⟨_, rfl, ?_⟩) | ((with_reducible refine gate_callee (f := 184) rfl ?_); refine goesL_ (some 69) rfl rfl Try.func184 (by kernel_rfl) rfl #[.slice A0_7 l0_7.length c0_7, .func (.func 185) #[] #[]] rfl (by (try simp only [List.map_toArray, List.map_cons, List.map_nil]); first | done | rfl | (simp only [List.length_drop, List.length_take]; rfl)) ?_; (with_reducible refine (slices_ContainsFunc_int_int_185.calls _ _ l0_7 t154 _ ?side1 ?side2 A33.out).mono ?_); (case side1 => repeat (first | exact (Kd.C_below HR0_7.out (by repeat (first | (with_reducible first | exact HB.out | apply below_alloc | apply pw_below_drewN | apply below_drew1 | refine below_set ?_ GE150.out) | exact HB.out))) | (with_reducible refine Kd.C_alloc ?_ _) | (with_reducible refine Kd.C_drewN ?_ _) | (with_reducible refine Kd.C_drew ?_))); (case side2 => exact HC0_7.out); rintro e w39 ⟨rfl, hb⟩; refine ⟨_, rfl, ?_⟩; have n0_ := Aside0.mk (blk_below (g := gb150) (o := .cells #[.int .i64 a0_0, .int .i64 a0_1, .int .i64 a0_2, .string a0_3, .string a0_4, .string a0_5, .string a0_6, .slice A0_7 l0_7.length c0_7] 95 (0, 0)) (by (with_reducible repeat (first | refine bN ?_ _ | refine bD ?_ | refine bA ?_ _)); exact BK150.out) hb); have n1_ := Aside0.mk (below_step (by repeat (first | (with_reducible first | exact HB.out | apply below_alloc | apply pw_below_drewN | apply below_drew1 | refine below_set ?_ GE150.out) | exact HB.out)) hb); clear BK150; clear HB; have BK150 := n0_; have HB := n1_; clear n0_ n1_; (try clear hb); (try clear hb2); (try clear hk); (try clear hi); obtain ⟨hcz40_0, hcz40_1, hcz40_2, hcz40_3, hcz40_4, hcz40_5, hcz40_6, hcz40_7⟩ := cz8 BK150; obtain ⟨hfz40_0, hfz40_1, hfz40_2, hfz40_3, hfz40_4, hfz40_5, hfz40_6, hfz40_7⟩ := fz8 BK150) | (go_at_call 80; (with_reducible refine (impl_in.calls (l0_7.length : Int) 1 20 true _ A36.out).mono ?_); rintro e w' ⟨rfl, ⟨nd, rfl⟩⟩))
            go_ret
            exact ⟨by first | rfl | (simp only [Go.Proofs.Ythkmjfapljmmpaa.StoreK.ne_nil_b]; first | done | rfl | (simp; done)) | (simp [errW_none, errW_some] <;> rfl) | (simp [*, errW_none, errW_some] <;> rfl), by repeat (first | (with_reducible first | exact HB.out | apply below_alloc | apply pw_below_drewN | apply below_drew1 | refine below_set ?_ GE150.out) | exact HB.out)⟩
           ·replace c37 := Bool.eq_false_iff.mpr c37
            subst c37
            have H1 : (some false) = some r := by rw [if_neg (show ¬ (false = true) by decide)] at H; exact H
            clear H
            have H := H1
            clear H1
            obtain rfl := Option.some.inj H
            obtain ⟨hcz41_0, hcz41_1, hcz41_2, hcz41_3, hcz41_4, hcz41_5, hcz41_6, hcz41_7⟩ := cz8 BK150
            obtain ⟨hfz41_0, hfz41_1, hfz41_2, hfz41_3, hfz41_4, hfz41_5, hfz41_6, hfz41_7⟩ := fz8 BK150
            go_wp2_with (first | ((with_reducible refine gate_callee (f := 182) rfl ?_); refine goesL_ (some 54) rfl rfl Try.func182 (by kernel_rfl) rfl #[.int .i64 a0_0] rfl (by (try simp only [List.map_toArray, List.map_cons, List.map_nil]); first | done | rfl | (simp only [List.length_drop, List.length_take]; rfl)) ?_; (with_reducible refine (impl_long.calls a0_0 false _ A26.out).mono ?_); rintro e w' ⟨rfl, ⟨nd, rfl⟩⟩; refine ⟨_, rfl, ?_⟩) | ((with_reducible refine gate_callee (f := 184) rfl ?_); refine goesL_ (some 69) rfl rfl Try.func184 (by kernel_rfl) rfl #[.slice A0_7 l0_7.length c0_7, .func (.func 185) #[] #[]] rfl (by (try simp only [List.map_toArray, List.map_cons, List.map_nil]); first | done | rfl | (simp only [List.length_drop, List.length_take]; rfl)) ?_; (with_reducible refine (slices_ContainsFunc_int_int_185.calls _ _ l0_7 t154 _ ?side1 ?side2 A33.out).mono ?_); (case side1 => repeat (first | exact (Kd.C_below HR0_7.out (by repeat (first | (with_reducible first | exact HB.out | apply below_alloc | apply pw_below_drewN | apply below_drew1 | refine below_set ?_ GE150.out) | exact HB.out))) | (with_reducible refine Kd.C_alloc ?_ _) | (with_reducible refine Kd.C_drewN ?_ _) | (with_reducible refine Kd.C_drew ?_))); (case side2 => exact HC0_7.out); rintro e w42 ⟨rfl, hb⟩; refine ⟨_, rfl, ?_⟩; have n0_ := Aside0.mk (blk_below (g := gb150) (o := .cells #[.int .i64 a0_0, .int .i64 a0_1, .int .i64 a0_2, .string a0_3, .string a0_4, .string a0_5, .string a0_6, .slice A0_7 l0_7.length c0_7] 95 (0, 0)) (by (with_reducible repeat (first | refine bN ?_ _ | refine bD ?_ | refine bA ?_ _)); exact BK150.out) hb); have n1_ := Aside0.mk (below_step (by repeat (first | (with_reducible first | exact HB.out | apply below_alloc | apply pw_below_drewN | apply below_drew1 | refine below_set ?_ GE150.out) | exact HB.out)) hb); clear BK150; clear HB; have BK150 := n0_; have HB := n1_; clear n0_ n1_; (try clear hb); (try clear hb2); (try clear hk); (try clear hi); obtain ⟨hcz43_0, hcz43_1, hcz43_2, hcz43_3, hcz43_4, hcz43_5, hcz43_6, hcz43_7⟩ := cz8 BK150; obtain ⟨hfz43_0, hfz43_1, hfz43_2, hfz43_3, hfz43_4, hfz43_5, hfz43_6, hfz43_7⟩ := fz8 BK150) | (go_at_call 80; (with_reducible refine (impl_in.calls (l0_7.length : Int) 1 20 false _ A36.out).mono ?_); rintro e w' ⟨rfl, ⟨nd, rfl⟩⟩))
            go_ret
            exact ⟨by first | rfl | (simp only [Go.Proofs.Ythkmjfapljmmpaa.StoreK.ne_nil_b]; first | done | rfl | (simp; done)) | (simp [errW_none, errW_some] <;> rfl) | (simp [*, errW_none, errW_some] <;> rfl), by repeat (first | (with_reducible first | exact HB.out | apply below_alloc | apply pw_below_drewN | apply below_drew1 | refine below_set ?_ GE150.out) | exact HB.out)⟩
          ·rw [if_neg c35] at H
           have c35b0 : (a0_6.toList == ([] : List UInt8)) = false := beq_eq_false_iff_ne.mpr c35
           have c35b1 : (a0_6.toList != ([] : List UInt8)) = true := bne_iff_ne.mpr c35
           obtain rfl := Option.some.inj H
           obtain ⟨hcz44_0, hcz44_1, hcz44_2, hcz44_3, hcz44_4, hcz44_5, hcz44_6, hcz44_7⟩ := cz8 BK150
           obtain ⟨hfz44_0, hfz44_1, hfz44_2, hfz44_3, hfz44_4, hfz44_5, hfz44_6, hfz44_7⟩ := fz8 BK150
           go_wp2_with (first | ((with_reducible refine gate_callee (f := 182) rfl ?_); refine goesL_ (some 54) rfl rfl Try.func182 (by kernel_rfl) rfl #[.int .i64 a0_0] rfl (by (try simp only [List.map_toArray, List.map_cons, List.map_nil]); first | done | rfl | (simp only [List.length_drop, List.length_take]; rfl)) ?_; (with_reducible refine (impl_long.calls a0_0 false _ A26.out).mono ?_); rintro e w' ⟨rfl, ⟨nd, rfl⟩⟩; refine ⟨_, rfl, ?_⟩) | ((with_reducible refine gate_callee (f := 184) rfl ?_); refine goesL_ (some 69) rfl rfl Try.func184 (by kernel_rfl) rfl #[.slice A0_7 l0_7.length c0_7, .func (.func 185) #[] #[]] rfl (by (try simp only [List.map_toArray, List.map_cons, List.map_nil]); first | done | rfl | (simp only [List.length_drop, List.length_take]; rfl)) ?_; (with_reducible refine (slices_ContainsFunc_int_int_185.calls _ _ l0_7 t154 _ ?side1 ?side2 A33.out).mono ?_); (case side1 => repeat (first | exact (Kd.C_below HR0_7.out (by repeat (first | (with_reducible first | exact HB.out | apply below_alloc | apply pw_below_drewN | apply below_drew1 | refine below_set ?_ GE150.out) | exact HB.out))) | (with_reducible refine Kd.C_alloc ?_ _) | (with_reducible refine Kd.C_drewN ?_ _) | (with_reducible refine Kd.C_drew ?_))); (case side2 => exact HC0_7.out); rintro e w45 ⟨rfl, hb⟩; refine ⟨_, rfl, ?_⟩; have n0_ := Aside0.mk (blk_below (g := gb150) (o := .cells #[.int .i64 a0_0, .int .i64 a0_1, .int .i64 a0_2, .string a0_3, .string a0_4, .string a0_5, .string a0_6, .slice A0_7 l0_7.length c0_7] 95 (0, 0)) (by (with_reducible repeat (first | refine bN ?_ _ | refine bD ?_ | refine bA ?_ _)); exact BK150.out) hb); have n1_ := Aside0.mk (below_step (by repeat (first | (with_reducible first | exact HB.out | apply below_alloc | apply pw_below_drewN | apply below_drew1 | refine below_set ?_ GE150.out) | exact HB.out)) hb); clear BK150; clear HB; have BK150 := n0_; have HB := n1_; clear n0_ n1_; (try clear hb); (try clear hb2); (try clear hk); (try clear hi); obtain ⟨hcz46_0, hcz46_1, hcz46_2, hcz46_3, hcz46_4, hcz46_5, hcz46_6, hcz46_7⟩ := cz8 BK150; obtain ⟨hfz46_0, hfz46_1, hfz46_2, hfz46_3, hfz46_4, hfz46_5, hfz46_6, hfz46_7⟩ := fz8 BK150))
           go_ret
           exact ⟨by first | rfl | (simp only [Go.Proofs.Ythkmjfapljmmpaa.StoreK.ne_nil_b]; first | done | rfl | (simp; done)) | (simp [errW_none, errW_some] <;> rfl) | (simp [*, errW_none, errW_some] <;> rfl), by repeat (first | (with_reducible first | exact HB.out | apply below_alloc | apply pw_below_drewN | apply below_drew1 | refine below_set ?_ GE150.out) | exact HB.out)⟩
         ·rw [if_neg c34] at H
          have c34b0 : (a0_2 == 0) = false := beq_eq_false_iff_ne.mpr c34
          have c34b1 : (a0_2 != 0) = true := bne_iff_ne.mpr c34
          obtain rfl := Option.some.inj H
          obtain ⟨hcz47_0, hcz47_1, hcz47_2, hcz47_3, hcz47_4, hcz47_5, hcz47_6, hcz47_7⟩ := cz8 BK150
          obtain ⟨hfz47_0, hfz47_1, hfz47_2, hfz47_3, hfz47_4, hfz47_5, hfz47_6, hfz47_7⟩ := fz8 BK150
          go_wp2_with (first | ((with_reducible refine gate_callee (f := 182) rfl ?_); refine goesL_ (some 54) rfl rfl Try.func182 (by kernel_rfl) rfl #[.int .i64 a0_0] rfl (by (try simp only [List.map_toArray, List.map_cons, List.map_nil]); first | done | rfl | (simp only [List.length_drop, List.length_take]; rfl)) ?_; (with_reducible refine (impl_long.calls a0_0 false _ A26.out).mono ?_); rintro e w' ⟨rfl, ⟨nd, rfl⟩⟩; refine ⟨_, rfl, ?_⟩) | ((with_reducible refine gate_callee (f := 184) rfl ?_); refine goesL_ (some 69) rfl rfl Try.func184 (by kernel_rfl) rfl #[.slice A0_7 l0_7.length c0_7, .func (.func 185) #[] #[]] rfl (by (try simp only [List.map_toArray, List.map_cons, List.map_nil]); first | done | rfl | (simp only [List.length_drop, List.length_take]; rfl)) ?_; (with_reducible refine (slices_ContainsFunc_int_int_185.calls _ _ l0_7 t154 _ ?side1 ?side2 A33.out).mono ?_); (case side1 => repeat (first | exact (Kd.C_below HR0_7.out (by repeat (first | (with_reducible first | exact HB.out | apply below_alloc | apply pw_below_drewN | apply below_drew1 | refine below_set ?_ GE150.out) | exact HB.out))) | (with_reducible refine Kd.C_alloc ?_ _) | (with_reducible refine Kd.C_drewN ?_ _) | (with_reducible refine Kd.C_drew ?_))); (case side2 => exact HC0_7.out); rintro e w48 ⟨rfl, hb⟩; refine ⟨_, rfl, ?_⟩; have n0_ := Aside0.mk (blk_below (g := gb150) (o := .cells #[.int .i64 a0_0, .int .i64 a0_1, .int .i64 a0_2, .string a0_3, .string a0_4, .string a0_5, .string a0_6, .slice A0_7 l0_7.length c0_7] 95 (0, 0)) (by (with_reducible repeat (first | refine bN ?_ _ | refine bD ?_ | refine bA ?_ _)); exact BK150.out) hb); have n1_ := Aside0.mk (below_step (by repeat (first | (with_reducible first | exact HB.out | apply below_alloc | apply pw_below_drewN | apply below_drew1 | refine below_set ?_ GE150.out) | exact HB.out)) hb); clear BK150; clear HB; have BK150 := n0_; have HB := n1_; clear n0_ n1_; (try clear hb); (try clear hb2); (try clear hk); (try clear hi); obtain ⟨hcz49_0, hcz49_1, hcz49_2, hcz49_3, hcz49_4, hcz49_5, hcz49_6, hcz49_7⟩ := cz8 BK150; obtain ⟨hfz49_0, hfz49_1, hfz49_2, hfz49_3, hfz49_4, hfz49_5, hfz49_6, hfz49_7⟩ := fz8 BK150))
          go_ret
          exact ⟨by first | rfl | (simp only [Go.Proofs.Ythkmjfapljmmpaa.StoreK.ne_nil_b]; first | done | rfl | (simp; done)) | (simp [errW_none, errW_some] <;> rfl) | (simp [*, errW_none, errW_some] <;> rfl), by repeat (first | (with_reducible first | exact HB.out | apply below_alloc | apply pw_below_drewN | apply below_drew1 | refine below_set ?_ GE150.out) | exact HB.out)⟩
        ·rw [if_neg c32] at H
         have c32b0 : (a0_0 == 4) = false := beq_eq_false_iff_ne.mpr c32
         have c32b1 : (a0_0 != 4) = true := bne_iff_ne.mpr c32
         by_cases c50 : a0_0 = 5
         ·rw [if_pos c50] at H
          have c50b0 : (a0_0 == 5) = true := beq_iff_eq.mpr c50
          have c50b1 : (a0_0 != 5) = false := bne_eq_false_iff_eq.mpr c50
          clear c50
          by_cases c51 : a0_2 = 0
          ·rw [if_pos c51] at H
           have c51b0 : (a0_2 == 0) = true := beq_iff_eq.mpr c51
           have c51b1 : (a0_2 != 0) = false := bne_eq_false_iff_eq.mpr c51
           clear c51
           obtain rfl := Option.some.inj H
           obtain ⟨hcz52_0, hcz52_1, hcz52_2, hcz52_3, hcz52_4, hcz52_5, hcz52_6, hcz52_7⟩ := cz8 BK150
           obtain ⟨hfz52_0, hfz52_1, hfz52_2, hfz52_3, hfz52_4, hfz52_5, hfz52_6, hfz52_7⟩ := fz8 BK150
           go_wp2_with (first | ((with_reducible refine gate_callee (f := 182) rfl ?_); refine goesL_ (some 54) rfl rfl Try.func182 (by kernel_rfl) rfl #[.int .i64 a0_0] rfl (by (try simp only [List.map_toArray, List.map_cons, List.map_nil]); first | done | rfl | (simp only [List.length_drop, List.length_take]; rfl)) ?_; (with_reducible refine (impl_long.calls a0_0 false _ A26.out).mono ?_); rintro e w' ⟨rfl, ⟨nd, rfl⟩⟩; refine ⟨_, rfl, ?_⟩))
           go_ret
           exact ⟨by first | rfl | (simp only [Go.Proofs.Ythkmjfapljmmpaa.StoreK.ne_nil_b]; first | done | rfl | (simp; done)) | (simp [errW_none, errW_some] <;> rfl) | (simp [*, errW_none, errW_some] <;> rfl), by repeat (first | (with_reducible first | exact HB.out | apply below_alloc | apply pw_below_drewN | apply below_drew1 | refine below_set ?_ GE150.out) | exact HB.out)⟩
          ·rw [if_neg c51] at H
           have c51b0 : (a0_2 == 0) = false := beq_eq_false_iff_ne.mpr c51
           have c51b1 : (a0_2 != 0) = true := bne_iff_ne.mpr c51
           obtain rfl := Option.some.inj H
           obtain ⟨hcz53_0, hcz53_1, hcz53_2, hcz53_3, hcz53_4, hcz53_5, hcz53_6, hcz53_7⟩ := cz8 BK150
           obtain ⟨hfz53_0, hfz53_1, hfz53_2, hfz53_3, hfz53_4, hfz53_5, hfz53_6, hfz53_7⟩ := fz8 BK150
           go_wp2_with (first | ((with_reducible refine gate_callee (f := 182) rfl ?_); refine goesL_ (some 54) rfl rfl Try.func182 (by kernel_rfl) rfl #[.int .i64 a0_0] rfl (by (try simp only [List.map_toArray, List.map_cons, List.map_nil]); first | done | rfl | (simp only [List.length_drop, List.length_take]; rfl)) ?_; (with_reducible refine (impl_long.calls a0_0 false _ A26.out).mono ?_); rintro e w' ⟨rfl, ⟨nd, rfl⟩⟩; refine ⟨_, rfl, ?_⟩))
           go_ret
           exact ⟨by first | rfl | (simp only [Go.Proofs.Ythkmjfapljmmpaa.StoreK.ne_nil_b]; first | done | rfl | (simp; done)) | (simp [errW_none, errW_some] <;> rfl) | (simp [*, errW_none, errW_some] <;> rfl), by repeat (first | (with_reducible first | exact HB.out | apply below_alloc | apply pw_below_drewN | apply below_drew1 | refine below_set ?_ GE150.out) | exact HB.out)⟩
         ·rw [if_neg c50] at H
          have c50b0 : (a0_0 == 5) = false := beq_eq_false_iff_ne.mpr c50
          have c50b1 : (a0_0 != 5) = true := bne_iff_ne.mpr c50
          obtain rfl := Option.some.inj H
          obtain ⟨hcz54_0, hcz54_1, hcz54_2, hcz54_3, hcz54_4, hcz54_5, hcz54_6, hcz54_7⟩ := cz8 BK150
          obtain ⟨hfz54_0, hfz54_1, hfz54_2, hfz54_3, hfz54_4, hfz54_5, hfz54_6, hfz54_7⟩ := fz8 BK150
          go_wp2_with (first | ((with_reducible refine gate_callee (f := 182) rfl ?_); refine goesL_ (some 54) rfl rfl Try.func182 (by kernel_rfl) rfl #[.int .i64 a0_0] rfl (by (try simp only [List.map_toArray, List.map_cons, List.map_nil]); first | done | rfl | (simp only [List.length_drop, List.length_take]; rfl)) ?_; (with_reducible refine (impl_long.calls a0_0 false _ A26.out).mono ?_); rintro e w' ⟨rfl, ⟨nd, rfl⟩⟩; refine ⟨_, rfl, ?_⟩))
          go_ret
          exact ⟨by first | rfl | (simp only [Go.Proofs.Ythkmjfapljmmpaa.StoreK.ne_nil_b]; first | done | rfl | (simp; done)) | (simp [errW_none, errW_some] <;> rfl) | (simp [*, errW_none, errW_some] <;> rfl), by repeat (first | (with_reducible first | exact HB.out | apply below_alloc | apply pw_below_drewN | apply below_drew1 | refine below_set ?_ GE150.out) | exact HB.out)⟩

/-! ### impl_varintSize: function 161 -/
def impl_varintSize.f (a0 : Int) : Option (Int) := if a0 < 64 then (some 1) else (if a0 < 16384 then (some 2) else (if a0 < 1073741824 then (some 4) else (some 8)))
set_option maxHeartbeats 64000000 in
set_option maxRecDepth 100000 in
theorem impl_varintSize.calls (a0 : Int) (r : Int) (w : World) (h : impl_varintSize.f a0 = some r) :
  Calls Try.prog 161 #[.int .i64 a0] w fun e w' => e = .returned (.int .i64 r) ∧ Drawn0 w w' := by
 have H : (if a0 < 64 then (some 1) else (if a0 < 16384 then (some 2) else (if a0 < 1073741824 then (some 4) else (some 8)))) = some r := h
 clear h
 by_cases c2 : a0 < 64
 ·rw [if_pos c2] at H
  have c2b0 : decide (a0 < 64) = true := decide_eq_true c2
  clear c2
  obtain rfl := Option.some.inj H
  go_enter Try.func161, Try.ntmps161
  go_wp2
  go_ret
  exact ⟨by first | rfl | (simp; done) | (simp [*]; done), by repeat (first | exact Drawn0.refl _ | apply Drawn0.step)⟩
 ·rw [if_neg c2] at H
  have c2b0 : decide (a0 < 64) = false := decide_eq_false c2
  clear c2
  by_cases c3 : a0 < 16384
  ·rw [if_pos c3] at H
   have c3b0 : decide (a0 < 16384) = true := decide_eq_true c3
   clear c3
   obtain rfl := Option.some.inj H
   go_enter Try.func161, Try.ntmps161
   go_wp2
   go_ret
   exact ⟨by first | rfl | (simp; done) | (simp [*]; done), by repeat (first | exact Drawn0.refl _ | apply Drawn0.step)⟩
  ·rw [if_neg c3] at H
   have c3b0 : decide (a0 < 16384) = false := decide_eq_false c3
   clear c3
   by_cases c4 : a0 < 1073741824
   ·rw [if_pos c4] at H
    have c4b0 : decide (a0 < 1073741824) = true := decide_eq_true c4
    clear c4
    obtain rfl := Option.some.inj H
    go_enter Try.func161, Try.ntmps161
    go_wp2
    go_ret
    exact ⟨by first | rfl | (simp; done) | (simp [*]; done), by repeat (first | exact Drawn0.refl _ | apply Drawn0.step)⟩
   ·rw [if_neg c4] at H
    have c4b0 : decide (a0 < 1073741824) = false := decide_eq_false c4
    clear c4
    obtain rfl := Option.some.inj H
    go_enter Try.func161, Try.ntmps161
    go_wp2
    go_ret
    exact ⟨by first | rfl | (simp; done) | (simp [*]; done), by repeat (first | exact Drawn0.refl _ | apply Drawn0.step)⟩

/-! ### impl_bigEndian: function 162 -/
def impl_bigEndian.l0 : Nat → Int → List Int → Int → Option (ByteArray)
 | 0, _, _, _ => none
 | k + 1, x0, x5, x6 => if x6 ≥ 0 then (if 0 ≤ x6 then (if x6 < (x5.length : Int) then (impl_bigEndian.l0 k (x0 / 256) (x5.set (x6 : Int).toNat ((x0) % 256)) (wrap64 (x6 - 1))) else (none)) else (none)) else (some (strOfNums x5))
def impl_bigEndian.f (k : Nat) (a0 : Int) (a1 : Int) : Option (ByteArray) := if 0 ≤ a1 then (if (a1 : Int).toNat ≤ 281474976710656 then (impl_bigEndian.l0 k a0 (List.replicate (a1 : Int).toNat 0) (wrap64 (a1 - 1))) else (none)) else (none)
theorem impl_bigEndian.mono_l : ∀ k, (∀ y0 y1 y2, LeO (impl_bigEndian.l0 k y0 y1 y2) (impl_bigEndian.l0 (k + 1) y0 y1 y2))
 | 0 => fun _ _ _ r h => by simp [impl_bigEndian.l0] at h
 | k + 1 => by
  have ih0 := impl_bigEndian.mono_l k
  ·intro y0 y1 y2
   unfold impl_bigEndian.l0
   repeat' first
   | (with_reducible exact ih0 _ _ _)
   | (with_reducible exact LeO.refl _)
   | (with_reducible exact LeO.none _)
   | (with_reducible refine LeO.ite ?_ ?_)
   | (with_reducible refine LeO.bind ?_ (fun _ => ?_))
   | exact ih0 _ _ _
   | exact LeO.none _
   | refine LeO.ite ?_ ?_
   | refine LeO.bind ?_ (fun _ => ?_)
theorem impl_bigEndian.mono : ∀ a0 a1 k, LeO (impl_bigEndian.f k a0 a1) (impl_bigEndian.f (k + 1) a0 a1) := by
 intro a0 a1 k
 have ih0 := impl_bigEndian.mono_l k
 unfold impl_bigEndian.f
 repeat' first
   | (with_reducible exact ih0 _ _ _)
   | (with_reducible exact LeO.refl _)
   | (with_reducible exact LeO.none _)
   | (with_reducible refine LeO.ite ?_ ?_)
   | (with_reducible refine LeO.bind ?_ (fun _ => ?_))
   | exact ih0 _ _ _
   | exact LeO.none _
   | refine LeO.ite ?_ ?_
   | refine LeO.bind ?_ (fun _ => ?_)
set_option maxHeartbeats 64000000 in
set_option maxRecDepth 100000 in
theorem impl_bigEndian.calls (k : Nat) (a0 : Int) (a1 : Int) (r : ByteArray) (w : World) (h : impl_bigEndian.f k a0 a1 = some r) :
  Calls Try.prog 162 #[.int .u64 a0, .int .i64 a1] w fun e w' => e = .returned (.string r) ∧ Below w.heap.size w w' := by
 have HB := Aside0.mk (Below.refl w.heap.size w)
 have H : (if 0 ≤ a1 then (if (a1 : Int).toNat ≤ 281474976710656 then (impl_bigEndian.l0 k a0 (List.replicate (a1 : Int).toNat 0) (wrap64 (a1 - 1))) else (none)) else (none)) = some r := h
 clear h
 by_cases c3 : 0 ≤ a1
 ·rw [if_pos c3] at H
  have c3b0 := eq_true c3
  have c3b1 : decide (0 ≤ a1) = true := decide_eq_true c3
  clear c3
  by_cases c4 : (a1 : Int).toNat ≤ 281474976710656
  ·rw [if_pos c4] at H
   have c4b0 := eq_true c4
   have c4b1 : decide ((a1 : Int).toNat ≤ 281474976710656) = true := decide_eq_true c4
   clear c4
   obtain ⟨y156, hy156⟩ : ∃ y_ : List Int, y_ = (List.replicate (a1 : Int).toNat 0) := ⟨_, rfl⟩
   replace H : (impl_bigEndian.l0 k a0 y156 (wrap64 (a1 - 1))) = some r := by first | (rw [hy156]; with_reducible exact H) | (have H2_ := (Option.bind_some _ _).symm.trans H; rw [hy156]; with_reducible exact H2_) | (have H2_ := (Option.bind_some _ _).symm.trans H; with_reducible exact H2_) | with_reducible exact H | (rw [hy156]; exact H) | exact H
   have Ny156 := Aside0.mk hy156
   clear hy156
   have H' := Aside0.mk H
   clear H
   go_enter Try.func162, Try.ntmps162
   go_wp2_with (first | ((with_reducible refine gate_dst (N := 8) rfl ?_); refine Kd.R_make (Kd.int .u8) _ 5 rfl (N := 8) rfl 206 _ _ rfl a1 rfl rfl Try.underlying206 (.int .u8 0) 1 info5 rfl (by decide) (by omega) 0 (ok := fun _ => True) (okp := fun _ => True) rfl (fun _ hk => hk) trivial (of_decide_eq_true (by first | (with_reducible assumption) | assumption)) (Nat.le_trans (Nat.mul_le_mul_right _ (of_decide_eq_true (by first | (with_reducible assumption) | assumption) : a1.toNat ≤ 281474976710656)) (by omega)) (Below.refl _ _) (Nat.le_refl _) ?_; intro v157 w5 ho6 hb hg_ hnew_; clear hg_ hnew_; (first | rw [← Ny156.out] at ho6 | (simp only [Int.reduceToNat] at ho6; rw [← Ny156.out] at ho6)); have n0_ := Aside0.mk (Kd.R_lower ho6 (below_size (by repeat (first | (with_reducible first | exact HB.out | apply below_alloc | apply pw_below_drewN | apply below_drew1) | exact HB.out)))); have n1_ := Aside0.mk (below_step (by repeat (first | (with_reducible first | exact HB.out | apply below_alloc | apply pw_below_drewN | apply below_drew1) | exact HB.out)) hb); clear HB; have HO158 := n0_; have HB := n1_; clear n0_ n1_; clear hb ho6))
   go_loopg [0, 6] k (fun kq v0 v6 w' => ∃ (x0_1 : Int) (x5_1 : List Int) (x6_1 : Int), v0 = .int .u64 x0_1 ∧ v6 = .int .i64 x6_1 ∧ Aside0 (impl_bigEndian.l0 kq x0_1 x5_1 x6_1 = some r) ∧ Aside0 (kq ≤ k) ∧ Aside0 (Kd.R (Kd.int .u8) 5 w' w.heap.size (fun _ => True) v157 x5_1) ∧ Aside0 (Below w.heap.size w w'))
   case atStart => exact ⟨(a0), (y156), (wrap64 (a1 - 1)), (by first | rfl | (simp; done) | (simp [*]; done)), (by first | rfl | (simp; done) | (simp [*]; done)), H', ⟨Nat.le_refl _⟩, ⟨by (with_reducible repeat (first | apply Kd.R_alloc | apply Kd.R_drewN | apply Kd.R_drew)); exact HO158.out⟩, ⟨by repeat (first | (with_reducible first | exact HB.out | apply below_alloc | apply pw_below_drewN | apply below_drew1) | exact HB.out)⟩⟩
   case round =>
    clear H'
    try clear c1
    try clear p2
    try clear c3
    try clear c3b0
    try clear c3b1
    try clear c4
    try clear c4b0
    try clear c4b1
    try clear p6
    obtain ⟨x0_1, x5_1, x6_1, rfl, rfl, HA, HK1, HO_5, HB⟩ := hrel
    cases gk with
    | zero => exact absurd HA.out (by simp [impl_bigEndian.l0])
    | succ k1 =>
     have H := HA.out
     clear HA
     simp only [impl_bigEndian.l0] at H
     by_cases c7 : x6_1 ≥ 0
     ·rw [if_pos c7] at H
      have c7b0 : decide (0 ≤ x6_1) = true := decide_eq_true c7
      clear c7
      by_cases c8 : 0 ≤ x6_1
      ·rw [if_pos c8] at H
       have c8b0 : decide (0 ≤ x6_1) = true := decide_eq_true c8
       clear c8
       by_cases c9 : x6_1 < (x5_1.length : Int)
       ·rw [if_pos c9] at H
        have c9b0 : decide (x6_1 < (x5_1.length : Int)) = true := decide_eq_true c9
        clear c9
        obtain ⟨y159, hy159⟩ : ∃ y_ : List Int, y_ = (x5_1.set (x6_1 : Int).toNat ((x0_1) % 256)) := ⟨_, rfl⟩
        replace H : (impl_bigEndian.l0 k1 (x0_1 / 256) y159 (wrap64 (x6_1 - 1))) = some r := by first | (rw [hy159]; with_reducible exact H) | (have H2_ := (Option.bind_some _ _).symm.trans H; rw [hy159]; with_reducible exact H2_) | (have H2_ := (Option.bind_some _ _).symm.trans H; with_reducible exact H2_) | with_reducible exact H | (rw [hy159]; exact H) | exact H
        have Ny159 := Aside0.mk hy159
        clear hy159
        have H' := Aside0.mk H
        clear H
        have p10 : 0 ≤ (x6_1 : Int) := of_decide_eq_true (by first | (with_reducible assumption) | assumption)
        have q10 : (x6_1 : Int) < ((x5_1.length : Int) : Int) := of_decide_eq_true (by first | (with_reducible assumption) | assumption)
        obtain ⟨go10, co10, eo10, gb10, gl10, cl10, HG10⟩ := Kd.R_form HO_5.out (by omega)
        (first | cases eo10 | (injection eo10 with ea_ en_ ec_; (first | subst ea_ | (injection ea_ with ea_; subst ea_)); subst ec_; clear en_))
        have GB10 := Aside0.mk gb10
        have GG10 := Aside0.mk HG10
        clear gb10 gl10 HG10
        obtain ⟨hx10_0, hf10_0⟩ := Kd.R_celln 0 HO_5.out (x6_1 : Int) p10 q10
        replace p10 := eq_true p10
        replace q10 := eq_true q10
        have HP11 := Kd.R_putg HO_5.out (x6_1 : Int) ((x0_1) % 256)
        go_wp2_with (first | ((with_reducible refine gate_store (t := 5) (p := 19) rfl ?_); refine store_event (t := 5) (p := 19) (v := ?vo_w12) (w1 := (wr.setCell ⟨go10, (x6_1 : Int).toNat, none⟩ (.int .u8 ((x0_1) % 256)))) ?hg ?ho ?hn ?hr ?_; (case ho => rfl); (case hg => rfl); (case hn => rfl); (case hr => first | (go_simp; done) | (go_simp; rfl)); intro w12 hw; have hg : wr.grownBy w12 (some go10) := (by rw [hw]; exact HP11.2); have hp_ : Kd.R (Kd.int .u8) 5 w12 w.heap.size (fun _ => True) (.slice (some ⟨go10, 0, none⟩) x5_1.length co10) y159 := (by rw [hw, Ny159.out]; exact HP11.1); clear HP11; have n0_ := Aside0.mk (hp_); have n1_ := Aside0.mk ((by rw [hw]; exact below_set (HB.out) GB10.out : Below w.heap.size w w12)); clear HO_5; clear HB; have HO_5 := n0_; have HB := n1_; clear n0_ n1_; clear hg hw hp_))
        go_roundg k1
        case measure => have := HK1.out; omega
        case rel => exact ⟨(x0_1 / 256), (y159), (wrap64 (x6_1 - 1)), (by first | rfl | (simp; done) | (simp [*]; done)), (by first | rfl | (simp; done) | (simp [*]; done)), H', ⟨by have := HK1.out; omega⟩, ⟨by (with_reducible repeat (first | apply Kd.R_alloc | apply Kd.R_drewN | apply Kd.R_drew)); exact HO_5.out⟩, ⟨by repeat (first | (with_reducible first | exact HB.out | apply below_alloc | apply pw_below_drewN | apply below_drew1) | exact HB.out)⟩⟩
       ·rw [if_neg c9] at H
        exact absurd H (by simp)
      ·rw [if_neg c8] at H
       exact absurd H (by simp)
     ·rw [if_neg c7] at H
      have c7b0 : decide (0 ≤ x6_1) = false := decide_eq_false c7
      clear c7
      obtain rfl := Option.some.inj H
      have hcv13 := own_string (P := Try.prog) Try.underlying206 Try.underlying5 Try.underlying9 (Kd.own_of_R HO_5.out)
      go_wp2
      go_ret
      exact ⟨by first | rfl | (simp [errW_none, errW_some] <;> rfl) | (simp [*, errW_none, errW_some] <;> rfl), by repeat (first | (with_reducible first | exact HB.out | apply below_alloc | apply pw_below_drewN | apply below_drew1) | exact HB.out)⟩
  ·rw [if_neg c4] at H
   exact absurd H (by simp)
 ·rw [if_neg c3] at H
  exact absurd H (by simp)

end Go.Proofs.Ythkmjfapljmmpaa.PFnExactHeaderBytes
