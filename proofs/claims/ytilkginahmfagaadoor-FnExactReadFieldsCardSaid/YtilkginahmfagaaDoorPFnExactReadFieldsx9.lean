-- Written by a program of this session (wip/xprint.py).
import Derived.Test.YtilkginahmfagaaDoorPFnExactReadFieldsx0
import Derived.Test.YtilkginahmfagaaDoorPFnExactReadFieldsx7
import Derived.Test.YtilkginahmfagaaDoorPFnExactReadFieldsx8
namespace Go.Proofs.YtilkginahmfagaaDoor.PFnExactReadFields
open Go.RowKit Go.Proofs.YtilkginahmfagaaDoorW.PrintWords Go.Proofs.YtilkginahmfagaaDoorW.PrintLast Go.Proofs.YtilkginahmfagaaDoorW.PrintMore
open Go.Proofs.YtilkginahmfagaaDoor.ShortK (bN bD bA sA sZ sS mR mB bX bLt bS cz2 fz2 cx2 cz3 fz3 cx3 cz4 fz4 cx4 cz5 fz5 cx5 cz6 fz6 cx6 cz7 fz7 cx7 cz8 fz8 cx8 cz9 fz9 cx9 cz10 fz10 cx10 cz11 fz11 cx11 cz12 fz12 cx12)
attribute [local go_sem] Go.Proofs.YtilkginahmfagaaDoor.StoreK.isSome_setCell max2_int min2_int max_two min_two max_three min_three max_four min_four   -- for this text's walks alone
set_option linter.unusedVariables false
set_option linter.unusedSimpArgs false

/-! ### impl_goodField: function 81 -/
mutual
def impl_goodField.j0 : Nat → Bool → ByteArray → ByteArray → Option (Bool)
 | 0, _, _, _ => none
 | k + 1, x15, x215000, x215001 => if x15 = true then (some false) else (impl_goodField.l0 k (x215001.size : Int) 0 x215000 x215001)
def impl_goodField.l0 : Nat → Int → Int → ByteArray → ByteArray → Option (Bool)
 | 0, _, _, _, _ => none
 | k + 1, x18, x19, x215000, x215001 => if x19 < x18 then (if 0 ≤ x19 then (if x19 < (x215001.size : Int) then ((impl_in.f (wrap64 (bt x215001 x19)) 32 126).bind fun t216 => (if t216 = true then (impl_goodField.l0 k x18 (wrap64 (x19 + 1)) x215000 x215001) else (some false))) else (none)) else (none)) else (if 0 < (x215000.size : Int) then (if (bt x215000 0) = 58 then (if 1 ≤ (x215000.size : Int) then (impl_goodField.j2 k (x215000.extract 1 x215000.size)) else (none)) else (impl_goodField.j2 k x215000)) else (none))
def impl_goodField.j2 : Nat → ByteArray → Option (Bool)
 | 0, _ => none
 | k + 1, x4 => (impl_over.f x4 (⟨#[97, 98, 99, 100, 101, 102, 103, 104, 105, 106, 107, 108, 109, 110, 111, 112, 113, 114, 115, 116, 117, 118, 119, 120, 121, 122, 48, 49, 50, 51, 52, 53, 54, 55, 56, 57, 45]⟩ : ByteArray)).bind fun t217 => (some t217)
end
def impl_goodField.f (k : Nat) (a0_0 : ByteArray) (a0_1 : ByteArray) : Option (Bool) := (impl_in.f (a0_0.size : Int) 1 100).bind fun t215 => (if t215 = true then (impl_goodField.j0 k (decide ((a0_1.size : Int) > 100)) a0_0 a0_1) else (impl_goodField.j0 k true a0_0 a0_1))
theorem impl_goodField.mono_l : ∀ k, (∀ y0 y1 y2, LeO (impl_goodField.j0 k y0 y1 y2) (impl_goodField.j0 (k + 1) y0 y1 y2)) ∧ (∀ y0 y1 y2 y3, LeO (impl_goodField.l0 k y0 y1 y2 y3) (impl_goodField.l0 (k + 1) y0 y1 y2 y3)) ∧ (∀ y0, LeO (impl_goodField.j2 k y0) (impl_goodField.j2 (k + 1) y0))
 | 0 => ⟨fun _ _ _ r h => by simp [impl_goodField.j0] at h, fun _ _ _ _ r h => by simp [impl_goodField.l0] at h, fun _ r h => by simp [impl_goodField.j2] at h⟩
 | k + 1 => by
  obtain ⟨ih0, ih1, ih2⟩ := impl_goodField.mono_l k
  refine ⟨?_, ?_, ?_⟩
  ·intro y0 y1 y2
   unfold impl_goodField.j0
   repeat' first
   | (with_reducible exact ih0 _ _ _)
   | (with_reducible exact ih1 _ _ _ _)
   | (with_reducible exact ih2 _)
   | (with_reducible exact LeO.refl _)
   | (with_reducible exact LeO.none _)
   | (with_reducible refine LeO.ite ?_ ?_)
   | (with_reducible refine LeO.bind ?_ (fun _ => ?_))
   | exact ih0 _ _ _
   | exact ih1 _ _ _ _
   | exact ih2 _
   | exact LeO.none _
   | refine LeO.ite ?_ ?_
   | refine LeO.bind ?_ (fun _ => ?_)
  ·intro y0 y1 y2 y3
   unfold impl_goodField.l0
   repeat' first
   | (with_reducible exact ih0 _ _ _)
   | (with_reducible exact ih1 _ _ _ _)
   | (with_reducible exact ih2 _)
   | (with_reducible exact LeO.refl _)
   | (with_reducible exact LeO.none _)
   | (with_reducible refine LeO.ite ?_ ?_)
   | (with_reducible refine LeO.bind ?_ (fun _ => ?_))
   | exact ih0 _ _ _
   | exact ih1 _ _ _ _
   | exact ih2 _
   | exact LeO.none _
   | refine LeO.ite ?_ ?_
   | refine LeO.bind ?_ (fun _ => ?_)
  ·intro y0
   unfold impl_goodField.j2
   repeat' first
   | (with_reducible exact ih0 _ _ _)
   | (with_reducible exact ih1 _ _ _ _)
   | (with_reducible exact ih2 _)
   | (with_reducible exact LeO.refl _)
   | (with_reducible exact LeO.none _)
   | (with_reducible refine LeO.ite ?_ ?_)
   | (with_reducible refine LeO.bind ?_ (fun _ => ?_))
   | exact ih0 _ _ _
   | exact ih1 _ _ _ _
   | exact ih2 _
   | exact LeO.none _
   | refine LeO.ite ?_ ?_
   | refine LeO.bind ?_ (fun _ => ?_)
theorem impl_goodField.mono : ∀ a0 a1 k, LeO (impl_goodField.f k a0 a1) (impl_goodField.f (k + 1) a0 a1) := by
 intro a0 a1 k
 obtain ⟨ih0, ih1, ih2⟩ := impl_goodField.mono_l k
 unfold impl_goodField.f
 repeat' first
   | (with_reducible exact ih0 _ _ _)
   | (with_reducible exact ih1 _ _ _ _)
   | (with_reducible exact ih2 _)
   | (with_reducible exact LeO.refl _)
   | (with_reducible exact LeO.none _)
   | (with_reducible refine LeO.ite ?_ ?_)
   | (with_reducible refine LeO.bind ?_ (fun _ => ?_))
   | exact ih0 _ _ _
   | exact ih1 _ _ _ _
   | exact ih2 _
   | exact LeO.none _
   | refine LeO.ite ?_ ?_
   | refine LeO.bind ?_ (fun _ => ?_)
set_option maxHeartbeats 64000000 in
set_option maxRecDepth 100000 in
theorem impl_goodField.calls (k : Nat) (a0_0 : ByteArray) (a0_1 : ByteArray) (r : Bool) (w : World) (h : impl_goodField.f k a0_0 a0_1 = some r) :
  Calls Tryd.prog 81 #[.agg #[.string a0_0, .string a0_1]] w fun e w' => e = .returned (.bool r) ∧ Below w.heap.size w w' := by
 have hu65 := Tryd.underlying65
 have HB := Aside0.mk (Below.refl w.heap.size w)
 have H : ((impl_in.f (a0_0.size : Int) 1 100).bind fun t215 => (if t215 = true then (impl_goodField.j0 k (decide ((a0_1.size : Int) > 100)) a0_0 a0_1) else (impl_goodField.j0 k true a0_0 a0_1))) = some r := h
 clear h
 have HC2 := Aside0.mk H
 clear H
 go_enter Tryd.func81, Tryd.ntmps81
 go_upto_region 1 with (first | ((with_reducible refine gate_dst (N := 1) rfl ?_); (try (refine gate_guard (by rfl) ?_; dsimp only)); refine box_event ?hg (N := 1) ?hd (cs := #[.string a0_0, .string a0_1]) (t := 65) ?hr ?_; (case hd => rfl); (case hg => rfl); (case hr => first | (go_simp; done) | (go_simp; rfl)); intro gb214 hg w3 hbox hb; have n0_ := bS HB hb; have n1_ := Aside0.mk (hbox); have n2_ := Aside0.mk ((by rw [hg]; exact (below_size (by repeat (first | (with_reducible first | exact HB.out | apply below_alloc | apply pw_below_drewN | apply below_drew1) | exact HB.out))) : w.heap.size ≤ gb214)); have n3_ := n2_; clear HB; have HB := n0_; have BK214 := n1_; have GW214 := n2_; have GE214 := n3_; clear n0_ n1_ n2_ n3_; clear hb hbox hg))
 (try simp only [Act.put, sA, sZ, sS])
 go_cut [15] (fun v15 wc => ∃ (kq : Nat) (x15_1 : Bool), v15 = .bool x15_1 ∧ Aside0 (impl_goodField.j0 kq x15_1 a0_0 a0_1 = some r) ∧ Aside0 (kq ≤ k) ∧ Aside0 (wc.heap[gb214]? = some (.cells #[.string a0_0, .string a0_1] 65 (0, 0))) ∧ Aside0 (Below w.heap.size w wc))
 case first =>
  have H := HC2.out
  clear HC2
  replace H := Option.bind_eq_some_iff.mp H
  obtain ⟨t215, A40, H⟩ := H
  replace H : (if t215 = true then (impl_goodField.j0 k (decide ((a0_1.size : Int) > 100)) a0_0 a0_1) else (impl_goodField.j0 k true a0_0 a0_1)) = some r := H
  have A4 := Aside0.mk A40
  clear A40
  by_cases c5 : t215 = true
  ·subst c5
   have H1 : (impl_goodField.j0 k (decide ((a0_1.size : Int) > 100)) a0_0 a0_1) = some r := by rw [if_pos rfl] at H; exact H
   clear H
   have H := H1
   clear H1
   have H' := Aside0.mk H
   clear H
   obtain ⟨hcz6_0, hcz6_1⟩ := cz2 BK214
   obtain ⟨hfz6_0, hfz6_1⟩ := fz2 BK214
   go_wp2_with (first | ((with_reducible refine gate_callee (f := 33) rfl ?_); refine goesL_ (some 8) rfl rfl Tryd.func33 (by kernel_rfl) rfl #[.int .i64 (a0_0.size : Int), .int .i64 1, .int .i64 100] rfl (by (try simp only [List.map_toArray, List.map_cons, List.map_nil]); first | done | rfl | (simp only [List.length_drop, List.length_take]; rfl)) ?_; (with_reducible refine (impl_in.calls (a0_0.size : Int) 1 100 true _ A4.out).mono ?_); rintro e w' ⟨rfl, ⟨nd, rfl⟩⟩; refine ⟨_, rfl, ?_⟩))
   go_meet
   case rel => exact ⟨_, (decide ((a0_1.size : Int) > 100)), (by first | rfl | (simp; done) | (simp [*]; done)), H', ⟨by first | omega | exact Nat.le_refl _⟩, ⟨by (with_reducible repeat (first | refine bN ?_ _ | refine bD ?_ | refine bA ?_ _)); exact BK214.out⟩, ⟨by repeat (first | (with_reducible first | exact HB.out | apply below_alloc | apply pw_below_drewN | apply below_drew1 | refine below_set ?_ GE214.out) | exact HB.out)⟩⟩
  ·replace c5 := Bool.eq_false_iff.mpr c5
   subst c5
   have H1 : (impl_goodField.j0 k true a0_0 a0_1) = some r := by rw [if_neg (show ¬ (false = true) by decide)] at H; exact H
   clear H
   have H := H1
   clear H1
   have H' := Aside0.mk H
   clear H
   obtain ⟨hcz7_0, hcz7_1⟩ := cz2 BK214
   obtain ⟨hfz7_0, hfz7_1⟩ := fz2 BK214
   go_wp2_with (first | ((with_reducible refine gate_callee (f := 33) rfl ?_); refine goesL_ (some 8) rfl rfl Tryd.func33 (by kernel_rfl) rfl #[.int .i64 (a0_0.size : Int), .int .i64 1, .int .i64 100] rfl (by (try simp only [List.map_toArray, List.map_cons, List.map_nil]); first | done | rfl | (simp only [List.length_drop, List.length_take]; rfl)) ?_; (with_reducible refine (impl_in.calls (a0_0.size : Int) 1 100 false _ A4.out).mono ?_); rintro e w' ⟨rfl, ⟨nd, rfl⟩⟩; refine ⟨_, rfl, ?_⟩))
   go_meet
   case rel => exact ⟨_, (true), (by first | rfl | (simp; done) | (simp [*]; done)), H', ⟨by first | omega | exact Nat.le_refl _⟩, ⟨by (with_reducible repeat (first | refine bN ?_ _ | refine bD ?_ | refine bA ?_ _)); exact BK214.out⟩, ⟨by repeat (first | (with_reducible first | exact HB.out | apply below_alloc | apply pw_below_drewN | apply below_drew1 | refine below_set ?_ GE214.out) | exact HB.out)⟩⟩
 case rest =>
  clear HC2
  try clear p2
  try clear c3
  try clear c5
  try clear hcz6_0
  try clear hcz6_1
  try clear hcz7_0
  try clear hcz7_1
  try clear hfz6_0
  try clear hfz6_1
  try clear hfz7_0
  try clear hfz7_1
  obtain ⟨kq, x15_1, rfl, HA, HJ1, BK214, HB⟩ := hcut
  cases kq with
  | zero => exact absurd HA.out (by simp [impl_goodField.j0])
  | succ kj1 =>
   have H := HA.out
   clear HA
   simp only [impl_goodField.j0] at H
   by_cases c8 : x15_1 = true
   ·subst c8
    have H1 : (some false) = some r := by rw [if_pos rfl] at H; exact H
    clear H
    have H := H1
    clear H1
    obtain rfl := Option.some.inj H
    go_wp2
    go_ret
    exact ⟨by first | rfl | (simp [errW_none, errW_some] <;> rfl) | (simp [*, errW_none, errW_some] <;> rfl), by repeat (first | (with_reducible first | exact HB.out | apply below_alloc | apply pw_below_drewN | apply below_drew1 | refine below_set ?_ GE214.out) | exact HB.out)⟩
   ·replace c8 := Bool.eq_false_iff.mpr c8
    subst c8
    have H1 : (impl_goodField.l0 kj1 (a0_1.size : Int) 0 a0_0 a0_1) = some r := by rw [if_neg (show ¬ (false = true) by decide)] at H; exact H
    clear H
    have H := H1
    clear H1
    have H' := Aside0.mk H
    clear H
    obtain ⟨hcz9_0, hcz9_1⟩ := cz2 BK214
    obtain ⟨hfz9_0, hfz9_1⟩ := fz2 BK214
    go_wp2
    go_loopg [19] kj1 (fun kq v19 w' => ∃ (x19_2 : Int), v19 = .int .i64 x19_2 ∧ Aside0 (impl_goodField.l0 kq (a0_1.size : Int) x19_2 a0_0 a0_1 = some r) ∧ Aside0 (kq ≤ kj1) ∧ Aside0 (w'.heap[gb214]? = some (.cells #[.string a0_0, .string a0_1] 65 (0, 0))) ∧ Aside0 (Below w.heap.size w w'))
    case atStart => exact ⟨(0), (by first | rfl | (simp; done) | (simp [*]; done)), H', ⟨Nat.le_refl _⟩, ⟨by (with_reducible repeat (first | refine bN ?_ _ | refine bD ?_ | refine bA ?_ _)); exact BK214.out⟩, ⟨by repeat (first | (with_reducible first | exact HB.out | apply below_alloc | apply pw_below_drewN | apply below_drew1 | refine below_set ?_ GE214.out) | exact HB.out)⟩⟩
    case round =>
     clear H'
     try clear p2
     try clear c3
     try clear c5
     try clear c8
     try clear hcz6_0
     try clear hcz6_1
     try clear hcz7_0
     try clear hcz7_1
     try clear hcz9_0
     try clear hcz9_1
     try clear hfz6_0
     try clear hfz6_1
     try clear hfz7_0
     try clear hfz7_1
     try clear hfz9_0
     try clear hfz9_1
     try clear p2
     obtain ⟨x19_2, rfl, HA, HK2, BK214, HB⟩ := hrel
     cases gk with
     | zero => exact absurd HA.out (by simp [impl_goodField.l0])
     | succ k2 =>
      have H := HA.out
      clear HA
      simp only [impl_goodField.l0] at H
      by_cases c10 : x19_2 < (a0_1.size : Int)
      ·rw [if_pos c10] at H
       have c10b0 : decide (x19_2 < (a0_1.size : Int)) = true := decide_eq_true c10
       clear c10
       by_cases c11 : 0 ≤ x19_2
       ·rw [if_pos c11] at H
        have c11b0 : decide (0 ≤ x19_2) = true := decide_eq_true c11
        clear c11
        by_cases c12 : x19_2 < (a0_1.size : Int)
        ·rw [if_pos c12] at H
         have c12b0 : decide (x19_2 < (a0_1.size : Int)) = true := decide_eq_true c12
         clear c12
         replace H := Option.bind_eq_some_iff.mp H
         obtain ⟨t216, A140, H⟩ := H
         replace H : (if t216 = true then (impl_goodField.l0 k2 (a0_1.size : Int) (wrap64 (x19_2 + 1)) a0_0 a0_1) else (some false)) = some r := H
         have A14 := Aside0.mk A140
         clear A140
         by_cases c15 : t216 = true
         ·subst c15
          have H1 : (impl_goodField.l0 k2 (a0_1.size : Int) (wrap64 (x19_2 + 1)) a0_0 a0_1) = some r := by rw [if_pos rfl] at H; exact H
          clear H
          have H := H1
          clear H1
          have H' := Aside0.mk H
          clear H
          obtain ⟨hcz16_0, hcz16_1⟩ := cz2 BK214
          obtain ⟨hfz16_0, hfz16_1⟩ := fz2 BK214
          have p13 : 0 ≤ (x19_2 : Int) := of_decide_eq_true (by first | (with_reducible assumption) | assumption)
          have q13 : x19_2 < (a0_1.size : Int) := of_decide_eq_true (by first | (with_reducible assumption) | assumption)
          have hx13 := bt_at a0_1 x19_2
          replace p13 := eq_true p13
          replace q13 := eq_true q13
          go_wp2_with (first | ((with_reducible refine gate_callee (f := 33) rfl ?_); refine goesL_ (some 27) rfl rfl Tryd.func33 (by kernel_rfl) rfl #[.int .i64 (wrap64 (bt a0_1 x19_2)), .int .i64 32, .int .i64 126] rfl (by (try simp only [List.map_toArray, List.map_cons, List.map_nil]); first | done | rfl | (simp only [List.length_drop, List.length_take]; rfl)) ?_; (with_reducible refine (impl_in.calls (wrap64 (bt a0_1 x19_2)) 32 126 true _ A14.out).mono ?_); rintro e w' ⟨rfl, ⟨nd, rfl⟩⟩; refine ⟨_, rfl, ?_⟩))
          go_roundg k2
          case measure => have := HJ1.out; have := HK2.out; omega
          case rel => exact ⟨(wrap64 (x19_2 + 1)), (by first | rfl | (simp; done) | (simp [*]; done)), H', ⟨by have := HJ1.out; have := HK2.out; omega⟩, ⟨by (with_reducible repeat (first | refine bN ?_ _ | refine bD ?_ | refine bA ?_ _)); exact BK214.out⟩, ⟨by repeat (first | (with_reducible first | exact HB.out | apply below_alloc | apply pw_below_drewN | apply below_drew1 | refine below_set ?_ GE214.out) | exact HB.out)⟩⟩
         ·replace c15 := Bool.eq_false_iff.mpr c15
          subst c15
          have H1 : (some false) = some r := by rw [if_neg (show ¬ (false = true) by decide)] at H; exact H
          clear H
          have H := H1
          clear H1
          obtain rfl := Option.some.inj H
          obtain ⟨hcz17_0, hcz17_1⟩ := cz2 BK214
          obtain ⟨hfz17_0, hfz17_1⟩ := fz2 BK214
          have p13 : 0 ≤ (x19_2 : Int) := of_decide_eq_true (by first | (with_reducible assumption) | assumption)
          have q13 : x19_2 < (a0_1.size : Int) := of_decide_eq_true (by first | (with_reducible assumption) | assumption)
          have hx13 := bt_at a0_1 x19_2
          replace p13 := eq_true p13
          replace q13 := eq_true q13
          go_wp2_with (first | ((with_reducible refine gate_callee (f := 33) rfl ?_); refine goesL_ (some 27) rfl rfl Tryd.func33 (by kernel_rfl) rfl #[.int .i64 (wrap64 (bt a0_1 x19_2)), .int .i64 32, .int .i64 126] rfl (by (try simp only [List.map_toArray, List.map_cons, List.map_nil]); first | done | rfl | (simp only [List.length_drop, List.length_take]; rfl)) ?_; (with_reducible refine (impl_in.calls (wrap64 (bt a0_1 x19_2)) 32 126 false _ A14.out).mono ?_); rintro e w' ⟨rfl, ⟨nd, rfl⟩⟩; refine ⟨_, rfl, ?_⟩))
          go_ret
          exact ⟨by first | rfl | (simp [errW_none, errW_some] <;> rfl) | (simp [*, errW_none, errW_some] <;> rfl), by repeat (first | (with_reducible first | exact HB.out | apply below_alloc | apply pw_below_drewN | apply below_drew1 | refine below_set ?_ GE214.out) | exact HB.out)⟩
        ·rw [if_neg c12] at H
         exact absurd H (by simp)
       ·rw [if_neg c11] at H
        exact absurd H (by simp)
      ·rw [if_neg c10] at H
       have c10b0 : decide (x19_2 < (a0_1.size : Int)) = false := decide_eq_false c10
       clear c10
       by_cases c18 : 0 < (a0_0.size : Int)
       ·rw [if_pos c18] at H
        have c18b0 : decide (0 < (a0_0.size : Int)) = true := decide_eq_true c18
        have c18b1 : decide (0 < a0_0.size) = true := decide_eq_true (by omega)
        clear c18
        have HC20 := Aside0.mk H
        clear H
        obtain ⟨hcz21_0, hcz21_1⟩ := cz2 BK214
        obtain ⟨hfz21_0, hfz21_1⟩ := fz2 BK214
        have p19 : 0 ≤ (0 : Int) := (by omega)
        have q19 : 0 < a0_0.size := (by have : (0 : Int) < (a0_0.size : Int) := of_decide_eq_true (by first | (with_reducible assumption) | assumption); omega)
        have hx19 : ∀ h : 0 < a0_0.size, ((a0_0[0]'h).toNat : Int) = bt a0_0 0 := bt_at a0_0 0
        clear p19
        have qi19 : (0 < (a0_0.size : Int)) = True := eq_true (of_decide_eq_true (by first | (with_reducible assumption) | assumption))
        replace q19 := eq_true q19
        go_upto_if 34 with (fail)
        go_cut [4] (fun v4 wc => ∃ (kq : Nat) (x4_19 : ByteArray), v4 = .string x4_19 ∧ Aside0 (impl_goodField.j2 kq x4_19 = some r) ∧ Aside0 (kq ≤ k2) ∧ Aside0 (wc.heap[gb214]? = some (.cells #[.string a0_0, .string a0_1] 65 (0, 0))) ∧ Aside0 (Below w.heap.size w wc))
        case first =>
         have H := HC20.out
         clear HC20
         by_cases c22 : (bt a0_0 0) = 58
         ·rw [if_pos c22] at H
          have c22b0 : ((bt a0_0 0) == 58) = true := beq_iff_eq.mpr c22
          have c22b1 : ((bt a0_0 0) != 58) = false := bne_eq_false_iff_eq.mpr c22
          clear c22
          (first | rw [c22b0] | (simp only [i64_w, i32_w]; rw [c22b0]) | skip)
          by_cases c23 : 1 ≤ (a0_0.size : Int)
          ·rw [if_pos c23] at H
           have c23b0 := eq_true c23
           have c23b1 : decide (1 ≤ (a0_0.size : Int)) = true := decide_eq_true c23
           clear c23
           have H' := Aside0.mk H
           clear H
           go_wp2
           go_meet
           case rel => exact ⟨_, (a0_0.extract 1 a0_0.size), (by first | rfl | (simp; done) | (simp [*]; done)), H', ⟨by have := HJ1.out; have := HK2.out; first | omega | exact Nat.le_refl _⟩, ⟨by (with_reducible repeat (first | refine bN ?_ _ | refine bD ?_ | refine bA ?_ _)); exact BK214.out⟩, ⟨by repeat (first | (with_reducible first | exact HB.out | apply below_alloc | apply pw_below_drewN | apply below_drew1 | refine below_set ?_ GE214.out) | exact HB.out)⟩⟩
          ·rw [if_neg c23] at H
           exact absurd H (by simp)
         ·rw [if_neg c22] at H
          have c22b0 : ((bt a0_0 0) == 58) = false := beq_eq_false_iff_ne.mpr c22
          have c22b1 : ((bt a0_0 0) != 58) = true := bne_iff_ne.mpr c22
          (first | rw [c22b0] | (simp only [i64_w, i32_w]; rw [c22b0]) | skip)
          have H' := Aside0.mk H
          clear H
          go_wp2
          go_meet
          case rel => exact ⟨_, (a0_0), (by first | rfl | (simp; done) | (simp [*]; done)), H', ⟨by have := HJ1.out; have := HK2.out; first | omega | exact Nat.le_refl _⟩, ⟨by (with_reducible repeat (first | refine bN ?_ _ | refine bD ?_ | refine bA ?_ _)); exact BK214.out⟩, ⟨by repeat (first | (with_reducible first | exact HB.out | apply below_alloc | apply pw_below_drewN | apply below_drew1 | refine below_set ?_ GE214.out) | exact HB.out)⟩⟩
        case rest =>
         clear HC20
         try clear c1
         try clear p1
         try clear q1
         try clear hx1
         try clear qi1
         try clear c2
         try clear p2
         try clear c3
         try clear c5
         try clear p6
         try clear c8
         try clear c10
         try clear c10b0
         try clear c11
         try clear c11b0
         try clear c12
         try clear c12b0
         try clear p13
         try clear q13
         try clear hx13
         try clear c15
         try clear c18
         try clear c18b0
         try clear c18b1
         try clear p19
         try clear q19
         try clear hx19
         try clear qi19
         try clear c22
         try clear c22b0
         try clear c22b1
         try clear c23
         try clear c23b0
         try clear c23b1
         try clear hcz16_0
         try clear hcz16_1
         try clear hcz17_0
         try clear hcz17_1
         try clear hcz21_0
         try clear hcz21_1
         try clear hcz6_0
         try clear hcz6_1
         try clear hcz7_0
         try clear hcz7_1
         try clear hcz9_0
         try clear hcz9_1
         try clear hfz16_0
         try clear hfz16_1
         try clear hfz17_0
         try clear hfz17_1
         try clear hfz21_0
         try clear hfz21_1
         try clear hfz6_0
         try clear hfz6_1
         try clear hfz7_0
         try clear hfz7_1
         try clear hfz9_0
         try clear hfz9_1
         try clear p13
         try clear p19
         try clear p2
         try clear q13
         try clear q19
         obtain ⟨kq, x4_19, rfl, HA, HJ19, BK214, HB⟩ := hcut
         cases kq with
         | zero => exact absurd HA.out (by simp [impl_goodField.j2])
         | succ kj19 =>
          have H := HA.out
          clear HA
          simp only [impl_goodField.j2] at H
          replace H := Option.bind_eq_some_iff.mp H
          obtain ⟨t217, A240, H⟩ := H
          replace H : (some t217) = some r := H
          have A24 := Aside0.mk A240
          clear A240
          obtain rfl := Option.some.inj H
          go_wp2_with (first | ((with_reducible refine gate_callee (f := 101) rfl ?_); refine goesL_ (some 38) rfl rfl Tryd.func101 (by kernel_rfl) rfl #[.string x4_19, .string (⟨#[97, 98, 99, 100, 101, 102, 103, 104, 105, 106, 107, 108, 109, 110, 111, 112, 113, 114, 115, 116, 117, 118, 119, 120, 121, 122, 48, 49, 50, 51, 52, 53, 54, 55, 56, 57, 45]⟩ : ByteArray)] rfl (by (try simp only [List.map_toArray, List.map_cons, List.map_nil]); first | done | rfl | (simp only [List.length_drop, List.length_take]; rfl)) ?_; (with_reducible refine (impl_over.calls x4_19 (⟨#[97, 98, 99, 100, 101, 102, 103, 104, 105, 106, 107, 108, 109, 110, 111, 112, 113, 114, 115, 116, 117, 118, 119, 120, 121, 122, 48, 49, 50, 51, 52, 53, 54, 55, 56, 57, 45]⟩ : ByteArray) t217 _ A24.out).mono ?_); rintro e w25 ⟨rfl, hb⟩; refine ⟨_, rfl, ?_⟩; have n0_ := bX BK214 hb; have n1_ := bS HB hb; clear BK214; clear HB; have BK214 := n0_; have HB := n1_; clear n0_ n1_; (try clear hb); (try clear hb2); (try clear hk); (try clear hi)))
          go_ret
          exact ⟨by first | rfl | (simp [errW_none, errW_some] <;> rfl) | (simp [*, errW_none, errW_some] <;> rfl), by repeat (first | (with_reducible first | exact HB.out | apply below_alloc | apply pw_below_drewN | apply below_drew1 | refine below_set ?_ GE214.out) | exact HB.out)⟩
       ·rw [if_neg c18] at H
        exact absurd H (by simp)

/-! ### impl_GoodFields_1: function 80 -/
def impl_GoodFields_1.f (k : Nat) (a0_0 : ByteArray) (a0_1 : ByteArray) : Option (Bool) := (impl_goodField.f k a0_0 a0_1).bind fun t219 => (some (!t219))
theorem impl_GoodFields_1.mono : ∀ a0 a1 k, LeO (impl_GoodFields_1.f k a0 a1) (impl_GoodFields_1.f (k + 1) a0 a1) := by
 intro a0 a1 k
 unfold impl_GoodFields_1.f
 repeat' first
   | (with_reducible exact impl_goodField.mono _ _ _)
   | (with_reducible exact LeO.refl _)
   | (with_reducible exact LeO.none _)
   | (with_reducible refine LeO.ite ?_ ?_)
   | (with_reducible refine LeO.bind ?_ (fun _ => ?_))
   | exact impl_goodField.mono _ _ _
   | exact LeO.none _
   | refine LeO.ite ?_ ?_
   | refine LeO.bind ?_ (fun _ => ?_)
set_option maxHeartbeats 64000000 in
set_option maxRecDepth 100000 in
theorem impl_GoodFields_1.calls (k : Nat) (a0_0 : ByteArray) (a0_1 : ByteArray) (r : Bool) (w : World) (h : impl_GoodFields_1.f k a0_0 a0_1 = some r) :
  Calls Tryd.prog 80 #[.agg #[.string a0_0, .string a0_1]] w fun e w' => e = .returned (.bool r) ∧ Below w.heap.size w w' := by
 have hu65 := Tryd.underlying65
 have HB := Aside0.mk (Below.refl w.heap.size w)
 have H : ((impl_goodField.f k a0_0 a0_1).bind fun t219 => (some (!t219))) = some r := h
 clear h
 replace H := Option.bind_eq_some_iff.mp H
 obtain ⟨t219, A20, H⟩ := H
 replace H : (some (!t219)) = some r := H
 have A2 := Aside0.mk A20
 clear A20
 obtain rfl := Option.some.inj H
 go_enter Tryd.func80, Tryd.ntmps80
 go_wp2_with (first | ((with_reducible refine gate_dst (N := 1) rfl ?_); refine box_event ?hg (N := 1) ?hd (cs := #[.string a0_0, .string a0_1]) (t := 65) ?hr ?_; (case hd => rfl); (case hg => rfl); (case hr => first | (go_simp; done) | (go_simp; rfl)); intro gb218 hg w3 hbox hb; have n0_ := bS HB hb; have n1_ := Aside0.mk (hbox); have n2_ := Aside0.mk ((by rw [hg]; exact (below_size (by repeat (first | (with_reducible first | exact HB.out | apply below_alloc | apply pw_below_drewN | apply below_drew1) | exact HB.out))) : w.heap.size ≤ gb218)); have n3_ := n2_; clear HB; have HB := n0_; have BK218 := n1_; have GW218 := n2_; have GE218 := n3_; clear n0_ n1_ n2_ n3_; clear hb hbox hg; obtain ⟨hcz4_0, hcz4_1⟩ := cz2 BK218; obtain ⟨hfz4_0, hfz4_1⟩ := fz2 BK218) | ((with_reducible refine gate_callee (f := 81) rfl ?_); refine goesL_ (some 4) rfl rfl Tryd.func81 (by kernel_rfl) rfl #[.agg #[.string a0_0, .string a0_1]] rfl (by (try simp only [List.map_toArray, List.map_cons, List.map_nil]); first | done | rfl | (simp only [List.length_drop, List.length_take]; rfl)) ?_; (with_reducible refine (impl_goodField.calls k a0_0 a0_1 t219 _ A2.out).mono ?_); rintro e w5 ⟨rfl, hb⟩; refine ⟨_, rfl, ?_⟩; have n0_ := bX BK218 hb; have n1_ := bS HB hb; clear BK218; clear HB; have BK218 := n0_; have HB := n1_; clear n0_ n1_; (try clear hb); (try clear hb2); (try clear hk); (try clear hi)))
 go_ret
 exact ⟨by first | rfl | (simp [errW_none, errW_some] <;> rfl) | (simp [*, errW_none, errW_some] <;> rfl), by repeat (first | (with_reducible first | exact HB.out | apply below_alloc | apply pw_below_drewN | apply below_drew1 | refine below_set ?_ GE218.out) | exact HB.out)⟩

/-! ### impl_Field_80: function 211 -/
def impl_Field_80.p (k : Nat) (x : S65) : Option Bool := impl_GoodFields_1.f k x.f0 x.f1
def impl_Field_80.f (k : Nat) (l0 : List (S65)) : Option (Bool) := if (l0.all fun x => (impl_Field_80.p k x).isSome) = true then (some (l0.any fun x => (impl_Field_80.p k x).getD false)) else none
theorem impl_Field_80.mono : ∀ (l0 : List (S65)) (k : Nat), LeO (impl_Field_80.f k l0) (impl_Field_80.f (k + 1) l0) := by
  intro l0 k r h
  unfold impl_Field_80.f at h ⊢
  by_cases ha : (l0.all fun x => (impl_Field_80.p k x).isSome) = true
  · rw [if_pos ha] at h
    have he : ∀ x, x ∈ l0 → impl_Field_80.p (k + 1) x = impl_Field_80.p k x := fun x hx => by
      obtain ⟨b, hb⟩ := Option.isSome_iff_exists.1 (List.all_eq_true.1 ha x hx)
      rw [hb]
      exact impl_GoodFields_1.mono _ _ k b hb
    have ha' : (l0.all fun x => (impl_Field_80.p (k + 1) x).isSome) = true := List.all_eq_true.2 (fun x hx => by rw [he x hx]; exact List.all_eq_true.1 ha x hx)
    have hn : (l0.any fun x => (impl_Field_80.p (k + 1) x).getD false) = (l0.any fun x => (impl_Field_80.p k x).getD false) := by
      rw [Bool.eq_iff_iff, List.any_eq_true, List.any_eq_true]
      exact ⟨fun ⟨x, hx, h⟩ => ⟨x, hx, by rw [← he x hx]; exact h⟩, fun ⟨x, hx, h⟩ => ⟨x, hx, by rw [he x hx]; exact h⟩⟩
    rw [if_pos ha', hn]
    exact h
  · rw [if_neg ha] at h
    cases h
set_option maxHeartbeats 4000000 in
set_option maxRecDepth 100000 in
theorem impl_Field_80.calls (k : Nat) (A0 : Option Addr) (c0 : Nat) (l0 : List (S65)) (r : Bool) (w : World) (hr0 : Kd.C k65 w A0 l0.length l0) (hc0 : l0.length ≤ c0) (h : impl_Field_80.f k l0 = some r) :
    Calls Tryd.prog 79 #[.slice A0 l0.length c0, .func (.func 80) #[] #[]] w fun e w' => e = .returned (.bool r) ∧ Below w.heap.size w w' := by
  have hs : (l0.all fun x => (impl_Field_80.p k x).isSome) = true ∧ (l0.any fun x => (impl_Field_80.p k x).getD false) = r := by
    unfold impl_Field_80.f at h
    split at h
    · exact ⟨by assumption, Option.some.inj h⟩
    · cases h
  obtain ⟨ha, rfl⟩ := hs
  have eg : ∀ args w, (callFunc 80 args).run Tryd.prog w = .ok (.enter 80 args) w := enters_ Tryd.func80 (by kernel_rfl) rfl
  exact anyF_Field A0 c0 l0 80 #[] (fun x => (impl_Field_80.p k x).getD false) w eg
    (fun W x hx hb => by
      have hq := List.all_eq_true.1 ha x hx
      obtain ⟨b, hb'⟩ := Option.isSome_iff_exists.1 hq
      refine (show Calls Tryd.prog 80 (#[.agg #[.string x.f0, .string x.f1]] ++ #[]) W _ from ?_)
      rw [hb', Option.getD_some]
      exact (impl_GoodFields_1.calls k x.f0 x.f1 b W hb').mono fun e w' hh => ⟨hh.1, hb.trans ((show Below W.heap.size W w' from by first | exact hh.2 | exact hh.2.below).mono hb.size)⟩) hr0

/-! ### impl_GoodFields: function 40 -/
/-- What the closure says of an element. -/
def GoodFieldsP (k : Nat) (x : S65) : Option Bool := impl_GoodFields_1.f k x.f0 x.f1
def impl_GoodFields.f (k : Nat) (l0 : List (S65)) : Option (Bool) := if (l0.all fun x => (GoodFieldsP k x).isSome) = true then (some (decide ((l0.length : Int) ≤ 30) && !(l0.any fun x => (GoodFieldsP k x).getD false))) else none
theorem impl_GoodFields.mono : ∀ (l0 : List (S65)) (k : Nat), LeO (impl_GoodFields.f k l0) (impl_GoodFields.f (k + 1) l0) := by
  intro l0 k r h
  unfold impl_GoodFields.f at h ⊢
  by_cases ha : (l0.all fun x => (GoodFieldsP k x).isSome) = true
  · rw [if_pos ha] at h
    have he : ∀ x, x ∈ l0 → GoodFieldsP (k + 1) x = GoodFieldsP k x := fun x hx => by
      obtain ⟨b, hb⟩ := Option.isSome_iff_exists.1 (List.all_eq_true.1 ha x hx)
      rw [hb]
      exact impl_GoodFields_1.mono _ _ k b hb
    have ha' : (l0.all fun x => (GoodFieldsP (k + 1) x).isSome) = true := List.all_eq_true.2 (fun x hx => by rw [he x hx]; exact List.all_eq_true.1 ha x hx)
    have hn : (l0.any fun x => (GoodFieldsP (k + 1) x).getD false) = (l0.any fun x => (GoodFieldsP k x).getD false) := by
      rw [Bool.eq_iff_iff, List.any_eq_true, List.any_eq_true]
      exact ⟨fun ⟨x, hx, h⟩ => ⟨x, hx, by rw [← he x hx]; exact h⟩, fun ⟨x, hx, h⟩ => ⟨x, hx, by rw [he x hx]; exact h⟩⟩
    rw [if_pos ha', hn]
    exact h
  · rw [if_neg ha] at h
    cases h
theorem GoodFieldsP_calls (k : Nat) (x : S65) (b : Bool) (W : World) (h : GoodFieldsP k x = some b) :
    Calls Tryd.prog 80 #[.agg #[.string x.f0, .string x.f1]] W fun e w' => e = .returned (.bool b) ∧ Below W.heap.size W w' :=
  (impl_GoodFields_1.calls k x.f0 x.f1 b W h).mono fun e w' hh => ⟨hh.1, by first | exact hh.2 | exact hh.2.below⟩
set_option maxHeartbeats 4000000 in
set_option maxRecDepth 100000 in
theorem impl_GoodFields.calls (k : Nat) (A0 : Option Addr) (c0 : Nat) (l0 : List (S65)) (r : Bool) (w : World) (hr0 : Kd.C k65 w A0 l0.length l0) (hc0 : l0.length ≤ c0) (h : impl_GoodFields.f k l0 = some r) :
    Calls Tryd.prog 40 #[.slice A0 l0.length c0] w fun e w' => e = .returned (.bool r) ∧ Below w.heap.size w w' := by
  have hs : (l0.all fun x => (GoodFieldsP k x).isSome) = true ∧ (decide ((l0.length : Int) ≤ 30) && !(l0.any fun x => (GoodFieldsP k x).getD false)) = r := by
    unfold impl_GoodFields.f at h
    split at h
    · exact ⟨by assumption, Option.some.inj h⟩
    · cases h
  clear h
  obtain ⟨ha, rfl⟩ := hs
  have eg : ∀ args w, (callFunc 80 args).run Tryd.prog w = .ok (.enter 80 args) w := enters_ Tryd.func80 (by kernel_rfl) rfl
  have hcon := anyF_Field A0 c0 l0 80 #[] (fun x => (GoodFieldsP k x).getD false) w eg
    (fun W x hx hb => by
      have hq := List.all_eq_true.1 ha x hx
      obtain ⟨b, hb'⟩ := Option.isSome_iff_exists.1 hq
      refine (show Calls Tryd.prog 80 (#[.agg #[.string x.f0, .string x.f1]] ++ #[]) W _ from ?_)
      rw [hb', Option.getD_some]
      exact (GoodFieldsP_calls k x b W hb').mono fun e w' hh => ⟨hh.1, hb.trans (hh.2.mono hb.size)⟩) hr0
  clear hr0 eg ha
  have HB := Aside0.mk (Below.refl w.heap.size w)
  generalize (l0.any fun x => (GoodFieldsP k x).getD false) = q at hcon ⊢
  by_cases hl : (l0.length : Int) ≤ 30
  · have c1 : decide ((l0.length : Int) ≤ 30) = true := decide_eq_true hl
    rw [c1]
    clear hl
    go_enter Tryd.func40, Tryd.ntmps40
    go_wp2_with fail
    refine hcon.mono ?_
    rintro e w' ⟨rfl, hb'⟩
    go_wp2
    go_ret
    exact ⟨rfl, HB.out.trans (hb'.mono (by simp))⟩
  · have c1 : decide ((l0.length : Int) ≤ 30) = false := decide_eq_false hl
    rw [c1]
    clear hl hcon
    go_enter Tryd.func40, Tryd.ntmps40
    go_wp2_with fail
    go_ret
    exact ⟨rfl, HB.out⟩

/-! ### impl_bigEndian: function 135 -/
def impl_bigEndian.l0 : Nat → Int → List Int → Int → Option (ByteArray)
 | 0, _, _, _ => none
 | k + 1, x0, x5, x6 => if x6 ≥ 0 then (if 0 ≤ x6 then (if x6 < (x5.length : Int) then (impl_bigEndian.l0 k (x0 / 256) (x5.set (x6 : Int).toNat ((x0) % 256)) (wrap64 (x6 - 1))) else (none)) else (none)) else (some (strOfNums x5))
def impl_bigEndian.f (k : Nat) (a0 : Int) (a1 : Int) : Option (ByteArray) := if 0 ≤ a1 then (if (a1 : Int).toNat ≤ 281474976710656 then (impl_bigEndian.l0 k a0 (List.replicate (a1 : Int).toNat 0) (wrap64 (a1 - 1))) else (none)) else (none)
theorem impl_bigEndian.mono_l : ∀ k, (∀ y0 y1 y2, LeO (impl_bigEndian.l0 k y0 y1 y2) (impl_bigEndian.l0 (k + 1) y0 y1 y2))
 | 0 => fun _ _ _ r h => by simp [impl_bigEndian.l0] at h
 | k + 1 => by
  have ih0 := impl_bigEndian.mono_l k
  ·intro y0 y1 y2
   unfold impl_bigEndian.l0
   repeat' first
   | (with_reducible exact ih0 _ _ _)
   | (with_reducible exact LeO.refl _)
   | (with_reducible exact LeO.none _)
   | (with_reducible refine LeO.ite ?_ ?_)
   | (with_reducible refine LeO.bind ?_ (fun _ => ?_))
   | exact ih0 _ _ _
   | exact LeO.none _
   | refine LeO.ite ?_ ?_
   | refine LeO.bind ?_ (fun _ => ?_)
theorem impl_bigEndian.mono : ∀ a0 a1 k, LeO (impl_bigEndian.f k a0 a1) (impl_bigEndian.f (k + 1) a0 a1) := by
 intro a0 a1 k
 have ih0 := impl_bigEndian.mono_l k
 unfold impl_bigEndian.f
 repeat' first
   | (with_reducible exact ih0 _ _ _)
   | (with_reducible exact LeO.refl _)
   | (with_reducible exact LeO.none _)
   | (with_reducible refine LeO.ite ?_ ?_)
   | (with_reducible refine LeO.bind ?_ (fun _ => ?_))
   | exact ih0 _ _ _
   | exact LeO.none _
   | refine LeO.ite ?_ ?_
   | refine LeO.bind ?_ (fun _ => ?_)
set_option maxHeartbeats 64000000 in
set_option maxRecDepth 100000 in
theorem impl_bigEndian.calls (k : Nat) (a0 : Int) (a1 : Int) (r : ByteArray) (w : World) (h : impl_bigEndian.f k a0 a1 = some r) :
  Calls Tryd.prog 135 #[.int .u64 a0, .int .i64 a1] w fun e w' => e = .returned (.string r) ∧ Below w.heap.size w w' := by
 have HB := Aside0.mk (Below.refl w.heap.size w)
 have H : (if 0 ≤ a1 then (if (a1 : Int).toNat ≤ 281474976710656 then (impl_bigEndian.l0 k a0 (List.replicate (a1 : Int).toNat 0) (wrap64 (a1 - 1))) else (none)) else (none)) = some r := h
 clear h
 by_cases c3 : 0 ≤ a1
 ·rw [if_pos c3] at H
  have c3b0 := eq_true c3
  have c3b1 : decide (0 ≤ a1) = true := decide_eq_true c3
  clear c3
  by_cases c4 : (a1 : Int).toNat ≤ 281474976710656
  ·rw [if_pos c4] at H
   have c4b0 := eq_true c4
   have c4b1 : decide ((a1 : Int).toNat ≤ 281474976710656) = true := decide_eq_true c4
   clear c4
   obtain ⟨y220, hy220⟩ : ∃ y_ : List Int, y_ = (List.replicate (a1 : Int).toNat 0) := ⟨_, rfl⟩
   replace H : (impl_bigEndian.l0 k a0 y220 (wrap64 (a1 - 1))) = some r := by first | (rw [hy220]; with_reducible exact H) | (have H2_ := (Option.bind_some _ _).symm.trans H; rw [hy220]; with_reducible exact H2_) | (have H2_ := (Option.bind_some _ _).symm.trans H; with_reducible exact H2_) | with_reducible exact H | (rw [hy220]; exact H) | exact H
   have Ny220 := Aside0.mk hy220
   clear hy220
   have H' := Aside0.mk H
   clear H
   go_enter Tryd.func135, Tryd.ntmps135
   go_wp2_with (first | ((with_reducible refine gate_dst (N := 8) rfl ?_); refine Kd.R_make (Kd.int .u8) _ 5 rfl (N := 8) rfl 109 _ _ rfl a1 rfl rfl Tryd.underlying109 (.int .u8 0) 1 info5 rfl (by decide) (by omega) 0 (ok := fun _ => True) (okp := fun _ => True) rfl (fun _ hk => hk) trivial (of_decide_eq_true (by first | (with_reducible assumption) | assumption)) (Nat.le_trans (Nat.mul_le_mul_right _ (of_decide_eq_true (by first | (with_reducible assumption) | assumption) : a1.toNat ≤ 281474976710656)) (by omega)) (Below.refl _ _) (Nat.le_refl _) ?_; intro v221 w5 ho6 hb hg_ hnew_; clear hg_ hnew_; (first | rw [← Ny220.out] at ho6 | (simp only [Int.reduceToNat] at ho6; rw [← Ny220.out] at ho6)); have n0_ := Aside0.mk (Kd.R_lower ho6 (below_size (by repeat (first | (with_reducible first | exact HB.out | apply below_alloc | apply pw_below_drewN | apply below_drew1) | exact HB.out)))); have n1_ := bS HB hb; clear HB; have HO222 := n0_; have HB := n1_; clear n0_ n1_; clear hb ho6))
   go_loopg [0, 6] k (fun kq v0 v6 w' => ∃ (x0_1 : Int) (x5_1 : List Int) (x6_1 : Int), v0 = .int .u64 x0_1 ∧ v6 = .int .i64 x6_1 ∧ Aside0 (impl_bigEndian.l0 kq x0_1 x5_1 x6_1 = some r) ∧ Aside0 (kq ≤ k) ∧ Aside0 (Kd.R (Kd.int .u8) 5 w' w.heap.size (fun _ => True) v221 x5_1) ∧ Aside0 (Below w.heap.size w w'))
   case atStart => exact ⟨(a0), (y220), (wrap64 (a1 - 1)), (by first | rfl | (simp; done) | (simp [*]; done)), (by first | rfl | (simp; done) | (simp [*]; done)), H', ⟨Nat.le_refl _⟩, ⟨by (with_reducible repeat (first | apply Kd.R_alloc | apply Kd.R_drewN | apply Kd.R_drew)); exact HO222.out⟩, ⟨by repeat (first | (with_reducible first | exact HB.out | apply below_alloc | apply pw_below_drewN | apply below_drew1) | exact HB.out)⟩⟩
   case round =>
    clear H'
    try clear c1
    try clear p2
    try clear c3
    try clear c3b0
    try clear c3b1
    try clear c4
    try clear c4b0
    try clear c4b1
    try clear p6
    obtain ⟨x0_1, x5_1, x6_1, rfl, rfl, HA, HK1, HO_5, HB⟩ := hrel
    cases gk with
    | zero => exact absurd HA.out (by simp [impl_bigEndian.l0])
    | succ k1 =>
     have H := HA.out
     clear HA
     simp only [impl_bigEndian.l0] at H
     by_cases c7 : x6_1 ≥ 0
     ·rw [if_pos c7] at H
      have c7b0 : decide (0 ≤ x6_1) = true := decide_eq_true c7
      clear c7
      by_cases c8 : 0 ≤ x6_1
      ·rw [if_pos c8] at H
       have c8b0 : decide (0 ≤ x6_1) = true := decide_eq_true c8
       clear c8
       by_cases c9 : x6_1 < (x5_1.length : Int)
       ·rw [if_pos c9] at H
        have c9b0 : decide (x6_1 < (x5_1.length : Int)) = true := decide_eq_true c9
        clear c9
        obtain ⟨y223, hy223⟩ : ∃ y_ : List Int, y_ = (x5_1.set (x6_1 : Int).toNat ((x0_1) % 256)) := ⟨_, rfl⟩
        replace H : (impl_bigEndian.l0 k1 (x0_1 / 256) y223 (wrap64 (x6_1 - 1))) = some r := by first | (rw [hy223]; with_reducible exact H) | (have H2_ := (Option.bind_some _ _).symm.trans H; rw [hy223]; with_reducible exact H2_) | (have H2_ := (Option.bind_some _ _).symm.trans H; with_reducible exact H2_) | with_reducible exact H | (rw [hy223]; exact H) | exact H
        have Ny223 := Aside0.mk hy223
        clear hy223
        have H' := Aside0.mk H
        clear H
        have p10 : 0 ≤ (x6_1 : Int) := of_decide_eq_true (by first | (with_reducible assumption) | assumption)
        have q10 : (x6_1 : Int) < ((x5_1.length : Int) : Int) := of_decide_eq_true (by first | (with_reducible assumption) | assumption)
        obtain ⟨go10, co10, eo10, gb10, gl10, cl10, HG10⟩ := Kd.R_form HO_5.out (by omega)
        (first | cases eo10 | (injection eo10 with ea_ en_ ec_; (first | subst ea_ | (injection ea_ with ea_; subst ea_)); subst ec_; clear en_))
        have GB10 := Aside0.mk gb10
        have GG10 := Aside0.mk HG10
        clear gb10 gl10 HG10
        obtain ⟨hx10_0, hf10_0⟩ := Kd.R_celln 0 HO_5.out (x6_1 : Int) p10 q10
        replace p10 := eq_true p10
        replace q10 := eq_true q10
        have HP11 := Kd.R_putg HO_5.out (x6_1 : Int) ((x0_1) % 256)
        go_wp2_with (first | ((with_reducible refine gate_store (t := 5) (p := 19) rfl ?_); refine store_event (t := 5) (p := 19) (v := ?vo_w12) (w1 := (wr.setCell ⟨go10, (x6_1 : Int).toNat, none⟩ (.int .u8 ((x0_1) % 256)))) ?hg ?ho ?hn ?hr ?_; (case ho => rfl); (case hg => rfl); (case hn => rfl); (case hr => first | (go_simp; done) | (go_simp; rfl)); intro w12 hw; have hg : wr.grownBy w12 (some go10) := (by rw [hw]; exact HP11.2); have hp_ : Kd.R (Kd.int .u8) 5 w12 w.heap.size (fun _ => True) (.slice (some ⟨go10, 0, none⟩) x5_1.length co10) y223 := (by rw [hw, Ny223.out]; exact HP11.1); clear HP11; have n0_ := Aside0.mk (hp_); have n1_ := Aside0.mk ((by rw [hw]; exact below_set (HB.out) GB10.out : Below w.heap.size w w12)); clear HO_5; clear HB; have HO_5 := n0_; have HB := n1_; clear n0_ n1_; clear hg hw hp_))
        go_roundg k1
        case measure => have := HK1.out; omega
        case rel => exact ⟨(x0_1 / 256), (y223), (wrap64 (x6_1 - 1)), (by first | rfl | (simp; done) | (simp [*]; done)), (by first | rfl | (simp; done) | (simp [*]; done)), H', ⟨by have := HK1.out; omega⟩, ⟨by (with_reducible repeat (first | apply Kd.R_alloc | apply Kd.R_drewN | apply Kd.R_drew)); exact HO_5.out⟩, ⟨by repeat (first | (with_reducible first | exact HB.out | apply below_alloc | apply pw_below_drewN | apply below_drew1) | exact HB.out)⟩⟩
       ·rw [if_neg c9] at H
        exact absurd H (by simp)
      ·rw [if_neg c8] at H
       exact absurd H (by simp)
     ·rw [if_neg c7] at H
      have c7b0 : decide (0 ≤ x6_1) = false := decide_eq_false c7
      clear c7
      obtain rfl := Option.some.inj H
      have hcv13 := own_string (P := Tryd.prog) Tryd.underlying109 Tryd.underlying5 Tryd.underlying9 (Kd.own_of_R HO_5.out)
      go_wp2
      go_ret
      exact ⟨by first | rfl | (simp [errW_none, errW_some] <;> rfl) | (simp [*, errW_none, errW_some] <;> rfl), by repeat (first | (with_reducible first | exact HB.out | apply below_alloc | apply pw_below_drewN | apply below_drew1) | exact HB.out)⟩
  ·rw [if_neg c4] at H
   exact absurd H (by simp)
 ·rw [if_neg c3] at H
  exact absurd H (by simp)

/-! ### impl_prefixed: function 110 -/
def impl_prefixed.l0 : Nat → Int → ByteArray → Option (ByteArray)
 | 0, _, _ => none
 | k + 1, x0, x8 => if x0 ≥ 128 then ((impl_bigEndian.f k (IntKind.u64.wrap (wrap64 ((Int.tmod x0 128) + 128))) 1).bind fun t226 => (if x8.size + t226.size ≤ 9223372036854775807 then (impl_prefixed.l0 k (wrap64 (Int.tdiv x0 128)) (x8 ++ t226)) else (none))) else ((impl_bigEndian.f k (IntKind.u64.wrap (x0)) 1).bind fun t227 => (if x8.size + t227.size ≤ 9223372036854775807 then (some (x8 ++ t227)) else (none)))
def impl_prefixed.f (k : Nat) (a0 : Int) (a1 : Int) (a2 : Int) : Option (ByteArray) := if 0 ≤ a1 then (if a0 < (wrap64 ((shl .i64 1 a1) - 1)) then ((impl_bigEndian.f k (IntKind.u64.wrap (wrap64 (a2 + a0))) 1).bind fun t224 => (some t224)) else ((impl_bigEndian.f k (IntKind.u64.wrap (wrap64 (a2 + (wrap64 ((shl .i64 1 a1) - 1))))) 1).bind fun t225 => (impl_prefixed.l0 k (wrap64 (a0 - (wrap64 ((shl .i64 1 a1) - 1)))) t225))) else (none)
theorem impl_prefixed.mono_l : ∀ k, (∀ y0 y1, LeO (impl_prefixed.l0 k y0 y1) (impl_prefixed.l0 (k + 1) y0 y1))
 | 0 => fun _ _ r h => by simp [impl_prefixed.l0] at h
 | k + 1 => by
  have ih0 := impl_prefixed.mono_l k
  ·intro y0 y1
   unfold impl_prefixed.l0
   repeat' first
   | (with_reducible exact ih0 _ _)
   | (with_reducible exact impl_bigEndian.mono _ _ _)
   | (with_reducible exact LeO.refl _)
   | (with_reducible exact LeO.none _)
   | (with_reducible refine LeO.ite ?_ ?_)
   | (with_reducible refine LeO.bind ?_ (fun _ => ?_))
   | exact ih0 _ _
   | exact impl_bigEndian.mono _ _ _
   | exact LeO.none _
   | refine LeO.ite ?_ ?_
   | refine LeO.bind ?_ (fun _ => ?_)
theorem impl_prefixed.mono : ∀ a0 a1 a2 k, LeO (impl_prefixed.f k a0 a1 a2) (impl_prefixed.f (k + 1) a0 a1 a2) := by
 intro a0 a1 a2 k
 have ih0 := impl_prefixed.mono_l k
 unfold impl_prefixed.f
 repeat' first
   | (with_reducible exact ih0 _ _)
   | (with_reducible exact impl_bigEndian.mono _ _ _)
   | (with_reducible exact LeO.refl _)
   | (with_reducible exact LeO.none _)
   | (with_reducible refine LeO.ite ?_ ?_)
   | (with_reducible refine LeO.bind ?_ (fun _ => ?_))
   | exact ih0 _ _
   | exact impl_bigEndian.mono _ _ _
   | exact LeO.none _
   | refine LeO.ite ?_ ?_
   | refine LeO.bind ?_ (fun _ => ?_)
set_option maxHeartbeats 64000000 in
set_option maxRecDepth 100000 in
theorem impl_prefixed.calls (k : Nat) (a0 : Int) (a1 : Int) (a2 : Int) (r : ByteArray) (w : World) (h : impl_prefixed.f k a0 a1 a2 = some r) :
  Calls Tryd.prog 110 #[.int .i64 a0, .int .i64 a1, .int .i64 a2] w fun e w' => e = .returned (.string r) ∧ Below w.heap.size w w' := by
 have HB := Aside0.mk (Below.refl w.heap.size w)
 have H : (if 0 ≤ a1 then (if a0 < (wrap64 ((shl .i64 1 a1) - 1)) then ((impl_bigEndian.f k (IntKind.u64.wrap (wrap64 (a2 + a0))) 1).bind fun t224 => (some t224)) else ((impl_bigEndian.f k (IntKind.u64.wrap (wrap64 (a2 + (wrap64 ((shl .i64 1 a1) - 1))))) 1).bind fun t225 => (impl_prefixed.l0 k (wrap64 (a0 - (wrap64 ((shl .i64 1 a1) - 1)))) t225))) else (none)) = some r := h
 clear h
 by_cases c4 : 0 ≤ a1
 ·rw [if_pos c4] at H
  have c4b0 := eq_true c4
  have c4b1 : decide (0 ≤ a1) = true := decide_eq_true c4
  clear c4
  obtain ⟨ji5, hji5⟩ : ∃ j_ : Int, (shl .i64 1 a1) = j_ := ⟨_, rfl⟩
  replace H : (if a0 < (wrap64 ((ji5) - 1)) then ((impl_bigEndian.f k (IntKind.u64.wrap (wrap64 (a2 + a0))) 1).bind fun t224 => (some t224)) else ((impl_bigEndian.f k (IntKind.u64.wrap (wrap64 (a2 + (wrap64 ((ji5) - 1))))) 1).bind fun t225 => (impl_prefixed.l0 k (wrap64 (a0 - (wrap64 ((ji5) - 1)))) t225))) = some r := by first | (rw [hji5] at H; exact H) | (simp only [hji5] at H ⊢; exact H)
  have hji5_ : (IntKind.i64.wrap (1 * 2 ^ min a1.toNat 64)) = ji5 := hji5
  have hji5z : a1 ≤ 64 → (IntKind.i64.wrap (1 * 2 ^ a1.toNat)) = ji5 := shl_small hji5
  have hji5u : (IntKind.i64.wrap (2 ^ min a1.toNat 64)) = ji5 := by have h_ := hji5_; rw [Int.one_mul] at h_; exact h_
  have hji5v : a1 ≤ 64 → (IntKind.i64.wrap (2 ^ a1.toNat)) = ji5 := fun hle_ => by have h_ := hji5z hle_; rw [Int.one_mul] at h_; exact h_
  have hji5y : (wrap64 (1 * 2 ^ min a1.toNat 64)) = ji5 := (i64_w _).symm.trans hji5_
  have hji5x : a1 ≤ 64 → (wrap64 (1 * 2 ^ a1.toNat)) = ji5 := fun h_ => (i64_w _).symm.trans (hji5z h_)
  by_cases c6 : a0 < (wrap64 ((ji5) - 1))
  ·rw [if_pos c6] at H
   have c6b0 : decide (a0 < (wrap64 ((ji5) - 1))) = true := decide_eq_true c6
   (try (have c6b1 : decide (a0 < (IntKind.i64.wrap ((ji5) - 1))) = true := by simp only [i64_w]; exact (decide_eq_true c6)))
   clear c6
   replace H := Option.bind_eq_some_iff.mp H
   obtain ⟨t224, A70, H⟩ := H
   replace H : (some t224) = some r := H
   have A7 := Aside0.mk A70
   clear A70
   obtain rfl := Option.some.inj H
   go_enter Tryd.func110, Tryd.ntmps110
   go_wp2_with (first | ((with_reducible refine gate_callee (f := 135) rfl ?_); refine goesL_ (some 19) rfl rfl Tryd.func135 (by kernel_rfl) rfl #[.int .u64 (IntKind.u64.wrap (wrap64 (a2 + a0))), .int .i64 1] rfl (by (try simp only [List.map_toArray, List.map_cons, List.map_nil]); first | done | rfl | (simp only [List.length_drop, List.length_take]; rfl)) ?_; (with_reducible refine (impl_bigEndian.calls k (IntKind.u64.wrap (wrap64 (a2 + a0))) 1 t224 _ A7.out).mono ?_); rintro e w8 ⟨rfl, hb⟩; refine ⟨_, rfl, ?_⟩; have n0_ := bS HB hb; clear HB; have HB := n0_; clear n0_; (try clear hb); (try clear hb2); (try clear hk); (try clear hi)))
   go_ret
   exact ⟨by first | rfl | (simp [errW_none, errW_some] <;> rfl) | (simp only [← hji5]; first | rfl | (simp [errW_none, errW_some] <;> rfl)) | (simp [*, errW_none, errW_some] <;> rfl), by repeat (first | (with_reducible first | exact HB.out | apply below_alloc | apply pw_below_drewN | apply below_drew1) | exact HB.out)⟩
  ·rw [if_neg c6] at H
   have c6b0 : decide (a0 < (wrap64 ((ji5) - 1))) = false := decide_eq_false c6
   (try (have c6b1 : decide (a0 < (IntKind.i64.wrap ((ji5) - 1))) = false := by simp only [i64_w]; exact (decide_eq_false c6)))
   clear c6
   replace H := Option.bind_eq_some_iff.mp H
   obtain ⟨t225, A90, H⟩ := H
   replace H : (impl_prefixed.l0 k (wrap64 (a0 - (wrap64 ((ji5) - 1)))) t225) = some r := H
   have A9 := Aside0.mk A90
   clear A90
   have H' := Aside0.mk H
   clear H
   go_enter Tryd.func110, Tryd.ntmps110
   go_wp2_with (first | ((with_reducible refine gate_callee (f := 135) rfl ?_); refine goesL_ (some 24) rfl rfl Tryd.func135 (by kernel_rfl) rfl #[.int .u64 (IntKind.u64.wrap (wrap64 (a2 + (wrap64 ((ji5) - 1))))), .int .i64 1] rfl (by (try simp only [List.map_toArray, List.map_cons, List.map_nil]); first | done | (simp only [hji5]; rfl) | rfl | (simp only [List.length_drop, List.length_take]; rfl)) ?_; (with_reducible refine (impl_bigEndian.calls k (IntKind.u64.wrap (wrap64 (a2 + (wrap64 ((ji5) - 1))))) 1 t225 _ A9.out).mono ?_); rintro e w10 ⟨rfl, hb⟩; refine ⟨_, rfl, ?_⟩; have n0_ := bS HB hb; clear HB; have HB := n0_; clear n0_; (try clear hb); (try clear hb2); (try clear hk); (try clear hi)))
   go_loopg [0, 8] k (fun kq v0 v8 w' => ∃ (x0_1 : Int) (x8_1 : ByteArray), v0 = .int .i64 x0_1 ∧ v8 = .string x8_1 ∧ Aside0 (impl_prefixed.l0 kq x0_1 x8_1 = some r) ∧ Aside0 (kq ≤ k) ∧ Aside0 (Below w.heap.size w w'))
   case atStart => exact ⟨(wrap64 (a0 - (wrap64 ((ji5) - 1)))), (t225), (by first | rfl | (simp; done) | (simp only [← hji5] <;> (first | rfl | (simp; done))) | (simp only [← hji5, i64_w] <;> (first | rfl | (simp; done))) | (simp [*]; done)), (by first | rfl | (simp; done) | (simp [*]; done)), H', ⟨Nat.le_refl _⟩, ⟨by repeat (first | (with_reducible first | exact HB.out | apply below_alloc | apply pw_below_drewN | apply below_drew1) | exact HB.out)⟩⟩
   case round =>
    clear H'
    try clear c1
    try clear p2
    try clear c4
    try clear c4b0
    try clear c4b1
    try clear c6
    try clear c6b0
    try clear c6b1
    try clear p6
    obtain ⟨x0_1, x8_1, rfl, rfl, HA, HK1, HB⟩ := hrel
    cases gk with
    | zero => exact absurd HA.out (by simp [impl_prefixed.l0])
    | succ k1 =>
     have H := HA.out
     clear HA
     simp only [impl_prefixed.l0] at H
     by_cases c11 : x0_1 ≥ 128
     ·rw [if_pos c11] at H
      have c11b0 : decide (128 ≤ x0_1) = true := decide_eq_true c11
      clear c11
      replace H := Option.bind_eq_some_iff.mp H
      obtain ⟨t226, A120, H⟩ := H
      replace H : (if x8_1.size + t226.size ≤ 9223372036854775807 then (impl_prefixed.l0 k1 (wrap64 (Int.tdiv x0_1 128)) (x8_1 ++ t226)) else (none)) = some r := H
      have A12 := Aside0.mk A120
      clear A120
      by_cases c13 : x8_1.size + t226.size ≤ 9223372036854775807
      ·rw [if_pos c13] at H
       have c13b0 := eq_true c13
       have c13b1 : decide (x8_1.size + t226.size ≤ 9223372036854775807) = true := decide_eq_true c13
       try have c13b2 : (9223372036854775807 < x8_1.size + t226.size) = False := eq_false (Nat.not_lt.2 c13)
       have H' := Aside0.mk H
       clear H
       go_wp2_with (first | ((with_reducible refine gate_callee (f := 135) rfl ?_); refine goesL_ (some 37) rfl rfl Tryd.func135 (by kernel_rfl) rfl #[.int .u64 (IntKind.u64.wrap (wrap64 ((Int.tmod x0_1 128) + 128))), .int .i64 1] rfl (by (try simp only [List.map_toArray, List.map_cons, List.map_nil]); first | done | rfl | (simp only [List.length_drop, List.length_take]; rfl)) ?_; (with_reducible refine (impl_bigEndian.calls k1 (IntKind.u64.wrap (wrap64 ((Int.tmod x0_1 128) + 128))) 1 t226 _ A12.out).mono ?_); rintro e w14 ⟨rfl, hb⟩; refine ⟨_, rfl, ?_⟩; have n0_ := bS HB hb; clear HB; have HB := n0_; clear n0_; (try clear hb); (try clear hb2); (try clear hk); (try clear hi)))
       go_roundg k1
       case measure => have := HK1.out; omega
       case rel => exact ⟨(wrap64 (Int.tdiv x0_1 128)), (x8_1 ++ t226), (by first | rfl | (simp; done) | (simp [*]; done)), (by first | rfl | (simp; done) | (simp [*]; done)), H', ⟨by have := HK1.out; omega⟩, ⟨by repeat (first | (with_reducible first | exact HB.out | apply below_alloc | apply pw_below_drewN | apply below_drew1) | exact HB.out)⟩⟩
      ·rw [if_neg c13] at H
       exact absurd H (by simp)
     ·rw [if_neg c11] at H
      have c11b0 : decide (128 ≤ x0_1) = false := decide_eq_false c11
      clear c11
      replace H := Option.bind_eq_some_iff.mp H
      obtain ⟨t227, A150, H⟩ := H
      replace H : (if x8_1.size + t227.size ≤ 9223372036854775807 then (some (x8_1 ++ t227)) else (none)) = some r := H
      have A15 := Aside0.mk A150
      clear A150
      by_cases c16 : x8_1.size + t227.size ≤ 9223372036854775807
      ·rw [if_pos c16] at H
       have c16b0 := eq_true c16
       have c16b1 : decide (x8_1.size + t227.size ≤ 9223372036854775807) = true := decide_eq_true c16
       try have c16b2 : (9223372036854775807 < x8_1.size + t227.size) = False := eq_false (Nat.not_lt.2 c16)
       obtain rfl := Option.some.inj H
       go_wp2_with (first | ((with_reducible refine gate_callee (f := 135) rfl ?_); refine goesL_ (some 42) rfl rfl Tryd.func135 (by kernel_rfl) rfl #[.int .u64 (IntKind.u64.wrap (x0_1)), .int .i64 1] rfl (by (try simp only [List.map_toArray, List.map_cons, List.map_nil]); first | done | rfl | (simp only [List.length_drop, List.length_take]; rfl)) ?_; (with_reducible refine (impl_bigEndian.calls k1 (IntKind.u64.wrap (x0_1)) 1 t227 _ A15.out).mono ?_); rintro e w17 ⟨rfl, hb⟩; refine ⟨_, rfl, ?_⟩; have n0_ := bS HB hb; clear HB; have HB := n0_; clear n0_; (try clear hb); (try clear hb2); (try clear hk); (try clear hi)))
       go_ret
       exact ⟨by first | rfl | (simp [errW_none, errW_some] <;> rfl) | (simp only [← hji5]; first | rfl | (simp [errW_none, errW_some] <;> rfl)) | (simp [*, errW_none, errW_some] <;> rfl), by repeat (first | (with_reducible first | exact HB.out | apply below_alloc | apply pw_below_drewN | apply below_drew1) | exact HB.out)⟩
      ·rw [if_neg c16] at H
       exact absurd H (by simp)
 ·rw [if_neg c4] at H
  exact absurd H (by simp)

end Go.Proofs.YtilkginahmfagaaDoor.PFnExactReadFields
