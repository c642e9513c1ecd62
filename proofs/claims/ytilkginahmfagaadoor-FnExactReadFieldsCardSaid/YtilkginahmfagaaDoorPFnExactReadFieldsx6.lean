-- Written by a program of this session (wip/xprint.py).
import Derived.Test.YtilkginahmfagaaDoorPFnExactReadFieldsx0
import Derived.Test.YtilkginahmfagaaDoorPFnExactReadFieldsx2
import Derived.Test.YtilkginahmfagaaDoorPFnExactReadFieldsx3
import Derived.Test.YtilkginahmfagaaDoorPFnExactReadFieldsx5
namespace Go.Proofs.YtilkginahmfagaaDoor.PFnExactReadFields
open Go.RowKit Go.Proofs.YtilkginahmfagaaDoorW.PrintWords Go.Proofs.YtilkginahmfagaaDoorW.PrintLast Go.Proofs.YtilkginahmfagaaDoorW.PrintMore
open Go.Proofs.YtilkginahmfagaaDoor.ShortK (bN bD bA sA sZ sS mR mB bX bLt bS cz2 fz2 cx2 cz3 fz3 cx3 cz4 fz4 cx4 cz5 fz5 cx5 cz6 fz6 cx6 cz7 fz7 cx7 cz8 fz8 cx8 cz9 fz9 cx9 cz10 fz10 cx10 cz11 fz11 cx11 cz12 fz12 cx12)
attribute [local go_sem] Go.Proofs.YtilkginahmfagaaDoor.StoreK.isSome_setCell max2_int min2_int max_two min_two max_three min_three max_four min_four   -- for this text's walks alone
set_option linter.unusedVariables false
set_option linter.unusedSimpArgs false

/-! ### spec_l15Read: function 37 -/
mutual
def spec_l15Read.l0 : Nat → ByteArray → List (S65) → ByteArray → Option ((List (S65)) × Bool)
 | 0, _, _, _ => none
 | k + 1, x0, x4, x5 => if x5.toList = ([] : List UInt8) then (spec_l15Read.j1 k x0 x4 x5 false) else (spec_l15Read.j1 k x0 x4 x5 (decide ((x4.length : Int) ≤ 30)))
def spec_l15Read.j1 : Nat → ByteArray → List (S65) → ByteArray → Bool → Option ((List (S65)) × Bool)
 | 0, _, _, _, _ => none
 | k + 1, x0, x4, x5, x29 => if x29 = true then (if 0 < (x5.size : Int) then (if (bt x5 0) ≥ 192 then ((spec_TakePrefix.f k x5 6).bind fun bt135 => (if bt135.2.2 = 0 then (some (([] : List (S65)), false)) else (if bt135.1 > 15 then (some (([] : List (S65)), false)) else ((spec_l15Static.f).bind fun t138 => (if 0 ≤ bt135.1 then (if bt135.1 < (t138.length : Int) then (spec_l15Read.j2 k x0 x4 x5 bt135.2.2 ((rd_T65 t138 bt135.1).f0) ((rd_T65 t138 bt135.1).f1)) else (none)) else (none)))))) else (if (Go.bits .and .u8 (bt x5 0) 240) = 80 then ((spec_TakePrefix.f k x5 4).bind fun bt142 => (if bt142.2.2 = 0 then (some (([] : List (S65)), false)) else (if bt142.1 > 15 then (some (([] : List (S65)), false)) else ((spec_l15Static.f).bind fun t145 => (if 0 ≤ bt142.1 then (if bt142.1 < (t145.length : Int) then (spec_l15Read.j2 k x0 x4 x5 bt142.2.2 ((rd_T65 t145 bt142.1).f0) (⟨#[]⟩ : ByteArray)) else (none)) else (none)))))) else (if (Go.bits .and .u8 (bt x5 0) 248) = 32 then ((spec_l15Text.f k x5 3).bind fun bt149 => (if bt149.2 < 0 then (some (([] : List (S65)), false)) else (spec_l15Read.j2 k x0 x4 x5 bt149.2 bt149.1 (⟨#[]⟩ : ByteArray)))) else (some (([] : List (S65)), false))))) else (none)) else ((spec_GoodFields.f k x4).bind fun t159 => (if t159 = true then ((spec_l15Bytes.f k x4).bind fun t160 => (if t160.toList = x0.toList then (some (x4, true)) else (some (([] : List (S65)), false)))) else (some (([] : List (S65)), false))))
def spec_l15Read.j2 : Nat → ByteArray → List (S65) → ByteArray → Int → ByteArray → ByteArray → Option ((List (S65)) × Bool)
 | 0, _, _, _, _, _, _ => none
 | k + 1, x0, x4, x5, x7, x135000, x135001 => if 0 < (x5.size : Int) then (if (bt x5 0) < 192 then (if 0 ≤ x7 then (if x7 ≤ (x5.size : Int) then ((spec_l15Text.f k (x5.extract (x7 : Int).toNat x5.size) 7).bind fun bt151 => (if bt151.2 < 0 then (some (([] : List (S65)), false)) else (if x4.length < 4398046511104 then (if 0 ≤ (wrap64 (x7 + bt151.2)) then (if (wrap64 (x7 + bt151.2)) ≤ (x5.size : Int) then (spec_l15Read.l0 k x0 (x4 ++ [(⟨x135000, bt151.1⟩ : S65)]) (x5.extract ((wrap64 (x7 + bt151.2)) : Int).toNat x5.size)) else (none)) else (none)) else (none)))) else (none)) else (none)) else (if x4.length < 4398046511104 then (if 0 ≤ x7 then (if x7 ≤ (x5.size : Int) then (spec_l15Read.l0 k x0 (x4 ++ [(⟨x135000, x135001⟩ : S65)]) (x5.extract (x7 : Int).toNat x5.size)) else (none)) else (none)) else (none))) else (none)
end
def spec_l15Read.f (k : Nat) (a0 : ByteArray) : Option ((List (S65)) × Bool) := if (a0.size : Int) < 2 then (some (([] : List (S65)), false)) else (if 2 ≤ (a0.size : Int) then (spec_l15Read.l0 k a0 ([] : List (S65)) (a0.extract 2 a0.size)) else (none))
theorem spec_l15Read.mono_l : ∀ k, (∀ y0 y1 y2, LeO (spec_l15Read.l0 k y0 y1 y2) (spec_l15Read.l0 (k + 1) y0 y1 y2)) ∧ (∀ y0 y1 y2 y3, LeO (spec_l15Read.j1 k y0 y1 y2 y3) (spec_l15Read.j1 (k + 1) y0 y1 y2 y3)) ∧ (∀ y0 y1 y2 y3 y4 y5, LeO (spec_l15Read.j2 k y0 y1 y2 y3 y4 y5) (spec_l15Read.j2 (k + 1) y0 y1 y2 y3 y4 y5))
 | 0 => ⟨fun _ _ _ r h => by simp [spec_l15Read.l0] at h, fun _ _ _ _ r h => by simp [spec_l15Read.j1] at h, fun _ _ _ _ _ _ r h => by simp [spec_l15Read.j2] at h⟩
 | k + 1 => by
  obtain ⟨ih0, ih1, ih2⟩ := spec_l15Read.mono_l k
  refine ⟨?_, ?_, ?_⟩
  ·intro y0 y1 y2
   unfold spec_l15Read.l0
   repeat' first
   | (with_reducible exact ih0 _ _ _)
   | (with_reducible exact ih1 _ _ _ _)
   | (with_reducible exact ih2 _ _ _ _ _ _)
   | (with_reducible exact spec_GoodFields.mono _ _)
   | (with_reducible exact spec_TakePrefix.mono _ _ _)
   | (with_reducible exact spec_l15Bytes.mono _ _)
   | (with_reducible exact spec_l15Text.mono _ _ _)
   | (with_reducible exact LeO.refl _)
   | (with_reducible exact LeO.none _)
   | (with_reducible refine LeO.ite ?_ ?_)
   | (with_reducible refine LeO.bind ?_ (fun _ => ?_))
   | exact ih0 _ _ _
   | exact ih1 _ _ _ _
   | exact ih2 _ _ _ _ _ _
   | exact spec_GoodFields.mono _ _
   | exact spec_TakePrefix.mono _ _ _
   | exact spec_l15Bytes.mono _ _
   | exact spec_l15Text.mono _ _ _
   | exact LeO.none _
   | refine LeO.ite ?_ ?_
   | refine LeO.bind ?_ (fun _ => ?_)
  ·intro y0 y1 y2 y3
   unfold spec_l15Read.j1
   repeat' first
   | (with_reducible exact ih0 _ _ _)
   | (with_reducible exact ih1 _ _ _ _)
   | (with_reducible exact ih2 _ _ _ _ _ _)
   | (with_reducible exact spec_GoodFields.mono _ _)
   | (with_reducible exact spec_TakePrefix.mono _ _ _)
   | (with_reducible exact spec_l15Bytes.mono _ _)
   | (with_reducible exact spec_l15Text.mono _ _ _)
   | (with_reducible exact LeO.refl _)
   | (with_reducible exact LeO.none _)
   | (with_reducible refine LeO.ite ?_ ?_)
   | (with_reducible refine LeO.bind ?_ (fun _ => ?_))
   | exact ih0 _ _ _
   | exact ih1 _ _ _ _
   | exact ih2 _ _ _ _ _ _
   | exact spec_GoodFields.mono _ _
   | exact spec_TakePrefix.mono _ _ _
   | exact spec_l15Bytes.mono _ _
   | exact spec_l15Text.mono _ _ _
   | exact LeO.none _
   | refine LeO.ite ?_ ?_
   | refine LeO.bind ?_ (fun _ => ?_)
  ·intro y0 y1 y2 y3 y4 y5
   unfold spec_l15Read.j2
   repeat' first
   | (with_reducible exact ih0 _ _ _)
   | (with_reducible exact ih1 _ _ _ _)
   | (with_reducible exact ih2 _ _ _ _ _ _)
   | (with_reducible exact spec_GoodFields.mono _ _)
   | (with_reducible exact spec_TakePrefix.mono _ _ _)
   | (with_reducible exact spec_l15Bytes.mono _ _)
   | (with_reducible exact spec_l15Text.mono _ _ _)
   | (with_reducible exact LeO.refl _)
   | (with_reducible exact LeO.none _)
   | (with_reducible refine LeO.ite ?_ ?_)
   | (with_reducible refine LeO.bind ?_ (fun _ => ?_))
   | exact ih0 _ _ _
   | exact ih1 _ _ _ _
   | exact ih2 _ _ _ _ _ _
   | exact spec_GoodFields.mono _ _
   | exact spec_TakePrefix.mono _ _ _
   | exact spec_l15Bytes.mono _ _
   | exact spec_l15Text.mono _ _ _
   | exact LeO.none _
   | refine LeO.ite ?_ ?_
   | refine LeO.bind ?_ (fun _ => ?_)
theorem spec_l15Read.mono : ∀ a0 k, LeO (spec_l15Read.f k a0) (spec_l15Read.f (k + 1) a0) := by
 intro a0 k
 obtain ⟨ih0, ih1, ih2⟩ := spec_l15Read.mono_l k
 unfold spec_l15Read.f
 repeat' first
   | (with_reducible exact ih0 _ _ _)
   | (with_reducible exact ih1 _ _ _ _)
   | (with_reducible exact ih2 _ _ _ _ _ _)
   | (with_reducible exact spec_GoodFields.mono _ _)
   | (with_reducible exact spec_TakePrefix.mono _ _ _)
   | (with_reducible exact spec_l15Bytes.mono _ _)
   | (with_reducible exact spec_l15Text.mono _ _ _)
   | (with_reducible exact LeO.refl _)
   | (with_reducible exact LeO.none _)
   | (with_reducible refine LeO.ite ?_ ?_)
   | (with_reducible refine LeO.bind ?_ (fun _ => ?_))
   | exact ih0 _ _ _
   | exact ih1 _ _ _ _
   | exact ih2 _ _ _ _ _ _
   | exact spec_GoodFields.mono _ _
   | exact spec_TakePrefix.mono _ _ _
   | exact spec_l15Bytes.mono _ _
   | exact spec_l15Text.mono _ _ _
   | exact LeO.none _
   | refine LeO.ite ?_ ?_
   | refine LeO.bind ?_ (fun _ => ?_)
set_option maxHeartbeats 64000000 in
set_option maxRecDepth 100000 in
theorem spec_l15Read.calls (k : Nat) (a0 : ByteArray) (r1 : List (S65)) (r2 : Bool) (w : World) (h : spec_l15Read.f k a0 = some (r1, r2)) :
  Calls Tryd.prog 37 #[.string a0] w fun e w' => ∃ v0_ : Value, e = .returned (.tuple #[v0_, .bool r2]) ∧ Kd.R k65 65 w' w.heap.size (fun _ => True) v0_ r1 ∧ Below w.heap.size w w' := by
 have hu65 := Tryd.underlying65
 have HB := Aside0.mk (Below.refl w.heap.size w)
 have H : (if (a0.size : Int) < 2 then (some (([] : List (S65)), false)) else (if 2 ≤ (a0.size : Int) then (spec_l15Read.l0 k a0 ([] : List (S65)) (a0.extract 2 a0.size)) else (none))) = some (r1, r2) := h
 clear h
 by_cases c2 : (a0.size : Int) < 2
 ·rw [if_pos c2] at H
  have c2b0 : decide ((a0.size : Int) < 2) = true := decide_eq_true c2
  have c2b1 : decide (a0.size < 2) = true := decide_eq_true (by omega)
  clear c2
  simp only [Option.some.injEq, Prod.mk.injEq] at H
  obtain ⟨rfl, rfl⟩ := H
  go_enter Tryd.func37, Tryd.ntmps37
  go_wp2
  go_ret2
  exact ⟨_, by first | rfl | (simp [errW_none, errW_some] <;> rfl) | (simp [*, errW_none, errW_some] <;> rfl), by first | exact Kd.R_nil _ _ _ _ _ | exact Kd.N_nil _ _ _ _ _ | exact Kd.V_nil _ _ _ _ _ | exact Kd.Q_nil _ _ _ _ _ | exact Kd.S_nil _ _ _ _ _, by repeat (first | (with_reducible first | exact HB.out | apply below_alloc | apply pw_below_drewN | apply below_drew1) | exact HB.out)⟩
 ·rw [if_neg c2] at H
  have c2b0 : decide ((a0.size : Int) < 2) = false := decide_eq_false c2
  have c2b1 : decide (a0.size < 2) = false := decide_eq_false (by omega)
  clear c2
  by_cases c3 : 2 ≤ (a0.size : Int)
  ·rw [if_pos c3] at H
   have c3b0 := eq_true c3
   have c3b1 : decide (2 ≤ (a0.size : Int)) = true := decide_eq_true c3
   clear c3
   have H' := Aside0.mk H
   clear H
   go_enter Tryd.func37, Tryd.ntmps37
   go_wp2
   go_loopg [4, 5] k (fun kq v4 v5 w' => ∃ (x4_1 : List (S65)) (x5_1 : ByteArray), v5 = .string x5_1 ∧ Aside0 (spec_l15Read.l0 kq a0 x4_1 x5_1 = some (r1, r2)) ∧ Aside0 (kq ≤ k) ∧ Aside0 (Kd.R k65 65 w' w.heap.size (fun _ => True) v4 x4_1) ∧ Aside0 (Below w.heap.size w w'))
   case atStart => exact ⟨(([] : List (S65))), (a0.extract 2 a0.size), (by first | rfl | (simp; done) | (simp [*]; done)), H', ⟨Nat.le_refl _⟩, ⟨by first | exact Kd.R_nil _ _ _ _ _ | exact Kd.N_nil _ _ _ _ _ | exact Kd.V_nil _ _ _ _ _ | exact Kd.Q_nil _ _ _ _ _ | exact Kd.S_nil _ _ _ _ _⟩, ⟨by repeat (first | (with_reducible first | exact HB.out | apply below_alloc | apply pw_below_drewN | apply below_drew1) | exact HB.out)⟩⟩
   case round =>
    clear H'
    try clear c2
    try clear c2b0
    try clear c2b1
    try clear p2
    try clear c3
    try clear c3b0
    try clear c3b1
    obtain ⟨x4_1, x5_1, rfl, HA, HK1, HO_4, HB⟩ := hrel
    cases gk with
    | zero => exact absurd HA.out (by simp [spec_l15Read.l0])
    | succ k1 =>
     have H := HA.out
     clear HA
     simp only [spec_l15Read.l0] at H
     have HC4 := Aside0.mk H
     clear H
     go_upto_region 5 with (fail)
     go_cut [29] (fun v29 wc => ∃ (kq : Nat) (x29_3 : Bool), v29 = .bool x29_3 ∧ Aside0 (spec_l15Read.j1 kq a0 x4_1 x5_1 x29_3 = some (r1, r2)) ∧ Aside0 (kq ≤ k1) ∧ Aside0 (Kd.R k65 65 wc w.heap.size (fun _ => True) u4 x4_1) ∧ Aside0 (Below w.heap.size w wc))
     case first =>
      have H := HC4.out
      clear HC4
      by_cases c5 : x5_1.toList = ([] : List UInt8)
      ·rw [if_pos c5] at H
       have c5b0 : (x5_1.toList == ([] : List UInt8)) = true := beq_iff_eq.mpr c5
       have c5b1 : (x5_1.toList != ([] : List UInt8)) = false := bne_eq_false_iff_eq.mpr c5
       clear c5
       (first | rw [c5b0] | (simp only [i64_w, i32_w]; rw [c5b0]) | skip)
       have H' := Aside0.mk H
       clear H
       go_wp2
       go_meet
       case rel => exact ⟨_, (false), (by first | rfl | (simp; done) | (simp [*]; done)), H', ⟨by have := HK1.out; first | omega | exact Nat.le_refl _⟩, ⟨by (with_reducible repeat (first | apply Kd.R_alloc | apply Kd.R_drewN | apply Kd.R_drew)); exact HO_4.out⟩, ⟨by repeat (first | (with_reducible first | exact HB.out | apply below_alloc | apply pw_below_drewN | apply below_drew1) | exact HB.out)⟩⟩
      ·rw [if_neg c5] at H
       have c5b0 : (x5_1.toList == ([] : List UInt8)) = false := beq_eq_false_iff_ne.mpr c5
       have c5b1 : (x5_1.toList != ([] : List UInt8)) = true := bne_iff_ne.mpr c5
       (first | rw [c5b0] | (simp only [i64_w, i32_w]; rw [c5b0]) | skip)
       have H' := Aside0.mk H
       clear H
       obtain ⟨Ao6, co6, eo6⟩ := Kd.R_slice HO_4.out
       subst eo6
       go_wp2
       go_meet
       case rel => exact ⟨_, (decide ((x4_1.length : Int) ≤ 30)), (by first | rfl | (simp; done) | (simp [*]; done)), H', ⟨by have := HK1.out; first | omega | exact Nat.le_refl _⟩, ⟨by (with_reducible repeat (first | apply Kd.R_alloc | apply Kd.R_drewN | apply Kd.R_drew)); exact HO_4.out⟩, ⟨by repeat (first | (with_reducible first | exact HB.out | apply below_alloc | apply pw_below_drewN | apply below_drew1) | exact HB.out)⟩⟩
     case rest =>
      clear HC4
      try clear c2
      try clear c2b0
      try clear c2b1
      try clear p2
      try clear c3
      try clear c3b0
      try clear c3b1
      try clear c5
      try clear c5b0
      try clear c5b1
      try clear p2
      obtain ⟨kq, x29_3, rfl, HA, HJ3, HO_4, HB⟩ := hcut
      cases kq with
      | zero => exact absurd HA.out (by simp [spec_l15Read.j1])
      | succ kj3 =>
       have H := HA.out
       clear HA
       simp only [spec_l15Read.j1] at H
       by_cases c7 : x29_3 = true
       ·subst c7
        have H1 : (if 0 < (x5_1.size : Int) then (if (bt x5_1 0) ≥ 192 then ((spec_TakePrefix.f kj3 x5_1 6).bind fun bt135 => (if bt135.2.2 = 0 then (some (([] : List (S65)), false)) else (if bt135.1 > 15 then (some (([] : List (S65)), false)) else ((spec_l15Static.f).bind fun t138 => (if 0 ≤ bt135.1 then (if bt135.1 < (t138.length : Int) then (spec_l15Read.j2 kj3 a0 x4_1 x5_1 bt135.2.2 ((rd_T65 t138 bt135.1).f0) ((rd_T65 t138 bt135.1).f1)) else (none)) else (none)))))) else (if (Go.bits .and .u8 (bt x5_1 0) 240) = 80 then ((spec_TakePrefix.f kj3 x5_1 4).bind fun bt142 => (if bt142.2.2 = 0 then (some (([] : List (S65)), false)) else (if bt142.1 > 15 then (some (([] : List (S65)), false)) else ((spec_l15Static.f).bind fun t145 => (if 0 ≤ bt142.1 then (if bt142.1 < (t145.length : Int) then (spec_l15Read.j2 kj3 a0 x4_1 x5_1 bt142.2.2 ((rd_T65 t145 bt142.1).f0) (⟨#[]⟩ : ByteArray)) else (none)) else (none)))))) else (if (Go.bits .and .u8 (bt x5_1 0) 248) = 32 then ((spec_l15Text.f kj3 x5_1 3).bind fun bt149 => (if bt149.2 < 0 then (some (([] : List (S65)), false)) else (spec_l15Read.j2 kj3 a0 x4_1 x5_1 bt149.2 bt149.1 (⟨#[]⟩ : ByteArray)))) else (some (([] : List (S65)), false))))) else (none)) = some (r1, r2) := by rw [if_pos rfl] at H; exact H
        clear H
        have H := H1
        clear H1
        have HC8 := Aside0.mk H
        clear H
        go_upto_block 2 with (first | ((with_reducible refine gate_dst (N := 6) rfl ?_); (try (refine gate_guard (by rfl) ?_; dsimp only)); refine box_event ?hg (N := 6) ?hd (cs := #[.string (⟨#[]⟩ : ByteArray), .string (⟨#[]⟩ : ByteArray)]) (t := 65) ?hr ?_; (case hd => rfl); (case hg => rfl); (case hr => first | (go_simp; done) | (go_simp; rfl)); intro gb134 hg w9 hbox hb; have n0_ := Aside0.mk (Kd.R_below (Kd.R_elderB (mR HO_4.out) gb134 (Nat.le_of_eq hg.symm)) hb); have n1_ := bS HB hb; have n2_ := Aside0.mk (hbox); have n3_ := Aside0.mk ((by rw [hg]; exact (below_size (by repeat (first | (with_reducible first | exact HB.out | apply below_alloc | apply pw_below_drewN | apply below_drew1) | exact HB.out))) : w.heap.size ≤ gb134)); have n4_ := n3_; clear HO_4; clear HB; have HO_4 := n0_; have HB := n1_; have BK134 := n2_; have GW134 := n3_; have GE134 := n4_; clear n0_ n1_ n2_ n3_ n4_; clear hb hbox hg; obtain ⟨hcz10_0, hcz10_1⟩ := cz2 BK134; obtain ⟨hfz10_0, hfz10_1⟩ := fz2 BK134))
        (try simp only [Act.put, sA, sZ, sS])
        go_cut [7] (fun v7 wc => ∃ (kq : Nat) (x7_7 : Int) (x135000_7 : ByteArray) (x135001_7 : ByteArray), v7 = .int .i64 x7_7 ∧ Aside0 (spec_l15Read.j2 kq a0 x4_1 x5_1 x7_7 x135000_7 x135001_7 = some (r1, r2)) ∧ Aside0 (kq ≤ kj3) ∧ Aside0 (Kd.R k65 65 wc w.heap.size (fun k_ => k_ ≠ gb134) u4 x4_1) ∧ Aside0 (wc.heap[gb134]? = some (.cells #[.string x135000_7, .string x135001_7] 65 (0, 0))) ∧ Aside0 (Below w.heap.size w wc))
        case first =>
         have H := HC8.out
         clear HC8
         by_cases c11 : 0 < (x5_1.size : Int)
         ·rw [if_pos c11] at H
          have c11b0 : decide (0 < (x5_1.size : Int)) = true := decide_eq_true c11
          have c11b1 : decide (0 < x5_1.size) = true := decide_eq_true (by omega)
          clear c11
          (first | rw [c11b0] | (simp only [i64_w, i32_w]; rw [c11b0]) | skip)
          by_cases c13 : (bt x5_1 0) ≥ 192
          ·rw [if_pos c13] at H
           have c13b0 : decide (192 ≤ (bt x5_1 0)) = true := decide_eq_true c13
           clear c13
           replace H := Option.bind_eq_some_iff.mp H
           obtain ⟨⟨t135, t136, t137⟩, A140, H⟩ := H
           replace H : (if t137 = 0 then (some (([] : List (S65)), false)) else (if t135 > 15 then (some (([] : List (S65)), false)) else ((spec_l15Static.f).bind fun t138 => (if 0 ≤ t135 then (if t135 < (t138.length : Int) then (spec_l15Read.j2 kj3 a0 x4_1 x5_1 t137 ((rd_T65 t138 t135).f0) ((rd_T65 t138 t135).f1)) else (none)) else (none))))) = some (r1, r2) := H
           have A14 := Aside0.mk A140
           clear A140
           by_cases c15 : t137 = 0
           ·rw [if_pos c15] at H
            have c15b0 : (t137 == 0) = true := beq_iff_eq.mpr c15
            have c15b1 : (t137 != 0) = false := bne_eq_false_iff_eq.mpr c15
            clear c15
            simp only [Option.some.injEq, Prod.mk.injEq] at H
            obtain ⟨rfl, rfl⟩ := H
            have p12 : 0 ≤ (0 : Int) := (by omega)
            have q12 : 0 < x5_1.size := (by have : (0 : Int) < (x5_1.size : Int) := of_decide_eq_true (by first | (with_reducible assumption) | assumption); omega)
            have hx12 : ∀ h : 0 < x5_1.size, ((x5_1[0]'h).toNat : Int) = bt x5_1 0 := bt_at x5_1 0
            clear p12
            have qi12 : (0 < (x5_1.size : Int)) = True := eq_true (of_decide_eq_true (by first | (with_reducible assumption) | assumption))
            replace q12 := eq_true q12
            go_wp2_with (first | ((with_reducible refine gate_callee (f := 72) rfl ?_); refine goesL_ (some 37) rfl rfl Tryd.func72 (by kernel_rfl) rfl #[.string x5_1, .int .i64 6] rfl (by (try simp only [List.map_toArray, List.map_cons, List.map_nil]); first | done | rfl | (simp only [List.length_drop, List.length_take]; rfl)) ?_; (with_reducible refine (spec_TakePrefix.calls kj3 x5_1 6 t135 t136 t137 _ A14.out).mono ?_); rintro e w' ⟨rfl, ⟨nd, rfl⟩⟩; refine ⟨_, rfl, ?_⟩))
            go_ret2
            exact ⟨_, by first | rfl | (simp [errW_none, errW_some] <;> rfl) | (simp [*, errW_none, errW_some] <;> rfl), by first | exact Kd.R_nil _ _ _ _ _ | exact Kd.N_nil _ _ _ _ _ | exact Kd.V_nil _ _ _ _ _ | exact Kd.Q_nil _ _ _ _ _ | exact Kd.S_nil _ _ _ _ _, by repeat (first | (with_reducible first | exact HB.out | apply below_alloc | apply pw_below_drewN | apply below_drew1 | refine below_set ?_ GE134.out) | exact HB.out)⟩
           ·rw [if_neg c15] at H
            have c15b0 : (t137 == 0) = false := beq_eq_false_iff_ne.mpr c15
            have c15b1 : (t137 != 0) = true := bne_iff_ne.mpr c15
            by_cases c16 : t135 > 15
            ·rw [if_pos c16] at H
             have c16b0 : decide (15 < t135) = true := decide_eq_true c16
             clear c16
             simp only [Option.some.injEq, Prod.mk.injEq] at H
             obtain ⟨rfl, rfl⟩ := H
             have p12 : 0 ≤ (0 : Int) := (by omega)
             have q12 : 0 < x5_1.size := (by have : (0 : Int) < (x5_1.size : Int) := of_decide_eq_true (by first | (with_reducible assumption) | assumption); omega)
             have hx12 : ∀ h : 0 < x5_1.size, ((x5_1[0]'h).toNat : Int) = bt x5_1 0 := bt_at x5_1 0
             clear p12
             have qi12 : (0 < (x5_1.size : Int)) = True := eq_true (of_decide_eq_true (by first | (with_reducible assumption) | assumption))
             replace q12 := eq_true q12
             go_wp2_with (first | ((with_reducible refine gate_callee (f := 72) rfl ?_); refine goesL_ (some 37) rfl rfl Tryd.func72 (by kernel_rfl) rfl #[.string x5_1, .int .i64 6] rfl (by (try simp only [List.map_toArray, List.map_cons, List.map_nil]); first | done | rfl | (simp only [List.length_drop, List.length_take]; rfl)) ?_; (with_reducible refine (spec_TakePrefix.calls kj3 x5_1 6 t135 t136 t137 _ A14.out).mono ?_); rintro e w' ⟨rfl, ⟨nd, rfl⟩⟩; refine ⟨_, rfl, ?_⟩))
             go_ret2
             exact ⟨_, by first | rfl | (simp [errW_none, errW_some] <;> rfl) | (simp [*, errW_none, errW_some] <;> rfl), by first | exact Kd.R_nil _ _ _ _ _ | exact Kd.N_nil _ _ _ _ _ | exact Kd.V_nil _ _ _ _ _ | exact Kd.Q_nil _ _ _ _ _ | exact Kd.S_nil _ _ _ _ _, by repeat (first | (with_reducible first | exact HB.out | apply below_alloc | apply pw_below_drewN | apply below_drew1 | refine below_set ?_ GE134.out) | exact HB.out)⟩
            ·rw [if_neg c16] at H
             have c16b0 : decide (15 < t135) = false := decide_eq_false c16
             clear c16
             replace H := Option.bind_eq_some_iff.mp H
             obtain ⟨t138, A170, H⟩ := H
             replace H : (if 0 ≤ t135 then (if t135 < (t138.length : Int) then (spec_l15Read.j2 kj3 a0 x4_1 x5_1 t137 ((rd_T65 t138 t135).f0) ((rd_T65 t138 t135).f1)) else (none)) else (none)) = some (r1, r2) := H
             have A17 := Aside0.mk A170
             clear A170
             by_cases c18 : 0 ≤ t135
             ·rw [if_pos c18] at H
              have c18b0 : decide (0 ≤ t135) = true := decide_eq_true c18
              clear c18
              by_cases c19 : t135 < (t138.length : Int)
              ·rw [if_pos c19] at H
               have c19b0 : decide (t135 < (t138.length : Int)) = true := decide_eq_true c19
               clear c19
               have H' := Aside0.mk H
               clear H
               have p12 : 0 ≤ (0 : Int) := (by omega)
               have q12 : 0 < x5_1.size := (by have : (0 : Int) < (x5_1.size : Int) := of_decide_eq_true (by first | (with_reducible assumption) | assumption); omega)
               have hx12 : ∀ h : 0 < x5_1.size, ((x5_1[0]'h).toNat : Int) = bt x5_1 0 := bt_at x5_1 0
               clear p12
               have qi12 : (0 < (x5_1.size : Int)) = True := eq_true (of_decide_eq_true (by first | (with_reducible assumption) | assumption))
               replace q12 := eq_true q12
               go_wp2_with (first | ((with_reducible refine gate_callee (f := 72) rfl ?_); refine goesL_ (some 37) rfl rfl Tryd.func72 (by kernel_rfl) rfl #[.string x5_1, .int .i64 6] rfl (by (try simp only [List.map_toArray, List.map_cons, List.map_nil]); first | done | rfl | (simp only [List.length_drop, List.length_take]; rfl)) ?_; (with_reducible refine (spec_TakePrefix.calls kj3 x5_1 6 t135 t136 t137 _ A14.out).mono ?_); rintro e w' ⟨rfl, ⟨nd, rfl⟩⟩; refine ⟨_, rfl, ?_⟩) | ((with_reducible refine gate_callee (f := 73) rfl ?_); refine goesL_ (some 47) rfl rfl Tryd.func73 (by kernel_rfl) rfl #[] rfl (by (try simp only [List.map_toArray, List.map_cons, List.map_nil]); first | done | rfl | (simp only [List.length_drop, List.length_take]; rfl)) ?_; (with_reducible refine (spec_l15Static.calls  t138 _ A17.out).mono ?_); rintro e w20 ⟨v139, rfl, ho0, hb⟩; refine ⟨_, rfl, ?_⟩; have n0_ := Aside0.mk (Kd.R_elder' (by (with_reducible repeat (first | apply Kd.R_alloc | apply Kd.R_drewN | apply Kd.R_drew)); exact (Kd.R_mono (Kd.R_far (p := ⟨gb134, 1, none⟩) (Kd.R_far (p := ⟨gb134, 0, none⟩) (Kd.R_mono HO_4.out (fun k_ hk => (⟨hk, hk.2⟩ : _ ∧ k_ ≠ gb134))) (fun _ hk => hk.2) (.string (⟨#[]⟩ : ByteArray))) (fun _ hk => hk.2) (.string (⟨#[]⟩ : ByteArray))) (fun _ h_ => h_.1))) (Kd.R_base ho0) hb); have n1_ := Aside0.mk (Kd.R_lower (Kd.R_newB (Kd.R_new' ho0 (Kd.R_lt (by (with_reducible repeat (first | apply Kd.R_alloc | apply Kd.R_drewN | apply Kd.R_drew)); exact (Kd.R_mono (Kd.R_far (p := ⟨gb134, 1, none⟩) (Kd.R_far (p := ⟨gb134, 0, none⟩) (Kd.R_mono HO_4.out (fun k_ hk => (⟨hk, hk.2⟩ : _ ∧ k_ ≠ gb134))) (fun _ hk => hk.2) (.string (⟨#[]⟩ : ByteArray))) (fun _ hk => hk.2) (.string (⟨#[]⟩ : ByteArray))) (fun _ h_ => h_.1))))) (g := gb134) (o := .cells #[.string (⟨#[]⟩ : ByteArray), .string (⟨#[]⟩ : ByteArray)] 65 (0, 0)) (by (with_reducible repeat (first | refine bN ?_ _ | refine bD ?_ | refine bA ?_ _)); refine blk_put (cs := #[.string (⟨#[]⟩ : ByteArray), .string (⟨#[]⟩ : ByteArray)]) ?_ 1 _ rfl; (with_reducible repeat (first | refine bN ?_ _ | refine bD ?_ | refine bA ?_ _)); refine blk_put (cs := #[.string (⟨#[]⟩ : ByteArray), .string (⟨#[]⟩ : ByteArray)]) ?_ 0 _ rfl; (with_reducible repeat (first | refine bN ?_ _ | refine bD ?_ | refine bA ?_ _)); exact BK134.out)) (below_size (by repeat (first | (with_reducible first | exact HB.out | apply below_alloc | apply pw_below_drewN | apply below_drew1 | refine below_set ?_ GE134.out) | exact HB.out)))); have n2_ := Aside0.mk (blk_below (g := gb134) (o := .cells #[.string (⟨#[]⟩ : ByteArray), .string (⟨#[]⟩ : ByteArray)] 65 (0, 0)) (by (with_reducible repeat (first | refine bN ?_ _ | refine bD ?_ | refine bA ?_ _)); refine blk_put (cs := #[.string (⟨#[]⟩ : ByteArray), .string (⟨#[]⟩ : ByteArray)]) ?_ 1 _ rfl; (with_reducible repeat (first | refine bN ?_ _ | refine bD ?_ | refine bA ?_ _)); refine blk_put (cs := #[.string (⟨#[]⟩ : ByteArray), .string (⟨#[]⟩ : ByteArray)]) ?_ 0 _ rfl; (with_reducible repeat (first | refine bN ?_ _ | refine bD ?_ | refine bA ?_ _)); exact BK134.out) hb); have n3_ := bS HB hb; clear HO_4; clear BK134; clear HB; have HO_4 := n0_; have HO140 := n1_; have BK134 := n2_; have HB := n3_; clear n0_ n1_ n2_ n3_; (try clear hb); (try clear hb2); (try clear hk); (try clear hi); (try clear ho0); obtain ⟨Ao21, co21, eo21⟩ := Kd.R_slice HO140.out; subst eo21; have p141 : 0 ≤ (t135 : Int) := of_decide_eq_true (by first | (with_reducible assumption) | assumption); have q141 : t135 < (t138.length : Int) := of_decide_eq_true (by first | (with_reducible assumption) | assumption); obtain ⟨ad141, e141, hx141_0, hx141_1⟩ := at_T65 (Kd.R_reads' HO140.out).2.2 t135 p141 q141; cases e141; replace p141 := eq_true p141; replace q141 := eq_true q141; obtain ⟨hcz22_0, hcz22_1⟩ := cz2 BK134; obtain ⟨hfz22_0, hfz22_1⟩ := fz2 BK134))
               go_meet
               case rel => exact ⟨_, (t137), ((rd_T65 t138 t135).f0), ((rd_T65 t138 t135).f1), (by first | rfl | (simp; done) | (simp [*]; done)), H', ⟨by have := HK1.out; have := HJ3.out; first | omega | exact Nat.le_refl _⟩, ⟨by (with_reducible repeat (first | apply Kd.R_alloc | apply Kd.R_drewN | apply Kd.R_drew)); exact Kd.R_mono (Kd.R_far (p := ⟨gb134, 1, none⟩) (Kd.R_far (p := ⟨gb134, 0, none⟩) (Kd.R_mono HO_4.out (fun k_ hk => (⟨hk, hk.1.2⟩ : _ ∧ k_ ≠ gb134))) (fun _ hk => hk.2) (.string ((rd_T65 t138 t135).f0))) (fun _ hk => hk.2) (.string ((rd_T65 t138 t135).f1))) (fun _ hk => hk.1.1.2)⟩, ⟨by (with_reducible repeat (first | refine bN ?_ _ | refine bD ?_ | refine bA ?_ _)); refine blk_put (cs := #[.string ((rd_T65 t138 t135).f0), .string (⟨#[]⟩ : ByteArray)]) ?_ 1 _ rfl; (with_reducible repeat (first | refine bN ?_ _ | refine bD ?_ | refine bA ?_ _)); refine blk_put (cs := #[.string (⟨#[]⟩ : ByteArray), .string (⟨#[]⟩ : ByteArray)]) ?_ 0 _ rfl; (with_reducible repeat (first | refine bN ?_ _ | refine bD ?_ | refine bA ?_ _)); exact BK134.out⟩, ⟨by repeat (first | (with_reducible first | exact HB.out | apply below_alloc | apply pw_below_drewN | apply below_drew1 | refine below_set ?_ GE134.out) | exact HB.out)⟩⟩
              ·rw [if_neg c19] at H
               exact absurd H (by simp)
             ·rw [if_neg c18] at H
              exact absurd H (by simp)
          ·rw [if_neg c13] at H
           have c13b0 : decide (192 ≤ (bt x5_1 0)) = false := decide_eq_false c13
           clear c13
           by_cases c24 : (Go.bits .and .u8 (bt x5_1 0) 240) = 80
           ·rw [if_pos c24] at H
            have c24b0 : ((Go.bits .and .u8 (bt x5_1 0) 240) == 80) = true := beq_iff_eq.mpr c24
            have c24b1 : ((Go.bits .and .u8 (bt x5_1 0) 240) != 80) = false := bne_eq_false_iff_eq.mpr c24
            clear c24
            replace H := Option.bind_eq_some_iff.mp H
            obtain ⟨⟨t142, t143, t144⟩, A250, H⟩ := H
            replace H : (if t144 = 0 then (some (([] : List (S65)), false)) else (if t142 > 15 then (some (([] : List (S65)), false)) else ((spec_l15Static.f).bind fun t145 => (if 0 ≤ t142 then (if t142 < (t145.length : Int) then (spec_l15Read.j2 kj3 a0 x4_1 x5_1 t144 ((rd_T65 t145 t142).f0) (⟨#[]⟩ : ByteArray)) else (none)) else (none))))) = some (r1, r2) := H
            have A25 := Aside0.mk A250
            clear A250
            by_cases c26 : t144 = 0
            ·rw [if_pos c26] at H
             have c26b0 : (t144 == 0) = true := beq_iff_eq.mpr c26
             have c26b1 : (t144 != 0) = false := bne_eq_false_iff_eq.mpr c26
             clear c26
             simp only [Option.some.injEq, Prod.mk.injEq] at H
             obtain ⟨rfl, rfl⟩ := H
             have p12 : 0 ≤ (0 : Int) := (by omega)
             have q12 : 0 < x5_1.size := (by have : (0 : Int) < (x5_1.size : Int) := of_decide_eq_true (by first | (with_reducible assumption) | assumption); omega)
             have hx12 : ∀ h : 0 < x5_1.size, ((x5_1[0]'h).toNat : Int) = bt x5_1 0 := bt_at x5_1 0
             clear p12
             have qi12 : (0 < (x5_1.size : Int)) = True := eq_true (of_decide_eq_true (by first | (with_reducible assumption) | assumption))
             replace q12 := eq_true q12
             have p23 : 0 ≤ (0 : Int) := (by omega)
             have q23 : 0 < x5_1.size := (by have : (0 : Int) < (x5_1.size : Int) := of_decide_eq_true (by first | (with_reducible assumption) | assumption); omega)
             have hx23 : ∀ h : 0 < x5_1.size, ((x5_1[0]'h).toNat : Int) = bt x5_1 0 := bt_at x5_1 0
             clear p23
             have qi23 : (0 < (x5_1.size : Int)) = True := eq_true (of_decide_eq_true (by first | (with_reducible assumption) | assumption))
             replace q23 := eq_true q23
             go_wp2_with (first | ((with_reducible refine gate_callee (f := 72) rfl ?_); refine goesL_ (some 59) rfl rfl Tryd.func72 (by kernel_rfl) rfl #[.string x5_1, .int .i64 4] rfl (by (try simp only [List.map_toArray, List.map_cons, List.map_nil]); first | done | rfl | (simp only [List.length_drop, List.length_take]; rfl)) ?_; (with_reducible refine (spec_TakePrefix.calls kj3 x5_1 4 t142 t143 t144 _ A25.out).mono ?_); rintro e w' ⟨rfl, ⟨nd, rfl⟩⟩; refine ⟨_, rfl, ?_⟩))
             go_ret2
             exact ⟨_, by first | rfl | (simp [errW_none, errW_some] <;> rfl) | (simp [*, errW_none, errW_some] <;> rfl), by first | exact Kd.R_nil _ _ _ _ _ | exact Kd.N_nil _ _ _ _ _ | exact Kd.V_nil _ _ _ _ _ | exact Kd.Q_nil _ _ _ _ _ | exact Kd.S_nil _ _ _ _ _, by repeat (first | (with_reducible first | exact HB.out | apply below_alloc | apply pw_below_drewN | apply below_drew1 | refine below_set ?_ GE134.out) | exact HB.out)⟩
            ·rw [if_neg c26] at H
             have c26b0 : (t144 == 0) = false := beq_eq_false_iff_ne.mpr c26
             have c26b1 : (t144 != 0) = true := bne_iff_ne.mpr c26
             by_cases c27 : t142 > 15
             ·rw [if_pos c27] at H
              have c27b0 : decide (15 < t142) = true := decide_eq_true c27
              clear c27
              simp only [Option.some.injEq, Prod.mk.injEq] at H
              obtain ⟨rfl, rfl⟩ := H
              have p12 : 0 ≤ (0 : Int) := (by omega)
              have q12 : 0 < x5_1.size := (by have : (0 : Int) < (x5_1.size : Int) := of_decide_eq_true (by first | (with_reducible assumption) | assumption); omega)
              have hx12 : ∀ h : 0 < x5_1.size, ((x5_1[0]'h).toNat : Int) = bt x5_1 0 := bt_at x5_1 0
              clear p12
              have qi12 : (0 < (x5_1.size : Int)) = True := eq_true (of_decide_eq_true (by first | (with_reducible assumption) | assumption))
              replace q12 := eq_true q12
              have p23 : 0 ≤ (0 : Int) := (by omega)
              have q23 : 0 < x5_1.size := (by have : (0 : Int) < (x5_1.size : Int) := of_decide_eq_true (by first | (with_reducible assumption) | assumption); omega)
              have hx23 : ∀ h : 0 < x5_1.size, ((x5_1[0]'h).toNat : Int) = bt x5_1 0 := bt_at x5_1 0
              clear p23
              have qi23 : (0 < (x5_1.size : Int)) = True := eq_true (of_decide_eq_true (by first | (with_reducible assumption) | assumption))
              replace q23 := eq_true q23
              go_wp2_with (first | ((with_reducible refine gate_callee (f := 72) rfl ?_); refine goesL_ (some 59) rfl rfl Tryd.func72 (by kernel_rfl) rfl #[.string x5_1, .int .i64 4] rfl (by (try simp only [List.map_toArray, List.map_cons, List.map_nil]); first | done | rfl | (simp only [List.length_drop, List.length_take]; rfl)) ?_; (with_reducible refine (spec_TakePrefix.calls kj3 x5_1 4 t142 t143 t144 _ A25.out).mono ?_); rintro e w' ⟨rfl, ⟨nd, rfl⟩⟩; refine ⟨_, rfl, ?_⟩))
              go_ret2
              exact ⟨_, by first | rfl | (simp [errW_none, errW_some] <;> rfl) | (simp [*, errW_none, errW_some] <;> rfl), by first | exact Kd.R_nil _ _ _ _ _ | exact Kd.N_nil _ _ _ _ _ | exact Kd.V_nil _ _ _ _ _ | exact Kd.Q_nil _ _ _ _ _ | exact Kd.S_nil _ _ _ _ _, by repeat (first | (with_reducible first | exact HB.out | apply below_alloc | apply pw_below_drewN | apply below_drew1 | refine below_set ?_ GE134.out) | exact HB.out)⟩
             ·rw [if_neg c27] at H
              have c27b0 : decide (15 < t142) = false := decide_eq_false c27
              clear c27
              replace H := Option.bind_eq_some_iff.mp H
              obtain ⟨t145, A280, H⟩ := H
              replace H : (if 0 ≤ t142 then (if t142 < (t145.length : Int) then (spec_l15Read.j2 kj3 a0 x4_1 x5_1 t144 ((rd_T65 t145 t142).f0) (⟨#[]⟩ : ByteArray)) else (none)) else (none)) = some (r1, r2) := H
              have A28 := Aside0.mk A280
              clear A280
              by_cases c29 : 0 ≤ t142
              ·rw [if_pos c29] at H
               have c29b0 : decide (0 ≤ t142) = true := decide_eq_true c29
               clear c29
               by_cases c30 : t142 < (t145.length : Int)
               ·rw [if_pos c30] at H
                have c30b0 : decide (t142 < (t145.length : Int)) = true := decide_eq_true c30
                clear c30
                have H' := Aside0.mk H
                clear H
                have p12 : 0 ≤ (0 : Int) := (by omega)
                have q12 : 0 < x5_1.size := (by have : (0 : Int) < (x5_1.size : Int) := of_decide_eq_true (by first | (with_reducible assumption) | assumption); omega)
                have hx12 : ∀ h : 0 < x5_1.size, ((x5_1[0]'h).toNat : Int) = bt x5_1 0 := bt_at x5_1 0
                clear p12
                have qi12 : (0 < (x5_1.size : Int)) = True := eq_true (of_decide_eq_true (by first | (with_reducible assumption) | assumption))
                replace q12 := eq_true q12
                have p23 : 0 ≤ (0 : Int) := (by omega)
                have q23 : 0 < x5_1.size := (by have : (0 : Int) < (x5_1.size : Int) := of_decide_eq_true (by first | (with_reducible assumption) | assumption); omega)
                have hx23 : ∀ h : 0 < x5_1.size, ((x5_1[0]'h).toNat : Int) = bt x5_1 0 := bt_at x5_1 0
                clear p23
                have qi23 : (0 < (x5_1.size : Int)) = True := eq_true (of_decide_eq_true (by first | (with_reducible assumption) | assumption))
                replace q23 := eq_true q23
                go_wp2_with (first | ((with_reducible refine gate_callee (f := 72) rfl ?_); refine goesL_ (some 59) rfl rfl Tryd.func72 (by kernel_rfl) rfl #[.string x5_1, .int .i64 4] rfl (by (try simp only [List.map_toArray, List.map_cons, List.map_nil]); first | done | rfl | (simp only [List.length_drop, List.length_take]; rfl)) ?_; (with_reducible refine (spec_TakePrefix.calls kj3 x5_1 4 t142 t143 t144 _ A25.out).mono ?_); rintro e w' ⟨rfl, ⟨nd, rfl⟩⟩; refine ⟨_, rfl, ?_⟩) | ((with_reducible refine gate_callee (f := 73) rfl ?_); refine goesL_ (some 69) rfl rfl Tryd.func73 (by kernel_rfl) rfl #[] rfl (by (try simp only [List.map_toArray, List.map_cons, List.map_nil]); first | done | rfl | (simp only [List.length_drop, List.length_take]; rfl)) ?_; (with_reducible refine (spec_l15Static.calls  t145 _ A28.out).mono ?_); rintro e w31 ⟨v146, rfl, ho0, hb⟩; refine ⟨_, rfl, ?_⟩; have n0_ := Aside0.mk (Kd.R_elder' (by (with_reducible repeat (first | apply Kd.R_alloc | apply Kd.R_drewN | apply Kd.R_drew)); exact (Kd.R_mono (Kd.R_far (p := ⟨gb134, 1, none⟩) (Kd.R_far (p := ⟨gb134, 0, none⟩) (Kd.R_mono HO_4.out (fun k_ hk => (⟨hk, hk.2⟩ : _ ∧ k_ ≠ gb134))) (fun _ hk => hk.2) (.string (⟨#[]⟩ : ByteArray))) (fun _ hk => hk.2) (.string (⟨#[]⟩ : ByteArray))) (fun _ h_ => h_.1))) (Kd.R_base ho0) hb); have n1_ := Aside0.mk (Kd.R_lower (Kd.R_newB (Kd.R_new' ho0 (Kd.R_lt (by (with_reducible repeat (first | apply Kd.R_alloc | apply Kd.R_drewN | apply Kd.R_drew)); exact (Kd.R_mono (Kd.R_far (p := ⟨gb134, 1, none⟩) (Kd.R_far (p := ⟨gb134, 0, none⟩) (Kd.R_mono HO_4.out (fun k_ hk => (⟨hk, hk.2⟩ : _ ∧ k_ ≠ gb134))) (fun _ hk => hk.2) (.string (⟨#[]⟩ : ByteArray))) (fun _ hk => hk.2) (.string (⟨#[]⟩ : ByteArray))) (fun _ h_ => h_.1))))) (g := gb134) (o := .cells #[.string (⟨#[]⟩ : ByteArray), .string (⟨#[]⟩ : ByteArray)] 65 (0, 0)) (by (with_reducible repeat (first | refine bN ?_ _ | refine bD ?_ | refine bA ?_ _)); refine blk_put (cs := #[.string (⟨#[]⟩ : ByteArray), .string (⟨#[]⟩ : ByteArray)]) ?_ 1 _ rfl; (with_reducible repeat (first | refine bN ?_ _ | refine bD ?_ | refine bA ?_ _)); refine blk_put (cs := #[.string (⟨#[]⟩ : ByteArray), .string (⟨#[]⟩ : ByteArray)]) ?_ 0 _ rfl; (with_reducible repeat (first | refine bN ?_ _ | refine bD ?_ | refine bA ?_ _)); exact BK134.out)) (below_size (by repeat (first | (with_reducible first | exact HB.out | apply below_alloc | apply pw_below_drewN | apply below_drew1 | refine below_set ?_ GE134.out) | exact HB.out)))); have n2_ := Aside0.mk (blk_below (g := gb134) (o := .cells #[.string (⟨#[]⟩ : ByteArray), .string (⟨#[]⟩ : ByteArray)] 65 (0, 0)) (by (with_reducible repeat (first | refine bN ?_ _ | refine bD ?_ | refine bA ?_ _)); refine blk_put (cs := #[.string (⟨#[]⟩ : ByteArray), .string (⟨#[]⟩ : ByteArray)]) ?_ 1 _ rfl; (with_reducible repeat (first | refine bN ?_ _ | refine bD ?_ | refine bA ?_ _)); refine blk_put (cs := #[.string (⟨#[]⟩ : ByteArray), .string (⟨#[]⟩ : ByteArray)]) ?_ 0 _ rfl; (with_reducible repeat (first | refine bN ?_ _ | refine bD ?_ | refine bA ?_ _)); exact BK134.out) hb); have n3_ := bS HB hb; clear HO_4; clear BK134; clear HB; have HO_4 := n0_; have HO147 := n1_; have BK134 := n2_; have HB := n3_; clear n0_ n1_ n2_ n3_; (try clear hb); (try clear hb2); (try clear hk); (try clear hi); (try clear ho0); obtain ⟨Ao32, co32, eo32⟩ := Kd.R_slice HO147.out; subst eo32; have p148 : 0 ≤ (t142 : Int) := of_decide_eq_true (by first | (with_reducible assumption) | assumption); have q148 : t142 < (t145.length : Int) := of_decide_eq_true (by first | (with_reducible assumption) | assumption); obtain ⟨ad148, e148, hx148_0, hx148_1⟩ := at_T65 (Kd.R_reads' HO147.out).2.2 t142 p148 q148; cases e148; replace p148 := eq_true p148; replace q148 := eq_true q148; obtain ⟨hcz33_0, hcz33_1⟩ := cz2 BK134; obtain ⟨hfz33_0, hfz33_1⟩ := fz2 BK134))
                go_meet
                case rel => exact ⟨_, (t144), ((rd_T65 t145 t142).f0), ((⟨#[]⟩ : ByteArray)), (by first | rfl | (simp; done) | (simp [*]; done)), H', ⟨by have := HK1.out; have := HJ3.out; first | omega | exact Nat.le_refl _⟩, ⟨by (with_reducible repeat (first | apply Kd.R_alloc | apply Kd.R_drewN | apply Kd.R_drew)); exact Kd.R_mono (Kd.R_far (p := ⟨gb134, 0, none⟩) (Kd.R_mono HO_4.out (fun k_ hk => (⟨hk, hk.1.2⟩ : _ ∧ k_ ≠ gb134))) (fun _ hk => hk.2) (.string ((rd_T65 t145 t142).f0))) (fun _ hk => hk.1.1.2)⟩, ⟨by (with_reducible repeat (first | refine bN ?_ _ | refine bD ?_ | refine bA ?_ _)); refine blk_put (cs := #[.string (⟨#[]⟩ : ByteArray), .string (⟨#[]⟩ : ByteArray)]) ?_ 0 _ rfl; (with_reducible repeat (first | refine bN ?_ _ | refine bD ?_ | refine bA ?_ _)); exact BK134.out⟩, ⟨by repeat (first | (with_reducible first | exact HB.out | apply below_alloc | apply pw_below_drewN | apply below_drew1 | refine below_set ?_ GE134.out) | exact HB.out)⟩⟩
               ·rw [if_neg c30] at H
                exact absurd H (by simp)
              ·rw [if_neg c29] at H
               exact absurd H (by simp)
           ·rw [if_neg c24] at H
            have c24b0 : ((Go.bits .and .u8 (bt x5_1 0) 240) == 80) = false := beq_eq_false_iff_ne.mpr c24
            have c24b1 : ((Go.bits .and .u8 (bt x5_1 0) 240) != 80) = true := bne_iff_ne.mpr c24
            by_cases c35 : (Go.bits .and .u8 (bt x5_1 0) 248) = 32
            ·rw [if_pos c35] at H
             have c35b0 : ((Go.bits .and .u8 (bt x5_1 0) 248) == 32) = true := beq_iff_eq.mpr c35
             have c35b1 : ((Go.bits .and .u8 (bt x5_1 0) 248) != 32) = false := bne_eq_false_iff_eq.mpr c35
             clear c35
             replace H := Option.bind_eq_some_iff.mp H
             obtain ⟨⟨t149, t150⟩, A360, H⟩ := H
             replace H : (if t150 < 0 then (some (([] : List (S65)), false)) else (spec_l15Read.j2 kj3 a0 x4_1 x5_1 t150 t149 (⟨#[]⟩ : ByteArray))) = some (r1, r2) := H
             have A36 := Aside0.mk A360
             clear A360
             by_cases c37 : t150 < 0
             ·rw [if_pos c37] at H
              have c37b0 : decide (t150 < 0) = true := decide_eq_true c37
              clear c37
              simp only [Option.some.injEq, Prod.mk.injEq] at H
              obtain ⟨rfl, rfl⟩ := H
              have p12 : 0 ≤ (0 : Int) := (by omega)
              have q12 : 0 < x5_1.size := (by have : (0 : Int) < (x5_1.size : Int) := of_decide_eq_true (by first | (with_reducible assumption) | assumption); omega)
              have hx12 : ∀ h : 0 < x5_1.size, ((x5_1[0]'h).toNat : Int) = bt x5_1 0 := bt_at x5_1 0
              clear p12
              have qi12 : (0 < (x5_1.size : Int)) = True := eq_true (of_decide_eq_true (by first | (with_reducible assumption) | assumption))
              replace q12 := eq_true q12
              have p23 : 0 ≤ (0 : Int) := (by omega)
              have q23 : 0 < x5_1.size := (by have : (0 : Int) < (x5_1.size : Int) := of_decide_eq_true (by first | (with_reducible assumption) | assumption); omega)
              have hx23 : ∀ h : 0 < x5_1.size, ((x5_1[0]'h).toNat : Int) = bt x5_1 0 := bt_at x5_1 0
              clear p23
              have qi23 : (0 < (x5_1.size : Int)) = True := eq_true (of_decide_eq_true (by first | (with_reducible assumption) | assumption))
              replace q23 := eq_true q23
              have p34 : 0 ≤ (0 : Int) := (by omega)
              have q34 : 0 < x5_1.size := (by have : (0 : Int) < (x5_1.size : Int) := of_decide_eq_true (by first | (with_reducible assumption) | assumption); omega)
              have hx34 : ∀ h : 0 < x5_1.size, ((x5_1[0]'h).toNat : Int) = bt x5_1 0 := bt_at x5_1 0
              clear p34
              have qi34 : (0 < (x5_1.size : Int)) = True := eq_true (of_decide_eq_true (by first | (with_reducible assumption) | assumption))
              replace q34 := eq_true q34
              go_wp2_with (first | ((with_reducible refine gate_callee (f := 74) rfl ?_); refine goesL_ (some 83) rfl rfl Tryd.func74 (by kernel_rfl) rfl #[.string x5_1, .int .i64 3] rfl (by (try simp only [List.map_toArray, List.map_cons, List.map_nil]); first | done | rfl | (simp only [List.length_drop, List.length_take]; rfl)) ?_; (with_reducible refine (spec_l15Text.calls kj3 x5_1 3 t149 t150 _ A36.out).mono ?_); rintro e w' ⟨rfl, ⟨nd, rfl⟩⟩; refine ⟨_, rfl, ?_⟩))
              go_ret2
              exact ⟨_, by first | rfl | (simp [errW_none, errW_some] <;> rfl) | (simp [*, errW_none, errW_some] <;> rfl), by first | exact Kd.R_nil _ _ _ _ _ | exact Kd.N_nil _ _ _ _ _ | exact Kd.V_nil _ _ _ _ _ | exact Kd.Q_nil _ _ _ _ _ | exact Kd.S_nil _ _ _ _ _, by repeat (first | (with_reducible first | exact HB.out | apply below_alloc | apply pw_below_drewN | apply below_drew1 | refine below_set ?_ GE134.out) | exact HB.out)⟩
             ·rw [if_neg c37] at H
              have c37b0 : decide (t150 < 0) = false := decide_eq_false c37
              clear c37
              have H' := Aside0.mk H
              clear H
              have p12 : 0 ≤ (0 : Int) := (by omega)
              have q12 : 0 < x5_1.size := (by have : (0 : Int) < (x5_1.size : Int) := of_decide_eq_true (by first | (with_reducible assumption) | assumption); omega)
              have hx12 : ∀ h : 0 < x5_1.size, ((x5_1[0]'h).toNat : Int) = bt x5_1 0 := bt_at x5_1 0
              clear p12
              have qi12 : (0 < (x5_1.size : Int)) = True := eq_true (of_decide_eq_true (by first | (with_reducible assumption) | assumption))
              replace q12 := eq_true q12
              have p23 : 0 ≤ (0 : Int) := (by omega)
              have q23 : 0 < x5_1.size := (by have : (0 : Int) < (x5_1.size : Int) := of_decide_eq_true (by first | (with_reducible assumption) | assumption); omega)
              have hx23 : ∀ h : 0 < x5_1.size, ((x5_1[0]'h).toNat : Int) = bt x5_1 0 := bt_at x5_1 0
              clear p23
              have qi23 : (0 < (x5_1.size : Int)) = True := eq_true (of_decide_eq_true (by first | (with_reducible assumption) | assumption))
              replace q23 := eq_true q23
              have p34 : 0 ≤ (0 : Int) := (by omega)
              have q34 : 0 < x5_1.size := (by have : (0 : Int) < (x5_1.size : Int) := of_decide_eq_true (by first | (with_reducible assumption) | assumption); omega)
              have hx34 : ∀ h : 0 < x5_1.size, ((x5_1[0]'h).toNat : Int) = bt x5_1 0 := bt_at x5_1 0
              clear p34
              have qi34 : (0 < (x5_1.size : Int)) = True := eq_true (of_decide_eq_true (by first | (with_reducible assumption) | assumption))
              replace q34 := eq_true q34
              go_wp2_with (first | ((with_reducible refine gate_callee (f := 74) rfl ?_); refine goesL_ (some 83) rfl rfl Tryd.func74 (by kernel_rfl) rfl #[.string x5_1, .int .i64 3] rfl (by (try simp only [List.map_toArray, List.map_cons, List.map_nil]); first | done | rfl | (simp only [List.length_drop, List.length_take]; rfl)) ?_; (with_reducible refine (spec_l15Text.calls kj3 x5_1 3 t149 t150 _ A36.out).mono ?_); rintro e w' ⟨rfl, ⟨nd, rfl⟩⟩; refine ⟨_, rfl, ?_⟩; obtain ⟨hcz38_0, hcz38_1⟩ := cz2 BK134; obtain ⟨hfz38_0, hfz38_1⟩ := fz2 BK134))
              go_meet
              case rel => exact ⟨_, (t150), (t149), ((⟨#[]⟩ : ByteArray)), (by first | rfl | (simp; done) | (simp [*]; done)), H', ⟨by have := HK1.out; have := HJ3.out; first | omega | exact Nat.le_refl _⟩, ⟨by (with_reducible repeat (first | apply Kd.R_alloc | apply Kd.R_drewN | apply Kd.R_drew)); exact Kd.R_mono (Kd.R_far (p := ⟨gb134, 0, none⟩) (Kd.R_far (p := ⟨gb134, 1, none⟩) (Kd.R_far (p := ⟨gb134, 0, none⟩) (Kd.R_mono HO_4.out (fun k_ hk => (⟨hk, hk.2⟩ : _ ∧ k_ ≠ gb134))) (fun _ hk => hk.2) (.string (⟨#[]⟩ : ByteArray))) (fun _ hk => hk.2) (.string (⟨#[]⟩ : ByteArray))) (fun _ hk => hk.2) (.string t149)) (fun _ hk => hk.1.2)⟩, ⟨by (with_reducible repeat (first | refine bN ?_ _ | refine bD ?_ | refine bA ?_ _)); refine blk_put (cs := #[.string (⟨#[]⟩ : ByteArray), .string (⟨#[]⟩ : ByteArray)]) ?_ 0 _ rfl; (with_reducible repeat (first | refine bN ?_ _ | refine bD ?_ | refine bA ?_ _)); refine blk_put (cs := #[.string (⟨#[]⟩ : ByteArray), .string (⟨#[]⟩ : ByteArray)]) ?_ 1 _ rfl; (with_reducible repeat (first | refine bN ?_ _ | refine bD ?_ | refine bA ?_ _)); refine blk_put (cs := #[.string (⟨#[]⟩ : ByteArray), .string (⟨#[]⟩ : ByteArray)]) ?_ 0 _ rfl; (with_reducible repeat (first | refine bN ?_ _ | refine bD ?_ | refine bA ?_ _)); exact BK134.out⟩, ⟨by repeat (first | (with_reducible first | exact HB.out | apply below_alloc | apply pw_below_drewN | apply below_drew1 | refine below_set ?_ GE134.out) | exact HB.out)⟩⟩
            ·rw [if_neg c35] at H
             have c35b0 : ((Go.bits .and .u8 (bt x5_1 0) 248) == 32) = false := beq_eq_false_iff_ne.mpr c35
             have c35b1 : ((Go.bits .and .u8 (bt x5_1 0) 248) != 32) = true := bne_iff_ne.mpr c35
             simp only [Option.some.injEq, Prod.mk.injEq] at H
             obtain ⟨rfl, rfl⟩ := H
             have p12 : 0 ≤ (0 : Int) := (by omega)
             have q12 : 0 < x5_1.size := (by have : (0 : Int) < (x5_1.size : Int) := of_decide_eq_true (by first | (with_reducible assumption) | assumption); omega)
             have hx12 : ∀ h : 0 < x5_1.size, ((x5_1[0]'h).toNat : Int) = bt x5_1 0 := bt_at x5_1 0
             clear p12
             have qi12 : (0 < (x5_1.size : Int)) = True := eq_true (of_decide_eq_true (by first | (with_reducible assumption) | assumption))
             replace q12 := eq_true q12
             have p23 : 0 ≤ (0 : Int) := (by omega)
             have q23 : 0 < x5_1.size := (by have : (0 : Int) < (x5_1.size : Int) := of_decide_eq_true (by first | (with_reducible assumption) | assumption); omega)
             have hx23 : ∀ h : 0 < x5_1.size, ((x5_1[0]'h).toNat : Int) = bt x5_1 0 := bt_at x5_1 0
             clear p23
             have qi23 : (0 < (x5_1.size : Int)) = True := eq_true (of_decide_eq_true (by first | (with_reducible assumption) | assumption))
             replace q23 := eq_true q23
             have p34 : 0 ≤ (0 : Int) := (by omega)
             have q34 : 0 < x5_1.size := (by have : (0 : Int) < (x5_1.size : Int) := of_decide_eq_true (by first | (with_reducible assumption) | assumption); omega)
             have hx34 : ∀ h : 0 < x5_1.size, ((x5_1[0]'h).toNat : Int) = bt x5_1 0 := bt_at x5_1 0
             clear p34
             have qi34 : (0 < (x5_1.size : Int)) = True := eq_true (of_decide_eq_true (by first | (with_reducible assumption) | assumption))
             replace q34 := eq_true q34
             go_wp2
             go_ret2
             exact ⟨_, by first | rfl | (simp [errW_none, errW_some] <;> rfl) | (simp [*, errW_none, errW_some] <;> rfl), by first | exact Kd.R_nil _ _ _ _ _ | exact Kd.N_nil _ _ _ _ _ | exact Kd.V_nil _ _ _ _ _ | exact Kd.Q_nil _ _ _ _ _ | exact Kd.S_nil _ _ _ _ _, by repeat (first | (with_reducible first | exact HB.out | apply below_alloc | apply pw_below_drewN | apply below_drew1 | refine below_set ?_ GE134.out) | exact HB.out)⟩
         ·rw [if_neg c11] at H
          exact absurd H (by simp)
        case rest =>
         clear HC8
         try clear c1
         try clear p1
         try clear q1
         try clear hx1
         try clear qi1
         try clear c2
         try clear c2b0
         try clear c2b1
         try clear p2
         try clear q2
         try clear hx2
         try clear qi2
         try clear c3
         try clear c3b0
         try clear c3b1
         try clear p3
         try clear q3
         try clear hx3
         try clear qi3
         try clear c5
         try clear c5b0
         try clear c5b1
         try clear c7
         try clear c11
         try clear c11b0
         try clear c11b1
         try clear p12
         try clear q12
         try clear hx12
         try clear qi12
         try clear c13
         try clear c13b0
         try clear p14
         try clear q14
         try clear hx14
         try clear c15
         try clear c15b0
         try clear c15b1
         try clear c16
         try clear c16b0
         try clear c18
         try clear c18b0
         try clear c19
         try clear c19b0
         try clear p23
         try clear q23
         try clear hx23
         try clear qi23
         try clear c24
         try clear c24b0
         try clear c24b1
         try clear c26
         try clear c26b0
         try clear c26b1
         try clear c27
         try clear c27b0
         try clear c29
         try clear c29b0
         try clear c30
         try clear c30b0
         try clear p34
         try clear q34
         try clear hx34
         try clear qi34
         try clear c35
         try clear c35b0
         try clear c35b1
         try clear c37
         try clear c37b0
         try clear hcz10_0
         try clear hcz10_1
         try clear hcz22_0
         try clear hcz22_1
         try clear hcz33_0
         try clear hcz33_1
         try clear hcz38_0
         try clear hcz38_1
         try clear hfz10_0
         try clear hfz10_1
         try clear hfz22_0
         try clear hfz22_1
         try clear hfz33_0
         try clear hfz33_1
         try clear hfz38_0
         try clear hfz38_1
         try clear hx141_0
         try clear hx141_1
         try clear hx148_0
         try clear hx148_1
         try clear p12
         try clear p141
         try clear p148
         try clear p2
         try clear p23
         try clear p34
         try clear q12
         try clear q141
         try clear q148
         try clear q23
         try clear q34
         obtain ⟨kq, x7_7, x135000_7, x135001_7, rfl, HA, HJ7, HO_4, BK134, HB⟩ := hcut
         cases kq with
         | zero => exact absurd HA.out (by simp [spec_l15Read.j2])
         | succ kj7 =>
          have H := HA.out
          clear HA
          simp only [spec_l15Read.j2] at H
          by_cases c39 : 0 < (x5_1.size : Int)
          ·rw [if_pos c39] at H
           have c39b0 : decide (0 < (x5_1.size : Int)) = true := decide_eq_true c39
           have c39b1 : decide (0 < x5_1.size) = true := decide_eq_true (by omega)
           clear c39
           by_cases c41 : (bt x5_1 0) < 192
           ·rw [if_pos c41] at H
            have c41b0 : decide ((bt x5_1 0) < 192) = true := decide_eq_true c41
            clear c41
            by_cases c42 : 0 ≤ x7_7
            ·rw [if_pos c42] at H
             have c42b0 := eq_true c42
             have c42b1 : decide (0 ≤ x7_7) = true := decide_eq_true c42
             clear c42
             by_cases c43 : x7_7 ≤ (x5_1.size : Int)
             ·rw [if_pos c43] at H
              have c43b0 := eq_true c43
              have c43b1 : decide (x7_7 ≤ (x5_1.size : Int)) = true := decide_eq_true c43
              clear c43
              replace H := Option.bind_eq_some_iff.mp H
              obtain ⟨⟨t151, t152⟩, A440, H⟩ := H
              replace H : (if t152 < 0 then (some (([] : List (S65)), false)) else (if x4_1.length < 4398046511104 then (if 0 ≤ (wrap64 (x7_7 + t152)) then (if (wrap64 (x7_7 + t152)) ≤ (x5_1.size : Int) then (spec_l15Read.l0 kj7 a0 (x4_1 ++ [(⟨x135000_7, t151⟩ : S65)]) (x5_1.extract ((wrap64 (x7_7 + t152)) : Int).toNat x5_1.size)) else (none)) else (none)) else (none))) = some (r1, r2) := H
              have A44 := Aside0.mk A440
              clear A440
              by_cases c45 : t152 < 0
              ·rw [if_pos c45] at H
               have c45b0 : decide (t152 < 0) = true := decide_eq_true c45
               clear c45
               simp only [Option.some.injEq, Prod.mk.injEq] at H
               obtain ⟨rfl, rfl⟩ := H
               have p40 : 0 ≤ (0 : Int) := (by omega)
               have q40 : 0 < x5_1.size := (by have : (0 : Int) < (x5_1.size : Int) := of_decide_eq_true (by first | (with_reducible assumption) | assumption); omega)
               have hx40 : ∀ h : 0 < x5_1.size, ((x5_1[0]'h).toNat : Int) = bt x5_1 0 := bt_at x5_1 0
               clear p40
               have qi40 : (0 < (x5_1.size : Int)) = True := eq_true (of_decide_eq_true (by first | (with_reducible assumption) | assumption))
               replace q40 := eq_true q40
               go_wp2_with (first | ((with_reducible refine gate_callee (f := 74) rfl ?_); refine goesL_ (some 98) rfl rfl Tryd.func74 (by kernel_rfl) rfl #[.string (x5_1.extract (x7_7 : Int).toNat x5_1.size), .int .i64 7] rfl (by (try simp only [List.map_toArray, List.map_cons, List.map_nil]); first | done | rfl | (simp only [List.length_drop, List.length_take]; rfl)) ?_; (with_reducible refine (spec_l15Text.calls kj7 (x5_1.extract (x7_7 : Int).toNat x5_1.size) 7 t151 t152 _ A44.out).mono ?_); rintro e w' ⟨rfl, ⟨nd, rfl⟩⟩; refine ⟨_, rfl, ?_⟩))
               go_ret2
               exact ⟨_, by first | rfl | (simp [errW_none, errW_some] <;> rfl) | (simp [*, errW_none, errW_some] <;> rfl), by first | exact Kd.R_nil _ _ _ _ _ | exact Kd.N_nil _ _ _ _ _ | exact Kd.V_nil _ _ _ _ _ | exact Kd.Q_nil _ _ _ _ _ | exact Kd.S_nil _ _ _ _ _, by repeat (first | (with_reducible first | exact HB.out | apply below_alloc | apply pw_below_drewN | apply below_drew1 | refine below_set ?_ GE134.out) | exact HB.out)⟩
              ·rw [if_neg c45] at H
               have c45b0 : decide (t152 < 0) = false := decide_eq_false c45
               clear c45
               by_cases c46 : x4_1.length < 4398046511104
               ·rw [if_pos c46] at H
                have LMc46 := Aside0.mk c46
                clear c46
                obtain ⟨y153, hy153⟩ : ∃ y_ : List (S65), y_ = (x4_1 ++ [(⟨x135000_7, t151⟩ : S65)]) := ⟨_, rfl⟩
                replace H : (if 0 ≤ (wrap64 (x7_7 + t152)) then (if (wrap64 (x7_7 + t152)) ≤ (x5_1.size : Int) then (spec_l15Read.l0 kj7 a0 y153 (x5_1.extract ((wrap64 (x7_7 + t152)) : Int).toNat x5_1.size)) else (none)) else (none)) = some (r1, r2) := by first | (rw [hy153]; with_reducible exact H) | (have H2_ := (Option.bind_some _ _).symm.trans H; rw [hy153]; with_reducible exact H2_) | (have H2_ := (Option.bind_some _ _).symm.trans H; with_reducible exact H2_) | with_reducible exact H | (rw [hy153]; exact H) | exact H
                have Ny153 := Aside0.mk hy153
                clear hy153
                obtain ⟨ji47, hji47⟩ : ∃ j_ : Int, (wrap64 (x7_7 + t152)) = j_ := ⟨_, rfl⟩
                replace H : (if 0 ≤ (ji47) then (if (ji47) ≤ (x5_1.size : Int) then (spec_l15Read.l0 kj7 a0 y153 (x5_1.extract ((ji47) : Int).toNat x5_1.size)) else (none)) else (none)) = some (r1, r2) := by first | (rw [hji47] at H; exact H) | (simp only [hji47] at H ⊢; exact H)
                (try rw [hji47] at A44)
                have hji47w : (IntKind.i64.wrap (x7_7 + t152)) = ji47 := (i64_w _).trans hji47
                by_cases c48 : 0 ≤ (ji47)
                ·rw [if_pos c48] at H
                 have c48b0 := eq_true c48
                 have c48b1 : decide (0 ≤ (ji47)) = true := decide_eq_true c48
                 clear c48
                 by_cases c49 : (ji47) ≤ (x5_1.size : Int)
                 ·rw [if_pos c49] at H
                  have c49b0 := eq_true c49
                  have c49b1 : decide ((ji47) ≤ (x5_1.size : Int)) = true := decide_eq_true c49
                  clear c49
                  have H' := Aside0.mk H
                  clear H
                  have p40 : 0 ≤ (0 : Int) := (by omega)
                  have q40 : 0 < x5_1.size := (by have : (0 : Int) < (x5_1.size : Int) := of_decide_eq_true (by first | (with_reducible assumption) | assumption); omega)
                  have hx40 : ∀ h : 0 < x5_1.size, ((x5_1[0]'h).toNat : Int) = bt x5_1 0 := bt_at x5_1 0
                  clear p40
                  have qi40 : (0 < (x5_1.size : Int)) = True := eq_true (of_decide_eq_true (by first | (with_reducible assumption) | assumption))
                  replace q40 := eq_true q40
                  go_wp2_with (first | ((with_reducible refine gate_callee (f := 74) rfl ?_); refine goesL_ (some 98) rfl rfl Tryd.func74 (by kernel_rfl) rfl #[.string (x5_1.extract (x7_7 : Int).toNat x5_1.size), .int .i64 7] rfl (by (try simp only [List.map_toArray, List.map_cons, List.map_nil]); first | done | rfl | (simp only [List.length_drop, List.length_take]; rfl)) ?_; (with_reducible refine (spec_l15Text.calls kj7 (x5_1.extract (x7_7 : Int).toNat x5_1.size) 7 t151 t152 _ A44.out).mono ?_); rintro e w' ⟨rfl, ⟨nd, rfl⟩⟩; refine ⟨_, rfl, ?_⟩; obtain ⟨hcz50_0, hcz50_1⟩ := cz2 BK134; obtain ⟨hfz50_0, hfz50_1⟩ := fz2 BK134) | ((with_reducible refine gate_builtin (b := .append) (xs := #[.tmp 108, .tmp 110]) rfl ?_); (try (refine gate_guard (by rfl) ?_; dsimp only)); at_builtin; refine Kd.R_append k65 (w0 := w) w.heap.size rfl (.tmp 108) (.tmp 110) 38 65 (.agg #[(.string ⟨#[]⟩), (.string ⟨#[]⟩)]) 32 rfl Tryd.underlying38 info65 rfl (by decide) (by omega) u4 x4_1 (⟨x135000_7, t151⟩ : S65) [.string x135000_7, .string t151] (fun k_ => k_ ≠ gb134) (fun _ => False) rfl (by first | (go_simp; done) | (go_simp; rfl)) ?aP (fun _ hk => hk.elim) ?aF ?aO ?aB ?aS ?aL ?_; (case aP => exact k65_mkM _ _ _ (⟨x135000_7, t151⟩ : S65)); (case aB => exact (by repeat (first | (with_reducible first | exact HB.out | apply below_alloc | apply pw_below_drewN | apply below_drew1 | refine below_set ?_ GE134.out) | exact HB.out))); (case aF => exact (fun k_ hk => Kd.freshB (g := gb134) (o := .cells #[.string x135000_7, .string t151] 65 (0, 0)) (by (with_reducible repeat (first | refine bN ?_ _ | refine bD ?_ | refine bA ?_ _)); refine blk_put (cs := #[.string x135000_7, .string x135001_7]) ?_ 1 _ rfl; (with_reducible repeat (first | refine bN ?_ _ | refine bD ?_ | refine bA ?_ _)); exact BK134.out) k_ hk)); (case aO => exact (by (with_reducible repeat (first | apply Kd.R_alloc | apply Kd.R_drewN | apply Kd.R_drew)); exact Kd.R_mono (Kd.R_far (p := ⟨gb134, 1, none⟩) (Kd.R_mono HO_4.out (fun k_ hk => (⟨hk, hk⟩ : _ ∧ k_ ≠ gb134))) (fun _ hk => hk.2) (.string t151)) (fun _ hk => hk.1))); (case aS => exact (below_size (by repeat (first | (with_reducible first | exact HB.out | apply below_alloc | apply pw_below_drewN | apply below_drew1 | refine below_set ?_ GE134.out) | exact HB.out)))); (case aL => have := LMc46.out; omega); intro v154 w51 ho hb hg hat; rw [← Ny153.out] at ho; have n0_ := Aside0.mk (blk_grown (g := gb134) (o := .cells #[.string x135000_7, .string t151] 65 (0, 0)) (by (with_reducible repeat (first | refine bN ?_ _ | refine bD ?_ | refine bA ?_ _)); refine blk_put (cs := #[.string x135000_7, .string x135001_7]) ?_ 1 _ rfl; (with_reducible repeat (first | refine bN ?_ _ | refine bD ?_ | refine bA ?_ _)); exact BK134.out) hg (Kd.R_away HO_4.out (fun _ hk => hk))); have n1_ := Aside0.mk (hb); have n2_ := Aside0.mk (ho); clear BK134; clear HB; clear HO_4; have BK134 := n0_; have HB := n1_; have HO155 := n2_; clear n0_ n1_ n2_; clear ho hb hg hat))
                  go_roundg kj7
                  case measure => have := HK1.out; have := HJ3.out; have := HJ7.out; omega
                  case rel => exact ⟨(y153), (x5_1.extract ((ji47) : Int).toNat x5_1.size), (by first | rfl | (simp; done) | (simp only [← hji47] <;> (first | rfl | (simp; done))) | (simp only [← hji47, i64_w] <;> (first | rfl | (simp; done))) | (simp [*]; done)), H', ⟨by have := HK1.out; have := HJ3.out; have := HJ7.out; omega⟩, ⟨by (with_reducible repeat (first | apply Kd.R_alloc | apply Kd.R_drewN | apply Kd.R_drew)); exact Kd.R_mono HO155.out (fun _ hk => trivial)⟩, ⟨by repeat (first | (with_reducible first | exact HB.out | apply below_alloc | apply pw_below_drewN | apply below_drew1 | refine below_set ?_ GE134.out) | exact HB.out)⟩⟩
                 ·rw [if_neg c49] at H
                  exact absurd H (by simp)
                ·rw [if_neg c48] at H
                 exact absurd H (by simp)
               ·rw [if_neg c46] at H
                exact absurd H (by simp)
             ·rw [if_neg c43] at H
              exact absurd H (by simp)
            ·rw [if_neg c42] at H
             exact absurd H (by simp)
           ·rw [if_neg c41] at H
            have c41b0 : decide ((bt x5_1 0) < 192) = false := decide_eq_false c41
            clear c41
            by_cases c52 : x4_1.length < 4398046511104
            ·rw [if_pos c52] at H
             have LMc52 := Aside0.mk c52
             clear c52
             obtain ⟨y156, hy156⟩ : ∃ y_ : List (S65), y_ = (x4_1 ++ [(⟨x135000_7, x135001_7⟩ : S65)]) := ⟨_, rfl⟩
             replace H : (if 0 ≤ x7_7 then (if x7_7 ≤ (x5_1.size : Int) then (spec_l15Read.l0 kj7 a0 y156 (x5_1.extract (x7_7 : Int).toNat x5_1.size)) else (none)) else (none)) = some (r1, r2) := by first | (rw [hy156]; with_reducible exact H) | (have H2_ := (Option.bind_some _ _).symm.trans H; rw [hy156]; with_reducible exact H2_) | (have H2_ := (Option.bind_some _ _).symm.trans H; with_reducible exact H2_) | with_reducible exact H | (rw [hy156]; exact H) | exact H
             have Ny156 := Aside0.mk hy156
             clear hy156
             by_cases c53 : 0 ≤ x7_7
             ·rw [if_pos c53] at H
              have c53b0 := eq_true c53
              have c53b1 : decide (0 ≤ x7_7) = true := decide_eq_true c53
              clear c53
              by_cases c54 : x7_7 ≤ (x5_1.size : Int)
              ·rw [if_pos c54] at H
               have c54b0 := eq_true c54
               have c54b1 : decide (x7_7 ≤ (x5_1.size : Int)) = true := decide_eq_true c54
               clear c54
               have H' := Aside0.mk H
               clear H
               have p40 : 0 ≤ (0 : Int) := (by omega)
               have q40 : 0 < x5_1.size := (by have : (0 : Int) < (x5_1.size : Int) := of_decide_eq_true (by first | (with_reducible assumption) | assumption); omega)
               have hx40 : ∀ h : 0 < x5_1.size, ((x5_1[0]'h).toNat : Int) = bt x5_1 0 := bt_at x5_1 0
               clear p40
               have qi40 : (0 < (x5_1.size : Int)) = True := eq_true (of_decide_eq_true (by first | (with_reducible assumption) | assumption))
               replace q40 := eq_true q40
               obtain ⟨hcz55_0, hcz55_1⟩ := cz2 BK134
               obtain ⟨hfz55_0, hfz55_1⟩ := fz2 BK134
               go_wp2_with (first | ((with_reducible refine gate_builtin (b := .append) (xs := #[.tmp 108, .tmp 110]) rfl ?_); (try (refine gate_guard (by rfl) ?_; dsimp only)); at_builtin; refine Kd.R_append k65 (w0 := w) w.heap.size rfl (.tmp 108) (.tmp 110) 38 65 (.agg #[(.string ⟨#[]⟩), (.string ⟨#[]⟩)]) 32 rfl Tryd.underlying38 info65 rfl (by decide) (by omega) u4 x4_1 (⟨x135000_7, x135001_7⟩ : S65) [.string x135000_7, .string x135001_7] (fun k_ => k_ ≠ gb134) (fun _ => False) rfl rfl ?aP (fun _ hk => hk.elim) ?aF ?aO ?aB ?aS ?aL ?_; (case aP => exact k65_mkM _ _ _ (⟨x135000_7, x135001_7⟩ : S65)); (case aB => exact (by repeat (first | (with_reducible first | exact HB.out | apply below_alloc | apply pw_below_drewN | apply below_drew1 | refine below_set ?_ GE134.out) | exact HB.out))); (case aF => exact (fun k_ hk => Kd.freshB (g := gb134) (o := .cells #[.string x135000_7, .string x135001_7] 65 (0, 0)) (mB BK134) k_ hk)); (case aO => exact (mR HO_4.out)); (case aS => exact (below_size (by repeat (first | (with_reducible first | exact HB.out | apply below_alloc | apply pw_below_drewN | apply below_drew1 | refine below_set ?_ GE134.out) | exact HB.out)))); (case aL => have := LMc52.out; omega); intro v157 w56 ho hb hg hat; rw [← Ny156.out] at ho; have n0_ := Aside0.mk (blk_grown (g := gb134) (o := .cells #[.string x135000_7, .string x135001_7] 65 (0, 0)) (mB BK134) hg (Kd.R_away HO_4.out (fun _ hk => hk))); have n1_ := Aside0.mk (hb); have n2_ := Aside0.mk (ho); clear BK134; clear HB; clear HO_4; have BK134 := n0_; have HB := n1_; have HO158 := n2_; clear n0_ n1_ n2_; clear ho hb hg hat))
               go_roundg kj7
               case measure => have := HK1.out; have := HJ3.out; have := HJ7.out; omega
               case rel => exact ⟨(y156), (x5_1.extract (x7_7 : Int).toNat x5_1.size), (by first | rfl | (simp; done) | (simp [*]; done)), H', ⟨by have := HK1.out; have := HJ3.out; have := HJ7.out; omega⟩, ⟨by (with_reducible repeat (first | apply Kd.R_alloc | apply Kd.R_drewN | apply Kd.R_drew)); exact Kd.R_mono HO158.out (fun _ hk => trivial)⟩, ⟨by repeat (first | (with_reducible first | exact HB.out | apply below_alloc | apply pw_below_drewN | apply below_drew1 | refine below_set ?_ GE134.out) | exact HB.out)⟩⟩
              ·rw [if_neg c54] at H
               exact absurd H (by simp)
             ·rw [if_neg c53] at H
              exact absurd H (by simp)
            ·rw [if_neg c52] at H
             exact absurd H (by simp)
          ·rw [if_neg c39] at H
           exact absurd H (by simp)
       ·replace c7 := Bool.eq_false_iff.mpr c7
        subst c7
        have H1 : ((spec_GoodFields.f kj3 x4_1).bind fun t159 => (if t159 = true then ((spec_l15Bytes.f kj3 x4_1).bind fun t160 => (if t160.toList = a0.toList then (some (x4_1, true)) else (some (([] : List (S65)), false)))) else (some (([] : List (S65)), false)))) = some (r1, r2) := by rw [if_neg (show ¬ (false = true) by decide)] at H; exact H
        clear H
        have H := H1
        clear H1
        replace H := Option.bind_eq_some_iff.mp H
        obtain ⟨t159, A570, H⟩ := H
        replace H : (if t159 = true then ((spec_l15Bytes.f kj3 x4_1).bind fun t160 => (if t160.toList = a0.toList then (some (x4_1, true)) else (some (([] : List (S65)), false)))) else (some (([] : List (S65)), false))) = some (r1, r2) := H
        have A57 := Aside0.mk A570
        clear A570
        by_cases c58 : t159 = true
        ·subst c58
         have H1 : ((spec_l15Bytes.f kj3 x4_1).bind fun t160 => (if t160.toList = a0.toList then (some (x4_1, true)) else (some (([] : List (S65)), false)))) = some (r1, r2) := by rw [if_pos rfl] at H; exact H
         clear H
         have H := H1
         clear H1
         replace H := Option.bind_eq_some_iff.mp H
         obtain ⟨t160, A590, H⟩ := H
         replace H : (if t160.toList = a0.toList then (some (x4_1, true)) else (some (([] : List (S65)), false))) = some (r1, r2) := H
         have A59 := Aside0.mk A590
         clear A590
         by_cases c60 : t160.toList = a0.toList
         ·rw [if_pos c60] at H
          have c60b0 : (t160.toList == a0.toList) = true := beq_iff_eq.mpr c60
          have c60b1 : (t160.toList != a0.toList) = false := bne_eq_false_iff_eq.mpr c60
          clear c60
          simp only [Option.some.injEq, Prod.mk.injEq] at H
          obtain ⟨rfl, rfl⟩ := H
          obtain ⟨Ao61, co61, eo61⟩ := Kd.R_slice HO_4.out
          subst eo61
          go_wp2_with (first | ((with_reducible refine gate_callee (f := 75) rfl ?_); refine goesL_ (some 116) rfl rfl Tryd.func75 (by kernel_rfl) rfl #[.slice Ao61 x4_1.length co61] rfl (by (try simp only [List.map_toArray, List.map_cons, List.map_nil]); first | done | rfl | (simp only [List.length_drop, List.length_take]; rfl)) ?_; (with_reducible refine (spec_GoodFields.calls kj3 _ _ x4_1 true _ ?side1 ?side2 A57.out).mono ?_); (case side1 => repeat (first | exact (Kd.R_reads' HO_4.out).2.2 | (with_reducible refine Kd.C_alloc ?_ _) | (with_reducible refine Kd.C_drewN ?_ _) | (with_reducible refine Kd.C_drew ?_))); (case side2 => exact (Kd.R_reads' HO_4.out).2.1); rintro e w62 ⟨rfl, hb⟩; refine ⟨_, rfl, ?_⟩; have n0_ := Aside0.mk (Kd.R_below (mR HO_4.out) hb); have n1_ := bS HB hb; clear HO_4; clear HB; have HO_4 := n0_; have HB := n1_; clear n0_ n1_; (try clear hb); (try clear hb2); (try clear hk); (try clear hi)) | (go_at_call 76; (with_reducible refine (spec_l15Bytes.calls kj3 _ _ x4_1 t160 _ ?side1 ?side2 A59.out).mono ?_); (case side1 => repeat (first | exact (Kd.R_reads' HO_4.out).2.2 | (with_reducible refine Kd.C_alloc ?_ _) | (with_reducible refine Kd.C_drewN ?_ _) | (with_reducible refine Kd.C_drew ?_))); (case side2 => exact (Kd.R_reads' HO_4.out).2.1); rintro e w63 ⟨rfl, hb⟩; have n0_ := Aside0.mk (Kd.R_below (mR HO_4.out) hb); have n1_ := bS HB hb; clear HO_4; clear HB; have HO_4 := n0_; have HB := n1_; clear n0_ n1_; (try clear hb); (try clear hb2); (try clear hk); (try clear hi)))
          go_ret2
          exact ⟨_, by first | rfl | (simp [errW_none, errW_some] <;> rfl) | (simp [*, errW_none, errW_some] <;> rfl), by (with_reducible repeat (first | apply Kd.R_alloc | apply Kd.R_drewN | apply Kd.R_drew)); exact HO_4.out, by repeat (first | (with_reducible first | exact HB.out | apply below_alloc | apply pw_below_drewN | apply below_drew1) | exact HB.out)⟩
         ·rw [if_neg c60] at H
          have c60b0 : (t160.toList == a0.toList) = false := beq_eq_false_iff_ne.mpr c60
          have c60b1 : (t160.toList != a0.toList) = true := bne_iff_ne.mpr c60
          simp only [Option.some.injEq, Prod.mk.injEq] at H
          obtain ⟨rfl, rfl⟩ := H
          obtain ⟨Ao64, co64, eo64⟩ := Kd.R_slice HO_4.out
          subst eo64
          go_wp2_with (first | ((with_reducible refine gate_callee (f := 75) rfl ?_); refine goesL_ (some 116) rfl rfl Tryd.func75 (by kernel_rfl) rfl #[.slice Ao64 x4_1.length co64] rfl (by (try simp only [List.map_toArray, List.map_cons, List.map_nil]); first | done | rfl | (simp only [List.length_drop, List.length_take]; rfl)) ?_; (with_reducible refine (spec_GoodFields.calls kj3 _ _ x4_1 true _ ?side1 ?side2 A57.out).mono ?_); (case side1 => repeat (first | exact (Kd.R_reads' HO_4.out).2.2 | (with_reducible refine Kd.C_alloc ?_ _) | (with_reducible refine Kd.C_drewN ?_ _) | (with_reducible refine Kd.C_drew ?_))); (case side2 => exact (Kd.R_reads' HO_4.out).2.1); rintro e w65 ⟨rfl, hb⟩; refine ⟨_, rfl, ?_⟩; have n0_ := Aside0.mk (Kd.R_below (mR HO_4.out) hb); have n1_ := bS HB hb; clear HO_4; clear HB; have HO_4 := n0_; have HB := n1_; clear n0_ n1_; (try clear hb); (try clear hb2); (try clear hk); (try clear hi)) | (go_at_call 76; (with_reducible refine (spec_l15Bytes.calls kj3 _ _ x4_1 t160 _ ?side1 ?side2 A59.out).mono ?_); (case side1 => repeat (first | exact (Kd.R_reads' HO_4.out).2.2 | (with_reducible refine Kd.C_alloc ?_ _) | (with_reducible refine Kd.C_drewN ?_ _) | (with_reducible refine Kd.C_drew ?_))); (case side2 => exact (Kd.R_reads' HO_4.out).2.1); rintro e w66 ⟨rfl, hb⟩; have n0_ := Aside0.mk (Kd.R_below (mR HO_4.out) hb); have n1_ := bS HB hb; clear HO_4; clear HB; have HO_4 := n0_; have HB := n1_; clear n0_ n1_; (try clear hb); (try clear hb2); (try clear hk); (try clear hi)))
          go_ret2
          exact ⟨_, by first | rfl | (simp [errW_none, errW_some] <;> rfl) | (simp [*, errW_none, errW_some] <;> rfl), by first | exact Kd.R_nil _ _ _ _ _ | exact Kd.N_nil _ _ _ _ _ | exact Kd.V_nil _ _ _ _ _ | exact Kd.Q_nil _ _ _ _ _ | exact Kd.S_nil _ _ _ _ _, by repeat (first | (with_reducible first | exact HB.out | apply below_alloc | apply pw_below_drewN | apply below_drew1) | exact HB.out)⟩
        ·replace c58 := Bool.eq_false_iff.mpr c58
         subst c58
         have H1 : (some (([] : List (S65)), false)) = some (r1, r2) := by rw [if_neg (show ¬ (false = true) by decide)] at H; exact H
         clear H
         have H := H1
         clear H1
         simp only [Option.some.injEq, Prod.mk.injEq] at H
         obtain ⟨rfl, rfl⟩ := H
         obtain ⟨Ao67, co67, eo67⟩ := Kd.R_slice HO_4.out
         subst eo67
         go_wp2_with (first | ((with_reducible refine gate_callee (f := 75) rfl ?_); refine goesL_ (some 116) rfl rfl Tryd.func75 (by kernel_rfl) rfl #[.slice Ao67 x4_1.length co67] rfl (by (try simp only [List.map_toArray, List.map_cons, List.map_nil]); first | done | rfl | (simp only [List.length_drop, List.length_take]; rfl)) ?_; (with_reducible refine (spec_GoodFields.calls kj3 _ _ x4_1 false _ ?side1 ?side2 A57.out).mono ?_); (case side1 => repeat (first | exact (Kd.R_reads' HO_4.out).2.2 | (with_reducible refine Kd.C_alloc ?_ _) | (with_reducible refine Kd.C_drewN ?_ _) | (with_reducible refine Kd.C_drew ?_))); (case side2 => exact (Kd.R_reads' HO_4.out).2.1); rintro e w68 ⟨rfl, hb⟩; refine ⟨_, rfl, ?_⟩; have n0_ := Aside0.mk (Kd.R_below (mR HO_4.out) hb); have n1_ := bS HB hb; clear HO_4; clear HB; have HO_4 := n0_; have HB := n1_; clear n0_ n1_; (try clear hb); (try clear hb2); (try clear hk); (try clear hi)))
         go_ret2
         exact ⟨_, by first | rfl | (simp [errW_none, errW_some] <;> rfl) | (simp [*, errW_none, errW_some] <;> rfl), by first | exact Kd.R_nil _ _ _ _ _ | exact Kd.N_nil _ _ _ _ _ | exact Kd.V_nil _ _ _ _ _ | exact Kd.Q_nil _ _ _ _ _ | exact Kd.S_nil _ _ _ _ _, by repeat (first | (with_reducible first | exact HB.out | apply below_alloc | apply pw_below_drewN | apply below_drew1) | exact HB.out)⟩
  ·rw [if_neg c3] at H
   exact absurd H (by simp)

/-! ### spec_ReadFields: function 12 -/
def spec_ReadFields.f (k : Nat) (a0 : ByteArray) : Option ((List (S65)) × Bool) := (spec_l15Read.f k a0).bind fun bt161 => (some (bt161.1, bt161.2))
theorem spec_ReadFields.mono : ∀ a0 k, LeO (spec_ReadFields.f k a0) (spec_ReadFields.f (k + 1) a0) := by
 intro a0 k
 unfold spec_ReadFields.f
 repeat' first
   | (with_reducible exact spec_l15Read.mono _ _)
   | (with_reducible exact LeO.refl _)
   | (with_reducible exact LeO.none _)
   | (with_reducible refine LeO.ite ?_ ?_)
   | (with_reducible refine LeO.bind ?_ (fun _ => ?_))
   | exact spec_l15Read.mono _ _
   | exact LeO.none _
   | refine LeO.ite ?_ ?_
   | refine LeO.bind ?_ (fun _ => ?_)
set_option maxHeartbeats 64000000 in
set_option maxRecDepth 100000 in
theorem spec_ReadFields.calls (k : Nat) (a0 : ByteArray) (r1 : List (S65)) (r2 : Bool) (w : World) (h : spec_ReadFields.f k a0 = some (r1, r2)) :
  Calls Tryd.prog 12 #[.string a0] w fun e w' => ∃ v0_ : Value, e = .returned (.tuple #[v0_, .bool r2]) ∧ Kd.R k65 65 w' w.heap.size (fun _ => True) v0_ r1 ∧ Below w.heap.size w w' := by
 have HB := Aside0.mk (Below.refl w.heap.size w)
 have H : ((spec_l15Read.f k a0).bind fun bt161 => (some (bt161.1, bt161.2))) = some (r1, r2) := h
 clear h
 replace H := Option.bind_eq_some_iff.mp H
 obtain ⟨⟨t161, t162⟩, A20, H⟩ := H
 replace H : (some (t161, t162)) = some (r1, r2) := H
 have A2 := Aside0.mk A20
 clear A20
 simp only [Option.some.injEq, Prod.mk.injEq] at H
 obtain ⟨rfl, rfl⟩ := H
 go_enter Tryd.func12, Tryd.ntmps12
 go_wp2_with (first | ((with_reducible refine gate_callee (f := 37) rfl ?_); refine goesL_ (some 5) rfl rfl Tryd.func37 (by kernel_rfl) rfl #[.string a0] rfl (by (try simp only [List.map_toArray, List.map_cons, List.map_nil]); first | done | rfl | (simp only [List.length_drop, List.length_take]; rfl)) ?_; (with_reducible refine (spec_l15Read.calls k a0 t161 t162 _ A2.out).mono ?_); rintro e w3 ⟨v163, rfl, ho0, hb⟩; refine ⟨_, rfl, ?_⟩; have n0_ := Aside0.mk (Kd.R_lower ho0 (below_size (by repeat (first | (with_reducible first | exact HB.out | apply below_alloc | apply pw_below_drewN | apply below_drew1) | exact HB.out)))); have n1_ := bS HB hb; clear HB; have HO164 := n0_; have HB := n1_; clear n0_ n1_; (try clear hb); (try clear hb2); (try clear hk); (try clear hi); (try clear ho0)))
 go_ret2
 exact ⟨_, by first | rfl | (simp [errW_none, errW_some] <;> rfl) | (simp [*, errW_none, errW_some] <;> rfl), by (with_reducible repeat (first | apply Kd.R_alloc | apply Kd.R_drewN | apply Kd.R_drew)); exact HO164.out, by repeat (first | (with_reducible first | exact HB.out | apply below_alloc | apply pw_below_drewN | apply below_drew1) | exact HB.out)⟩

end Go.Proofs.YtilkginahmfagaaDoor.PFnExactReadFields
