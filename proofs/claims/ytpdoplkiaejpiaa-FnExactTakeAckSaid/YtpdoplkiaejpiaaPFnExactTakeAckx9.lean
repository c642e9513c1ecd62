-- Written by a program of this session (wip/xprint.py).
import Derived.Test.YtpdoplkiaejpiaaPFnExactTakeAckx0
import Derived.Test.YtpdoplkiaejpiaaPFnExactTakeAckx5
import Derived.Test.YtpdoplkiaejpiaaPFnExactTakeAckx6
import Derived.Test.YtpdoplkiaejpiaaPFnExactTakeAckx7
import Derived.Test.YtpdoplkiaejpiaaPFnExactTakeAckx8
namespace Go.Proofs.Ytpdoplkiaejpiaa.PFnExactTakeAck
open Go.RowKit Go.Proofs.YtpdoplkiaejpiaaW.PrintWords Go.Proofs.YtpdoplkiaejpiaaW.PrintLast Go.Proofs.YtpdoplkiaejpiaaW.PrintMore
open Go.Proofs.Ytpdoplkiaejpiaa.ShortK (bN bD bA sA sZ sS mR mB bX bLt bS cz2 fz2 cx2 cz3 fz3 cx3 cz4 fz4 cx4 cz5 fz5 cx5 cz6 fz6 cx6 cz7 fz7 cx7 cz8 fz8 cx8 cz9 fz9 cx9 cz10 fz10 cx10 cz11 fz11 cx11 cz12 fz12 cx12)
attribute [local go_sem] Go.Proofs.Ytpdoplkiaejpiaa.StoreK.isSome_setCell max2_int min2_int max_two min_two max_three min_three max_four min_four   -- for this text's walks alone
set_option linter.unusedVariables false
set_option linter.unusedSimpArgs false

/-! ### impl_GoodRanges: function 58 -/
def impl_GoodRanges.f (k : Nat) (l0 : List (S92)) : Option (Bool) := if (l0.length : Int) ≤ 20 then ((impl_rangesOk.f k l0).bind fun t194 => (some t194)) else (some false)
theorem impl_GoodRanges.mono : ∀ a0 k, LeO (impl_GoodRanges.f k a0) (impl_GoodRanges.f (k + 1) a0) := by
 intro a0 k
 unfold impl_GoodRanges.f
 repeat' first
   | (with_reducible exact impl_rangesOk.mono _ _)
   | (with_reducible exact LeO.refl _)
   | (with_reducible exact LeO.none _)
   | (with_reducible refine LeO.ite ?_ ?_)
   | (with_reducible refine LeO.bind ?_ (fun _ => ?_))
   | exact impl_rangesOk.mono _ _
   | exact LeO.none _
   | refine LeO.ite ?_ ?_
   | refine LeO.bind ?_ (fun _ => ?_)
set_option maxHeartbeats 64000000 in
set_option maxRecDepth 100000 in
theorem impl_GoodRanges.calls (k : Nat) (A0 : Option Addr) (c0 : Nat) (l0 : List (S92)) (r : Bool) (w : World) (hr0 : Kd.C k92 w A0 l0.length l0) (hc0 : l0.length ≤ c0) (h : impl_GoodRanges.f k l0 = some r) :
  Calls Try.prog 58 #[.slice A0 l0.length c0] w fun e w' => e = .returned (.bool r) ∧ Below w.heap.size w w' := by
 have HR0 := Aside0.mk hr0
 have HC0 := Aside0.mk hc0
 clear hr0 hc0
 have HB := Aside0.mk (Below.refl w.heap.size w)
 have H : (if (l0.length : Int) ≤ 20 then ((impl_rangesOk.f k l0).bind fun t194 => (some t194)) else (some false)) = some r := h
 clear h
 by_cases c2 : (l0.length : Int) ≤ 20
 ·rw [if_pos c2] at H
  have c2b0 : decide ((l0.length : Int) ≤ 20) = true := decide_eq_true c2
  have c2b1 : decide (l0.length ≤ 20) = true := decide_eq_true (by omega)
  clear c2
  replace H := Option.bind_eq_some_iff.mp H
  obtain ⟨t194, A30, H⟩ := H
  replace H : (some t194) = some r := H
  have A3 := Aside0.mk A30
  clear A30
  obtain rfl := Option.some.inj H
  go_enter Try.func58, Try.ntmps58
  go_wp2_with (first | (go_at_call 96; (with_reducible refine (impl_rangesOk.calls k _ _ l0 t194 _ ?side1 ?side2 A3.out).mono ?_); (case side1 => repeat (first | exact HR0.out | (with_reducible refine Kd.C_alloc ?_ _) | (with_reducible refine Kd.C_drewN ?_ _) | (with_reducible refine Kd.C_drew ?_))); (case side2 => exact HC0.out); rintro e w4 ⟨rfl, hb⟩; have n0_ := bS HB hb; clear HB; have HB := n0_; clear n0_; (try clear hb); (try clear hb2); (try clear hk); (try clear hi)))
  go_ret
  exact ⟨by first | rfl | (simp [errW_none, errW_some] <;> rfl) | (simp [*, errW_none, errW_some] <;> rfl), by repeat (first | (with_reducible first | exact HB.out | apply below_alloc | apply pw_below_drewN | apply below_drew1) | exact HB.out)⟩
 ·rw [if_neg c2] at H
  have c2b0 : decide ((l0.length : Int) ≤ 20) = false := decide_eq_false c2
  have c2b1 : decide (l0.length ≤ 20) = false := decide_eq_false (by omega)
  clear c2
  obtain rfl := Option.some.inj H
  go_enter Try.func58, Try.ntmps58
  go_wp2
  go_ret
  exact ⟨by first | rfl | (simp [errW_none, errW_some] <;> rfl) | (simp [*, errW_none, errW_some] <;> rfl), by repeat (first | (with_reducible first | exact HB.out | apply below_alloc | apply pw_below_drewN | apply below_drew1) | exact HB.out)⟩

/-! ### impl_Range_124: function 124 -/
open Go.Proofs.Ytpdoplkiaejpiaa.IdxK (idxF idxF_hit idxF_miss idxF_nn)
set_option maxHeartbeats 2000000 in
theorem idxF_Range (A : Option Addr) (c : Nat) (l : List S92) (g : Nat) (lb : Array Value) (p : S92 → Bool) (w : World) (eg : ∀ args w, (callFunc g args).run Try.prog w = .ok (.enter g args) w)
    (hp : ∀ (W : World) (x : S92), x ∈ l → Below w.heap.size w W → Calls Try.prog g (#[.agg #[.int .i64 x.f0, .int .i64 x.f1]] ++ lb) W fun e w' => e = .returned (.bool (p x)) ∧ Below w.heap.size w w') (hr : Kd.C k92 w A l.length l) :
    Calls Try.prog 124 #[.slice A l.length c, .func (.func g) #[] lb] w fun e w' => e = .returned (.int .i64 (idxF p l)) ∧ Below w.heap.size w w' := by
  have hbig := hr.2.1
  go_enter Try.func124, Try.ntmps124
  go_wp2
  go_loopg [5, 8] l.length (fun gg _ s8 wr => ∃ kk : Nat, kk ≤ l.length ∧ l.length - kk ≤ gg ∧ s8 = .int .i64 kk ∧ Aside (Below w.heap.size w wr) ∧ Aside (∀ j, j < kk → p (l.getD j z92) = false))
  case atStart => exact ⟨0, Nat.zero_le _, by omega, rfl, Below.refl _ w, fun j hj => absurd hj (Nat.not_lt_zero _)⟩
  case round =>
    obtain ⟨kk, hkk, hg, rfl, BW, AL⟩ := hrel
    by_cases hlt : kk < l.length
    · have hltz : (kk : Int) < (l.length : Int) := by omega
      obtain ⟨ad, eA, hx0, hx1⟩ := at_T92 (Kd.C_below hr BW.out) (kk : Int) (by omega) hltz
      have hmem : rd_T92 l kk ∈ l := by
        unfold rd_T92
        rw [Int.toNat_natCast, List.getD_eq_getElem?_getD, List.getElem?_eq_getElem hlt]
        exact List.getElem_mem hlt
      have hcall := hp wr (rd_T92 l kk) hmem BW.out
      have hy : rd_T92 l kk = l.getD kk z92 := by unfold rd_T92; rw [Int.toNat_natCast]
      subst eA
      clear hp
      rw [Int.toNat_natCast] at hx0 hx1
      generalize rd_T92 l kk = y at hx0 hx1 hcall hy
      have B : Aside (y = l.getD kk z92) := hy
      clear hy hmem
      cases hq : p y with
      | true =>
        rw [hq] at hcall
        go_wp2_with fail
        refine hcall.mono ?_
        rintro e w' ⟨rfl, hb'⟩
        go_wp2
        go_ret
        refine ⟨?_, hb'⟩
        rw [idxF_hit p z92 l kk hlt (by rw [← B.out]; exact hq) AL.out]
        rfl
      | false =>
        rw [hq] at hcall
        go_wp2_with fail
        refine hcall.mono ?_
        rintro e w' ⟨rfl, hb'⟩
        go_wp2
        go_roundg (l.length - (kk + 1))
        case measure => omega
        case rel =>
          refine ⟨kk + 1, by omega, by omega, by go_num, hb', (show Aside _ from fun j hj => ?_)⟩
          by_cases e : j = kk
          · subst e
            rw [← B.out]; exact hq
          · exact AL.out j (by omega)
    · have hltz : ¬ (kk : Int) < (l.length : Int) := by omega
      have e : kk = l.length := by omega
      subst e
      go_wp2
      go_ret
      refine ⟨?_, BW.out⟩
      rw [idxF_miss p z92 l AL.out]
      rfl

/-! ### impl_Range_106: function 106 -/
theorem anyF_Range (A : Option Addr) (c : Nat) (l : List S92) (g : Nat) (lb : Array Value) (p : S92 → Bool) (w : World) (eg : ∀ args w, (callFunc g args).run Try.prog w = .ok (.enter g args) w)
    (hp : ∀ (W : World) (x : S92), x ∈ l → Below w.heap.size w W → Calls Try.prog g (#[.agg #[.int .i64 x.f0, .int .i64 x.f1]] ++ lb) W fun e w' => e = .returned (.bool (p x)) ∧ Below w.heap.size w w') (hr : Kd.C k92 w A l.length l) :
    Calls Try.prog 106 #[.slice A l.length c, .func (.func g) #[] lb] w fun e w' => e = .returned (.bool (l.any p)) ∧ Below w.heap.size w w' := by
  rw [← idxF_nn p l]
  have hcon := idxF_Range A c l g lb p w eg hp hr
  clear hp hr eg
  generalize idxF p l = q at hcon ⊢
  go_enter Try.func106, Try.ntmps106
  go_wp2_with fail
  refine hcon.mono ?_
  rintro e w' ⟨rfl, hb'⟩
  go_wp2
  go_ret
  exact ⟨rfl, hb'⟩

/-! ### impl_hasNumber: function 60 -/
/-- Is a number in a range? -/
def impl_hasNumber.f (l0 : List (S92)) (a1 : Int) : Option (Bool) := some (l0.any fun r => decide (r.f0 ≤ a1 ∧ a1 ≤ r.f1))
theorem hasNumber1_calls (n : Int) (B : Nat) (w : World) (hB : B < w.heap.size) (hcell : w.cell? ⟨B, 0, none⟩ = some (.int .i64 n)) (W : World) (x : S92) (hb : Below w.heap.size w W) :
    Calls Try.prog 107 #[.agg #[.int .i64 x.f0, .int .i64 x.f1], .pointer (some ⟨B, 0, none⟩)] W fun e w' => e = .returned (.bool (decide (x.f0 ≤ n ∧ n ≤ x.f1))) ∧ Below w.heap.size w w' := by
  have hc : W.cell? ⟨B, 0, none⟩ = some (.int .i64 n) := (hb.cell (p := ⟨B, 0, none⟩) hB).trans hcell
  have hBW : B < W.heap.size := Nat.lt_of_lt_of_le hB hb.size
  have hne : B ≠ W.heap.size := by omega
  have hin : impl_in.f n x.f0 x.f1 = some (decide (x.f0 ≤ n ∧ n ≤ x.f1)) := by
    unfold impl_in.f
    by_cases h : x.f0 ≤ n
    · rw [if_pos h]; simp [h]
    · rw [if_neg h]; simp [h]
  have HI := Aside0.mk hin
  clear hin hcell
  generalize decide (x.f0 ≤ n ∧ n ≤ x.f1) = b at HI ⊢
  have hD : Below w.heap.size w (W.alloc (.cells #[.int .i64 x.f0, .int .i64 x.f1] 92)) := hb.alloc hb.size _
  have HD := Aside0.mk hD
  clear hD
  go_enter Try.func107, Try.ntmps107
  go_wp2_with fail
  refine (impl_in.calls n x.f0 x.f1 b _ HI.out).mono ?_
  rintro e w' ⟨rfl, hd⟩
  have HE := Aside0.mk (HD.out.trans (hd.below.mono HD.out.size))
  clear hd
  go_wp2
  go_ret
  exact ⟨rfl, HE.out⟩
theorem impl_hasNumber.calls (A0 : Option Addr) (c0 : Nat) (l0 : List (S92)) (a1 : Int) (r : Bool) (w : World) (hr0 : Kd.C k92 w A0 l0.length l0) (hc0 : l0.length ≤ c0) (h : impl_hasNumber.f l0 a1 = some r) :
    Calls Try.prog 60 #[.slice A0 l0.length c0, .int .i64 a1] w fun e w' => e = .returned (.bool r) ∧ Below w.heap.size w w' := by
  obtain rfl := Option.some.inj h
  clear h
  have eg : ∀ args w, (callFunc 107 args).run Try.prog w = .ok (.enter 107 args) w := enters_ Try.func107 (by kernel_rfl) rfl
  have hB0 : Below w.heap.size w (w.alloc (.cells #[.int .i64 a1] 3)) := (Below.refl _ w).alloc (Nat.le_refl _) _
  have hcon := anyF_Range A0 c0 l0 107 #[.pointer (some ⟨w.heap.size, 0, none⟩)] (fun r => decide (r.f0 ≤ a1 ∧ a1 ≤ r.f1)) (w.alloc (.cells #[.int .i64 a1] 3)) eg
    (fun W x _ hb => hasNumber1_calls a1 w.heap.size _ (by simp) (by simp) W x hb) (Kd.C_below hr0 hB0)
  clear hr0 eg
  have HB := Aside0.mk hB0
  clear hB0
  generalize (l0.any fun r => decide (r.f0 ≤ a1 ∧ a1 ≤ r.f1)) = q at hcon ⊢
  go_enter Try.func60, Try.ntmps60
  go_wp2_with fail
  refine hcon.mono ?_
  rintro e w' ⟨rfl, hb'⟩
  go_wp2
  go_ret
  exact ⟨rfl, HB.out.trans (hb'.mono (by simp))⟩

/-! ### impl_sampled: function 61 -/
def impl_sampled.f (a0_0 : Bool) (a0_1 : Int) (a0_2 : Int) (a0_3 : Int) (a0_4 : Int) (a1 : Int) (a2 : Int) : Option (Bool × Int × Int × Int × Int) := if a0_0 = true then (if (wrap64 (a1 - a2)) ≥ (mn a1 a0_2) then (some (a0_0, a1, mn a1 a0_2, wrap64 (Int.tdiv (wrap64 ((wrap64 (7 * a0_3)) + (wrap64 (a1 - a2)))) 8), wrap64 (Int.tdiv (wrap64 ((wrap64 (3 * a0_4)) + (mx (wrap64 (a0_3 - (wrap64 (a1 - a2)))) (wrap64 (-(wrap64 (a0_3 - (wrap64 (a1 - a2))))))))) 4))) else (some (a0_0, a1, mn a1 a0_2, wrap64 (Int.tdiv (wrap64 ((wrap64 (7 * a0_3)) + a1)) 8), wrap64 (Int.tdiv (wrap64 ((wrap64 (3 * a0_4)) + (mx (wrap64 (a0_3 - a1)) (wrap64 (-(wrap64 (a0_3 - a1))))))) 4)))) else (some (true, a1, a1, a1, wrap64 (Int.tdiv a1 2)))
set_option maxHeartbeats 64000000 in
set_option maxRecDepth 100000 in
theorem impl_sampled.calls (a0_0 : Bool) (a0_1 : Int) (a0_2 : Int) (a0_3 : Int) (a0_4 : Int) (a1 : Int) (a2 : Int) (r1 : Bool) (r2 : Int) (r3 : Int) (r4 : Int) (r5 : Int) (w : World) (h : impl_sampled.f a0_0 a0_1 a0_2 a0_3 a0_4 a1 a2 = some (r1, r2, r3, r4, r5)) :
  Calls Try.prog 61 #[.agg #[.bool a0_0, .int .i64 a0_1, .int .i64 a0_2, .int .i64 a0_3, .int .i64 a0_4], .int .i64 a1, .int .i64 a2] w fun e w' => e = .returned (.agg #[.bool r1, .int .i64 r2, .int .i64 r3, .int .i64 r4, .int .i64 r5]) ∧ Below w.heap.size w w' := by
 have hu42 := Try.underlying42
 have HB := Aside0.mk (Below.refl w.heap.size w)
 have H : (if a0_0 = true then (if (wrap64 (a1 - a2)) ≥ (mn a1 a0_2) then (some (a0_0, a1, mn a1 a0_2, wrap64 (Int.tdiv (wrap64 ((wrap64 (7 * a0_3)) + (wrap64 (a1 - a2)))) 8), wrap64 (Int.tdiv (wrap64 ((wrap64 (3 * a0_4)) + (mx (wrap64 (a0_3 - (wrap64 (a1 - a2)))) (wrap64 (-(wrap64 (a0_3 - (wrap64 (a1 - a2))))))))) 4))) else (some (a0_0, a1, mn a1 a0_2, wrap64 (Int.tdiv (wrap64 ((wrap64 (7 * a0_3)) + a1)) 8), wrap64 (Int.tdiv (wrap64 ((wrap64 (3 * a0_4)) + (mx (wrap64 (a0_3 - a1)) (wrap64 (-(wrap64 (a0_3 - a1))))))) 4)))) else (some (true, a1, a1, a1, wrap64 (Int.tdiv a1 2)))) = some (r1, r2, r3, r4, r5) := h
 clear h
 by_cases c4 : a0_0 = true
 ·subst c4
  have H1 : (if (wrap64 (a1 - a2)) ≥ (mn a1 a0_2) then (some (true, a1, mn a1 a0_2, wrap64 (Int.tdiv (wrap64 ((wrap64 (7 * a0_3)) + (wrap64 (a1 - a2)))) 8), wrap64 (Int.tdiv (wrap64 ((wrap64 (3 * a0_4)) + (mx (wrap64 (a0_3 - (wrap64 (a1 - a2)))) (wrap64 (-(wrap64 (a0_3 - (wrap64 (a1 - a2))))))))) 4))) else (some (true, a1, mn a1 a0_2, wrap64 (Int.tdiv (wrap64 ((wrap64 (7 * a0_3)) + a1)) 8), wrap64 (Int.tdiv (wrap64 ((wrap64 (3 * a0_4)) + (mx (wrap64 (a0_3 - a1)) (wrap64 (-(wrap64 (a0_3 - a1))))))) 4)))) = some (r1, r2, r3, r4, r5) := by rw [if_pos rfl] at H; exact H
  clear H
  have H := H1
  clear H1
  obtain ⟨ji5, hji5⟩ : ∃ j_ : Int, (mn a1 a0_2) = j_ := ⟨_, rfl⟩
  replace H : (if (wrap64 (a1 - a2)) ≥ (ji5) then (some (true, a1, ji5, wrap64 (Int.tdiv (wrap64 ((wrap64 (7 * a0_3)) + (wrap64 (a1 - a2)))) 8), wrap64 (Int.tdiv (wrap64 ((wrap64 (3 * a0_4)) + (mx (wrap64 (a0_3 - (wrap64 (a1 - a2)))) (wrap64 (-(wrap64 (a0_3 - (wrap64 (a1 - a2))))))))) 4))) else (some (true, a1, ji5, wrap64 (Int.tdiv (wrap64 ((wrap64 (7 * a0_3)) + a1)) 8), wrap64 (Int.tdiv (wrap64 ((wrap64 (3 * a0_4)) + (mx (wrap64 (a0_3 - a1)) (wrap64 (-(wrap64 (a0_3 - a1))))))) 4)))) = some (r1, r2, r3, r4, r5) := by first | (rw [hji5] at H; exact H) | (simp only [hji5] at H ⊢; exact H)
  have hji5_ : (if a0_2 < a1 then a0_2 else a1) = ji5 := hji5
  by_cases c6 : (wrap64 (a1 - a2)) ≥ (ji5)
  ·rw [if_pos c6] at H
   have c6b0 : decide ((ji5) ≤ (wrap64 (a1 - a2))) = true := decide_eq_true c6
   (try (have c6b1 : decide ((ji5) ≤ (IntKind.i64.wrap (a1 - a2))) = true := by simp only [i64_w]; exact (decide_eq_true c6)))
   clear c6
   obtain ⟨ji7, hji7⟩ : ∃ j_ : Int, (mx (wrap64 (a0_3 - (wrap64 (a1 - a2)))) (wrap64 (-(wrap64 (a0_3 - (wrap64 (a1 - a2))))))) = j_ := ⟨_, rfl⟩
   replace H : (some (true, a1, ji5, wrap64 (Int.tdiv (wrap64 ((wrap64 (7 * a0_3)) + (wrap64 (a1 - a2)))) 8), wrap64 (Int.tdiv (wrap64 ((wrap64 (3 * a0_4)) + (ji7))) 4))) = some (r1, r2, r3, r4, r5) := by first | (rw [hji7] at H; exact H) | (simp only [hji7] at H ⊢; exact H)
   have hji7_ : (if (wrap64 (a0_3 - (wrap64 (a1 - a2)))) < (wrap64 (-(wrap64 (a0_3 - (wrap64 (a1 - a2)))))) then (wrap64 (-(wrap64 (a0_3 - (wrap64 (a1 - a2)))))) else (wrap64 (a0_3 - (wrap64 (a1 - a2))))) = ji7 := hji7
   simp only [Option.some.injEq, Prod.mk.injEq] at H
   obtain ⟨rfl, rfl, rfl, rfl, rfl⟩ := H
   go_enter Try.func61, Try.ntmps61
   go_wp2_with (first | ((with_reducible refine gate_dst (N := 3) rfl ?_); refine box_event ?hg (N := 3) ?hd (cs := #[.bool true, .int .i64 a0_1, .int .i64 a0_2, .int .i64 a0_3, .int .i64 a0_4]) (t := 42) ?hr ?_; (case hd => rfl); (case hg => rfl); (case hr => first | (go_simp; done) | (go_simp; rfl)); intro gb195 hg w8 hbox hb; have n0_ := bS HB hb; have n1_ := Aside0.mk (hbox); have n2_ := Aside0.mk ((by rw [hg]; exact (below_size (by repeat (first | (with_reducible first | exact HB.out | apply below_alloc | apply pw_below_drewN | apply below_drew1) | exact HB.out))) : w.heap.size ≤ gb195)); have n3_ := n2_; clear HB; have HB := n0_; have BK195 := n1_; have GW195 := n2_; have GE195 := n3_; clear n0_ n1_ n2_ n3_; clear hb hbox hg) | ((with_reducible refine gate_dst (N := 6) rfl ?_); refine box_event ?hg (N := 6) ?hd (cs := #[.bool false, .int .i64 0, .int .i64 0, .int .i64 0, .int .i64 0]) (t := 42) ?hr ?_; (case hd => rfl); (case hg => rfl); (case hr => first | (go_simp; done) | (go_simp; rfl)); intro gb196 hg w9 hbox hb; have n0_ := bX BK195 hb; have n1_ := bS HB hb; have n2_ := Aside0.mk (hbox); have n3_ := Aside0.mk ((by rw [hg]; exact (below_size (by repeat (first | (with_reducible first | exact HB.out | apply below_alloc | apply pw_below_drewN | apply below_drew1 | refine below_set ?_ GE195.out) | exact HB.out))) : w.heap.size ≤ gb196)); have n4_ := n3_; have n5_ := Aside0.mk ((by rw [hg]; exact Nat.ne_of_lt (bLt BK195) : gb195 ≠ gb196)); have n6_ := Aside0.mk ((by rw [hg]; exact Nat.ne_of_gt (bLt BK195) : gb196 ≠ gb195)); clear BK195; clear HB; have BK195 := n0_; have HB := n1_; have BK196 := n2_; have GW196 := n3_; have GE196 := n4_; have NB195_196 := n5_; have NB196_195 := n6_; clear n0_ n1_ n2_ n3_ n4_ n5_ n6_; clear hb hbox hg; have hnb10 := NB195_196.out; have hnc10 := NB196_195.out; obtain ⟨hcz11_0, hcz11_1, hcz11_2, hcz11_3, hcz11_4⟩ := cz5 BK195; obtain ⟨hfz11_0, hfz11_1, hfz11_2, hfz11_3, hfz11_4⟩ := fz5 BK195; obtain ⟨hcz12_0, hcz12_1, hcz12_2, hcz12_3, hcz12_4⟩ := cz5 BK196; obtain ⟨hfz12_0, hfz12_1, hfz12_2, hfz12_3, hfz12_4⟩ := fz5 BK196))
   refine bodyPost_ret (results_cell_row rfl _ _ gb196 42 #[.bool true, .int .i64 a1, .int .i64 ji5, .int .i64 (wrap64 (Int.tdiv (wrap64 ((wrap64 (7 * a0_3)) + (wrap64 (a1 - a2)))) 8)), .int .i64 (wrap64 (Int.tdiv (wrap64 ((wrap64 (3 * a0_4)) + (ji7))) 4))] (0, 0) _ rfl (by (with_reducible repeat (first | refine bN ?_ _ | refine bD ?_ | refine bA ?_ _)); refine blk_put (cs := #[.bool true, .int .i64 a1, .int .i64 ji5, .int .i64 (wrap64 (Int.tdiv (wrap64 ((wrap64 (7 * a0_3)) + (wrap64 (a1 - a2)))) 8)), .int .i64 0]) ?_ 4 _ rfl; (with_reducible repeat (first | refine bN ?_ _ | refine bD ?_ | refine bA ?_ _)); refine blk_put (cs := #[.bool true, .int .i64 a1, .int .i64 ji5, .int .i64 0, .int .i64 0]) ?_ 3 _ rfl; (with_reducible repeat (first | refine bN ?_ _ | refine bD ?_ | refine bA ?_ _)); refine blk_put (cs := #[.bool true, .int .i64 a1, .int .i64 0, .int .i64 0, .int .i64 0]) ?_ 2 _ rfl; (with_reducible repeat (first | refine bN ?_ _ | refine bD ?_ | refine bA ?_ _)); refine blk_put (cs := #[.bool true, .int .i64 0, .int .i64 0, .int .i64 0, .int .i64 0]) ?_ 1 _ rfl; (with_reducible repeat (first | refine bN ?_ _ | refine bD ?_ | refine bA ?_ _)); refine blk_put (cs := #[.bool false, .int .i64 0, .int .i64 0, .int .i64 0, .int .i64 0]) ?_ 0 _ rfl; (with_reducible repeat (first | refine bN ?_ _ | refine bD ?_ | refine bA ?_ _)); refine blk_far ?_ NB196_195.out _; (with_reducible repeat (first | refine bN ?_ _ | refine bD ?_ | refine bA ?_ _)); refine blk_far ?_ NB196_195.out _; (with_reducible repeat (first | refine bN ?_ _ | refine bD ?_ | refine bA ?_ _)); refine blk_far ?_ NB196_195.out _; (with_reducible repeat (first | refine bN ?_ _ | refine bD ?_ | refine bA ?_ _)); refine blk_far ?_ NB196_195.out _; (with_reducible repeat (first | refine bN ?_ _ | refine bD ?_ | refine bA ?_ _)); exact BK196.out) Try.underlying42 rfl (by kernel_rfl)) rfl ?_
   exact ⟨by first | rfl | (simp [errW_none, errW_some] <;> rfl) | (simp only [← hji5, ← hji7]; first | rfl | (simp [errW_none, errW_some] <;> rfl)) | (simp [*, errW_none, errW_some] <;> rfl), by repeat (first | (with_reducible first | exact HB.out | apply below_alloc | apply pw_below_drewN | apply below_drew1 | refine below_set ?_ GE195.out | refine below_set ?_ GE196.out) | exact HB.out)⟩
  ·rw [if_neg c6] at H
   have c6b0 : decide ((ji5) ≤ (wrap64 (a1 - a2))) = false := decide_eq_false c6
   (try (have c6b1 : decide ((ji5) ≤ (IntKind.i64.wrap (a1 - a2))) = false := by simp only [i64_w]; exact (decide_eq_false c6)))
   clear c6
   obtain ⟨ji13, hji13⟩ : ∃ j_ : Int, (mx (wrap64 (a0_3 - a1)) (wrap64 (-(wrap64 (a0_3 - a1))))) = j_ := ⟨_, rfl⟩
   replace H : (some (true, a1, ji5, wrap64 (Int.tdiv (wrap64 ((wrap64 (7 * a0_3)) + a1)) 8), wrap64 (Int.tdiv (wrap64 ((wrap64 (3 * a0_4)) + (ji13))) 4))) = some (r1, r2, r3, r4, r5) := by first | (rw [hji13] at H; exact H) | (simp only [hji13] at H ⊢; exact H)
   have hji13_ : (if (wrap64 (a0_3 - a1)) < (wrap64 (-(wrap64 (a0_3 - a1)))) then (wrap64 (-(wrap64 (a0_3 - a1)))) else (wrap64 (a0_3 - a1))) = ji13 := hji13
   simp only [Option.some.injEq, Prod.mk.injEq] at H
   obtain ⟨rfl, rfl, rfl, rfl, rfl⟩ := H
   go_enter Try.func61, Try.ntmps61
   go_wp2_with (first | ((with_reducible refine gate_dst (N := 3) rfl ?_); refine box_event ?hg (N := 3) ?hd (cs := #[.bool true, .int .i64 a0_1, .int .i64 a0_2, .int .i64 a0_3, .int .i64 a0_4]) (t := 42) ?hr ?_; (case hd => rfl); (case hg => rfl); (case hr => first | (go_simp; done) | (go_simp; rfl)); intro gb195 hg w14 hbox hb; have n0_ := bS HB hb; have n1_ := Aside0.mk (hbox); have n2_ := Aside0.mk ((by rw [hg]; exact (below_size (by repeat (first | (with_reducible first | exact HB.out | apply below_alloc | apply pw_below_drewN | apply below_drew1) | exact HB.out))) : w.heap.size ≤ gb195)); have n3_ := n2_; clear HB; have HB := n0_; have BK195 := n1_; have GW195 := n2_; have GE195 := n3_; clear n0_ n1_ n2_ n3_; clear hb hbox hg) | ((with_reducible refine gate_dst (N := 6) rfl ?_); refine box_event ?hg (N := 6) ?hd (cs := #[.bool false, .int .i64 0, .int .i64 0, .int .i64 0, .int .i64 0]) (t := 42) ?hr ?_; (case hd => rfl); (case hg => rfl); (case hr => first | (go_simp; done) | (go_simp; rfl)); intro gb196 hg w15 hbox hb; have n0_ := bX BK195 hb; have n1_ := bS HB hb; have n2_ := Aside0.mk (hbox); have n3_ := Aside0.mk ((by rw [hg]; exact (below_size (by repeat (first | (with_reducible first | exact HB.out | apply below_alloc | apply pw_below_drewN | apply below_drew1 | refine below_set ?_ GE195.out) | exact HB.out))) : w.heap.size ≤ gb196)); have n4_ := n3_; have n5_ := Aside0.mk ((by rw [hg]; exact Nat.ne_of_lt (bLt BK195) : gb195 ≠ gb196)); have n6_ := Aside0.mk ((by rw [hg]; exact Nat.ne_of_gt (bLt BK195) : gb196 ≠ gb195)); clear BK195; clear HB; have BK195 := n0_; have HB := n1_; have BK196 := n2_; have GW196 := n3_; have GE196 := n4_; have NB195_196 := n5_; have NB196_195 := n6_; clear n0_ n1_ n2_ n3_ n4_ n5_ n6_; clear hb hbox hg; have hnb16 := NB195_196.out; have hnc16 := NB196_195.out; obtain ⟨hcz17_0, hcz17_1, hcz17_2, hcz17_3, hcz17_4⟩ := cz5 BK195; obtain ⟨hfz17_0, hfz17_1, hfz17_2, hfz17_3, hfz17_4⟩ := fz5 BK195; obtain ⟨hcz18_0, hcz18_1, hcz18_2, hcz18_3, hcz18_4⟩ := cz5 BK196; obtain ⟨hfz18_0, hfz18_1, hfz18_2, hfz18_3, hfz18_4⟩ := fz5 BK196))
   refine bodyPost_ret (results_cell_row rfl _ _ gb196 42 #[.bool true, .int .i64 a1, .int .i64 ji5, .int .i64 (wrap64 (Int.tdiv (wrap64 ((wrap64 (7 * a0_3)) + a1)) 8)), .int .i64 (wrap64 (Int.tdiv (wrap64 ((wrap64 (3 * a0_4)) + (ji13))) 4))] (0, 0) _ rfl (by (with_reducible repeat (first | refine bN ?_ _ | refine bD ?_ | refine bA ?_ _)); refine blk_put (cs := #[.bool true, .int .i64 a1, .int .i64 ji5, .int .i64 (wrap64 (Int.tdiv (wrap64 ((wrap64 (7 * a0_3)) + a1)) 8)), .int .i64 0]) ?_ 4 _ rfl; (with_reducible repeat (first | refine bN ?_ _ | refine bD ?_ | refine bA ?_ _)); refine blk_put (cs := #[.bool true, .int .i64 a1, .int .i64 ji5, .int .i64 0, .int .i64 0]) ?_ 3 _ rfl; (with_reducible repeat (first | refine bN ?_ _ | refine bD ?_ | refine bA ?_ _)); refine blk_put (cs := #[.bool true, .int .i64 a1, .int .i64 0, .int .i64 0, .int .i64 0]) ?_ 2 _ rfl; (with_reducible repeat (first | refine bN ?_ _ | refine bD ?_ | refine bA ?_ _)); refine blk_put (cs := #[.bool true, .int .i64 0, .int .i64 0, .int .i64 0, .int .i64 0]) ?_ 1 _ rfl; (with_reducible repeat (first | refine bN ?_ _ | refine bD ?_ | refine bA ?_ _)); refine blk_put (cs := #[.bool false, .int .i64 0, .int .i64 0, .int .i64 0, .int .i64 0]) ?_ 0 _ rfl; (with_reducible repeat (first | refine bN ?_ _ | refine bD ?_ | refine bA ?_ _)); refine blk_far ?_ NB196_195.out _; (with_reducible repeat (first | refine bN ?_ _ | refine bD ?_ | refine bA ?_ _)); refine blk_far ?_ NB196_195.out _; (with_reducible repeat (first | refine bN ?_ _ | refine bD ?_ | refine bA ?_ _)); refine blk_far ?_ NB196_195.out _; (with_reducible repeat (first | refine bN ?_ _ | refine bD ?_ | refine bA ?_ _)); refine blk_far ?_ NB196_195.out _; (with_reducible repeat (first | refine bN ?_ _ | refine bD ?_ | refine bA ?_ _)); exact BK196.out) Try.underlying42 rfl (by kernel_rfl)) rfl ?_
   exact ⟨by first | rfl | (simp [errW_none, errW_some] <;> rfl) | (simp only [← hji5, ← hji13]; first | rfl | (simp [errW_none, errW_some] <;> rfl)) | (simp [*, errW_none, errW_some] <;> rfl), by repeat (first | (with_reducible first | exact HB.out | apply below_alloc | apply pw_below_drewN | apply below_drew1 | refine below_set ?_ GE195.out | refine below_set ?_ GE196.out) | exact HB.out)⟩
 ·replace c4 := Bool.eq_false_iff.mpr c4
  subst c4
  have H1 : (some (true, a1, a1, a1, wrap64 (Int.tdiv a1 2))) = some (r1, r2, r3, r4, r5) := by rw [if_neg (show ¬ (false = true) by decide)] at H; exact H
  clear H
  have H := H1
  clear H1
  simp only [Option.some.injEq, Prod.mk.injEq] at H
  obtain ⟨rfl, rfl, rfl, rfl, rfl⟩ := H
  go_enter Try.func61, Try.ntmps61
  go_wp2_with (first | ((with_reducible refine gate_dst (N := 3) rfl ?_); refine box_event ?hg (N := 3) ?hd (cs := #[.bool false, .int .i64 a0_1, .int .i64 a0_2, .int .i64 a0_3, .int .i64 a0_4]) (t := 42) ?hr ?_; (case hd => rfl); (case hg => rfl); (case hr => first | (go_simp; done) | (go_simp; rfl)); intro gb195 hg w19 hbox hb; have n0_ := bS HB hb; have n1_ := Aside0.mk (hbox); have n2_ := Aside0.mk ((by rw [hg]; exact (below_size (by repeat (first | (with_reducible first | exact HB.out | apply below_alloc | apply pw_below_drewN | apply below_drew1) | exact HB.out))) : w.heap.size ≤ gb195)); have n3_ := n2_; clear HB; have HB := n0_; have BK195 := n1_; have GW195 := n2_; have GE195 := n3_; clear n0_ n1_ n2_ n3_; clear hb hbox hg) | ((with_reducible refine gate_dst (N := 6) rfl ?_); refine box_event ?hg (N := 6) ?hd (cs := #[.bool false, .int .i64 0, .int .i64 0, .int .i64 0, .int .i64 0]) (t := 42) ?hr ?_; (case hd => rfl); (case hg => rfl); (case hr => first | (go_simp; done) | (go_simp; rfl)); intro gb196 hg w20 hbox hb; have n0_ := bX BK195 hb; have n1_ := bS HB hb; have n2_ := Aside0.mk (hbox); have n3_ := Aside0.mk ((by rw [hg]; exact (below_size (by repeat (first | (with_reducible first | exact HB.out | apply below_alloc | apply pw_below_drewN | apply below_drew1 | refine below_set ?_ GE195.out) | exact HB.out))) : w.heap.size ≤ gb196)); have n4_ := n3_; have n5_ := Aside0.mk ((by rw [hg]; exact Nat.ne_of_lt (bLt BK195) : gb195 ≠ gb196)); have n6_ := Aside0.mk ((by rw [hg]; exact Nat.ne_of_gt (bLt BK195) : gb196 ≠ gb195)); clear BK195; clear HB; have BK195 := n0_; have HB := n1_; have BK196 := n2_; have GW196 := n3_; have GE196 := n4_; have NB195_196 := n5_; have NB196_195 := n6_; clear n0_ n1_ n2_ n3_ n4_ n5_ n6_; clear hb hbox hg; have hnb21 := NB195_196.out; have hnc21 := NB196_195.out; obtain ⟨hcz22_0, hcz22_1, hcz22_2, hcz22_3, hcz22_4⟩ := cz5 BK195; obtain ⟨hfz22_0, hfz22_1, hfz22_2, hfz22_3, hfz22_4⟩ := fz5 BK195; obtain ⟨hcz23_0, hcz23_1, hcz23_2, hcz23_3, hcz23_4⟩ := cz5 BK196; obtain ⟨hfz23_0, hfz23_1, hfz23_2, hfz23_3, hfz23_4⟩ := fz5 BK196))
  refine bodyPost_ret (results_cell_row rfl _ _ gb196 42 #[.bool true, .int .i64 a1, .int .i64 a1, .int .i64 a1, .int .i64 (wrap64 (Int.tdiv a1 2))] (0, 0) _ rfl (by (with_reducible repeat (first | refine bN ?_ _ | refine bD ?_ | refine bA ?_ _)); refine blk_put (cs := #[.bool true, .int .i64 a1, .int .i64 a1, .int .i64 a1, .int .i64 0]) ?_ 4 _ rfl; (with_reducible repeat (first | refine bN ?_ _ | refine bD ?_ | refine bA ?_ _)); refine blk_put (cs := #[.bool true, .int .i64 a1, .int .i64 a1, .int .i64 0, .int .i64 0]) ?_ 3 _ rfl; (with_reducible repeat (first | refine bN ?_ _ | refine bD ?_ | refine bA ?_ _)); refine blk_put (cs := #[.bool true, .int .i64 a1, .int .i64 0, .int .i64 0, .int .i64 0]) ?_ 2 _ rfl; (with_reducible repeat (first | refine bN ?_ _ | refine bD ?_ | refine bA ?_ _)); refine blk_put (cs := #[.bool true, .int .i64 0, .int .i64 0, .int .i64 0, .int .i64 0]) ?_ 1 _ rfl; (with_reducible repeat (first | refine bN ?_ _ | refine bD ?_ | refine bA ?_ _)); refine blk_put (cs := #[.bool false, .int .i64 0, .int .i64 0, .int .i64 0, .int .i64 0]) ?_ 0 _ rfl; (with_reducible repeat (first | refine bN ?_ _ | refine bD ?_ | refine bA ?_ _)); exact BK196.out) Try.underlying42 rfl (by kernel_rfl)) rfl ?_
  exact ⟨by first | rfl | (simp [errW_none, errW_some] <;> rfl) | (simp [*, errW_none, errW_some] <;> rfl), by repeat (first | (with_reducible first | exact HB.out | apply below_alloc | apply pw_below_drewN | apply below_drew1 | refine below_set ?_ GE195.out | refine below_set ?_ GE196.out) | exact HB.out)⟩

/-! ### impl_Rtt_wait: function 108 -/
def impl_Rtt_wait.f (a0_0 : Bool) (a0_1 : Int) (a0_2 : Int) (a0_3 : Int) (a0_4 : Int) : Option (Int) := some (mx (wrap64 (Int.tdiv (wrap64 ((mx a0_3 a0_1) * 9)) 8)) 1)
set_option maxHeartbeats 64000000 in
set_option maxRecDepth 100000 in
theorem impl_Rtt_wait.calls (a0_0 : Bool) (a0_1 : Int) (a0_2 : Int) (a0_3 : Int) (a0_4 : Int) (r : Int) (w : World) (h : impl_Rtt_wait.f a0_0 a0_1 a0_2 a0_3 a0_4 = some r) :
  Calls Try.prog 108 #[.agg #[.bool a0_0, .int .i64 a0_1, .int .i64 a0_2, .int .i64 a0_3, .int .i64 a0_4]] w fun e w' => e = .returned (.int .i64 r) ∧ Below w.heap.size w w' := by
 have hu42 := Try.underlying42
 have HB := Aside0.mk (Below.refl w.heap.size w)
 have H : (some (mx (wrap64 (Int.tdiv (wrap64 ((mx a0_3 a0_1) * 9)) 8)) 1)) = some r := h
 clear h
 obtain ⟨ji2, hji2⟩ : ∃ j_ : Int, (mx a0_3 a0_1) = j_ := ⟨_, rfl⟩
 replace H : (some (mx (wrap64 (Int.tdiv (wrap64 ((ji2) * 9)) 8)) 1)) = some r := by first | (rw [hji2] at H; exact H) | (simp only [hji2] at H ⊢; exact H)
 have hji2_ : (if a0_3 < a0_1 then a0_1 else a0_3) = ji2 := hji2
 obtain ⟨ji3, hji3⟩ : ∃ j_ : Int, (mx (wrap64 (Int.tdiv (wrap64 ((ji2) * 9)) 8)) 1) = j_ := ⟨_, rfl⟩
 replace H : (some ji3) = some r := by first | (rw [hji3] at H; exact H) | (simp only [hji3] at H ⊢; exact H)
 have hji3_ : (if (wrap64 (Int.tdiv (wrap64 ((ji2) * 9)) 8)) < 1 then 1 else (wrap64 (Int.tdiv (wrap64 ((ji2) * 9)) 8))) = ji3 := hji3
 obtain rfl := Option.some.inj H
 go_enter Try.func108, Try.ntmps108
 go_wp2_with (first | ((with_reducible refine gate_dst (N := 1) rfl ?_); refine box_event ?hg (N := 1) ?hd (cs := #[.bool a0_0, .int .i64 a0_1, .int .i64 a0_2, .int .i64 a0_3, .int .i64 a0_4]) (t := 42) ?hr ?_; (case hd => rfl); (case hg => rfl); (case hr => first | (go_simp; done) | (go_simp; rfl)); intro gb197 hg w4 hbox hb; have n0_ := bS HB hb; have n1_ := Aside0.mk (hbox); have n2_ := Aside0.mk ((by rw [hg]; exact (below_size (by repeat (first | (with_reducible first | exact HB.out | apply below_alloc | apply pw_below_drewN | apply below_drew1) | exact HB.out))) : w.heap.size ≤ gb197)); have n3_ := n2_; clear HB; have HB := n0_; have BK197 := n1_; have GW197 := n2_; have GE197 := n3_; clear n0_ n1_ n2_ n3_; clear hb hbox hg; obtain ⟨hcz5_0, hcz5_1, hcz5_2, hcz5_3, hcz5_4⟩ := cz5 BK197; obtain ⟨hfz5_0, hfz5_1, hfz5_2, hfz5_3, hfz5_4⟩ := fz5 BK197))
 go_ret
 exact ⟨by first | rfl | (simp [errW_none, errW_some] <;> rfl) | (simp only [← hji2, ← hji3]; first | rfl | (simp [errW_none, errW_some] <;> rfl)) | (simp [*, errW_none, errW_some] <;> rfl), by repeat (first | (with_reducible first | exact HB.out | apply below_alloc | apply pw_below_drewN | apply below_drew1 | refine below_set ?_ GE197.out) | exact HB.out)⟩

-- NOT PRINTED: function 62 (impl_Space_isLost)

/-! ### impl_TakeAck: function 18 -/
open Go.Proofs.Ytpdoplkiaejpiaa.QuietK
/-- Is a packet that is not acknowledged late? -/
def lateOf (kn : Bool) (la mi sm va tim now : Int) : Option Bool := if kn = true then (impl_Rtt_wait.f true la mi sm va).bind fun wt => some (decide (tim ≤ wrap64 (now - wt))) else some false
def impl_Space_isLost.f (lg : Int) (kn : Bool) (la mi sm va num tim now : Int) : Option Bool := (lateOf kn la mi sm va tim now).bind fun late => some (decide (num < lg) && (decide (num ≤ wrap64 (lg - 3)) || late))
set_option maxHeartbeats 4000000 in
set_option maxRecDepth 100000 in
theorem impl_Space_isLost.calls (g : Nat) (lg : Int) (As : Option Addr) (sl cs : Nat) (kn : Bool) (la mi sm va num tim sz now : Int) (r : Bool) (w : World) (hb0 : w.heap[g]? = some (.cells #[.int .i64 lg, .slice As sl cs, .bool kn, .int .i64 la, .int .i64 mi, .int .i64 sm, .int .i64 va] 44 (0, 0))) (h : impl_Space_isLost.f lg kn la mi sm va num tim now = some r) :
    Calls Try.prog 62 #[.pointer (some ⟨g, 0, none⟩), .agg #[.int .i64 num, .int .i64 tim, .int .i64 sz], .int .i64 now] w fun e w' => e = .returned (.bool r) ∧ Below w.heap.size w w' := by
  obtain ⟨late, h1, h2⟩ := Option.bind_eq_some_iff.mp h
  clear h
  have HR := Aside0.mk (Option.some.inj h2)
  have HL := Aside0.mk h1
  clear h1 h2
  have QG := Aside0.mk hb0
  have HB := Aside0.mk (Below.refl w.heap.size w)
  clear hb0
  have hu44 := Try.underlying44
  have hu42 := Try.underlying42
  have hu89 := Try.underlying89
  obtain ⟨z0, z1, z2, z3, z4, z5, z6⟩ := Go.Proofs.Ytpdoplkiaejpiaa.ShortK.cz7 QG
  have hcases : (decide (num < lg) = false ∧ r = false) ∨ (decide (num < lg) = true ∧ ((decide (num ≤ wrap64 (lg - 3)) = true ∧ r = true) ∨ (decide (num ≤ wrap64 (lg - 3)) = false ∧ r = late))) := by
    have h := HR.out
    revert h
    cases decide (num < lg) <;> cases decide (num ≤ wrap64 (lg - 3)) <;> simp [eq_comm]
  clear HR
  cases kn with
  | false =>
    obtain rfl : late = false := (Option.some.inj ((if_neg (by decide)).symm.trans HL.out)).symm
    clear HL
    go_enter Try.func62, Try.ntmps62
    go_wp2_with ((with_reducible refine gate_dst (N := 4) rfl ?_); (try (refine gate_guard (by rfl) ?_; dsimp only)); refine box_event ?hg (N := 4) ?hd (cs := #[.int .i64 num, .int .i64 tim, .int .i64 sz]) (t := 89) ?hr ?_; (case hd => rfl); (case hg => rfl); (case hr => first | (go_simp; done) | (go_simp; rfl)); intro gb hgb w2 hbox hb; have QB := Aside0.mk hbox; have HB2 := Aside0.mk (HB.out.trans (hb.mono HB.out.size)); have QG2 := Aside0.mk (blk_below QG.out hb); clear hbox hb hgb HB QG z0 z1 z2 z3 z4 z5 z6; obtain ⟨z0, z1, z2, z3, z4, z5, z6⟩ := Go.Proofs.Ytpdoplkiaejpiaa.ShortK.cz7 QG2; obtain ⟨y0, y1, y2⟩ := Go.Proofs.Ytpdoplkiaejpiaa.ShortK.cz3 QB)
    refine region_quiet (C := fun w' => w'.cell? ⟨g, 0, none⟩ = some (.int .i64 lg) ∧ w'.cell? ⟨g, 2, none⟩ = some (.bool false) ∧ w'.cell? ⟨g, 3, none⟩ = some (.int .i64 la) ∧ w'.cell? ⟨g, 4, none⟩ = some (.int .i64 mi) ∧ w'.cell? ⟨g, 5, none⟩ = some (.int .i64 sm) ∧ w'.cell? ⟨g, 6, none⟩ = some (.int .i64 va) ∧ w'.cell? ⟨gb, 0, none⟩ = some (.int .i64 num) ∧ w'.cell? ⟨gb, 1, none⟩ = some (.int .i64 tim) ∧ Aside0 (Below w.heap.size w w')) (by kernel_rfl) (by kernel_rfl) ?hC ?_
    case hC => exact ⟨cb_ z0 (below_drew (Below.refl _ w2)), cb_ z2 (below_drew (Below.refl _ w2)), cb_ z3 (below_drew (Below.refl _ w2)), cb_ z4 (below_drew (Below.refl _ w2)), cb_ z5 (below_drew (Below.refl _ w2)), cb_ z6 (below_drew (Below.refl _ w2)), cb_ y0 (below_drew (Below.refl _ w2)), cb_ y1 (below_drew (Below.refl _ w2)), ⟨below_drew HB2.out⟩⟩
    repeat (first
      | go_big_quiet_skip
      | (go_big_quiet_want; refine quiet_op (v := ?_) ?_ ?_; rotate_left 1; (· (rintro w' ⟨x0, x1, x2, x3, x4, x5, x6, x7, -⟩; go_simp; with_reducible rfl)); simp only [Act.put, List.setIfInBounds_toArray, List.set_cons_zero, List.set_cons_succ, i64_w, i32_w]; go_big_quiet_on))
    refine wpQuiet_nil ?_
    rintro w3 ⟨x0, x1, x2, x3, x4, x5, x6, x7, x8⟩
    rcases hcases with ⟨c1, rfl⟩ | ⟨c1, ⟨c2, rfl⟩ | ⟨c2, rfl⟩⟩
    all_goals (
      go_wp2_with fail
      refine region_quiet (C := fun w' => w'.cell? ⟨g, 0, none⟩ = some (.int .i64 lg) ∧ w'.cell? ⟨gb, 0, none⟩ = some (.int .i64 num) ∧ Aside0 (Below w.heap.size w w')) (by kernel_rfl) (by kernel_rfl) ?hC ?_
      case hC => exact ⟨cb_ x0 (below_drew (Below.refl _ w3)), cb_ x6 (below_drew (Below.refl _ w3)), ⟨below_drew x8.out⟩⟩
      repeat (first
        | go_big_quiet_skip
        | (go_big_quiet_want; refine quiet_op (v := ?_) ?_ ?_; rotate_left 1; (· (rintro w' ⟨x0, x1, -⟩; go_simp; with_reducible rfl)); simp only [Act.put, List.setIfInBounds_toArray, List.set_cons_zero, List.set_cons_succ, i64_w, i32_w]; go_big_quiet_on))
      refine wpQuiet_nil ?_
      rintro w4 ⟨-, -, x9⟩
      go_wp2
      go_ret
      exact ⟨by first | rfl | (simp; done) | (simp [*]; done), x9.out⟩
    )
  | true =>
    obtain ⟨wt, hw, hl⟩ := Option.bind_eq_some_iff.mp ((if_pos rfl).symm.trans HL.out)
    have HW := Aside0.mk hw
    obtain rfl := Option.some.inj hl
    clear hw hl HL
    go_enter Try.func62, Try.ntmps62
    go_wp2_with ((with_reducible refine gate_dst (N := 4) rfl ?_); (try (refine gate_guard (by rfl) ?_; dsimp only)); refine box_event ?hg (N := 4) ?hd (cs := #[.int .i64 num, .int .i64 tim, .int .i64 sz]) (t := 89) ?hr ?_; (case hd => rfl); (case hg => rfl); (case hr => first | (go_simp; done) | (go_simp; rfl)); intro gb hgb w2 hbox hb; have QB := Aside0.mk hbox; have HB2 := Aside0.mk (HB.out.trans (hb.mono HB.out.size)); have QG2 := Aside0.mk (blk_below QG.out hb); clear hbox hb hgb HB QG z0 z1 z2 z3 z4 z5 z6; obtain ⟨z0, z1, z2, z3, z4, z5, z6⟩ := Go.Proofs.Ytpdoplkiaejpiaa.ShortK.cz7 QG2; obtain ⟨y0, y1, y2⟩ := Go.Proofs.Ytpdoplkiaejpiaa.ShortK.cz3 QB)
    refine region_quiet (C := fun w' => w'.cell? ⟨g, 0, none⟩ = some (.int .i64 lg) ∧ w'.cell? ⟨g, 2, none⟩ = some (.bool true) ∧ w'.cell? ⟨g, 3, none⟩ = some (.int .i64 la) ∧ w'.cell? ⟨g, 4, none⟩ = some (.int .i64 mi) ∧ w'.cell? ⟨g, 5, none⟩ = some (.int .i64 sm) ∧ w'.cell? ⟨g, 6, none⟩ = some (.int .i64 va) ∧ w'.cell? ⟨gb, 0, none⟩ = some (.int .i64 num) ∧ w'.cell? ⟨gb, 1, none⟩ = some (.int .i64 tim) ∧ Aside0 (Below w.heap.size w w')) (by kernel_rfl) (by kernel_rfl) ?hC ?_
    case hC => exact ⟨cb_ z0 (below_drew (Below.refl _ w2)), cb_ z2 (below_drew (Below.refl _ w2)), cb_ z3 (below_drew (Below.refl _ w2)), cb_ z4 (below_drew (Below.refl _ w2)), cb_ z5 (below_drew (Below.refl _ w2)), cb_ z6 (below_drew (Below.refl _ w2)), cb_ y0 (below_drew (Below.refl _ w2)), cb_ y1 (below_drew (Below.refl _ w2)), ⟨below_drew HB2.out⟩⟩
    repeat (first
      | go_big_quiet_skip
      | (go_big_quiet_want; refine quiet_call ?_ Try.func108 (by kernel_rfl) rfl #[.agg #[.bool true, .int .i64 la, .int .i64 mi, .int .i64 sm, .int .i64 va]] rfl (by (try simp only [List.map_toArray, List.map_cons, List.map_nil]); first | done | rfl) ?_ ?_; rotate_left 1; (· (rintro w' ⟨x0, x1, x2, x3, x4, x5, x6, x7, x8⟩; refine (impl_Rtt_wait.calls true la mi sm va wt w' HW.out).mono ?_; rintro e w'' ⟨rfl, hb⟩; exact ⟨by with_reducible rfl, cb_ x0 hb, cb_ x1 hb, cb_ x2 hb, cb_ x3 hb, cb_ x4 hb, cb_ x5 hb, cb_ x6 hb, cb_ x7 hb, ⟨x8.out.trans (hb.mono x8.out.size)⟩⟩)); simp only [Act.put, List.setIfInBounds_toArray, List.set_cons_zero, List.set_cons_succ, i64_w, i32_w]; go_big_quiet_on)
      | (go_big_quiet_want; refine quiet_op (v := ?_) ?_ ?_; rotate_left 1; (· (rintro w' ⟨x0, x1, x2, x3, x4, x5, x6, x7, -⟩; go_simp; with_reducible rfl)); simp only [Act.put, List.setIfInBounds_toArray, List.set_cons_zero, List.set_cons_succ, i64_w, i32_w]; go_big_quiet_on))
    refine wpQuiet_nil ?_
    rintro w3 ⟨x0, x1, x2, x3, x4, x5, x6, x7, x8⟩
    rcases hcases with ⟨c1, rfl⟩ | ⟨c1, ⟨c2, rfl⟩ | ⟨c2, rfl⟩⟩
    all_goals (
      go_wp2_with fail
      refine region_quiet (C := fun w' => w'.cell? ⟨g, 0, none⟩ = some (.int .i64 lg) ∧ w'.cell? ⟨gb, 0, none⟩ = some (.int .i64 num) ∧ Aside0 (Below w.heap.size w w')) (by kernel_rfl) (by kernel_rfl) ?hC ?_
      case hC => exact ⟨cb_ x0 (below_drew (Below.refl _ w3)), cb_ x6 (below_drew (Below.refl _ w3)), ⟨below_drew x8.out⟩⟩
      repeat (first
        | go_big_quiet_skip
        | (go_big_quiet_want; refine quiet_op (v := ?_) ?_ ?_; rotate_left 1; (· (rintro w' ⟨x0, x1, -⟩; go_simp; with_reducible rfl)); simp only [Act.put, List.setIfInBounds_toArray, List.set_cons_zero, List.set_cons_succ, i64_w, i32_w]; go_big_quiet_on))
      refine wpQuiet_nil ?_
      rintro w4 ⟨-, -, x9⟩
      go_wp2
      go_ret
      exact ⟨by first | rfl | (simp; done) | (simp [*]; done), x9.out⟩
    )
/-- Is a call of TakeAck refused? -/
def tkChk (k : Nat) (lg : Int) (sn : List S89) (kn : Bool) (la mi sm va : Int) (l : List S92) (now dl : Int) : Option Bool :=
  (impl_GoodSpace.f k lg sn kn la mi sm va).bind fun b1 => if b1 = true then (impl_GoodRanges.f k l).bind fun b2 => if b2 = true then (if (l.length : Int) = 0 then some true else (impl_isTick.f now).bind fun b3 => if b3 = true then (impl_isTick.f dl).bind fun b4 => some (!b4) else some true) else some true else some true
def tkLate (sn : List S89) (now : Int) : Bool := decide (0 < sn.length) && decide (now < (rd_T89 sn ((sn.length : Int) - 1)).f1)
def tkMain (lg : Int) (sn : List S89) (kn : Bool) (la mi sm va : Int) (l : List S92) (now dl : Int) : Option (Int × List S89 × Bool × Int × Int × Int × Int × List Int × List Int × Bool) :=
  (tk1 (fun x => impl_hasNumber.f l x) (fun _ d => impl_sampled.f kn la mi sm va d dl) (rd_T92 l 0).f1 now sn sn.length 0 [] [] (kn, la, mi, sm, va)).bind fun t => (tk2 (fun x => impl_Space_isLost.f (mx lg (rd_T92 l 0).f1) t.2.2.1 t.2.2.2.1 t.2.2.2.2.1 t.2.2.2.2.2.1 t.2.2.2.2.2.2 x.f0 x.f1 now) t.2.1 t.2.1.length 0 [] []).bind fun u => some (mx lg (rd_T92 l 0).f1, u.2, t.2.2.1, t.2.2.2.1, t.2.2.2.2.1, t.2.2.2.2.2.1, t.2.2.2.2.2.2, t.1, u.1, true)
def impl_TakeAck.f (k : Nat) (lg : Int) (sn : List S89) (kn : Bool) (la mi sm va : Int) (l : List S92) (now dl : Int) : Option (Int × List S89 × Bool × Int × Int × Int × Int × List Int × List Int × Bool) :=
  if sn.length ≤ 4000000 ∧ l.length ≤ 4611686018427387904 then (tkChk k lg sn kn la mi sm va l now dl).bind fun c => if c = true then some tkFail else if tkLate sn now = true then some tkFail else tkMain lg sn kn la mi sm va l now dl else none
theorem impl_TakeAck.mono : ∀ (lg : Int) (sn : List S89) (kn : Bool) (la mi sm va : Int) (l : List S92) (now dl : Int) (k : Nat), LeO (impl_TakeAck.f k lg sn kn la mi sm va l now dl) (impl_TakeAck.f (k + 1) lg sn kn la mi sm va l now dl) := by
  intro lg sn kn la mi sm va l now dl k
  unfold impl_TakeAck.f tkChk
  exact LeO.ite (LeO.bind (LeO.bind (impl_GoodSpace.mono _ _ _ _ _ _ _ _) (fun _ => LeO.ite (LeO.bind (impl_GoodRanges.mono _ _) (fun _ => LeO.refl _)) (LeO.refl _))) (fun _ => LeO.refl _)) (LeO.refl _)
set_option maxHeartbeats 64000000 in
set_option maxRecDepth 100000 in
theorem impl_TakeAck.calls (k : Nat) (lg : Int) (As : Option Addr) (cs : Nat) (sn : List S89) (kn : Bool) (la mi sm va : Int) (Al : Option Addr) (cl : Nat) (l : List S92) (now dl : Int) (r1 : Int) (r2 : List S89) (r3 : Bool) (r4 r5 r6 r7 : Int) (r8 r9 : List Int) (r10 : Bool) (w : World) (hs : Kd.C k89 w As sn.length sn) (hcs : sn.length ≤ cs) (hl : Kd.C k92 w Al l.length l) (hcl : l.length ≤ cl) (h : impl_TakeAck.f k lg sn kn la mi sm va l now dl = some (r1, r2, r3, r4, r5, r6, r7, r8, r9, r10)) :
    Calls Try.prog 18 #[.agg #[.int .i64 lg, .slice As sn.length cs, .bool kn, .int .i64 la, .int .i64 mi, .int .i64 sm, .int .i64 va], .slice Al l.length cl, .int .i64 now, .int .i64 dl] w fun e w' => ∃ v1_ v7_ v8_ : Value, e = .returned (.tuple #[.agg #[.int .i64 r1, v1_, .bool r3, .int .i64 r4, .int .i64 r5, .int .i64 r6, .int .i64 r7], v7_, v8_, .bool r10]) ∧ Kd.R k89 89 w' w.heap.size (fun _ => True) v1_ r2 ∧ Kd.R (Kd.int .i64) 3 w' w.heap.size (fun k_ => some k_ ≠ (v8_ : Value).ownBlock) v7_ r8 ∧ Kd.R (Kd.int .i64) 3 w' w.heap.size (fun k_ => some k_ ≠ (v7_ : Value).ownBlock) v8_ r9 ∧ Below w.heap.size w w' := by
  unfold impl_TakeAck.f at h
  split at h
  case isFalse => cases h
  case isTrue hlen =>
  obtain ⟨c, hck, hT⟩ := Option.bind_eq_some_iff.mp h
  clear h
  unfold tkChk at hck
  have HCK := Aside0.mk hck
  have HT := Aside0.mk hT
  have HS := Aside0.mk hs
  have HCS := Aside0.mk hcs
  have HLR := Aside0.mk hl
  have HCL := Aside0.mk hcl
  have HLN := Aside0.mk hlen
  have HB := Aside0.mk (Below.refl w.heap.size w)
  clear hck hT hs hcs hl hcl hlen
  have hu44 := Try.underlying44
  have hu42 := Try.underlying42
  have hu89 := Try.underlying89
  have hu92 := Try.underlying92
  have HCK0 := HCK
  go_enter Try.func18, Try.ntmps18
  go_upto_region 1 with (first
    | ((with_reducible refine gate_dst (N := 4) rfl ?_); (try (refine gate_guard (by rfl) ?_; dsimp only)); refine box_event ?hg (N := 4) ?hd (cs := #[.int .i64 lg, .slice As sn.length cs, .bool kn, .int .i64 la, .int .i64 mi, .int .i64 sm, .int .i64 va]) (t := 44) ?hr ?_; (case hd => rfl); (case hg => rfl); (case hr => first | (go_simp; done) | (go_simp; rfl)); intro g4 hgq w1 hbox hb; have Q4 := Aside0.mk hbox; have N4 := Aside0.mk (show w.heap.size ≤ g4 from by rw [hgq]; exact HB.out.size); have HB1 := Aside0.mk (HB.out.trans (hb.mono HB.out.size)); clear hbox hb hgq HB)
    | ((with_reducible refine gate_dst (N := 8) rfl ?_); (try (refine gate_guard (by rfl) ?_; dsimp only)); refine box_event ?hg (N := 8) ?hd (cs := zsp) (t := 44) ?hr ?_; (case hd => rfl); (case hg => rfl); (case hr => first | (go_simp; done) | (go_simp; rfl)); intro g8 hgq w2 hbox hb; have Q8 := Aside0.mk hbox; have N8 := Aside0.mk (show w.heap.size ≤ g8 from by rw [hgq]; exact HB1.out.size); have D48 := Aside0.mk (show g4 ≠ g8 from by rw [hgq]; exact Nat.ne_of_lt (blk_lt Q4.out)); have Q4b := Aside0.mk (blk_below Q4.out hb); have HB := Aside0.mk (HB1.out.trans (hb.mono HB1.out.size)); clear hbox hb hgq HB1 Q4; obtain ⟨z0, z1, z2, z3, z4, z5, z6⟩ := Go.Proofs.Ytpdoplkiaejpiaa.ShortK.cz7 Q4b))
  go_cut [43] (fun v43 wc => v43 = .bool c ∧ Aside0 (wc.heap[g4]? = some (.cells #[.int .i64 lg, .slice As sn.length cs, .bool kn, .int .i64 la, .int .i64 mi, .int .i64 sm, .int .i64 va] 44 (0, 0))) ∧ Aside0 (wc.heap[g8]? = some (.cells zsp 44 (0, 0))) ∧ Aside0 (Below w.heap.size w wc))
  case first =>
    obtain ⟨b1, g1, HC1⟩ := Option.bind_eq_some_iff.mp HCK.out
    have G1 := Aside0.mk g1
    clear g1 HCK
    cases b1 with
    | false =>
      obtain rfl : c = true := (Option.some.inj ((if_neg (by decide)).symm.trans HC1)).symm
      clear HC1
      go_wp2_with (first
        | (go_at_call 57; refine (impl_GoodSpace.calls k lg As cs sn kn la mi sm va false _ (Kd.C_below HS.out HB.out) HCS.out G1.out).mono ?_; rintro e w3 ⟨rfl, hb⟩; have HB3 := Aside0.mk (HB.out.trans (hb.mono HB.out.size)); have Q43 := Aside0.mk (blk_below Q4b.out hb); have Q83 := Aside0.mk (blk_below Q8.out hb); clear hb HB Q4b Q8 z0 z1 z2 z3 z4 z5 z6))
      go_meet
      case rel => exact ⟨rfl, ⟨by repeat (first | exact Q43.out | refine blk_below ?_ (pw_below_drewN (Below.refl _ _) _))⟩, ⟨by repeat (first | exact Q83.out | refine blk_below ?_ (pw_below_drewN (Below.refl _ _) _))⟩, ⟨by repeat (first | exact HB3.out | refine pw_below_drewN ?_ _)⟩⟩
    | true =>
      obtain ⟨b2, g2, HC1⟩ := Option.bind_eq_some_iff.mp ((if_pos rfl).symm.trans HC1)
      have G2 := Aside0.mk g2
      clear g2
      cases b2 with
      | false =>
        obtain rfl : c = true := (Option.some.inj ((if_neg (by decide)).symm.trans HC1)).symm
        clear HC1
        go_wp2_with (first
          | (go_at_call 57; refine (impl_GoodSpace.calls k lg As cs sn kn la mi sm va true _ (Kd.C_below HS.out HB.out) HCS.out G1.out).mono ?_; rintro e w3 ⟨rfl, hb⟩; have HB3 := Aside0.mk (HB.out.trans (hb.mono HB.out.size)); have Q43 := Aside0.mk (blk_below Q4b.out hb); have Q83 := Aside0.mk (blk_below Q8.out hb); clear hb HB Q4b Q8 z0 z1 z2 z3 z4 z5 z6)
          | (go_at_call 58; refine (impl_GoodRanges.calls k Al cl l false _ (Kd.C_below HLR.out HB3.out) HCL.out G2.out).mono ?_; rintro e w4 ⟨rfl, hb⟩; have HB4 := Aside0.mk (HB3.out.trans (hb.mono HB3.out.size)); have Q44 := Aside0.mk (blk_below Q43.out hb); have Q84 := Aside0.mk (blk_below Q83.out hb); clear hb HB3 Q43 Q83))
        go_meet
        case rel => exact ⟨rfl, ⟨by repeat (first | exact Q44.out | refine blk_below ?_ (pw_below_drewN (Below.refl _ _) _))⟩, ⟨by repeat (first | exact Q84.out | refine blk_below ?_ (pw_below_drewN (Below.refl _ _) _))⟩, ⟨by repeat (first | exact HB4.out | refine pw_below_drewN ?_ _)⟩⟩
      | true =>
        have HC1 := (if_pos rfl).symm.trans HC1
        by_cases hl0 : (l.length : Int) = 0
        · have HC1 := (if_pos hl0).symm.trans HC1
          obtain rfl : c = true := (Option.some.inj HC1).symm
          have hl1 : ((l.length : Int) == 0) = true := beq_iff_eq.mpr hl0
          have hl2 : decide ((l.length : Int) = 0) = true := decide_eq_true hl0
          clear HC1
          go_wp2_with (first
            | (go_at_call 57; refine (impl_GoodSpace.calls k lg As cs sn kn la mi sm va true _ (Kd.C_below HS.out HB.out) HCS.out G1.out).mono ?_; rintro e w3 ⟨rfl, hb⟩; have HB3 := Aside0.mk (HB.out.trans (hb.mono HB.out.size)); have Q43 := Aside0.mk (blk_below Q4b.out hb); have Q83 := Aside0.mk (blk_below Q8.out hb); clear hb HB Q4b Q8 z0 z1 z2 z3 z4 z5 z6)
            | (go_at_call 58; refine (impl_GoodRanges.calls k Al cl l true _ (Kd.C_below HLR.out HB3.out) HCL.out G2.out).mono ?_; rintro e w4 ⟨rfl, hb⟩; have HB4 := Aside0.mk (HB3.out.trans (hb.mono HB3.out.size)); have Q44 := Aside0.mk (blk_below Q43.out hb); have Q84 := Aside0.mk (blk_below Q83.out hb); clear hb HB3 Q43 Q83))
          go_meet
          case rel => exact ⟨rfl, ⟨by repeat (first | exact Q44.out | refine blk_below ?_ (pw_below_drewN (Below.refl _ _) _))⟩, ⟨by repeat (first | exact Q84.out | refine blk_below ?_ (pw_below_drewN (Below.refl _ _) _))⟩, ⟨by repeat (first | exact HB4.out | refine pw_below_drewN ?_ _)⟩⟩
        · have HC1 := (if_neg hl0).symm.trans HC1
          have hl1 : ((l.length : Int) == 0) = false := beq_eq_false_iff_ne.mpr hl0
          have hl2 : decide ((l.length : Int) = 0) = false := decide_eq_false hl0
          obtain ⟨b3, g3, HC1⟩ := Option.bind_eq_some_iff.mp HC1
          have G3 := Aside0.mk g3
          clear g3
          cases b3 with
          | false =>
            obtain rfl : c = true := (Option.some.inj ((if_neg (by decide)).symm.trans HC1)).symm
            clear HC1
            go_wp2_with (first
              | (go_at_call 57; refine (impl_GoodSpace.calls k lg As cs sn kn la mi sm va true _ (Kd.C_below HS.out HB.out) HCS.out G1.out).mono ?_; rintro e w3 ⟨rfl, hb⟩; have HB3 := Aside0.mk (HB.out.trans (hb.mono HB.out.size)); have Q43 := Aside0.mk (blk_below Q4b.out hb); have Q83 := Aside0.mk (blk_below Q8.out hb); clear hb HB Q4b Q8 z0 z1 z2 z3 z4 z5 z6)
              | (go_at_call 58; refine (impl_GoodRanges.calls k Al cl l true _ (Kd.C_below HLR.out HB3.out) HCL.out G2.out).mono ?_; rintro e w4 ⟨rfl, hb⟩; have HB4 := Aside0.mk (HB3.out.trans (hb.mono HB3.out.size)); have Q44 := Aside0.mk (blk_below Q43.out hb); have Q84 := Aside0.mk (blk_below Q83.out hb); clear hb HB3 Q43 Q83)
              | (go_at_call 59; refine (impl_isTick.calls now false _ G3.out).mono ?_; rintro e w5 ⟨rfl, ⟨nd1, rfl⟩⟩; clear G3))
            go_meet
            case rel => exact ⟨rfl, ⟨by repeat (first | exact Q44.out | refine blk_below ?_ (pw_below_drewN (Below.refl _ _) _))⟩, ⟨by repeat (first | exact Q84.out | refine blk_below ?_ (pw_below_drewN (Below.refl _ _) _))⟩, ⟨by repeat (first | exact HB4.out | refine pw_below_drewN ?_ _)⟩⟩
          | true =>
            obtain ⟨b4, g4', HC1⟩ := Option.bind_eq_some_iff.mp ((if_pos rfl).symm.trans HC1)
            have G4 := Aside0.mk g4'
            clear g4'
            obtain rfl := Option.some.inj HC1
            clear HC1
            go_wp2_with (first
              | (go_at_call 57; refine (impl_GoodSpace.calls k lg As cs sn kn la mi sm va true _ (Kd.C_below HS.out HB.out) HCS.out G1.out).mono ?_; rintro e w3 ⟨rfl, hb⟩; have HB3 := Aside0.mk (HB.out.trans (hb.mono HB.out.size)); have Q43 := Aside0.mk (blk_below Q4b.out hb); have Q83 := Aside0.mk (blk_below Q8.out hb); clear hb HB Q4b Q8 z0 z1 z2 z3 z4 z5 z6)
              | (go_at_call 58; refine (impl_GoodRanges.calls k Al cl l true _ (Kd.C_below HLR.out HB3.out) HCL.out G2.out).mono ?_; rintro e w4 ⟨rfl, hb⟩; have HB4 := Aside0.mk (HB3.out.trans (hb.mono HB3.out.size)); have Q44 := Aside0.mk (blk_below Q43.out hb); have Q84 := Aside0.mk (blk_below Q83.out hb); clear hb HB3 Q43 Q83)
              | (go_at_call 59; refine (impl_isTick.calls now true _ G3.out).mono ?_; rintro e w5 ⟨rfl, ⟨nd1, rfl⟩⟩; clear G3)
              | (go_at_call 59; refine (impl_isTick.calls dl b4 _ G4.out).mono ?_; rintro e w6 ⟨rfl, ⟨nd2, rfl⟩⟩; clear G4))
            go_meet
            case rel => exact ⟨rfl, ⟨by repeat (first | exact Q44.out | refine blk_below ?_ (pw_below_drewN (Below.refl _ _) _))⟩, ⟨by repeat (first | exact Q84.out | refine blk_below ?_ (pw_below_drewN (Below.refl _ _) _))⟩, ⟨by repeat (first | exact HB4.out | refine pw_below_drewN ?_ _)⟩⟩

  case rest =>
    clear HB Q4b Q8 z0 z1 z2 z3 z4 z5 z6 HCK
    obtain ⟨rfl, Q4, Q8, HB⟩ := hcut
    cases c with
    | true =>
      have H := (if_pos rfl).symm.trans HT.out
      clear HT
      have hE := Option.some.inj H
      obtain rfl := congrArg (fun t => t.1) hE
      obtain rfl := congrArg (fun t => t.2.1) hE
      obtain rfl := congrArg (fun t => t.2.2.1) hE
      obtain rfl := congrArg (fun t => t.2.2.2.1) hE
      obtain rfl := congrArg (fun t => t.2.2.2.2.1) hE
      obtain rfl := congrArg (fun t => t.2.2.2.2.2.1) hE
      obtain rfl := congrArg (fun t => t.2.2.2.2.2.2.1) hE
      obtain rfl := congrArg (fun t => t.2.2.2.2.2.2.2.1) hE
      obtain rfl := congrArg (fun t => t.2.2.2.2.2.2.2.2.1) hE
      obtain rfl := congrArg (fun t => t.2.2.2.2.2.2.2.2.2) hE
      clear H hE

      obtain ⟨f0, f1, f2, f3, f4, f5, f6⟩ := Go.Proofs.Ytpdoplkiaejpiaa.ShortK.fz7 Q8
      obtain ⟨y0, y1, y2, y3, y4, y5, y6⟩ := Go.Proofs.Ytpdoplkiaejpiaa.ShortK.cz7 Q8
      go_wp2
      refine bodyPost_ret (results_list (rs := [.cell 8 44, .tmp 9, .tmp 10, .tmp 11]) rfl (by simp) (.cell g8 44 zsp (0, 0) _ rfl (set7_blk Q8.out _ _ _ _ _ _ _) Try.underlying44 rfl (by kernel_rfl) (.tmp (.tmp (.tmp .nil))))) rfl ?_
      exact ⟨_, _, _, rfl, Kd.R_nil _ _ _ _ _, Kd.R_nil _ _ _ _ _, Kd.R_nil _ _ _ _ _, set7_below HB.out N8.out _ _ _ _ _ _ _⟩

    | false =>
      have HT2 := Aside0.mk ((if_neg (by decide)).symm.trans HT.out)
      clear HT
      have p0 : 0 < l.length := by
        have h_ := HCK0.out
        by_cases h0 : (l.length : Int) = 0
        · exfalso
          revert h_
          cases impl_GoodSpace.f k lg sn kn la mi sm va with
          | none => simp
          | some b1 => cases b1 <;> cases impl_GoodRanges.f k l with
            | none => simp
            | some b2 => cases b2 <;> simp [h0]
        · omega
      clear HCK0
      obtain ⟨z0, z1, z2, z3, z4, z5, z6⟩ := Go.Proofs.Ytpdoplkiaejpiaa.ShortK.cz7 Q4
      go_upto_region 4 with (fail)
      go_cut [60] (fun v60 wc => v60 = .bool (tkLate sn now) ∧ Aside0 (wc.heap[g4]? = some (.cells #[.int .i64 lg, .slice As sn.length cs, .bool kn, .int .i64 la, .int .i64 mi, .int .i64 sm, .int .i64 va] 44 (0, 0))) ∧ Aside0 (wc.heap[g8]? = some (.cells zsp 44 (0, 0))) ∧ Aside0 (Below w.heap.size w wc))
      case first =>
        have hrel : ∀ b : Bool, tkLate sn now = b → tkLate sn now = b := fun _ h => h
        by_cases h0 : 0 < sn.length
        · have hd0 := decide_eq_true h0
          obtain ⟨j, hj⟩ : ∃ j : Int, (sn.length : Int) - 1 = j := ⟨_, rfl⟩
          have hj0 : 0 ≤ j := by omega
          have hj1 : j < (sn.length : Int) := by omega
          have wi2 : wrap64 ((sn.length : Int) - 1) = j := by have := HLN.out.1; unfold wrap64; omega
          have wi : IntKind.i64.wrap ((sn.length : Int) - 1) = j := by rw [i64_w]; exact wi2
          obtain ⟨ad, ea, q0, q1, q2⟩ := at_T89 (Kd.C_below HS.out HB.out) j hj0 hj1
          subst ea
          have r0 := eq_true hj0
          have r1 := eq_true hj1
          have hz : decide ((0 : Int) < (sn.length : Int)) = true := decide_eq_true (by omega)
          cases hlt : decide (now < (rd_T89 sn j).f1) with
          | true =>
            have HV := Aside0.mk (show tkLate sn now = true from by unfold tkLate; rw [hj, hd0, hlt]; rfl)
            clear h0 hj hj0 hj1
            go_wp2
            go_meet
            case rel => exact ⟨by rw [HV.out], Q4, Q8, HB⟩
          | false =>
            have HV := Aside0.mk (show tkLate sn now = false from by unfold tkLate; rw [hj, hd0, hlt]; rfl)
            clear h0 hj hj0 hj1
            go_wp2
            go_meet
            case rel => exact ⟨by rw [HV.out], Q4, Q8, HB⟩
        · have hd0 := decide_eq_false h0
          have hz : decide ((0 : Int) < (sn.length : Int)) = false := decide_eq_false (by omega)
          have HV := Aside0.mk (show tkLate sn now = false from by unfold tkLate; rw [hd0]; rfl)
          clear h0
          go_wp2
          go_meet
          case rel => exact ⟨by rw [HV.out], Q4, Q8, HB⟩
      case rest =>
        clear HB Q4 Q8 z0 z1 z2 z3 z4 z5 z6
        obtain ⟨rfl, Q4, Q8, HB⟩ := hcut
        cases hlate : tkLate sn now with
        | true =>
          have H := (if_pos hlate).symm.trans HT2.out
          clear HT2 hlate
          have hE := Option.some.inj H
          obtain rfl := congrArg (fun t => t.1) hE
          obtain rfl := congrArg (fun t => t.2.1) hE
          obtain rfl := congrArg (fun t => t.2.2.1) hE
          obtain rfl := congrArg (fun t => t.2.2.2.1) hE
          obtain rfl := congrArg (fun t => t.2.2.2.2.1) hE
          obtain rfl := congrArg (fun t => t.2.2.2.2.2.1) hE
          obtain rfl := congrArg (fun t => t.2.2.2.2.2.2.1) hE
          obtain rfl := congrArg (fun t => t.2.2.2.2.2.2.2.1) hE
          obtain rfl := congrArg (fun t => t.2.2.2.2.2.2.2.2.1) hE
          obtain rfl := congrArg (fun t => t.2.2.2.2.2.2.2.2.2) hE
          clear H hE

          obtain ⟨f0, f1, f2, f3, f4, f5, f6⟩ := Go.Proofs.Ytpdoplkiaejpiaa.ShortK.fz7 Q8
          obtain ⟨y0, y1, y2, y3, y4, y5, y6⟩ := Go.Proofs.Ytpdoplkiaejpiaa.ShortK.cz7 Q8
          go_wp2
          refine bodyPost_ret (results_list (rs := [.cell 8 44, .tmp 9, .tmp 10, .tmp 11]) rfl (by simp) (.cell g8 44 zsp (0, 0) _ rfl (set7_blk Q8.out _ _ _ _ _ _ _) Try.underlying44 rfl (by kernel_rfl) (.tmp (.tmp (.tmp .nil))))) rfl ?_
          exact ⟨_, _, _, rfl, Kd.R_nil _ _ _ _ _, Kd.R_nil _ _ _ _ _, Kd.R_nil _ _ _ _ _, set7_below HB.out N8.out _ _ _ _ _ _ _⟩

        | false =>
          have HM := Aside0.mk ((if_neg (by rw [hlate]; decide)).symm.trans HT2.out)
          clear HT2 hlate
          obtain ⟨z0, z1, z2, z3, z4, z5, z6⟩ := Go.Proofs.Ytpdoplkiaejpiaa.ShortK.cz7 Q4
          have p0i : (0 : Int) < (l.length : Int) := by omega
          obtain ⟨al, e0, hx0, hx1⟩ := at_T92 HLR.out 0 (by omega) p0i
          cases e0
          have hy0 : w.cell? ⟨al.block, al.off + 1, none⟩ = some (.int .i64 (rd_T92 l 0).f1) := hx1
          have hy1 := cb_ hy0 HB.out
          clear hx0 hx1
          have p1 := eq_true p0i
          have p2 := eq_true p0
          have p3 : decide ((0 : Int) < (l.length : Int)) = true := decide_eq_true p0i
          go_upto_region 6 with (fail)
          go_cut [13] (fun v13 wc => ∃ g13, v13 = .pointer (some ⟨g13, 0, none⟩) ∧ Aside0 (wc.heap[g4]? = some (.cells #[.int .i64 lg, .slice As sn.length cs, .bool kn, .int .i64 la, .int .i64 mi, .int .i64 sm, .int .i64 va] 44 (0, 0))) ∧ Aside0 (wc.heap[g8]? = some (.cells zsp 44 (0, 0))) ∧ Aside0 (wc.heap[g13]? = some (.cells #[.int .i64 (mx lg (rd_T92 l 0).f1), .slice none 0 0, .bool kn, .int .i64 la, .int .i64 mi, .int .i64 sm, .int .i64 va] 44 (0, 0))) ∧ Aside0 (Below w.heap.size w wc) ∧ Aside0 (w.heap.size ≤ g13 ∧ g4 ≠ g13 ∧ g8 ≠ g13))
          case first =>
            by_cases hm : lg < (rd_T92 l 0).f1
            · have hmx : mx lg (rd_T92 l 0).f1 = (rd_T92 l 0).f1 := if_pos hm
              have hm1 := eq_true hm
              have hm2 := decide_eq_true hm
              go_region_held3 (fun w' => w'.cell? ⟨g4, 0, none⟩ = some (.int .i64 lg) ∧ w'.cell? ⟨g4, 2, none⟩ = some (.bool kn) ∧ w'.cell? ⟨g4, 3, none⟩ = some (.int .i64 la) ∧ w'.cell? ⟨g4, 4, none⟩ = some (.int .i64 mi) ∧ w'.cell? ⟨g4, 5, none⟩ = some (.int .i64 sm) ∧ w'.cell? ⟨g4, 6, none⟩ = some (.int .i64 va) ∧ w'.cell? ⟨al.block, al.off + 1, none⟩ = some (.int .i64 (rd_T92 l 0).f1)) (first | assumption | exact ⟨z0, z2, z3, z4, z5, z6, hy1⟩ | go_keep) (first | fail)
              all_goals (
                go_wp2
                go_meet
                case rel => exact ⟨_, rfl, ⟨blk_alloc Q4.out _⟩, ⟨blk_alloc Q8.out _⟩, ⟨by rw [hmx]; exact blk_new wc _⟩, ⟨below_drew (below_alloc HB.out _)⟩, ⟨⟨HB.out.size, Nat.ne_of_lt (blk_lt Q4.out), Nat.ne_of_lt (blk_lt Q8.out)⟩⟩⟩)
            · have hmx : mx lg (rd_T92 l 0).f1 = lg := if_neg hm
              have hm1 := eq_false hm
              have hm2 := decide_eq_false hm
              go_region_held3 (fun w' => w'.cell? ⟨g4, 0, none⟩ = some (.int .i64 lg) ∧ w'.cell? ⟨g4, 2, none⟩ = some (.bool kn) ∧ w'.cell? ⟨g4, 3, none⟩ = some (.int .i64 la) ∧ w'.cell? ⟨g4, 4, none⟩ = some (.int .i64 mi) ∧ w'.cell? ⟨g4, 5, none⟩ = some (.int .i64 sm) ∧ w'.cell? ⟨g4, 6, none⟩ = some (.int .i64 va) ∧ w'.cell? ⟨al.block, al.off + 1, none⟩ = some (.int .i64 (rd_T92 l 0).f1)) (first | assumption | exact ⟨z0, z2, z3, z4, z5, z6, hy1⟩ | go_keep) (first | fail)
              all_goals (
                go_wp2
                go_meet
                case rel => exact ⟨_, rfl, ⟨blk_alloc Q4.out _⟩, ⟨blk_alloc Q8.out _⟩, ⟨by rw [hmx]; exact blk_new wc _⟩, ⟨below_drew (below_alloc HB.out _)⟩, ⟨⟨HB.out.size, Nat.ne_of_lt (blk_lt Q4.out), Nat.ne_of_lt (blk_lt Q8.out)⟩⟩⟩)
          case rest =>
            clear Q4 Q8 HB z0 z1 z2 z3 z4 z5 z6 hy1
            obtain ⟨g13, rfl, Q4, Q8, Q13, HB, HN13⟩ := hcut
            go_upto_region 8 with (first
              | ((with_reducible refine gate_dst (N := 72) rfl ?_); (try (refine gate_guard (by rfl) ?_; dsimp only)); refine Kd.R_lit (Kd.int .i64) _ 3 ?hg (N := 72) ?hd (xs := ([] : List Int)) (inner := []) (ok := fun _ => True) (okp := fun _ => True) ?hr ?hp (fun _ hk => hk) trivial (Below.refl _ _) (Nat.le_refl _) (by simp) ?_; (case hd => rfl); (case hg => rfl); (case hr => first | (go_simp; done) | (go_simp; rfl)); (case hp => exact (Reps.none _ _)); intro u14 w72 ho hb hg_ hn14; have R14 := Aside0.mk ho; have NW14 := Aside0.mk hn14; have HB72 := Aside0.mk hb; clear ho hb hg_ hn14)
              | ((with_reducible refine gate_dst (N := 73) rfl ?_); (try (refine gate_guard (by rfl) ?_; dsimp only)); refine Kd.R_lit (Kd.int .i64) _ 3 ?hg (N := 73) ?hd (xs := ([] : List Int)) (inner := []) (ok := fun _ => True) (okp := fun _ => True) ?hr ?hp (fun _ hk => hk) trivial (Below.refl _ _) (Nat.le_refl _) (by simp) ?_; (case hd => rfl); (case hg => rfl); (case hr => first | (go_simp; done) | (go_simp; rfl)); (case hp => exact (Reps.none _ _)); intro u15 w73 ho hb hg_ hn15; have R15 := Aside0.mk ho; have NW15 := Aside0.mk hn15; have HB73 := Aside0.mk hb; clear ho hb hg_ hn15)
              | ((with_reducible refine gate_dst (N := 74) rfl ?_); (try (refine gate_guard (by rfl) ?_; dsimp only)); refine Kd.R_lit k89 _ 89 ?hg (N := 74) ?hd (xs := ([] : List S89)) (inner := []) (ok := fun _ => True) (okp := fun _ => True) ?hr ?hp (fun _ hk => hk) trivial (Below.refl _ _) (Nat.le_refl _) (by simp) ?_; (case hd => rfl); (case hg => rfl); (case hr => first | (go_simp; done) | (go_simp; rfl)); (case hp => exact (Reps.none _ _)); intro u16 w74 ho hb hg_ hn16; have R16 := Aside0.mk ho; have NW16 := Aside0.mk hn16; have HB74 := Aside0.mk hb; clear ho hb hg_ hn16))
            have hB74 : Below wc.heap.size wc w74 := HB72.out.trans ((HB73.out.trans (HB74.out.mono HB73.out.size)).mono HB72.out.size)
            have ST := Aside0.mk (show St w w74 g4 g8 g13 #[.int .i64 lg, .slice As sn.length cs, .bool kn, .int .i64 la, .int .i64 mi, .int .i64 sm, .int .i64 va] #[.int .i64 (mx lg (rd_T92 l 0).f1), .slice none 0 0, .bool kn, .int .i64 la, .int .i64 mi, .int .i64 sm, .int .i64 va] u14 u15 u16 (.slice none 0 0) [] [] [] [] from by
              obtain ⟨b15, e15, l15⟩ := NW15.out
              refine ⟨HB.out.trans (hB74.mono HB.out.size), blk_below Q4.out hB74, blk_below Q8.out hB74, blk_below Q13.out hB74, ?_, ?_, ?_, Kd.R_nil _ _ _ _ _, HN13.out.1, N8.out, HN13.out.2.1, HN13.out.2.2⟩
              · exact Kd.R_lower (Kd.R_below (Kd.R_below (Kd.R_mono (Kd.R_bound R14.out) (fun k hk => by rw [e15]; intro he; injection he with he; have := hk.2.2.1; omega)) HB73.out) HB74.out) HB.out.size
              · exact Kd.R_lower (Kd.R_below (Kd.R_mono (Kd.R_new' R15.out (Kd.R_lt R14.out)) (fun k hk => hk.2)) HB74.out) (Nat.le_trans HB.out.size HB72.out.size)
              · exact Kd.R_lower (Kd.R_mono R16.out (fun k _ => by simp [Value.ownBlock])) (Nat.le_trans HB.out.size (Nat.le_trans HB72.out.size HB73.out.size)))
            clear hB74 HB72 HB73 HB74 R14 R15 R16 NW14 NW15 NW16 HB Q4 Q8 Q13 HN13
            have hM := HM.out
            unfold tkMain at hM
            obtain ⟨⟨ak1, lf1, kn1, la1, mi1, sm1, va1⟩, hk1, hM⟩ := Option.bind_eq_some_iff.mp hM
            obtain ⟨⟨lo1, ks1⟩, hk2, hM⟩ := Option.bind_eq_some_iff.mp hM
            have HK1 := Aside0.mk hk1
            have HK2 := Aside0.mk hk2
            have HE := Aside0.mk hM
            clear hk1 hk2 hM HM
            obtain ⟨z0, z1, z2, z3, z4, z5, z6⟩ := Go.Proofs.Ytpdoplkiaejpiaa.ShortK.cz7 ⟨ST.out.b4⟩
            go_wp2_with fail
            go_loopg [14, 16, 78] sn.length (fun kq v14 v16 v78 w' => ∃ (i : Int) (ak : List Int) (lf : List S89) (kn2 : Bool) (la2 mi2 sm2 va2 : Int) (s14 s16 : Value), s14 = v14 ∧ s16 = v16 ∧ v78 = .int .i64 i ∧ Aside0 (tk1 (fun x => impl_hasNumber.f l x) (fun _ d => impl_sampled.f kn la mi sm va d dl) (rd_T92 l 0).f1 now sn kq i ak lf (kn2, la2, mi2, sm2, va2) = some (ak1, lf1, kn1, la1, mi1, sm1, va1)) ∧ Aside0 (i + kq = (sn.length : Int) ∧ 0 ≤ i ∧ ak.length + lf.length = i.toNat) ∧ Aside0 (St w w' g4 g8 g13 #[.int .i64 lg, .slice As sn.length cs, .bool kn, .int .i64 la, .int .i64 mi, .int .i64 sm, .int .i64 va] #[.int .i64 (mx lg (rd_T92 l 0).f1), .slice none 0 0, .bool kn2, .int .i64 la2, .int .i64 mi2, .int .i64 sm2, .int .i64 va2] s14 u15 s16 (.slice none 0 0) ak [] lf []))
            case atStart => exact ⟨0, [], [], kn, la, mi, sm, va, _, _, rfl, rfl, rfl, HK1, ⟨⟨by omega, by omega, rfl⟩⟩, ST⟩
            case round =>
              clear HK1 ST z0 z1 z2 z3 z4 z5 z6
              obtain ⟨i, ak, lf, kn2, la2, mi2, sm2, va2, s14, s16, rfl, rfl, rfl, HA, HI, ST⟩ := hrel
              obtain ⟨hi1, hi0, hi3⟩ := HI.out
              clear HI
              cases gk with
              | zero =>
                have hd2 : decide (i < (sn.length : Int)) = false := decide_eq_false (by omega)
                have H := (Option.some.inj HA.out).symm
                have hlen := HLN.out.1
                clear HA
                injection H with e1 H
                injection H with e2 H
                injection H with e3 H
                injection H with e4 H
                injection H with e5 H
                injection H with e6 e7
                subst e1 e2 e3 e4 e5 e6 e7
                have hlf : lf1.length ≤ 4000000 := by omega
                clear hi1 hi0 hi3 hlen
                obtain ⟨A16, c16, e16⟩ := Kd.R_slice ST.out.r16
                subst e16
                have HLF := Aside0.mk (show lf1.length ≤ 4000000 from hlf)
                go_wp2_with fail
                go_loopg [15, 115] lf1.length (fun kq v15 v115 w' => ∃ (j : Int) (lo : List Int) (ks : List S89) (s15 : Value) (Ak : Option Addr) (ck : Nat), s15 = v15 ∧ v115 = .int .i64 j ∧ Aside0 (tk2 (fun x => impl_Space_isLost.f (mx lg (rd_T92 l 0).f1) kn1 la1 mi1 sm1 va1 x.f0 x.f1 now) lf1 kq j lo ks = some (lo1, ks1)) ∧ Aside0 (j + kq = (lf1.length : Int) ∧ 0 ≤ j ∧ lo.length + ks.length = j.toNat) ∧ Aside0 (St w w' g4 g8 g13 #[.int .i64 lg, .slice As sn.length cs, .bool kn, .int .i64 la, .int .i64 mi, .int .i64 sm, .int .i64 va] #[.int .i64 (mx lg (rd_T92 l 0).f1), .slice Ak ks.length ck, .bool kn1, .int .i64 la1, .int .i64 mi1, .int .i64 sm1, .int .i64 va1] s14 s15 (.slice A16 lf1.length c16) (.slice Ak ks.length ck) ak1 lo lf1 ks))
                case atStart => exact ⟨0, [], [], u15, none, 0, rfl, rfl, HK2, ⟨⟨by omega, by omega, rfl⟩⟩, ST⟩
                case round =>
                  clear ST HK2
                  obtain ⟨j, lo, ks, s15, Ak, ck, rfl, rfl, HA, HJ, ST⟩ := hrel
                  obtain ⟨hj1, hj0, hj3⟩ := HJ.out
                  clear HJ
                  cases gk with
                  | zero =>
                    have hd2 : decide (j < (lf1.length : Int)) = false := decide_eq_false (by omega)
                    have H2 := (Option.some.inj HA.out).symm
                    clear HA hj1 hj0 hj3
                    injection H2 with e1 e2
                    subst e1 e2
                    have H := HE.out
                    have hE := Option.some.inj H
                    obtain rfl := congrArg (fun t => t.1) hE
                    obtain rfl := congrArg (fun t => t.2.1) hE
                    obtain rfl := congrArg (fun t => t.2.2.1) hE
                    obtain rfl := congrArg (fun t => t.2.2.2.1) hE
                    obtain rfl := congrArg (fun t => t.2.2.2.2.1) hE
                    obtain rfl := congrArg (fun t => t.2.2.2.2.2.1) hE
                    obtain rfl := congrArg (fun t => t.2.2.2.2.2.2.1) hE
                    obtain rfl := congrArg (fun t => t.2.2.2.2.2.2.2.1) hE
                    obtain rfl := congrArg (fun t => t.2.2.2.2.2.2.2.2.1) hE
                    obtain rfl := congrArg (fun t => t.2.2.2.2.2.2.2.2.2) hE
                    clear H hE
                    obtain ⟨m0, m1, m2, m3, m4, m5, m6⟩ := Go.Proofs.Ytpdoplkiaejpiaa.ShortK.cz7 ⟨ST.out.b13⟩
                    have b8 : Aside0 (wr.heap[g8]? = some (.cells #[.int .i64 0, .slice none 0 0, .bool false, .int .i64 0, .int .i64 0, .int .i64 0, .int .i64 0] 44 (0, 0))) := ⟨ST.out.b8⟩
                    obtain ⟨y0, y1, y2, y3, y4, y5, y6⟩ := Go.Proofs.Ytpdoplkiaejpiaa.ShortK.cz7 b8
                    obtain ⟨f0, f1, f2, f3, f4, f5, f6⟩ := Go.Proofs.Ytpdoplkiaejpiaa.ShortK.fz7 b8
                    go_wp2
                    refine bodyPost_ret (results_list (rs := [.cell 8 44, .tmp 9, .tmp 10, .tmp 11]) rfl (by simp) (.cell g8 44 #[.int .i64 (mx lg (rd_T92 l 0).f1), .slice Ak ks1.length ck, .bool kn1, .int .i64 la1, .int .i64 mi1, .int .i64 sm1, .int .i64 va1] (0, 0) _ rfl (set7_blk ST.out.b8 _ _ _ _ _ _ _) Try.underlying44 rfl (by kernel_rfl) (.tmp (.tmp (.tmp .nil))))) rfl ?_
                    exact ⟨_, _, _, rfl, Kd.R_mono (set7_R ST.out.rk ST.out.b8 (by decide) _ _ _ _ _ _ _) (fun _ _ => trivial), set7_R ST.out.r14 ST.out.b8 (by decide) _ _ _ _ _ _ _, set7_R ST.out.r15 ST.out.b8 (by decide) _ _ _ _ _ _ _, set7_below ST.out.hb ST.out.n8 _ _ _ _ _ _ _⟩
                  | succ n =>
                    have HA1 := HA.out
                    unfold tk2 at HA1
                    clear HA
                    have hj2 : j < (lf1.length : Int) := by omega
                    have hd2 : decide (j < (lf1.length : Int)) = true := decide_eq_true hj2
                    have HJJ := Aside0.mk (And.intro hj1 (And.intro hj0 hj3))
                    obtain ⟨ads, eA, q0, q1, q2⟩ := at_T89 (Kd.R_reads' ST.out.r16).2.2 j hj0 hj2
                    subst eA
                    clear hj1 hj3
                    have s0 := eq_true hj0
                    have s1 := eq_true hj2
                    have HWJ := Aside0.mk (show wrap64 (j + 1) = j + 1 from by unfold wrap64; have := HLF.out; have := HJJ.out; omega)
                    generalize rd_T89 lf1 j = x at q0 q1 q2 HA1
                    have hbn : Below wr.heap.size wr (wr.alloc (.cells #[.int .i64 x.f0, .int .i64 x.f1, .int .i64 x.f2] 89 (0, 0))) := below_alloc (Below.refl _ wr) _
                    have hbox : (wr.alloc (.cells #[.int .i64 x.f0, .int .i64 x.f1, .int .i64 x.f2] 89 (0, 0))).heap[wr.heap.size]? = some (.cells #[.int .i64 x.f0, .int .i64 x.f1, .int .i64 x.f2] 89 (0, 0)) := blk_new wr _
                    obtain ⟨b, hh, HA1⟩ := Option.bind_eq_some_iff.mp HA1
                    have HH := Aside0.mk hh
                    clear hh
                    go_upto_region 20 with (fail)
                    have HBOX := Aside0.mk hbox
                    have HBN := Aside0.mk hbn
                    clear hbox hbn
                    revert HBOX HBN
                    generalize wr.alloc (.cells #[.int .i64 x.f0, .int .i64 x.f1, .int .i64 x.f2] 89 (0, 0)) = w6
                    intro HBOX HBN
                    have ST6 := Aside0.mk (ST.out.below HBN.out)
                    obtain ⟨y0, y1, y2⟩ := Go.Proofs.Ytpdoplkiaejpiaa.ShortK.cz3 HBOX
                    clear q0 q1 q2
                    cases b with
                    | true =>
                      have HN := Aside0.mk ((if_pos rfl).symm.trans HA1)
                      clear HA1
                      go_wp2_with (first
                        | (go_at_call 62; refine (impl_Space_isLost.calls g13 (mx lg (rd_T92 l 0).f1) Ak ks.length ck kn1 la1 mi1 sm1 va1 x.f0 x.f1 x.f2 now true _ ST6.out.b13 HH.out).mono ?_; rintro e w7 ⟨rfl, hb⟩; have ST7 := Aside0.mk (ST6.out.below hb); have HBOX7 := Aside0.mk (blk_below HBOX.out hb); clear hb ST6 HBOX HBN y0 y1 y2 HH ST; obtain ⟨y0, y1, y2⟩ := Go.Proofs.Ytpdoplkiaejpiaa.ShortK.cz3 HBOX7; obtain ⟨m0, m1, m2, m3, m4, m5, m6⟩ := Go.Proofs.Ytpdoplkiaejpiaa.ShortK.cz7 ⟨ST7.out.b13⟩)
                        | ((with_reducible refine gate_builtin (b := .append) (xs := #[.tmp 122, .tmp 125]) rfl ?_); (try (refine gate_guard (by rfl) ?_; dsimp only)); at_builtin; refine Kd.R_append (Kd.int .i64) (w0 := w) w.heap.size rfl (.tmp 122) (.tmp 125) 45 3 (.int .i64 0) 8 rfl Try.underlying45 info3 rfl (by decide) (by omega) s15 lo x.f0 [.int .i64 x.f0] (fun k_ => some k_ ≠ (s14 : Value).ownBlock) (fun _ => False) rfl rfl ?aP (fun _ hk => hk.elim) ?aF ?aO ?aB ?aS ?aL ?_; (case aP => exact rfl); (case aF => exact (fun k_ hk => Kd.fresh' (Kd.R_lt ST7.out.r14) k_ hk)); (case aO => exact ST7.out.r15); (case aB => exact ST7.out.hb); (case aS => exact ST7.out.hb.size); (case aL => have := HJJ.out; have := HLF.out; omega); intro v1 w8 ho hb hg hat; have ST8 := Aside0.mk (ST7.out.grow15 ho hb hg hat); clear ho hb hg hat))
                      go_roundg n
                      case measure => omega
                      case rel => exact ⟨j + 1, (lo ++ [x.f0]), ks, _, Ak, ck, rfl, by first | rfl | (simp; done) | (rw [HWJ.out]), HN, ⟨⟨by have := HJJ.out; omega, by have := HJJ.out; omega, by have := HJJ.out; simp only [List.length_append, List.length_cons, List.length_nil]; omega⟩⟩, ST8⟩
                    | false =>
                      have HN := Aside0.mk ((if_neg (by decide)).symm.trans HA1)
                      clear HA1
                      go_wp2_with (first
                        | (go_at_call 62; refine (impl_Space_isLost.calls g13 (mx lg (rd_T92 l 0).f1) Ak ks.length ck kn1 la1 mi1 sm1 va1 x.f0 x.f1 x.f2 now false _ ST6.out.b13 HH.out).mono ?_; rintro e w7 ⟨rfl, hb⟩; have ST7 := Aside0.mk (ST6.out.below hb); have HBOX7 := Aside0.mk (blk_below HBOX.out hb); clear hb ST6 HBOX HBN y0 y1 y2 HH ST; obtain ⟨y0, y1, y2⟩ := Go.Proofs.Ytpdoplkiaejpiaa.ShortK.cz3 HBOX7; obtain ⟨m0, m1, m2, m3, m4, m5, m6⟩ := Go.Proofs.Ytpdoplkiaejpiaa.ShortK.cz7 ⟨ST7.out.b13⟩)
                        | ((with_reducible refine gate_builtin (b := .append) (xs := #[.tmp 128, .tmp 130]) rfl ?_); (try (refine gate_guard (by rfl) ?_; dsimp only)); at_builtin; refine Kd.R_append k89 (w0 := w) w.heap.size rfl (.tmp 128) (.tmp 130) 41 89 (.agg #[(.int .i64 0), (.int .i64 0), (.int .i64 0)]) 24 rfl Try.underlying41 info89 rfl (by decide) (by omega) (.slice Ak ks.length ck) ks x [.int .i64 x.f0, .int .i64 x.f1, .int .i64 x.f2] (fun k_ => some k_ ≠ (.slice (some ads) lf1.length c16 : Value).ownBlock) (fun _ => False) rfl rfl ?aP (fun _ hk => hk.elim) ?aF ?aO ?aB ?aS ?aL ?_; (case aP => exact k89_mkM _ _ _ x); (case aF => exact (fun k_ hk => Kd.fresh' (Kd.R_lt ST7.out.r16) k_ hk)); (case aO => exact ST7.out.rk); (case aB => exact ST7.out.hb); (case aS => exact ST7.out.hb.size); (case aL => have := HJJ.out; have := HLF.out; omega); intro v1 w8 ho hb hg hat; obtain ⟨A1, c1, e1⟩ := Kd.R_slice ho; subst e1; have ST8 := Aside0.mk (ST7.out.growk ho hb hg hat); clear ho hb hg hat m0 m1 m2 m3 m4 m5 m6; obtain ⟨m0, m1, m2, m3, m4, m5, m6⟩ := Go.Proofs.Ytpdoplkiaejpiaa.ShortK.cz7 ⟨ST8.out.b13⟩; obtain ⟨f0, f1, f2, f3, f4, f5, f6⟩ := Go.Proofs.Ytpdoplkiaejpiaa.ShortK.fz7 ⟨ST8.out.b13⟩))
                      go_roundg n
                      case measure => omega
                      case rel => exact ⟨j + 1, lo, (ks ++ [x]), _, A1, c1, rfl, by first | rfl | (simp; done) | (rw [HWJ.out]), HN, ⟨⟨by have := HJJ.out; omega, by have := HJJ.out; omega, by have := HJJ.out; simp only [List.length_append, List.length_cons, List.length_nil]; omega⟩⟩, ⟨ST8.out.put13 1 _ (by simp only [List.length_append, List.length_cons, List.length_nil]; rfl)⟩⟩
              | succ n =>
                have HA1 := HA.out
                unfold tk1 at HA1
                clear HA
                have hi2 : i < (sn.length : Int) := by omega
                have hd2 : decide (i < (sn.length : Int)) = true := decide_eq_true hi2
                have HII := Aside0.mk (And.intro hi1 (And.intro hi0 hi3))
                obtain ⟨ads, eA, q0, q1, q2⟩ := at_T89 (Kd.C_below HS.out ST.out.hb) i hi0 hi2
                subst eA
                clear hi1 hi3
                have s0 := eq_true hi0
                have s1 := eq_true hi2
                have HWI := Aside0.mk (show wrap64 (i + 1) = i + 1 from by have := HLN.out; have := HII.out; unfold wrap64; omega)
                generalize rd_T89 sn i = x at q0 q1 q2 HA1
                have hbn : Below wr.heap.size wr (wr.alloc (.cells #[.int .i64 x.f0, .int .i64 x.f1, .int .i64 x.f2] 89 (0, 0))) := below_alloc (Below.refl _ wr) _
                have hbox : (wr.alloc (.cells #[.int .i64 x.f0, .int .i64 x.f1, .int .i64 x.f2] 89 (0, 0))).heap[wr.heap.size]? = some (.cells #[.int .i64 x.f0, .int .i64 x.f1, .int .i64 x.f2] 89 (0, 0)) := blk_new wr _
                obtain ⟨b, hh, HA1⟩ := Option.bind_eq_some_iff.mp HA1
                have HH := Aside0.mk hh
                clear hh
                go_upto_region 11 with (fail)
                have HBOX := Aside0.mk hbox
                have HBN := Aside0.mk hbn
                clear hbox hbn
                revert HBOX HBN
                generalize wr.alloc (.cells #[.int .i64 x.f0, .int .i64 x.f1, .int .i64 x.f2] 89 (0, 0)) = w6
                intro HBOX HBN
                have ST6 := Aside0.mk (ST.out.below HBN.out)
                obtain ⟨y0, y1, y2⟩ := Go.Proofs.Ytpdoplkiaejpiaa.ShortK.cz3 HBOX
                clear q0 q1 q2
                cases b with
                | false =>
                  have HN := Aside0.mk ((if_neg (by decide)).symm.trans HA1)
                  clear HA1
                  go_wp2_with (first
                    | (go_at_call 60; refine (impl_hasNumber.calls (some al) cl l x.f0 false _ (Kd.C_below HLR.out ST6.out.hb) HCL.out HH.out).mono ?_; rintro e w7 ⟨rfl, hb⟩; have ST7 := Aside0.mk (ST6.out.below hb); have HBOX7 := Aside0.mk (blk_below HBOX.out hb); clear hb ST6 HBOX HBN y0 y1 y2 HH ST; obtain ⟨y0, y1, y2⟩ := Go.Proofs.Ytpdoplkiaejpiaa.ShortK.cz3 HBOX7)
                    | ((with_reducible refine gate_builtin (b := .append) (xs := #[.tmp 87, .tmp 89]) rfl ?_); (try (refine gate_guard (by rfl) ?_; dsimp only)); at_builtin; refine Kd.R_append k89 (w0 := w) w.heap.size rfl (.tmp 87) (.tmp 89) 41 89 (.agg #[(.int .i64 0), (.int .i64 0), (.int .i64 0)]) 24 rfl Try.underlying41 info89 rfl (by decide) (by omega) s16 lf x [.int .i64 x.f0, .int .i64 x.f1, .int .i64 x.f2] (fun k_ => some k_ ≠ (.slice none 0 0 : Value).ownBlock) (fun _ => False) rfl rfl ?aP (fun _ hk => hk.elim) ?aF ?aO ?aB ?aS ?aL ?_; (case aP => exact k89_mkM _ _ _ x); (case aF => exact (fun k_ hk => Kd.fresh' (Kd.R_lt ST7.out.rk) k_ hk)); (case aO => exact ST7.out.r16); (case aB => exact ST7.out.hb); (case aS => exact ST7.out.hb.size); (case aL => have := HII.out; have := HLN.out; omega); intro v1 w8 ho hb hg hat; have ST8 := Aside0.mk (ST7.out.grow16 ho hb hg hat); clear ho hb hg hat))
                  go_roundg n
                  case measure => omega
                  case rel => exact ⟨i + 1, ak, (lf ++ [x]), kn2, la2, mi2, sm2, va2, _, _, rfl, rfl, by first | rfl | (simp; done) | (rw [HWI.out]), HN, ⟨⟨by have := HII.out; omega, by have := HII.out; omega, by have := HII.out; simp only [List.length_append, List.length_cons, List.length_nil]; omega⟩⟩, ST8⟩
                | true =>
                  have HA2 := (if_pos rfl).symm.trans HA1
                  clear HA1
                  go_wp2_with (first
                    | (go_at_call 60; refine (impl_hasNumber.calls (some al) cl l x.f0 true _ (Kd.C_below HLR.out ST6.out.hb) HCL.out HH.out).mono ?_; rintro e w7 ⟨rfl, hb⟩; have ST7 := Aside0.mk (ST6.out.below hb); have HBOX7 := Aside0.mk (blk_below HBOX.out hb); clear hb ST6 HBOX HBN y0 y1 y2 HH ST; obtain ⟨y0, y1, y2⟩ := Go.Proofs.Ytpdoplkiaejpiaa.ShortK.cz3 HBOX7)
                    | ((with_reducible refine gate_builtin (b := .append) (xs := #[.tmp 91, .tmp 94]) rfl ?_); (try (refine gate_guard (by rfl) ?_; dsimp only)); at_builtin; refine Kd.R_append (Kd.int .i64) (w0 := w) w.heap.size rfl (.tmp 91) (.tmp 94) 45 3 (.int .i64 0) 8 rfl Try.underlying45 info3 rfl (by decide) (by omega) s14 ak x.f0 [.int .i64 x.f0] (fun k_ => some k_ ≠ (u15 : Value).ownBlock) (fun _ => False) rfl rfl ?aP (fun _ hk => hk.elim) ?aF ?aO ?aB ?aS ?aL ?_; (case aP => exact rfl); (case aF => exact (fun k_ hk => Kd.fresh' (Kd.R_lt ST7.out.r15) k_ hk)); (case aO => exact ST7.out.r14); (case aB => exact ST7.out.hb); (case aS => exact ST7.out.hb.size); (case aL => have := HII.out; have := HLN.out; omega); intro v1 w8 ho hb hg hat; have ST8 := Aside0.mk (ST7.out.grow14 ho hb hg hat); have HBOX8 := Aside0.mk (blk_grown HBOX7.out hg (Kd.R_ne ST7.out.r14 HBOX7.out (by decide))); clear ho hb hg hat ST7 HBOX7 y0 y1 y2; obtain ⟨y0, y1, y2⟩ := Go.Proofs.Ytpdoplkiaejpiaa.ShortK.cz3 HBOX8))
                  have t1 : w8.cell? ⟨al.block, al.off + 1, none⟩ = some (.int .i64 (rd_T92 l 0).f1) := cb_ hy0 ST8.out.hb
                  refine region_quiet (C := fun w' => w'.cell? ⟨wr.heap.size, 0, none⟩ = some (.int .i64 x.f0) ∧ w'.cell? ⟨al.block, al.off + 1, none⟩ = some (.int .i64 (rd_T92 l 0).f1) ∧ Aside0 (w'.heap[wr.heap.size]? = some (.cells #[.int .i64 x.f0, .int .i64 x.f1, .int .i64 x.f2] 89 (0, 0))) ∧ Aside0 (St w w' g4 g8 g13 #[.int .i64 lg, .slice (some ads) sn.length cs, .bool kn, .int .i64 la, .int .i64 mi, .int .i64 sm, .int .i64 va] #[.int .i64 (mx lg (rd_T92 l 0).f1), .slice none 0 0, .bool kn2, .int .i64 la2, .int .i64 mi2, .int .i64 sm2, .int .i64 va2] v1 u15 s16 (.slice none 0 0) (ak ++ [x.f0]) [] lf [])) (by kernel_rfl) (by kernel_rfl) ?hC ?_
                  case hC => exact ⟨cb_ y0 (below_drew (Below.refl _ w8)), cb_ t1 (below_drew (Below.refl _ w8)), ⟨blk_below HBOX8.out (below_drew (Below.refl _ w8))⟩, ⟨ST8.out.below (below_drew (Below.refl _ w8))⟩⟩
                  repeat (first
                    | go_big_quiet_skip
                    | (go_big_quiet_want; refine quiet_op (v := ?_) ?_ ?_; rotate_left 1; (· (rintro w' ⟨x0, x1, -, -⟩; go_simp; with_reducible rfl)); simp only [Act.put, List.setIfInBounds_toArray, List.set_cons_zero, List.set_cons_succ, i64_w, i32_w]; go_big_quiet_on))
                  refine wpQuiet_nil ?_
                  clear y0 y1 y2 t1 ST8 HBOX8
                  rintro w9 ⟨-, -, HBOX9, ST9⟩
                  obtain ⟨y0, y1, y2⟩ := Go.Proofs.Ytpdoplkiaejpiaa.ShortK.cz3 HBOX9
                  by_cases ht : x.f0 = (rd_T92 l 0).f1
                  · skip
                    have htd : (x.f0 == (rd_T92 l 0).f1) = true := beq_iff_eq.mpr ht
                    obtain ⟨⟨kn3, la3, mi3, sm3, va3⟩, hs1, HA2⟩ := Option.bind_eq_some_iff.mp ((if_pos ht).symm.trans HA2)
                    have HSA := Aside0.mk hs1
                    have HN := Aside0.mk HA2
                    clear hs1 HA2
                    obtain ⟨z0, z1, z2, z3, z4, z5, z6⟩ := Go.Proofs.Ytpdoplkiaejpiaa.ShortK.cz7 ⟨ST9.out.b4⟩
                    go_wp2_with (go_at_call 61; refine (impl_sampled.calls kn la mi sm va _ dl kn3 la3 mi3 sm3 va3 _ HSA.out).mono ?_; rintro e w10 ⟨rfl, hb⟩; have ST10 := Aside0.mk (ST9.out.below hb); clear hb ST9 HBOX9 y0 y1 y2 z0 z1 z2 z3 z4 z5 z6; obtain ⟨m0, m1, m2, m3, m4, m5, m6⟩ := Go.Proofs.Ytpdoplkiaejpiaa.ShortK.cz7 ⟨ST10.out.b13⟩; obtain ⟨f0, f1, f2, f3, f4, f5, f6⟩ := Go.Proofs.Ytpdoplkiaejpiaa.ShortK.fz7 ⟨ST10.out.b13⟩)
                    go_roundg n
                    case measure => omega
                    case rel => exact ⟨i + 1, (ak ++ [x.f0]), lf, kn3, la3, mi3, sm3, va3, _, _, rfl, rfl, by first | rfl | (simp; done) | (rw [HWI.out]), HN, ⟨⟨by have := HII.out; omega, by have := HII.out; omega, by have := HII.out; simp only [List.length_append, List.length_cons, List.length_nil]; omega⟩⟩, ⟨((((ST10.out.put13 2 _ rfl).put13 3 _ rfl).put13 4 _ rfl).put13 5 _ rfl).put13 6 _ rfl⟩⟩
                  · skip
                    have htd : (x.f0 == (rd_T92 l 0).f1) = false := beq_eq_false_iff_ne.mpr ht
                    have HN := Aside0.mk ((if_neg ht).symm.trans HA2)
                    clear HA2
                    go_wp2
                    go_roundg n
                    case measure => omega
                    case rel => exact ⟨i + 1, (ak ++ [x.f0]), lf, kn2, la2, mi2, sm2, va2, _, _, rfl, rfl, by first | rfl | (simp; done) | (rw [HWI.out]), HN, ⟨⟨by have := HII.out; omega, by have := HII.out; omega, by have := HII.out; simp only [List.length_append, List.length_cons, List.length_nil]; omega⟩⟩, ST9⟩


/-! ### laws_eqSent: function 109 -/
def laws_eqSent.f (a0_0 : Int) (a0_1 : Int) (a0_2 : Int) (a1_0 : Int) (a1_1 : Int) (a1_2 : Int) : Option (Bool) := if a0_0 = a1_0 then (if a0_1 = a1_1 then (if a0_2 = a1_2 then (some true) else (some false)) else (some false)) else (some false)
set_option maxHeartbeats 64000000 in
set_option maxRecDepth 100000 in
theorem laws_eqSent.calls (a0_0 : Int) (a0_1 : Int) (a0_2 : Int) (a1_0 : Int) (a1_1 : Int) (a1_2 : Int) (r : Bool) (w : World) (h : laws_eqSent.f a0_0 a0_1 a0_2 a1_0 a1_1 a1_2 = some r) :
  Calls Try.prog 109 #[.agg #[.int .i64 a0_0, .int .i64 a0_1, .int .i64 a0_2], .agg #[.int .i64 a1_0, .int .i64 a1_1, .int .i64 a1_2]] w fun e w' => e = .returned (.bool r) ∧ Below w.heap.size w w' := by
 have hu89 := Try.underlying89
 have HB := Aside0.mk (Below.refl w.heap.size w)
 have H : (if a0_0 = a1_0 then (if a0_1 = a1_1 then (if a0_2 = a1_2 then (some true) else (some false)) else (some false)) else (some false)) = some r := h
 clear h
 by_cases c3 : a0_0 = a1_0
 ·rw [if_pos c3] at H
  have c3b0 : (a0_0 == a1_0) = true := beq_iff_eq.mpr c3
  have c3b1 : (a0_0 != a1_0) = false := bne_eq_false_iff_eq.mpr c3
  clear c3
  by_cases c4 : a0_1 = a1_1
  ·rw [if_pos c4] at H
   have c4b0 : (a0_1 == a1_1) = true := beq_iff_eq.mpr c4
   have c4b1 : (a0_1 != a1_1) = false := bne_eq_false_iff_eq.mpr c4
   clear c4
   by_cases c5 : a0_2 = a1_2
   ·rw [if_pos c5] at H
    have c5b0 : (a0_2 == a1_2) = true := beq_iff_eq.mpr c5
    have c5b1 : (a0_2 != a1_2) = false := bne_eq_false_iff_eq.mpr c5
    clear c5
    obtain rfl := Option.some.inj H
    go_enter Try.func109, Try.ntmps109
    go_wp2_with (first | ((with_reducible refine gate_dst (N := 2) rfl ?_); refine box_event ?hg (N := 2) ?hd (cs := #[.int .i64 a0_0, .int .i64 a0_1, .int .i64 a0_2]) (t := 89) ?hr ?_; (case hd => rfl); (case hg => rfl); (case hr => first | (go_simp; done) | (go_simp; rfl)); intro gb200 hg w6 hbox hb; have n0_ := bS HB hb; have n1_ := Aside0.mk (hbox); have n2_ := Aside0.mk ((by rw [hg]; exact (below_size (by repeat (first | (with_reducible first | exact HB.out | apply below_alloc | apply pw_below_drewN | apply below_drew1) | exact HB.out))) : w.heap.size ≤ gb200)); have n3_ := n2_; clear HB; have HB := n0_; have BK200 := n1_; have GW200 := n2_; have GE200 := n3_; clear n0_ n1_ n2_ n3_; clear hb hbox hg) | ((with_reducible refine gate_dst (N := 3) rfl ?_); refine box_event ?hg (N := 3) ?hd (cs := #[.int .i64 a1_0, .int .i64 a1_1, .int .i64 a1_2]) (t := 89) ?hr ?_; (case hd => rfl); (case hg => rfl); (case hr => first | (go_simp; done) | (go_simp; rfl)); intro gb201 hg w7 hbox hb; have n0_ := bX BK200 hb; have n1_ := bS HB hb; have n2_ := Aside0.mk (hbox); have n3_ := Aside0.mk ((by rw [hg]; exact (below_size (by repeat (first | (with_reducible first | exact HB.out | apply below_alloc | apply pw_below_drewN | apply below_drew1 | refine below_set ?_ GE200.out) | exact HB.out))) : w.heap.size ≤ gb201)); have n4_ := n3_; have n5_ := Aside0.mk ((by rw [hg]; exact Nat.ne_of_lt (bLt BK200) : gb200 ≠ gb201)); have n6_ := Aside0.mk ((by rw [hg]; exact Nat.ne_of_gt (bLt BK200) : gb201 ≠ gb200)); clear BK200; clear HB; have BK200 := n0_; have HB := n1_; have BK201 := n2_; have GW201 := n3_; have GE201 := n4_; have NB200_201 := n5_; have NB201_200 := n6_; clear n0_ n1_ n2_ n3_ n4_ n5_ n6_; clear hb hbox hg; have hnb8 := NB200_201.out; have hnc8 := NB201_200.out; obtain ⟨hcz9_0, hcz9_1, hcz9_2⟩ := cz3 BK200; obtain ⟨hfz9_0, hfz9_1, hfz9_2⟩ := fz3 BK200; obtain ⟨hcz10_0, hcz10_1, hcz10_2⟩ := cz3 BK201; obtain ⟨hfz10_0, hfz10_1, hfz10_2⟩ := fz3 BK201))
    go_ret
    exact ⟨by first | rfl | (simp [errW_none, errW_some] <;> rfl) | (simp [*, errW_none, errW_some] <;> rfl), by repeat (first | (with_reducible first | exact HB.out | apply below_alloc | apply pw_below_drewN | apply below_drew1 | refine below_set ?_ GE200.out | refine below_set ?_ GE201.out) | exact HB.out)⟩
   ·rw [if_neg c5] at H
    have c5b0 : (a0_2 == a1_2) = false := beq_eq_false_iff_ne.mpr c5
    have c5b1 : (a0_2 != a1_2) = true := bne_iff_ne.mpr c5
    obtain rfl := Option.some.inj H
    go_enter Try.func109, Try.ntmps109
    go_wp2_with (first | ((with_reducible refine gate_dst (N := 2) rfl ?_); refine box_event ?hg (N := 2) ?hd (cs := #[.int .i64 a0_0, .int .i64 a0_1, .int .i64 a0_2]) (t := 89) ?hr ?_; (case hd => rfl); (case hg => rfl); (case hr => first | (go_simp; done) | (go_simp; rfl)); intro gb200 hg w11 hbox hb; have n0_ := bS HB hb; have n1_ := Aside0.mk (hbox); have n2_ := Aside0.mk ((by rw [hg]; exact (below_size (by repeat (first | (with_reducible first | exact HB.out | apply below_alloc | apply pw_below_drewN | apply below_drew1) | exact HB.out))) : w.heap.size ≤ gb200)); have n3_ := n2_; clear HB; have HB := n0_; have BK200 := n1_; have GW200 := n2_; have GE200 := n3_; clear n0_ n1_ n2_ n3_; clear hb hbox hg) | ((with_reducible refine gate_dst (N := 3) rfl ?_); refine box_event ?hg (N := 3) ?hd (cs := #[.int .i64 a1_0, .int .i64 a1_1, .int .i64 a1_2]) (t := 89) ?hr ?_; (case hd => rfl); (case hg => rfl); (case hr => first | (go_simp; done) | (go_simp; rfl)); intro gb201 hg w12 hbox hb; have n0_ := bX BK200 hb; have n1_ := bS HB hb; have n2_ := Aside0.mk (hbox); have n3_ := Aside0.mk ((by rw [hg]; exact (below_size (by repeat (first | (with_reducible first | exact HB.out | apply below_alloc | apply pw_below_drewN | apply below_drew1 | refine below_set ?_ GE200.out) | exact HB.out))) : w.heap.size ≤ gb201)); have n4_ := n3_; have n5_ := Aside0.mk ((by rw [hg]; exact Nat.ne_of_lt (bLt BK200) : gb200 ≠ gb201)); have n6_ := Aside0.mk ((by rw [hg]; exact Nat.ne_of_gt (bLt BK200) : gb201 ≠ gb200)); clear BK200; clear HB; have BK200 := n0_; have HB := n1_; have BK201 := n2_; have GW201 := n3_; have GE201 := n4_; have NB200_201 := n5_; have NB201_200 := n6_; clear n0_ n1_ n2_ n3_ n4_ n5_ n6_; clear hb hbox hg; have hnb13 := NB200_201.out; have hnc13 := NB201_200.out; obtain ⟨hcz14_0, hcz14_1, hcz14_2⟩ := cz3 BK200; obtain ⟨hfz14_0, hfz14_1, hfz14_2⟩ := fz3 BK200; obtain ⟨hcz15_0, hcz15_1, hcz15_2⟩ := cz3 BK201; obtain ⟨hfz15_0, hfz15_1, hfz15_2⟩ := fz3 BK201))
    go_ret
    exact ⟨by first | rfl | (simp [errW_none, errW_some] <;> rfl) | (simp [*, errW_none, errW_some] <;> rfl), by repeat (first | (with_reducible first | exact HB.out | apply below_alloc | apply pw_below_drewN | apply below_drew1 | refine below_set ?_ GE200.out | refine below_set ?_ GE201.out) | exact HB.out)⟩
  ·rw [if_neg c4] at H
   have c4b0 : (a0_1 == a1_1) = false := beq_eq_false_iff_ne.mpr c4
   have c4b1 : (a0_1 != a1_1) = true := bne_iff_ne.mpr c4
   obtain rfl := Option.some.inj H
   go_enter Try.func109, Try.ntmps109
   go_wp2_with (first | ((with_reducible refine gate_dst (N := 2) rfl ?_); refine box_event ?hg (N := 2) ?hd (cs := #[.int .i64 a0_0, .int .i64 a0_1, .int .i64 a0_2]) (t := 89) ?hr ?_; (case hd => rfl); (case hg => rfl); (case hr => first | (go_simp; done) | (go_simp; rfl)); intro gb200 hg w16 hbox hb; have n0_ := bS HB hb; have n1_ := Aside0.mk (hbox); have n2_ := Aside0.mk ((by rw [hg]; exact (below_size (by repeat (first | (with_reducible first | exact HB.out | apply below_alloc | apply pw_below_drewN | apply below_drew1) | exact HB.out))) : w.heap.size ≤ gb200)); have n3_ := n2_; clear HB; have HB := n0_; have BK200 := n1_; have GW200 := n2_; have GE200 := n3_; clear n0_ n1_ n2_ n3_; clear hb hbox hg) | ((with_reducible refine gate_dst (N := 3) rfl ?_); refine box_event ?hg (N := 3) ?hd (cs := #[.int .i64 a1_0, .int .i64 a1_1, .int .i64 a1_2]) (t := 89) ?hr ?_; (case hd => rfl); (case hg => rfl); (case hr => first | (go_simp; done) | (go_simp; rfl)); intro gb201 hg w17 hbox hb; have n0_ := bX BK200 hb; have n1_ := bS HB hb; have n2_ := Aside0.mk (hbox); have n3_ := Aside0.mk ((by rw [hg]; exact (below_size (by repeat (first | (with_reducible first | exact HB.out | apply below_alloc | apply pw_below_drewN | apply below_drew1 | refine below_set ?_ GE200.out) | exact HB.out))) : w.heap.size ≤ gb201)); have n4_ := n3_; have n5_ := Aside0.mk ((by rw [hg]; exact Nat.ne_of_lt (bLt BK200) : gb200 ≠ gb201)); have n6_ := Aside0.mk ((by rw [hg]; exact Nat.ne_of_gt (bLt BK200) : gb201 ≠ gb200)); clear BK200; clear HB; have BK200 := n0_; have HB := n1_; have BK201 := n2_; have GW201 := n3_; have GE201 := n4_; have NB200_201 := n5_; have NB201_200 := n6_; clear n0_ n1_ n2_ n3_ n4_ n5_ n6_; clear hb hbox hg; have hnb18 := NB200_201.out; have hnc18 := NB201_200.out; obtain ⟨hcz19_0, hcz19_1, hcz19_2⟩ := cz3 BK200; obtain ⟨hfz19_0, hfz19_1, hfz19_2⟩ := fz3 BK200; obtain ⟨hcz20_0, hcz20_1, hcz20_2⟩ := cz3 BK201; obtain ⟨hfz20_0, hfz20_1, hfz20_2⟩ := fz3 BK201))
   go_ret
   exact ⟨by first | rfl | (simp [errW_none, errW_some] <;> rfl) | (simp [*, errW_none, errW_some] <;> rfl), by repeat (first | (with_reducible first | exact HB.out | apply below_alloc | apply pw_below_drewN | apply below_drew1 | refine below_set ?_ GE200.out | refine below_set ?_ GE201.out) | exact HB.out)⟩
 ·rw [if_neg c3] at H
  have c3b0 : (a0_0 == a1_0) = false := beq_eq_false_iff_ne.mpr c3
  have c3b1 : (a0_0 != a1_0) = true := bne_iff_ne.mpr c3
  obtain rfl := Option.some.inj H
  go_enter Try.func109, Try.ntmps109
  go_wp2_with (first | ((with_reducible refine gate_dst (N := 2) rfl ?_); refine box_event ?hg (N := 2) ?hd (cs := #[.int .i64 a0_0, .int .i64 a0_1, .int .i64 a0_2]) (t := 89) ?hr ?_; (case hd => rfl); (case hg => rfl); (case hr => first | (go_simp; done) | (go_simp; rfl)); intro gb200 hg w21 hbox hb; have n0_ := bS HB hb; have n1_ := Aside0.mk (hbox); have n2_ := Aside0.mk ((by rw [hg]; exact (below_size (by repeat (first | (with_reducible first | exact HB.out | apply below_alloc | apply pw_below_drewN | apply below_drew1) | exact HB.out))) : w.heap.size ≤ gb200)); have n3_ := n2_; clear HB; have HB := n0_; have BK200 := n1_; have GW200 := n2_; have GE200 := n3_; clear n0_ n1_ n2_ n3_; clear hb hbox hg) | ((with_reducible refine gate_dst (N := 3) rfl ?_); refine box_event ?hg (N := 3) ?hd (cs := #[.int .i64 a1_0, .int .i64 a1_1, .int .i64 a1_2]) (t := 89) ?hr ?_; (case hd => rfl); (case hg => rfl); (case hr => first | (go_simp; done) | (go_simp; rfl)); intro gb201 hg w22 hbox hb; have n0_ := bX BK200 hb; have n1_ := bS HB hb; have n2_ := Aside0.mk (hbox); have n3_ := Aside0.mk ((by rw [hg]; exact (below_size (by repeat (first | (with_reducible first | exact HB.out | apply below_alloc | apply pw_below_drewN | apply below_drew1 | refine below_set ?_ GE200.out) | exact HB.out))) : w.heap.size ≤ gb201)); have n4_ := n3_; have n5_ := Aside0.mk ((by rw [hg]; exact Nat.ne_of_lt (bLt BK200) : gb200 ≠ gb201)); have n6_ := Aside0.mk ((by rw [hg]; exact Nat.ne_of_gt (bLt BK200) : gb201 ≠ gb200)); clear BK200; clear HB; have BK200 := n0_; have HB := n1_; have BK201 := n2_; have GW201 := n3_; have GE201 := n4_; have NB200_201 := n5_; have NB201_200 := n6_; clear n0_ n1_ n2_ n3_ n4_ n5_ n6_; clear hb hbox hg; have hnb23 := NB200_201.out; have hnc23 := NB201_200.out; obtain ⟨hcz24_0, hcz24_1, hcz24_2⟩ := cz3 BK200; obtain ⟨hfz24_0, hfz24_1, hfz24_2⟩ := fz3 BK200; obtain ⟨hcz25_0, hcz25_1, hcz25_2⟩ := cz3 BK201; obtain ⟨hfz25_0, hfz25_1, hfz25_2⟩ := fz3 BK201))
  go_ret
  exact ⟨by first | rfl | (simp [errW_none, errW_some] <;> rfl) | (simp [*, errW_none, errW_some] <;> rfl), by repeat (first | (with_reducible first | exact HB.out | apply below_alloc | apply pw_below_drewN | apply below_drew1 | refine below_set ?_ GE200.out | refine below_set ?_ GE201.out) | exact HB.out)⟩

end Go.Proofs.Ytpdoplkiaejpiaa.PFnExactTakeAck
