-- Written by a program of this session (wip/xprint.py).
import Derived.Test.YtpdoplkiaejpiaaPFnExactTakeAckx0
import Derived.Test.YtpdoplkiaejpiaaPFnExactTakeAckx1
import Derived.Test.YtpdoplkiaejpiaaPFnExactTakeAckx5
namespace Go.Proofs.Ytpdoplkiaejpiaa.PFnExactTakeAck
open Go.RowKit Go.Proofs.YtpdoplkiaejpiaaW.PrintWords Go.Proofs.YtpdoplkiaejpiaaW.PrintLast Go.Proofs.YtpdoplkiaejpiaaW.PrintMore
open Go.Proofs.Ytpdoplkiaejpiaa.ShortK (bN bD bA sA sZ sS mR mB bX bLt bS cz2 fz2 cx2 cz3 fz3 cx3 cz4 fz4 cx4 cz5 fz5 cx5 cz6 fz6 cx6 cz7 fz7 cx7 cz8 fz8 cx8 cz9 fz9 cx9 cz10 fz10 cx10 cz11 fz11 cx11 cz12 fz12 cx12)
attribute [local go_sem] Go.Proofs.Ytpdoplkiaejpiaa.StoreK.isSome_setCell max2_int min2_int max_two min_two max_three min_three max_four min_four   -- for this text's walks alone
set_option linter.unusedVariables false
set_option linter.unusedSimpArgs false

attribute [local go_sem high] eqA42
/-! ### laws_toSentS: function 54 -/
def laws_toSentS.l0 : Nat → List (S136) → List (S89) → Int → Option ((List (S89)))
 | 0, _, _, _ => none
 | k + 1, x0, x3, x4 => if x4 < (x0.length : Int) then (if 0 ≤ x4 then ((laws_toSent.f ((rd_T136 x0 x4).f0) ((rd_T136 x0 x4).f1) ((rd_T136 x0 x4).f2)).bind fun bt143 => (if x4 < (x3.length : Int) then (laws_toSentS.l0 k x0 (x3.set (x4 : Int).toNat (⟨bt143.1, bt143.2.1, bt143.2.2⟩ : S89)) (wrap64 (x4 + 1))) else (none))) else (none)) else (some x3)
def laws_toSentS.f (k : Nat) (l0 : List (S136)) : Option ((List (S89))) := if 0 ≤ (l0.length : Int) then (if ((l0.length : Int) : Int).toNat ≤ 11728124029610 then (laws_toSentS.l0 k l0 (List.replicate ((l0.length : Int) : Int).toNat z89) 0) else (none)) else (none)
theorem laws_toSentS.mono_l : ∀ k, (∀ y0 y1 y2, LeO (laws_toSentS.l0 k y0 y1 y2) (laws_toSentS.l0 (k + 1) y0 y1 y2))
 | 0 => fun _ _ _ r h => by simp [laws_toSentS.l0] at h
 | k + 1 => by
  have ih0 := laws_toSentS.mono_l k
  ·intro y0 y1 y2
   unfold laws_toSentS.l0
   repeat' first
   | (with_reducible exact ih0 _ _ _)
   | (with_reducible exact LeO.refl _)
   | (with_reducible exact LeO.none _)
   | (with_reducible refine LeO.ite ?_ ?_)
   | (with_reducible refine LeO.bind ?_ (fun _ => ?_))
   | exact ih0 _ _ _
   | exact LeO.none _
   | refine LeO.ite ?_ ?_
   | refine LeO.bind ?_ (fun _ => ?_)
theorem laws_toSentS.mono : ∀ a0 k, LeO (laws_toSentS.f k a0) (laws_toSentS.f (k + 1) a0) := by
 intro a0 k
 have ih0 := laws_toSentS.mono_l k
 unfold laws_toSentS.f
 repeat' first
   | (with_reducible exact ih0 _ _ _)
   | (with_reducible exact LeO.refl _)
   | (with_reducible exact LeO.none _)
   | (with_reducible refine LeO.ite ?_ ?_)
   | (with_reducible refine LeO.bind ?_ (fun _ => ?_))
   | exact ih0 _ _ _
   | exact LeO.none _
   | refine LeO.ite ?_ ?_
   | refine LeO.bind ?_ (fun _ => ?_)
set_option maxHeartbeats 64000000 in
set_option maxRecDepth 100000 in
theorem laws_toSentS.calls (k : Nat) (A0 : Option Addr) (c0 : Nat) (l0 : List (S136)) (r : List (S89)) (w : World) (hr0 : Kd.C k136 w A0 l0.length l0) (hc0 : l0.length ≤ c0) (h : laws_toSentS.f k l0 = some r) :
  Calls Try.prog 54 #[.slice A0 l0.length c0] w fun e w' => ∃ v0_ : Value, e = .returned (v0_) ∧ Kd.R k89 89 w' w.heap.size (fun _ => True) v0_ r ∧ Below w.heap.size w w' := by
 have hu136 := Try.underlying136
 have hu89 := Try.underlying89
 have HR0 := Aside0.mk hr0
 have HC0 := Aside0.mk hc0
 clear hr0 hc0
 have HB := Aside0.mk (Below.refl w.heap.size w)
 have H : (if 0 ≤ (l0.length : Int) then (if ((l0.length : Int) : Int).toNat ≤ 11728124029610 then (laws_toSentS.l0 k l0 (List.replicate ((l0.length : Int) : Int).toNat z89) 0) else (none)) else (none)) = some r := h
 clear h
 by_cases c2 : 0 ≤ (l0.length : Int)
 ·rw [if_pos c2] at H
  have c2b0 := eq_true c2
  have c2b1 : decide (0 ≤ (l0.length : Int)) = true := decide_eq_true c2
  clear c2
  by_cases c3 : ((l0.length : Int) : Int).toNat ≤ 11728124029610
  ·rw [if_pos c3] at H
   have c3b0 := eq_true c3
   have c3b1 : decide (((l0.length : Int) : Int).toNat ≤ 11728124029610) = true := decide_eq_true c3
   clear c3
   obtain ⟨y139, hy139⟩ : ∃ y_ : List (S89), y_ = (List.replicate ((l0.length : Int) : Int).toNat z89) := ⟨_, rfl⟩
   replace H : (laws_toSentS.l0 k l0 y139 0) = some r := by first | (rw [hy139]; with_reducible exact H) | (have H2_ := (Option.bind_some _ _).symm.trans H; rw [hy139]; with_reducible exact H2_) | (have H2_ := (Option.bind_some _ _).symm.trans H; with_reducible exact H2_) | with_reducible exact H | (rw [hy139]; exact H) | exact H
   have Ny139 := Aside0.mk hy139
   clear hy139
   have H' := Aside0.mk H
   clear H
   go_enter Try.func54, Try.ntmps54
   go_wp2_with (first | ((with_reducible refine gate_dst (N := 7) rfl ?_); refine Kd.R_make k89 _ 89 rfl (N := 7) rfl 41 _ _ rfl (l0.length : Int) rfl rfl Try.underlying41 (.agg #[(.int .i64 0), (.int .i64 0), (.int .i64 0)]) 24 info89 rfl (by decide) (by omega) z89 (ok := fun _ => True) (okp := fun _ => True) (k89_mkM _ _ _ z89 ) (fun _ hk => hk) trivial (of_decide_eq_true (by first | (with_reducible assumption) | assumption)) (Nat.le_trans (Nat.mul_le_mul_right _ (of_decide_eq_true (by first | (with_reducible assumption) | assumption) : (l0.length : Int).toNat ≤ 11728124029610)) (by omega)) (Below.refl _ _) (Nat.le_refl _) ?_; intro v140 w4 ho5 hb hg_ hnew_; clear hg_ hnew_; (first | rw [← Ny139.out] at ho5 | (simp only [Int.reduceToNat] at ho5; rw [← Ny139.out] at ho5)); have n0_ := Aside0.mk (Kd.R_lower ho5 (below_size (by repeat (first | (with_reducible first | exact HB.out | apply below_alloc | apply pw_below_drewN | apply below_drew1) | exact HB.out)))); have n1_ := bS HB hb; clear HB; have HO141 := n0_; have HB := n1_; clear n0_ n1_; clear hb ho5))
   go_loopg [4] k (fun kq v4 w' => ∃ (x3_1 : List (S89)) (x4_1 : Int), v4 = .int .i64 x4_1 ∧ Aside0 (laws_toSentS.l0 kq l0 x3_1 x4_1 = some r) ∧ Aside0 (kq ≤ k) ∧ Aside0 (Kd.R k89 89 w' w.heap.size (fun _ => True) v140 x3_1) ∧ Aside0 (Below w.heap.size w w'))
   case atStart => exact ⟨(y139), (0), (by first | rfl | (simp; done) | (simp [*]; done)), H', ⟨Nat.le_refl _⟩, ⟨by (with_reducible repeat (first | apply Kd.R_alloc | apply Kd.R_drewN | apply Kd.R_drew)); exact HO141.out⟩, ⟨by repeat (first | (with_reducible first | exact HB.out | apply below_alloc | apply pw_below_drewN | apply below_drew1) | exact HB.out)⟩⟩
   case round =>
    clear H'
    try clear c2
    try clear c2b0
    try clear c2b1
    try clear p2
    try clear c3
    try clear c3b0
    try clear c3b1
    try clear c5
    obtain ⟨x3_1, x4_1, rfl, HA, HK1, HO_3, HB⟩ := hrel
    cases gk with
    | zero => exact absurd HA.out (by simp [laws_toSentS.l0])
    | succ k1 =>
     have H := HA.out
     clear HA
     simp only [laws_toSentS.l0] at H
     by_cases c6 : x4_1 < (l0.length : Int)
     ·rw [if_pos c6] at H
      have c6b0 : decide (x4_1 < (l0.length : Int)) = true := decide_eq_true c6
      clear c6
      by_cases c7 : 0 ≤ x4_1
      ·rw [if_pos c7] at H
       have c7b0 : decide (0 ≤ x4_1) = true := decide_eq_true c7
       clear c7
       replace H := Option.bind_eq_some_iff.mp H
       obtain ⟨⟨t143, t144, t145⟩, A80, H⟩ := H
       replace H : (if x4_1 < (x3_1.length : Int) then (laws_toSentS.l0 k1 l0 (x3_1.set (x4_1 : Int).toNat (⟨t143, t144, t145⟩ : S89)) (wrap64 (x4_1 + 1))) else (none)) = some r := H
       have A8 := Aside0.mk A80
       clear A80
       by_cases c9 : x4_1 < (x3_1.length : Int)
       ·rw [if_pos c9] at H
        have c9b0 : decide (x4_1 < (x3_1.length : Int)) = true := decide_eq_true c9
        clear c9
        obtain ⟨y146, hy146⟩ : ∃ y_ : List (S89), y_ = (x3_1.set (x4_1 : Int).toNat (⟨t143, t144, t145⟩ : S89)) := ⟨_, rfl⟩
        replace H : (laws_toSentS.l0 k1 l0 y146 (wrap64 (x4_1 + 1))) = some r := by first | (rw [hy146]; with_reducible exact H) | (have H2_ := (Option.bind_some _ _).symm.trans H; rw [hy146]; with_reducible exact H2_) | (have H2_ := (Option.bind_some _ _).symm.trans H; with_reducible exact H2_) | with_reducible exact H | (rw [hy146]; exact H) | exact H
        have Ny146 := Aside0.mk hy146
        clear hy146
        have H' := Aside0.mk H
        clear H
        have p142 : 0 ≤ (x4_1 : Int) := of_decide_eq_true (by first | (with_reducible assumption) | assumption)
        have q142 : x4_1 < (l0.length : Int) := of_decide_eq_true (by first | (with_reducible assumption) | assumption)
        obtain ⟨ad142, e142, hx142_0, hx142_1, hx142_2⟩ := at_T136 HR0.out x4_1 p142 q142
        cases e142
        replace hx142_0 := (HB.out.cell (World.block_lt_of_cell? w _ hx142_0)).trans hx142_0
        replace hx142_1 := (HB.out.cell (World.block_lt_of_cell? w _ hx142_1)).trans hx142_1
        replace hx142_2 := (HB.out.cell (World.block_lt_of_cell? w _ hx142_2)).trans hx142_2
        replace p142 := eq_true p142
        replace q142 := eq_true q142
        go_wp2_with (first | ((with_reducible refine gate_callee (f := 103) rfl ?_); refine goesL_ (some 20) rfl rfl Try.func103 (by kernel_rfl) rfl #[.agg #[.int .i64 ((rd_T136 l0 x4_1).f0), .int .i64 ((rd_T136 l0 x4_1).f1), .int .i64 ((rd_T136 l0 x4_1).f2)]] rfl (by (try simp only [List.map_toArray, List.map_cons, List.map_nil]); first | done | rfl | (simp only [List.length_drop, List.length_take]; rfl)) ?_; (with_reducible refine (laws_toSent.calls ((rd_T136 l0 x4_1).f0) ((rd_T136 l0 x4_1).f1) ((rd_T136 l0 x4_1).f2) t143 t144 t145 _ A8.out).mono ?_); rintro e w11 ⟨rfl, hb⟩; refine ⟨_, rfl, ?_⟩; have n0_ := Aside0.mk (Kd.R_below (mR HO_3.out) hb); have n1_ := bS HB hb; clear HO_3; clear HB; have HO_3 := n0_; have HB := n1_; clear n0_ n1_; (try clear hb); (try clear hb2); (try clear hk); (try clear hi); have p10 : 0 ≤ (x4_1 : Int) := of_decide_eq_true (by first | (with_reducible assumption) | assumption); have q10 : (x4_1 : Int) < ((x3_1.length : Int) : Int) := of_decide_eq_true (by first | (with_reducible assumption) | assumption); obtain ⟨go10, co10, eo10, gb10, gl10, cl10, HG10⟩ := Kd.R_form HO_3.out (by omega); (first | cases eo10 | (injection eo10 with ea_ en_ ec_; (first | subst ea_ | (injection ea_ with ea_; subst ea_)); subst ec_; clear en_)); have GB10 := Aside0.mk gb10; have GG10 := Aside0.mk HG10; clear gb10 gl10 HG10; obtain ⟨ce10, hcl10, hM10, hcc10, hfr10⟩ := Kd.R_elem HO_3.out z89 (x4_1 : Int) p10 q10; obtain rfl := k89_openM hM10; have hx10_0 : w11.cell? ⟨go10, (x4_1 : Int).toNat * 3, none⟩ = some (.int .i64 ((rd_T89 x3_1 x4_1).f0)) := hcc10 0 _ rfl; have hx10_1 : w11.cell? ⟨go10, (x4_1 : Int).toNat * 3 + 1, none⟩ = some (.int .i64 ((rd_T89 x3_1 x4_1).f1)) := hcc10 1 _ rfl; have hx10_2 : w11.cell? ⟨go10, (x4_1 : Int).toNat * 3 + 2, none⟩ = some (.int .i64 ((rd_T89 x3_1 x4_1).f2)) := hcc10 2 _ rfl; have hf10_0 : w11.frozen? ⟨go10, (x4_1 : Int).toNat * 3, none⟩ = false := hfr10 0; have hf10_1 : w11.frozen? ⟨go10, (x4_1 : Int).toNat * 3 + 1, none⟩ = false := hfr10 1; have hf10_2 : w11.frozen? ⟨go10, (x4_1 : Int).toNat * 3 + 2, none⟩ = false := hfr10 2; clear hcl10 hcc10 hfr10 hM10; replace p10 := eq_true p10; replace q10 := eq_true q10; have HX12 := Aside0.mk (show Kd.R k89 89 w11 w.heap.size (fun _ => True) (.slice (some ⟨go10, 0, none⟩) x3_1.length co10) x3_1 from (mR HO_3.out)); obtain ⟨ce12, hcl12, hM12, hcc12, hfr12⟩ := Kd.R_elem HX12.out z89 (x4_1 : Int) (of_decide_eq_true (by first | (with_reducible assumption) | assumption)) (by have h_ : (x4_1 : Int) < ((x3_1.length : Int) : Int) := of_decide_eq_true (by first | (with_reducible assumption) | assumption); first | exact h_ | (have e_ := (Kd.R_reads' HO_3.out).1; omega) | simpa using h_); obtain rfl := k89_openM hM12; have HP12 := Kd.R_seg HX12.out (x4_1 : Int) (of_decide_eq_true (by first | (with_reducible assumption) | assumption)) (by have h_ : (x4_1 : Int) < ((x3_1.length : Int) : Int) := of_decide_eq_true (by first | (with_reducible assumption) | assumption); first | exact h_ | (have e_ := (Kd.R_reads' HO_3.out).1; omega) | simpa using h_) (seg := [.int .i64 t143, .int .i64 t144, .int .i64 t145]) (j := 0) hcl12 hcc12 (show 3 ≤ 3 from by decide) (x' := (⟨t143, t144, t145⟩ : S89)) (k89_mkM _ _ _ (⟨t143, t144, t145⟩ : S89) ) (fun _ hk => hk); have hx12_0 := hcc12 0 _ rfl; (try simp only [show (k89).sz = 3 from rfl, Nat.mul_one, Nat.add_zero] at hx12_0); have hf12_0 := hfr12 0; (try simp only [show (k89).sz = 3 from rfl, Nat.mul_one, Nat.add_zero] at hf12_0); have hx12_1 := hcc12 1 _ rfl; (try simp only [show (k89).sz = 3 from rfl, Nat.mul_one, Nat.add_zero] at hx12_1); have hf12_1 := hfr12 1; (try simp only [show (k89).sz = 3 from rfl, Nat.mul_one, Nat.add_zero] at hf12_1); have hx12_2 := hcc12 2 _ rfl; (try simp only [show (k89).sz = 3 from rfl, Nat.mul_one, Nat.add_zero] at hx12_2); have hf12_2 := hfr12 2; (try simp only [show (k89).sz = 3 from rfl, Nat.mul_one, Nat.add_zero] at hf12_2); clear hcl12 hcc12 hfr12 hM12) | ((with_reducible refine gate_store (t := 89) (p := 21) rfl ?_); refine store_event (t := 89) (p := 21) (v := ?vo_w13) (w1 := (((w11.setCell ⟨go10, (x4_1 : Int).toNat * 3, none⟩ (.int .i64 t143)).setCell ⟨go10, (x4_1 : Int).toNat * 3 + 1, none⟩ (.int .i64 t144)).setCell ⟨go10, (x4_1 : Int).toNat * 3 + 2, none⟩ (.int .i64 t145))) ?hg ?ho ?hn ?hr ?_; (case ho => rfl); (case hg => rfl); (case hn => rfl); (case hr => first | (go_simp; done) | (go_simp; rfl)); intro w13 hw; have hg : w11.grownBy w13 (some go10) := (by rw [hw]; exact HP12.2); have hp_ : Kd.R k89 89 w13 w.heap.size (fun _ => True) (.slice (some ⟨go10, 0, none⟩) x3_1.length co10) y146 := (by rw [hw, Ny146.out]; exact HP12.1); clear HP12; have n0_ := Aside0.mk (hp_); have n1_ := Aside0.mk ((by rw [hw]; exact below_set (below_set (below_set (HB.out) GB10.out) GB10.out) GB10.out : Below w.heap.size w w13)); clear HO_3; clear HB; have HO_3 := n0_; have HB := n1_; clear n0_ n1_; clear hg hw hp_))
        go_roundg k1
        case measure => have := HK1.out; omega
        case rel => exact ⟨(y146), (wrap64 (x4_1 + 1)), (by first | rfl | (simp; done) | (simp [*]; done)), H', ⟨by have := HK1.out; omega⟩, ⟨by (with_reducible repeat (first | apply Kd.R_alloc | apply Kd.R_drewN | apply Kd.R_drew)); exact HO_3.out⟩, ⟨by repeat (first | (with_reducible first | exact HB.out | apply below_alloc | apply pw_below_drewN | apply below_drew1) | exact HB.out)⟩⟩
       ·rw [if_neg c9] at H
        exact absurd H (by simp)
      ·rw [if_neg c7] at H
       exact absurd H (by simp)
     ·rw [if_neg c6] at H
      have c6b0 : decide (x4_1 < (l0.length : Int)) = false := decide_eq_false c6
      clear c6
      obtain rfl := Option.some.inj H
      go_wp2
      go_ret
      exact ⟨_, by first | rfl | (simp [errW_none, errW_some] <;> rfl) | (simp [*, errW_none, errW_some] <;> rfl), by (with_reducible repeat (first | apply Kd.R_alloc | apply Kd.R_drewN | apply Kd.R_drew)); exact HO_3.out, by repeat (first | (with_reducible first | exact HB.out | apply below_alloc | apply pw_below_drewN | apply below_drew1) | exact HB.out)⟩
  ·rw [if_neg c3] at H
   exact absurd H (by simp)
 ·rw [if_neg c2] at H
  exact absurd H (by simp)

/-! ### laws_toRtt: function 55 -/
def laws_toRtt.f (a0_0 : Bool) (a0_1 : Int) (a0_2 : Int) (a0_3 : Int) (a0_4 : Int) : Option (Bool × Int × Int × Int × Int) := some (a0_0, a0_1, a0_2, a0_3, a0_4)
set_option maxHeartbeats 64000000 in
set_option maxRecDepth 100000 in
theorem laws_toRtt.calls (a0_0 : Bool) (a0_1 : Int) (a0_2 : Int) (a0_3 : Int) (a0_4 : Int) (r1 : Bool) (r2 : Int) (r3 : Int) (r4 : Int) (r5 : Int) (w : World) (h : laws_toRtt.f a0_0 a0_1 a0_2 a0_3 a0_4 = some (r1, r2, r3, r4, r5)) :
  Calls Try.prog 55 #[.agg #[.bool a0_0, .int .i64 a0_1, .int .i64 a0_2, .int .i64 a0_3, .int .i64 a0_4]] w fun e w' => e = .returned (.agg #[.bool r1, .int .i64 r2, .int .i64 r3, .int .i64 r4, .int .i64 r5]) ∧ Below w.heap.size w w' := by
 have hu36 := Try.underlying36
 have hu42 := Try.underlying42
 have HB := Aside0.mk (Below.refl w.heap.size w)
 have H : (some (a0_0, a0_1, a0_2, a0_3, a0_4)) = some (r1, r2, r3, r4, r5) := h
 clear h
 simp only [Option.some.injEq, Prod.mk.injEq] at H
 obtain ⟨rfl, rfl, rfl, rfl, rfl⟩ := H
 go_enter Try.func55, Try.ntmps55
 go_wp2_with (first | ((with_reducible refine gate_dst (N := 1) rfl ?_); refine box_event ?hg (N := 1) ?hd (cs := #[.bool a0_0, .int .i64 a0_1, .int .i64 a0_2, .int .i64 a0_3, .int .i64 a0_4]) (t := 36) ?hr ?_; (case hd => rfl); (case hg => rfl); (case hr => first | (go_simp; done) | (go_simp; rfl)); intro gb147 hg w2 hbox hb; have n0_ := bS HB hb; have n1_ := Aside0.mk (hbox); have n2_ := Aside0.mk ((by rw [hg]; exact (below_size (by repeat (first | (with_reducible first | exact HB.out | apply below_alloc | apply pw_below_drewN | apply below_drew1) | exact HB.out))) : w.heap.size ≤ gb147)); have n3_ := n2_; clear HB; have HB := n0_; have BK147 := n1_; have GW147 := n2_; have GE147 := n3_; clear n0_ n1_ n2_ n3_; clear hb hbox hg) | ((with_reducible refine gate_dst (N := 2) rfl ?_); refine box_event ?hg (N := 2) ?hd (cs := #[.bool false, .int .i64 0, .int .i64 0, .int .i64 0, .int .i64 0]) (t := 42) ?hr ?_; (case hd => rfl); (case hg => rfl); (case hr => first | (go_simp; done) | (go_simp; rfl)); intro gb148 hg w3 hbox hb; have n0_ := bX BK147 hb; have n1_ := bS HB hb; have n2_ := Aside0.mk (hbox); have n3_ := Aside0.mk ((by rw [hg]; exact (below_size (by repeat (first | (with_reducible first | exact HB.out | apply below_alloc | apply pw_below_drewN | apply below_drew1 | refine below_set ?_ GE147.out) | exact HB.out))) : w.heap.size ≤ gb148)); have n4_ := n3_; have n5_ := Aside0.mk ((by rw [hg]; exact Nat.ne_of_lt (bLt BK147) : gb147 ≠ gb148)); have n6_ := Aside0.mk ((by rw [hg]; exact Nat.ne_of_gt (bLt BK147) : gb148 ≠ gb147)); clear BK147; clear HB; have BK147 := n0_; have HB := n1_; have BK148 := n2_; have GW148 := n3_; have GE148 := n4_; have NB147_148 := n5_; have NB148_147 := n6_; clear n0_ n1_ n2_ n3_ n4_ n5_ n6_; clear hb hbox hg) | ((with_reducible refine gate_dst (N := 3) rfl ?_); refine box_event ?hg (N := 3) ?hd (cs := #[.bool false, .int .i64 0, .int .i64 0, .int .i64 0, .int .i64 0]) (t := 42) ?hr ?_; (case hd => rfl); (case hg => rfl); (case hr => first | (go_simp; done) | (go_simp; rfl)); intro gb149 hg w4 hbox hb; have n0_ := bX BK147 hb; have n1_ := bX BK148 hb; have n2_ := bS HB hb; have n3_ := Aside0.mk (hbox); have n4_ := Aside0.mk ((by rw [hg]; exact (below_size (by repeat (first | (with_reducible first | exact HB.out | apply below_alloc | apply pw_below_drewN | apply below_drew1 | refine below_set ?_ GE147.out | refine below_set ?_ GE148.out) | exact HB.out))) : w.heap.size ≤ gb149)); have n5_ := n4_; have n6_ := Aside0.mk ((by rw [hg]; exact Nat.ne_of_lt (bLt BK147) : gb147 ≠ gb149)); have n7_ := Aside0.mk ((by rw [hg]; exact Nat.ne_of_gt (bLt BK147) : gb149 ≠ gb147)); have n8_ := Aside0.mk ((by rw [hg]; exact Nat.ne_of_lt (bLt BK148) : gb148 ≠ gb149)); have n9_ := Aside0.mk ((by rw [hg]; exact Nat.ne_of_gt (bLt BK148) : gb149 ≠ gb148)); clear BK147; clear BK148; clear HB; have BK147 := n0_; have BK148 := n1_; have HB := n2_; have BK149 := n3_; have GW149 := n4_; have GE149 := n5_; have NB147_149 := n6_; have NB149_147 := n7_; have NB148_149 := n8_; have NB149_148 := n9_; clear n0_ n1_ n2_ n3_ n4_ n5_ n6_ n7_ n8_ n9_; clear hb hbox hg; have hnb5 := NB147_148.out; have hnc5 := NB148_147.out; have hnb6 := NB147_149.out; have hnc6 := NB149_147.out; obtain ⟨hcz7_0, hcz7_1, hcz7_2, hcz7_3, hcz7_4⟩ := cz5 BK147; obtain ⟨hfz7_0, hfz7_1, hfz7_2, hfz7_3, hfz7_4⟩ := fz5 BK147; have hnb8 := NB149_148.out; have hnc8 := NB148_149.out; obtain ⟨hcz9_0, hcz9_1, hcz9_2, hcz9_3, hcz9_4⟩ := cz5 BK149; obtain ⟨hfz9_0, hfz9_1, hfz9_2, hfz9_3, hfz9_4⟩ := fz5 BK149; obtain ⟨hcz10_0, hcz10_1, hcz10_2, hcz10_3, hcz10_4⟩ := cz5 BK148; obtain ⟨hfz10_0, hfz10_1, hfz10_2, hfz10_3, hfz10_4⟩ := fz5 BK148))
 refine bodyPost_ret (results_cell_row rfl _ _ gb148 42 #[.bool a0_0, .int .i64 a0_1, .int .i64 a0_2, .int .i64 a0_3, .int .i64 a0_4] (0, 0) _ rfl (by (with_reducible repeat (first | refine bN ?_ _ | refine bD ?_ | refine bA ?_ _)); refine blk_put (cs := #[.bool a0_0, .int .i64 a0_1, .int .i64 a0_2, .int .i64 a0_3, .int .i64 0]) ?_ 4 _ rfl; (with_reducible repeat (first | refine bN ?_ _ | refine bD ?_ | refine bA ?_ _)); refine blk_put (cs := #[.bool a0_0, .int .i64 a0_1, .int .i64 a0_2, .int .i64 0, .int .i64 0]) ?_ 3 _ rfl; (with_reducible repeat (first | refine bN ?_ _ | refine bD ?_ | refine bA ?_ _)); refine blk_put (cs := #[.bool a0_0, .int .i64 a0_1, .int .i64 0, .int .i64 0, .int .i64 0]) ?_ 2 _ rfl; (with_reducible repeat (first | refine bN ?_ _ | refine bD ?_ | refine bA ?_ _)); refine blk_put (cs := #[.bool a0_0, .int .i64 0, .int .i64 0, .int .i64 0, .int .i64 0]) ?_ 1 _ rfl; (with_reducible repeat (first | refine bN ?_ _ | refine bD ?_ | refine bA ?_ _)); refine blk_put (cs := #[.bool false, .int .i64 0, .int .i64 0, .int .i64 0, .int .i64 0]) ?_ 0 _ rfl; (with_reducible repeat (first | refine bN ?_ _ | refine bD ?_ | refine bA ?_ _)); refine blk_far ?_ NB148_149.out _; (with_reducible repeat (first | refine bN ?_ _ | refine bD ?_ | refine bA ?_ _)); refine blk_far ?_ NB148_149.out _; (with_reducible repeat (first | refine bN ?_ _ | refine bD ?_ | refine bA ?_ _)); refine blk_far ?_ NB148_149.out _; (with_reducible repeat (first | refine bN ?_ _ | refine bD ?_ | refine bA ?_ _)); refine blk_far ?_ NB148_149.out _; (with_reducible repeat (first | refine bN ?_ _ | refine bD ?_ | refine bA ?_ _)); refine blk_far ?_ NB148_149.out _; (with_reducible repeat (first | refine bN ?_ _ | refine bD ?_ | refine bA ?_ _)); exact BK148.out) Try.underlying42 rfl (by kernel_rfl)) rfl ?_
 exact ⟨by first | rfl | (simp [errW_none, errW_some] <;> rfl) | (simp [*, errW_none, errW_some] <;> rfl), by repeat (first | (with_reducible first | exact HB.out | apply below_alloc | apply pw_below_drewN | apply below_drew1 | refine below_set ?_ GE147.out | refine below_set ?_ GE148.out | refine below_set ?_ GE149.out) | exact HB.out)⟩

/-! ### laws_toSpace: function 16 -/
def laws_toSpace.f (k : Nat) (a0_0 : Int) (l0_1 : List (S136)) (a0_2 : Bool) (a0_3 : Int) (a0_4 : Int) (a0_5 : Int) (a0_6 : Int) : Option (Int × (List (S89)) × Bool × Int × Int × Int × Int) := (laws_toSentS.f k l0_1).bind fun t153 => ((laws_toRtt.f a0_2 a0_3 a0_4 a0_5 a0_6).bind fun bt156 => (some (a0_0, t153, bt156.1, bt156.2.1, bt156.2.2.1, bt156.2.2.2.1, bt156.2.2.2.2)))
theorem laws_toSpace.mono : ∀ a0 a1 a2 a3 a4 a5 a6 k, LeO (laws_toSpace.f k a0 a1 a2 a3 a4 a5 a6) (laws_toSpace.f (k + 1) a0 a1 a2 a3 a4 a5 a6) := by
 intro a0 a1 a2 a3 a4 a5 a6 k
 unfold laws_toSpace.f
 repeat' first
   | (with_reducible exact laws_toSentS.mono _ _)
   | (with_reducible exact LeO.refl _)
   | (with_reducible exact LeO.none _)
   | (with_reducible refine LeO.ite ?_ ?_)
   | (with_reducible refine LeO.bind ?_ (fun _ => ?_))
   | exact laws_toSentS.mono _ _
   | exact LeO.none _
   | refine LeO.ite ?_ ?_
   | refine LeO.bind ?_ (fun _ => ?_)
set_option maxHeartbeats 64000000 in
set_option maxRecDepth 100000 in
theorem laws_toSpace.calls (k : Nat) (a0_0 : Int) (A0_1 : Option Addr) (c0_1 : Nat) (l0_1 : List (S136)) (a0_2 : Bool) (a0_3 : Int) (a0_4 : Int) (a0_5 : Int) (a0_6 : Int) (r1 : Int) (r2 : List (S89)) (r3 : Bool) (r4 : Int) (r5 : Int) (r6 : Int) (r7 : Int) (w : World) (hr0_1 : Kd.C k136 w A0_1 l0_1.length l0_1) (hc0_1 : l0_1.length ≤ c0_1) (h : laws_toSpace.f k a0_0 l0_1 a0_2 a0_3 a0_4 a0_5 a0_6 = some (r1, r2, r3, r4, r5, r6, r7)) :
  Calls Try.prog 16 #[.agg #[.int .i64 a0_0, .slice A0_1 l0_1.length c0_1, .bool a0_2, .int .i64 a0_3, .int .i64 a0_4, .int .i64 a0_5, .int .i64 a0_6]] w fun e w' => ∃ v1_ : Value, e = .returned (.agg #[.int .i64 r1, v1_, .bool r3, .int .i64 r4, .int .i64 r5, .int .i64 r6, .int .i64 r7]) ∧ Kd.R k89 89 w' w.heap.size (fun _ => True) v1_ r2 ∧ Below w.heap.size w w' := by
 have hu38 := Try.underlying38
 have hu44 := Try.underlying44
 have hu36 := Try.underlying36
 have hu42 := Try.underlying42
 have HR0_1 := Aside0.mk hr0_1
 have HC0_1 := Aside0.mk hc0_1
 clear hr0_1 hc0_1
 have HB := Aside0.mk (Below.refl w.heap.size w)
 have H : ((laws_toSentS.f k l0_1).bind fun t153 => ((laws_toRtt.f a0_2 a0_3 a0_4 a0_5 a0_6).bind fun bt156 => (some (a0_0, t153, bt156.1, bt156.2.1, bt156.2.2.1, bt156.2.2.2.1, bt156.2.2.2.2)))) = some (r1, r2, r3, r4, r5, r6, r7) := h
 clear h
 replace H := Option.bind_eq_some_iff.mp H
 obtain ⟨t153, A20, H⟩ := H
 replace H : ((laws_toRtt.f a0_2 a0_3 a0_4 a0_5 a0_6).bind fun bt156 => (some (a0_0, t153, bt156.1, bt156.2.1, bt156.2.2.1, bt156.2.2.2.1, bt156.2.2.2.2))) = some (r1, r2, r3, r4, r5, r6, r7) := H
 have A2 := Aside0.mk A20
 clear A20
 replace H := Option.bind_eq_some_iff.mp H
 obtain ⟨⟨t156, t157, t158, t159, t160⟩, A30, H⟩ := H
 replace H : (some (a0_0, t153, t156, t157, t158, t159, t160)) = some (r1, r2, r3, r4, r5, r6, r7) := H
 have A3 := Aside0.mk A30
 clear A30
 simp only [Option.some.injEq, Prod.mk.injEq] at H
 obtain ⟨rfl, rfl, rfl, rfl, rfl, rfl, rfl⟩ := H
 go_enter Try.func16, Try.ntmps16
 go_wp2_with (first | ((with_reducible refine gate_dst (N := 1) rfl ?_); refine box_event ?hg (N := 1) ?hd (cs := #[.int .i64 a0_0, .slice A0_1 l0_1.length c0_1, .bool a0_2, .int .i64 a0_3, .int .i64 a0_4, .int .i64 a0_5, .int .i64 a0_6]) (t := 38) ?hr ?_; (case hd => rfl); (case hg => rfl); (case hr => first | (go_simp; done) | (go_simp; rfl)); intro gb150 hg w4 hbox hb; have n0_ := bS HB hb; have n1_ := Aside0.mk (hbox); have n2_ := Aside0.mk ((by rw [hg]; exact (below_size (by repeat (first | (with_reducible first | exact HB.out | apply below_alloc | apply pw_below_drewN | apply below_drew1) | exact HB.out))) : w.heap.size ≤ gb150)); have n3_ := n2_; clear HB; have HB := n0_; have BK150 := n1_; have GW150 := n2_; have GE150 := n3_; clear n0_ n1_ n2_ n3_; clear hb hbox hg) | ((with_reducible refine gate_dst (N := 2) rfl ?_); refine box_event ?hg (N := 2) ?hd (cs := #[.int .i64 0, .slice none 0 0, .bool false, .int .i64 0, .int .i64 0, .int .i64 0, .int .i64 0]) (t := 44) ?hr ?_; (case hd => rfl); (case hg => rfl); (case hr => first | (go_simp; done) | (go_simp; rfl)); intro gb151 hg w5 hbox hb; have n0_ := bX BK150 hb; have n1_ := bS HB hb; have n2_ := Aside0.mk (hbox); have n3_ := Aside0.mk ((by rw [hg]; exact (below_size (by repeat (first | (with_reducible first | exact HB.out | apply below_alloc | apply pw_below_drewN | apply below_drew1 | refine below_set ?_ GE150.out) | exact HB.out))) : w.heap.size ≤ gb151)); have n4_ := n3_; have n5_ := Aside0.mk ((by rw [hg]; exact Nat.ne_of_lt (bLt BK150) : gb150 ≠ gb151)); have n6_ := Aside0.mk ((by rw [hg]; exact Nat.ne_of_gt (bLt BK150) : gb151 ≠ gb150)); clear BK150; clear HB; have BK150 := n0_; have HB := n1_; have BK151 := n2_; have GW151 := n3_; have GE151 := n4_; have NB150_151 := n5_; have NB151_150 := n6_; clear n0_ n1_ n2_ n3_ n4_ n5_ n6_; clear hb hbox hg) | ((with_reducible refine gate_dst (N := 3) rfl ?_); refine box_event ?hg (N := 3) ?hd (cs := #[.int .i64 0, .slice none 0 0, .bool false, .int .i64 0, .int .i64 0, .int .i64 0, .int .i64 0]) (t := 44) ?hr ?_; (case hd => rfl); (case hg => rfl); (case hr => first | (go_simp; done) | (go_simp; rfl)); intro gb152 hg w6 hbox hb; have n0_ := bX BK150 hb; have n1_ := bX BK151 hb; have n2_ := bS HB hb; have n3_ := Aside0.mk (hbox); have n4_ := Aside0.mk ((by rw [hg]; exact (below_size (by repeat (first | (with_reducible first | exact HB.out | apply below_alloc | apply pw_below_drewN | apply below_drew1 | refine below_set ?_ GE150.out | refine below_set ?_ GE151.out) | exact HB.out))) : w.heap.size ≤ gb152)); have n5_ := n4_; have n6_ := Aside0.mk ((by rw [hg]; exact Nat.ne_of_lt (bLt BK150) : gb150 ≠ gb152)); have n7_ := Aside0.mk ((by rw [hg]; exact Nat.ne_of_gt (bLt BK150) : gb152 ≠ gb150)); have n8_ := Aside0.mk ((by rw [hg]; exact Nat.ne_of_lt (bLt BK151) : gb151 ≠ gb152)); have n9_ := Aside0.mk ((by rw [hg]; exact Nat.ne_of_gt (bLt BK151) : gb152 ≠ gb151)); clear BK150; clear BK151; clear HB; have BK150 := n0_; have BK151 := n1_; have HB := n2_; have BK152 := n3_; have GW152 := n4_; have GE152 := n5_; have NB150_152 := n6_; have NB152_150 := n7_; have NB151_152 := n8_; have NB152_151 := n9_; clear n0_ n1_ n2_ n3_ n4_ n5_ n6_ n7_ n8_ n9_; clear hb hbox hg; have hnb7 := NB150_151.out; have hnc7 := NB151_150.out; have hnb8 := NB150_152.out; have hnc8 := NB152_150.out; obtain ⟨hcz9_0, hcz9_1, hcz9_2, hcz9_3, hcz9_4, hcz9_5, hcz9_6⟩ := cz7 BK150; obtain ⟨hfz9_0, hfz9_1, hfz9_2, hfz9_3, hfz9_4, hfz9_5, hfz9_6⟩ := fz7 BK150; have hnb10 := NB152_151.out; have hnc10 := NB151_152.out; obtain ⟨hcz11_0, hcz11_1, hcz11_2, hcz11_3, hcz11_4, hcz11_5, hcz11_6⟩ := cz7 BK152; obtain ⟨hfz11_0, hfz11_1, hfz11_2, hfz11_3, hfz11_4, hfz11_5, hfz11_6⟩ := fz7 BK152) | ((with_reducible refine gate_callee (f := 54) rfl ?_); refine goesL_ (some 9) rfl rfl Try.func54 (by kernel_rfl) rfl #[.slice A0_1 l0_1.length c0_1] rfl (by (try simp only [List.map_toArray, List.map_cons, List.map_nil]); first | done | rfl | (simp only [List.length_drop, List.length_take]; rfl)) ?_; (with_reducible refine (laws_toSentS.calls k _ _ l0_1 t153 _ ?side1 ?side2 A2.out).mono ?_); (case side1 => exact Kd.C_below HR0_1.out (by repeat (first | (with_reducible first | exact HB.out | apply below_alloc | apply pw_below_drewN | apply below_drew1 | refine below_set ?_ GE150.out | refine below_set ?_ GE151.out | refine below_set ?_ GE152.out) | exact HB.out))); (case side2 => exact HC0_1.out); rintro e w12 ⟨v154, rfl, ho0, hb⟩; refine ⟨_, rfl, ?_⟩; have n0_ := Aside0.mk (Kd.R_lower ho0 (below_size (by repeat (first | (with_reducible first | exact HB.out | apply below_alloc | apply pw_below_drewN | apply below_drew1 | refine below_set ?_ GE150.out | refine below_set ?_ GE151.out | refine below_set ?_ GE152.out) | exact HB.out)))); have n1_ := Aside0.mk (blk_below (g := gb150) (o := .cells #[.int .i64 a0_0, .slice A0_1 l0_1.length c0_1, .bool a0_2, .int .i64 a0_3, .int .i64 a0_4, .int .i64 a0_5, .int .i64 a0_6] 38 (0, 0)) (by (with_reducible repeat (first | refine bN ?_ _ | refine bD ?_ | refine bA ?_ _)); refine blk_far ?_ NB150_152.out _; (with_reducible repeat (first | refine bN ?_ _ | refine bD ?_ | refine bA ?_ _)); exact BK150.out) hb); have n2_ := Aside0.mk (blk_below (g := gb151) (o := .cells #[.int .i64 0, .slice none 0 0, .bool false, .int .i64 0, .int .i64 0, .int .i64 0, .int .i64 0] 44 (0, 0)) (by (with_reducible repeat (first | refine bN ?_ _ | refine bD ?_ | refine bA ?_ _)); refine blk_far ?_ NB151_152.out _; (with_reducible repeat (first | refine bN ?_ _ | refine bD ?_ | refine bA ?_ _)); exact BK151.out) hb); have n3_ := Aside0.mk (blk_below (g := gb152) (o := .cells #[.int .i64 a0_0, .slice none 0 0, .bool false, .int .i64 0, .int .i64 0, .int .i64 0, .int .i64 0] 44 (0, 0)) (by (with_reducible repeat (first | refine bN ?_ _ | refine bD ?_ | refine bA ?_ _)); refine blk_put (cs := #[.int .i64 0, .slice none 0 0, .bool false, .int .i64 0, .int .i64 0, .int .i64 0, .int .i64 0]) ?_ 0 _ rfl; (with_reducible repeat (first | refine bN ?_ _ | refine bD ?_ | refine bA ?_ _)); exact BK152.out) hb); have n4_ := bS HB hb; clear BK150; clear BK151; clear BK152; clear HB; have HO155 := n0_; have BK150 := n1_; have BK151 := n2_; have BK152 := n3_; have HB := n4_; clear n0_ n1_ n2_ n3_ n4_; (try clear hb); (try clear hb2); (try clear hk); (try clear hi); (try clear ho0); obtain ⟨Ao13, co13, eo13⟩ := Kd.R_slice HO155.out; subst eo13; obtain ⟨hcz14_0, hcz14_1, hcz14_2, hcz14_3, hcz14_4, hcz14_5, hcz14_6⟩ := cz7 BK152; obtain ⟨hfz14_0, hfz14_1, hfz14_2, hfz14_3, hfz14_4, hfz14_5, hfz14_6⟩ := fz7 BK152; obtain ⟨hcz15_0, hcz15_1, hcz15_2, hcz15_3, hcz15_4, hcz15_5, hcz15_6⟩ := cz7 BK150; obtain ⟨hfz15_0, hfz15_1, hfz15_2, hfz15_3, hfz15_4, hfz15_5, hfz15_6⟩ := fz7 BK150) | ((with_reducible refine gate_callee (f := 55) rfl ?_); refine goesL_ (some 13) rfl rfl Try.func55 (by kernel_rfl) rfl #[.agg #[.bool a0_2, .int .i64 a0_3, .int .i64 a0_4, .int .i64 a0_5, .int .i64 a0_6]] rfl (by (try simp only [List.map_toArray, List.map_cons, List.map_nil]); first | done | rfl | (simp only [List.length_drop, List.length_take]; rfl)) ?_; (with_reducible refine (laws_toRtt.calls a0_2 a0_3 a0_4 a0_5 a0_6 t156 t157 t158 t159 t160 _ A3.out).mono ?_); rintro e w16 ⟨rfl, hb⟩; refine ⟨_, rfl, ?_⟩; have n0_ := Aside0.mk (Kd.R_below (by (with_reducible repeat (first | apply Kd.R_alloc | apply Kd.R_drewN | apply Kd.R_drew)); exact (Kd.R_mono (Kd.R_far (p := ⟨gb152, 1, none⟩) (Kd.R_types HO155.out BK152.out (by decide)) (fun _ hk => hk.2) (.slice Ao13 t153.length co13)) (fun _ h_ => h_.1))) hb); have n1_ := Aside0.mk (blk_below (g := gb150) (o := .cells #[.int .i64 a0_0, .slice A0_1 l0_1.length c0_1, .bool a0_2, .int .i64 a0_3, .int .i64 a0_4, .int .i64 a0_5, .int .i64 a0_6] 38 (0, 0)) (by (with_reducible repeat (first | refine bN ?_ _ | refine bD ?_ | refine bA ?_ _)); refine blk_far ?_ NB150_152.out _; (with_reducible repeat (first | refine bN ?_ _ | refine bD ?_ | refine bA ?_ _)); exact BK150.out) hb); have n2_ := Aside0.mk (blk_below (g := gb151) (o := .cells #[.int .i64 0, .slice none 0 0, .bool false, .int .i64 0, .int .i64 0, .int .i64 0, .int .i64 0] 44 (0, 0)) (by (with_reducible repeat (first | refine bN ?_ _ | refine bD ?_ | refine bA ?_ _)); refine blk_far ?_ NB151_152.out _; (with_reducible repeat (first | refine bN ?_ _ | refine bD ?_ | refine bA ?_ _)); exact BK151.out) hb); have n3_ := Aside0.mk (blk_below (g := gb152) (o := .cells #[.int .i64 a0_0, .slice Ao13 t153.length co13, .bool false, .int .i64 0, .int .i64 0, .int .i64 0, .int .i64 0] 44 (0, 0)) (by (with_reducible repeat (first | refine bN ?_ _ | refine bD ?_ | refine bA ?_ _)); refine blk_put (cs := #[.int .i64 a0_0, .slice none 0 0, .bool false, .int .i64 0, .int .i64 0, .int .i64 0, .int .i64 0]) ?_ 1 _ rfl; (with_reducible repeat (first | refine bN ?_ _ | refine bD ?_ | refine bA ?_ _)); exact BK152.out) hb); have n4_ := bS HB hb; clear HO155; clear BK150; clear BK151; clear BK152; clear HB; have HO155 := n0_; have BK150 := n1_; have BK151 := n2_; have BK152 := n3_; have HB := n4_; clear n0_ n1_ n2_ n3_ n4_; (try clear hb); (try clear hb2); (try clear hk); (try clear hi); obtain ⟨hcz17_0, hcz17_1, hcz17_2, hcz17_3, hcz17_4, hcz17_5, hcz17_6⟩ := cz7 BK152; obtain ⟨hfz17_0, hfz17_1, hfz17_2, hfz17_3, hfz17_4, hfz17_5, hfz17_6⟩ := fz7 BK152; obtain ⟨hcz18_0, hcz18_1, hcz18_2, hcz18_3, hcz18_4, hcz18_5, hcz18_6⟩ := cz7 BK151; obtain ⟨hfz18_0, hfz18_1, hfz18_2, hfz18_3, hfz18_4, hfz18_5, hfz18_6⟩ := fz7 BK151))
 refine bodyPost_ret (results_cell_row rfl _ _ gb151 44 #[.int .i64 a0_0, .slice Ao13 t153.length co13, .bool t156, .int .i64 t157, .int .i64 t158, .int .i64 t159, .int .i64 t160] (0, 0) _ rfl (by (with_reducible repeat (first | refine bN ?_ _ | refine bD ?_ | refine bA ?_ _)); refine blk_put (cs := #[.int .i64 a0_0, .slice Ao13 t153.length co13, .bool t156, .int .i64 t157, .int .i64 t158, .int .i64 t159, .int .i64 0]) ?_ 6 _ rfl; (with_reducible repeat (first | refine bN ?_ _ | refine bD ?_ | refine bA ?_ _)); refine blk_put (cs := #[.int .i64 a0_0, .slice Ao13 t153.length co13, .bool t156, .int .i64 t157, .int .i64 t158, .int .i64 0, .int .i64 0]) ?_ 5 _ rfl; (with_reducible repeat (first | refine bN ?_ _ | refine bD ?_ | refine bA ?_ _)); refine blk_put (cs := #[.int .i64 a0_0, .slice Ao13 t153.length co13, .bool t156, .int .i64 t157, .int .i64 0, .int .i64 0, .int .i64 0]) ?_ 4 _ rfl; (with_reducible repeat (first | refine bN ?_ _ | refine bD ?_ | refine bA ?_ _)); refine blk_put (cs := #[.int .i64 a0_0, .slice Ao13 t153.length co13, .bool t156, .int .i64 0, .int .i64 0, .int .i64 0, .int .i64 0]) ?_ 3 _ rfl; (with_reducible repeat (first | refine bN ?_ _ | refine bD ?_ | refine bA ?_ _)); refine blk_put (cs := #[.int .i64 a0_0, .slice Ao13 t153.length co13, .bool false, .int .i64 0, .int .i64 0, .int .i64 0, .int .i64 0]) ?_ 2 _ rfl; (with_reducible repeat (first | refine bN ?_ _ | refine bD ?_ | refine bA ?_ _)); refine blk_put (cs := #[.int .i64 a0_0, .slice none 0 0, .bool false, .int .i64 0, .int .i64 0, .int .i64 0, .int .i64 0]) ?_ 1 _ rfl; (with_reducible repeat (first | refine bN ?_ _ | refine bD ?_ | refine bA ?_ _)); refine blk_put (cs := #[.int .i64 0, .slice none 0 0, .bool false, .int .i64 0, .int .i64 0, .int .i64 0, .int .i64 0]) ?_ 0 _ rfl; (with_reducible repeat (first | refine bN ?_ _ | refine bD ?_ | refine bA ?_ _)); refine blk_far ?_ NB151_152.out _; (with_reducible repeat (first | refine bN ?_ _ | refine bD ?_ | refine bA ?_ _)); refine blk_far ?_ NB151_152.out _; (with_reducible repeat (first | refine bN ?_ _ | refine bD ?_ | refine bA ?_ _)); refine blk_far ?_ NB151_152.out _; (with_reducible repeat (first | refine bN ?_ _ | refine bD ?_ | refine bA ?_ _)); refine blk_far ?_ NB151_152.out _; (with_reducible repeat (first | refine bN ?_ _ | refine bD ?_ | refine bA ?_ _)); refine blk_far ?_ NB151_152.out _; (with_reducible repeat (first | refine bN ?_ _ | refine bD ?_ | refine bA ?_ _)); exact BK151.out) Try.underlying44 rfl (by kernel_rfl)) rfl ?_
 exact ⟨_, by first | rfl | (simp [errW_none, errW_some] <;> rfl) | (simp [*, errW_none, errW_some] <;> rfl), by (with_reducible repeat (first | apply Kd.R_alloc | apply Kd.R_drewN | apply Kd.R_drew)); exact Kd.R_mono (Kd.R_far (p := ⟨gb151, 6, none⟩) (Kd.R_far (p := ⟨gb151, 5, none⟩) (Kd.R_far (p := ⟨gb151, 4, none⟩) (Kd.R_far (p := ⟨gb151, 3, none⟩) (Kd.R_far (p := ⟨gb151, 2, none⟩) (Kd.R_far (p := ⟨gb151, 1, none⟩) (Kd.R_far (p := ⟨gb151, 0, none⟩) (Kd.R_far (p := ⟨gb152, 6, none⟩) (Kd.R_far (p := ⟨gb152, 5, none⟩) (Kd.R_far (p := ⟨gb152, 4, none⟩) (Kd.R_far (p := ⟨gb152, 3, none⟩) (Kd.R_far (p := ⟨gb152, 2, none⟩) (Kd.R_types (Kd.R_types HO155.out BK152.out (by decide)) BK151.out (by decide)) (fun _ hk => hk.1.2) (.bool t156)) (fun _ hk => hk.1.2) (.int .i64 t157)) (fun _ hk => hk.1.2) (.int .i64 t158)) (fun _ hk => hk.1.2) (.int .i64 t159)) (fun _ hk => hk.1.2) (.int .i64 t160)) (fun _ hk => hk.2) (.int .i64 a0_0)) (fun _ hk => hk.2) (.slice Ao13 t153.length co13)) (fun _ hk => hk.2) (.bool t156)) (fun _ hk => hk.2) (.int .i64 t157)) (fun _ hk => hk.2) (.int .i64 t158)) (fun _ hk => hk.2) (.int .i64 t159)) (fun _ hk => hk.2) (.int .i64 t160)) (fun _ hk => trivial), by repeat (first | (with_reducible first | exact HB.out | apply below_alloc | apply pw_below_drewN | apply below_drew1 | refine below_set ?_ GE150.out | refine below_set ?_ GE151.out | refine below_set ?_ GE152.out) | exact HB.out)⟩

/-! ### laws_toRange: function 56 -/
def laws_toRange.f (a0_0 : Int) (a0_1 : Int) : Option (Int × Int) := some (a0_0, a0_1)
set_option maxHeartbeats 64000000 in
set_option maxRecDepth 100000 in
theorem laws_toRange.calls (a0_0 : Int) (a0_1 : Int) (r1 : Int) (r2 : Int) (w : World) (h : laws_toRange.f a0_0 a0_1 = some (r1, r2)) :
  Calls Try.prog 56 #[.agg #[.int .i64 a0_0, .int .i64 a0_1]] w fun e w' => e = .returned (.agg #[.int .i64 r1, .int .i64 r2]) ∧ Below w.heap.size w w' := by
 have hu99 := Try.underlying99
 have hu92 := Try.underlying92
 have HB := Aside0.mk (Below.refl w.heap.size w)
 have H : (some (a0_0, a0_1)) = some (r1, r2) := h
 clear h
 simp only [Option.some.injEq, Prod.mk.injEq] at H
 obtain ⟨rfl, rfl⟩ := H
 go_enter Try.func56, Try.ntmps56
 go_wp2_with (first | ((with_reducible refine gate_dst (N := 1) rfl ?_); refine box_event ?hg (N := 1) ?hd (cs := #[.int .i64 a0_0, .int .i64 a0_1]) (t := 99) ?hr ?_; (case hd => rfl); (case hg => rfl); (case hr => first | (go_simp; done) | (go_simp; rfl)); intro gb161 hg w2 hbox hb; have n0_ := bS HB hb; have n1_ := Aside0.mk (hbox); have n2_ := Aside0.mk ((by rw [hg]; exact (below_size (by repeat (first | (with_reducible first | exact HB.out | apply below_alloc | apply pw_below_drewN | apply below_drew1) | exact HB.out))) : w.heap.size ≤ gb161)); have n3_ := n2_; clear HB; have HB := n0_; have BK161 := n1_; have GW161 := n2_; have GE161 := n3_; clear n0_ n1_ n2_ n3_; clear hb hbox hg) | ((with_reducible refine gate_dst (N := 2) rfl ?_); refine box_event ?hg (N := 2) ?hd (cs := #[.int .i64 0, .int .i64 0]) (t := 92) ?hr ?_; (case hd => rfl); (case hg => rfl); (case hr => first | (go_simp; done) | (go_simp; rfl)); intro gb162 hg w3 hbox hb; have n0_ := bX BK161 hb; have n1_ := bS HB hb; have n2_ := Aside0.mk (hbox); have n3_ := Aside0.mk ((by rw [hg]; exact (below_size (by repeat (first | (with_reducible first | exact HB.out | apply below_alloc | apply pw_below_drewN | apply below_drew1 | refine below_set ?_ GE161.out) | exact HB.out))) : w.heap.size ≤ gb162)); have n4_ := n3_; have n5_ := Aside0.mk ((by rw [hg]; exact Nat.ne_of_lt (bLt BK161) : gb161 ≠ gb162)); have n6_ := Aside0.mk ((by rw [hg]; exact Nat.ne_of_gt (bLt BK161) : gb162 ≠ gb161)); clear BK161; clear HB; have BK161 := n0_; have HB := n1_; have BK162 := n2_; have GW162 := n3_; have GE162 := n4_; have NB161_162 := n5_; have NB162_161 := n6_; clear n0_ n1_ n2_ n3_ n4_ n5_ n6_; clear hb hbox hg) | ((with_reducible refine gate_dst (N := 3) rfl ?_); refine box_event ?hg (N := 3) ?hd (cs := #[.int .i64 0, .int .i64 0]) (t := 92) ?hr ?_; (case hd => rfl); (case hg => rfl); (case hr => first | (go_simp; done) | (go_simp; rfl)); intro gb163 hg w4 hbox hb; have n0_ := bX BK161 hb; have n1_ := bX BK162 hb; have n2_ := bS HB hb; have n3_ := Aside0.mk (hbox); have n4_ := Aside0.mk ((by rw [hg]; exact (below_size (by repeat (first | (with_reducible first | exact HB.out | apply below_alloc | apply pw_below_drewN | apply below_drew1 | refine below_set ?_ GE161.out | refine below_set ?_ GE162.out) | exact HB.out))) : w.heap.size ≤ gb163)); have n5_ := n4_; have n6_ := Aside0.mk ((by rw [hg]; exact Nat.ne_of_lt (bLt BK161) : gb161 ≠ gb163)); have n7_ := Aside0.mk ((by rw [hg]; exact Nat.ne_of_gt (bLt BK161) : gb163 ≠ gb161)); have n8_ := Aside0.mk ((by rw [hg]; exact Nat.ne_of_lt (bLt BK162) : gb162 ≠ gb163)); have n9_ := Aside0.mk ((by rw [hg]; exact Nat.ne_of_gt (bLt BK162) : gb163 ≠ gb162)); clear BK161; clear BK162; clear HB; have BK161 := n0_; have BK162 := n1_; have HB := n2_; have BK163 := n3_; have GW163 := n4_; have GE163 := n5_; have NB161_163 := n6_; have NB163_161 := n7_; have NB162_163 := n8_; have NB163_162 := n9_; clear n0_ n1_ n2_ n3_ n4_ n5_ n6_ n7_ n8_ n9_; clear hb hbox hg; have hnb5 := NB161_162.out; have hnc5 := NB162_161.out; have hnb6 := NB161_163.out; have hnc6 := NB163_161.out; obtain ⟨hcz7_0, hcz7_1⟩ := cz2 BK161; obtain ⟨hfz7_0, hfz7_1⟩ := fz2 BK161; have hnb8 := NB163_162.out; have hnc8 := NB162_163.out; obtain ⟨hcz9_0, hcz9_1⟩ := cz2 BK163; obtain ⟨hfz9_0, hfz9_1⟩ := fz2 BK163; obtain ⟨hcz10_0, hcz10_1⟩ := cz2 BK162; obtain ⟨hfz10_0, hfz10_1⟩ := fz2 BK162))
 refine bodyPost_ret (results_cell_row rfl _ _ gb162 92 #[.int .i64 a0_0, .int .i64 a0_1] (0, 0) _ rfl (by (with_reducible repeat (first | refine bN ?_ _ | refine bD ?_ | refine bA ?_ _)); refine blk_put (cs := #[.int .i64 a0_0, .int .i64 0]) ?_ 1 _ rfl; (with_reducible repeat (first | refine bN ?_ _ | refine bD ?_ | refine bA ?_ _)); refine blk_put (cs := #[.int .i64 0, .int .i64 0]) ?_ 0 _ rfl; (with_reducible repeat (first | refine bN ?_ _ | refine bD ?_ | refine bA ?_ _)); refine blk_far ?_ NB162_163.out _; (with_reducible repeat (first | refine bN ?_ _ | refine bD ?_ | refine bA ?_ _)); refine blk_far ?_ NB162_163.out _; (with_reducible repeat (first | refine bN ?_ _ | refine bD ?_ | refine bA ?_ _)); exact BK162.out) Try.underlying92 rfl (by kernel_rfl)) rfl ?_
 exact ⟨by first | rfl | (simp [errW_none, errW_some] <;> rfl) | (simp [*, errW_none, errW_some] <;> rfl), by repeat (first | (with_reducible first | exact HB.out | apply below_alloc | apply pw_below_drewN | apply below_drew1 | refine below_set ?_ GE161.out | refine below_set ?_ GE162.out | refine below_set ?_ GE163.out) | exact HB.out)⟩

/-! ### laws_toRangeS: function 17 -/
def laws_toRangeS.l0 : Nat → List (S99) → List (S92) → Int → Option ((List (S92)))
 | 0, _, _, _ => none
 | k + 1, x0, x3, x4 => if x4 < (x0.length : Int) then (if 0 ≤ x4 then ((laws_toRange.f ((rd_T99 x0 x4).f0) ((rd_T99 x0 x4).f1)).bind fun bt168 => (if x4 < (x3.length : Int) then (laws_toRangeS.l0 k x0 (x3.set (x4 : Int).toNat (⟨bt168.1, bt168.2⟩ : S92)) (wrap64 (x4 + 1))) else (none))) else (none)) else (some x3)
def laws_toRangeS.f (k : Nat) (l0 : List (S99)) : Option ((List (S92))) := if 0 ≤ (l0.length : Int) then (if ((l0.length : Int) : Int).toNat ≤ 17592186044416 then (laws_toRangeS.l0 k l0 (List.replicate ((l0.length : Int) : Int).toNat z92) 0) else (none)) else (none)
theorem laws_toRangeS.mono_l : ∀ k, (∀ y0 y1 y2, LeO (laws_toRangeS.l0 k y0 y1 y2) (laws_toRangeS.l0 (k + 1) y0 y1 y2))
 | 0 => fun _ _ _ r h => by simp [laws_toRangeS.l0] at h
 | k + 1 => by
  have ih0 := laws_toRangeS.mono_l k
  ·intro y0 y1 y2
   unfold laws_toRangeS.l0
   repeat' first
   | (with_reducible exact ih0 _ _ _)
   | (with_reducible exact LeO.refl _)
   | (with_reducible exact LeO.none _)
   | (with_reducible refine LeO.ite ?_ ?_)
   | (with_reducible refine LeO.bind ?_ (fun _ => ?_))
   | exact ih0 _ _ _
   | exact LeO.none _
   | refine LeO.ite ?_ ?_
   | refine LeO.bind ?_ (fun _ => ?_)
theorem laws_toRangeS.mono : ∀ a0 k, LeO (laws_toRangeS.f k a0) (laws_toRangeS.f (k + 1) a0) := by
 intro a0 k
 have ih0 := laws_toRangeS.mono_l k
 unfold laws_toRangeS.f
 repeat' first
   | (with_reducible exact ih0 _ _ _)
   | (with_reducible exact LeO.refl _)
   | (with_reducible exact LeO.none _)
   | (with_reducible refine LeO.ite ?_ ?_)
   | (with_reducible refine LeO.bind ?_ (fun _ => ?_))
   | exact ih0 _ _ _
   | exact LeO.none _
   | refine LeO.ite ?_ ?_
   | refine LeO.bind ?_ (fun _ => ?_)
set_option maxHeartbeats 64000000 in
set_option maxRecDepth 100000 in
theorem laws_toRangeS.calls (k : Nat) (A0 : Option Addr) (c0 : Nat) (l0 : List (S99)) (r : List (S92)) (w : World) (hr0 : Kd.C k99 w A0 l0.length l0) (hc0 : l0.length ≤ c0) (h : laws_toRangeS.f k l0 = some r) :
  Calls Try.prog 17 #[.slice A0 l0.length c0] w fun e w' => ∃ v0_ : Value, e = .returned (v0_) ∧ Kd.R k92 92 w' w.heap.size (fun _ => True) v0_ r ∧ Below w.heap.size w w' := by
 have hu99 := Try.underlying99
 have hu92 := Try.underlying92
 have HR0 := Aside0.mk hr0
 have HC0 := Aside0.mk hc0
 clear hr0 hc0
 have HB := Aside0.mk (Below.refl w.heap.size w)
 have H : (if 0 ≤ (l0.length : Int) then (if ((l0.length : Int) : Int).toNat ≤ 17592186044416 then (laws_toRangeS.l0 k l0 (List.replicate ((l0.length : Int) : Int).toNat z92) 0) else (none)) else (none)) = some r := h
 clear h
 by_cases c2 : 0 ≤ (l0.length : Int)
 ·rw [if_pos c2] at H
  have c2b0 := eq_true c2
  have c2b1 : decide (0 ≤ (l0.length : Int)) = true := decide_eq_true c2
  clear c2
  by_cases c3 : ((l0.length : Int) : Int).toNat ≤ 17592186044416
  ·rw [if_pos c3] at H
   have c3b0 := eq_true c3
   have c3b1 : decide (((l0.length : Int) : Int).toNat ≤ 17592186044416) = true := decide_eq_true c3
   clear c3
   obtain ⟨y164, hy164⟩ : ∃ y_ : List (S92), y_ = (List.replicate ((l0.length : Int) : Int).toNat z92) := ⟨_, rfl⟩
   replace H : (laws_toRangeS.l0 k l0 y164 0) = some r := by first | (rw [hy164]; with_reducible exact H) | (have H2_ := (Option.bind_some _ _).symm.trans H; rw [hy164]; with_reducible exact H2_) | (have H2_ := (Option.bind_some _ _).symm.trans H; with_reducible exact H2_) | with_reducible exact H | (rw [hy164]; exact H) | exact H
   have Ny164 := Aside0.mk hy164
   clear hy164
   have H' := Aside0.mk H
   clear H
   go_enter Try.func17, Try.ntmps17
   go_wp2_with (first | ((with_reducible refine gate_dst (N := 7) rfl ?_); refine Kd.R_make k92 _ 92 rfl (N := 7) rfl 28 _ _ rfl (l0.length : Int) rfl rfl Try.underlying28 (.agg #[(.int .i64 0), (.int .i64 0)]) 16 info92 rfl (by decide) (by omega) z92 (ok := fun _ => True) (okp := fun _ => True) (k92_mkM _ _ _ z92 ) (fun _ hk => hk) trivial (of_decide_eq_true (by first | (with_reducible assumption) | assumption)) (Nat.le_trans (Nat.mul_le_mul_right _ (of_decide_eq_true (by first | (with_reducible assumption) | assumption) : (l0.length : Int).toNat ≤ 17592186044416)) (by omega)) (Below.refl _ _) (Nat.le_refl _) ?_; intro v165 w4 ho5 hb hg_ hnew_; clear hg_ hnew_; (first | rw [← Ny164.out] at ho5 | (simp only [Int.reduceToNat] at ho5; rw [← Ny164.out] at ho5)); have n0_ := Aside0.mk (Kd.R_lower ho5 (below_size (by repeat (first | (with_reducible first | exact HB.out | apply below_alloc | apply pw_below_drewN | apply below_drew1) | exact HB.out)))); have n1_ := bS HB hb; clear HB; have HO166 := n0_; have HB := n1_; clear n0_ n1_; clear hb ho5))
   go_loopg [4] k (fun kq v4 w' => ∃ (x3_1 : List (S92)) (x4_1 : Int), v4 = .int .i64 x4_1 ∧ Aside0 (laws_toRangeS.l0 kq l0 x3_1 x4_1 = some r) ∧ Aside0 (kq ≤ k) ∧ Aside0 (Kd.R k92 92 w' w.heap.size (fun _ => True) v165 x3_1) ∧ Aside0 (Below w.heap.size w w'))
   case atStart => exact ⟨(y164), (0), (by first | rfl | (simp; done) | (simp [*]; done)), H', ⟨Nat.le_refl _⟩, ⟨by (with_reducible repeat (first | apply Kd.R_alloc | apply Kd.R_drewN | apply Kd.R_drew)); exact HO166.out⟩, ⟨by repeat (first | (with_reducible first | exact HB.out | apply below_alloc | apply pw_below_drewN | apply below_drew1) | exact HB.out)⟩⟩
   case round =>
    clear H'
    try clear c1
    try clear c2
    try clear c2b0
    try clear c2b1
    try clear p2
    try clear c3
    try clear c3b0
    try clear c3b1
    obtain ⟨x3_1, x4_1, rfl, HA, HK1, HO_3, HB⟩ := hrel
    cases gk with
    | zero => exact absurd HA.out (by simp [laws_toRangeS.l0])
    | succ k1 =>
     have H := HA.out
     clear HA
     simp only [laws_toRangeS.l0] at H
     by_cases c6 : x4_1 < (l0.length : Int)
     ·rw [if_pos c6] at H
      have c6b0 : decide (x4_1 < (l0.length : Int)) = true := decide_eq_true c6
      clear c6
      by_cases c7 : 0 ≤ x4_1
      ·rw [if_pos c7] at H
       have c7b0 : decide (0 ≤ x4_1) = true := decide_eq_true c7
       clear c7
       replace H := Option.bind_eq_some_iff.mp H
       obtain ⟨⟨t168, t169⟩, A80, H⟩ := H
       replace H : (if x4_1 < (x3_1.length : Int) then (laws_toRangeS.l0 k1 l0 (x3_1.set (x4_1 : Int).toNat (⟨t168, t169⟩ : S92)) (wrap64 (x4_1 + 1))) else (none)) = some r := H
       have A8 := Aside0.mk A80
       clear A80
       by_cases c9 : x4_1 < (x3_1.length : Int)
       ·rw [if_pos c9] at H
        have c9b0 : decide (x4_1 < (x3_1.length : Int)) = true := decide_eq_true c9
        clear c9
        obtain ⟨y170, hy170⟩ : ∃ y_ : List (S92), y_ = (x3_1.set (x4_1 : Int).toNat (⟨t168, t169⟩ : S92)) := ⟨_, rfl⟩
        replace H : (laws_toRangeS.l0 k1 l0 y170 (wrap64 (x4_1 + 1))) = some r := by first | (rw [hy170]; with_reducible exact H) | (have H2_ := (Option.bind_some _ _).symm.trans H; rw [hy170]; with_reducible exact H2_) | (have H2_ := (Option.bind_some _ _).symm.trans H; with_reducible exact H2_) | with_reducible exact H | (rw [hy170]; exact H) | exact H
        have Ny170 := Aside0.mk hy170
        clear hy170
        have H' := Aside0.mk H
        clear H
        have p167 : 0 ≤ (x4_1 : Int) := of_decide_eq_true (by first | (with_reducible assumption) | assumption)
        have q167 : x4_1 < (l0.length : Int) := of_decide_eq_true (by first | (with_reducible assumption) | assumption)
        obtain ⟨ad167, e167, hx167_0, hx167_1⟩ := at_T99 HR0.out x4_1 p167 q167
        cases e167
        replace hx167_0 := (HB.out.cell (World.block_lt_of_cell? w _ hx167_0)).trans hx167_0
        replace hx167_1 := (HB.out.cell (World.block_lt_of_cell? w _ hx167_1)).trans hx167_1
        replace p167 := eq_true p167
        replace q167 := eq_true q167
        go_wp2_with (first | ((with_reducible refine gate_callee (f := 56) rfl ?_); refine goesL_ (some 20) rfl rfl Try.func56 (by kernel_rfl) rfl #[.agg #[.int .i64 ((rd_T99 l0 x4_1).f0), .int .i64 ((rd_T99 l0 x4_1).f1)]] rfl (by (try simp only [List.map_toArray, List.map_cons, List.map_nil]); first | done | rfl | (simp only [List.length_drop, List.length_take]; rfl)) ?_; (with_reducible refine (laws_toRange.calls ((rd_T99 l0 x4_1).f0) ((rd_T99 l0 x4_1).f1) t168 t169 _ A8.out).mono ?_); rintro e w11 ⟨rfl, hb⟩; refine ⟨_, rfl, ?_⟩; have n0_ := Aside0.mk (Kd.R_below (mR HO_3.out) hb); have n1_ := bS HB hb; clear HO_3; clear HB; have HO_3 := n0_; have HB := n1_; clear n0_ n1_; (try clear hb); (try clear hb2); (try clear hk); (try clear hi); have p10 : 0 ≤ (x4_1 : Int) := of_decide_eq_true (by first | (with_reducible assumption) | assumption); have q10 : (x4_1 : Int) < ((x3_1.length : Int) : Int) := of_decide_eq_true (by first | (with_reducible assumption) | assumption); obtain ⟨go10, co10, eo10, gb10, gl10, cl10, HG10⟩ := Kd.R_form HO_3.out (by omega); (first | cases eo10 | (injection eo10 with ea_ en_ ec_; (first | subst ea_ | (injection ea_ with ea_; subst ea_)); subst ec_; clear en_)); have GB10 := Aside0.mk gb10; have GG10 := Aside0.mk HG10; clear gb10 gl10 HG10; obtain ⟨ce10, hcl10, hM10, hcc10, hfr10⟩ := Kd.R_elem HO_3.out z92 (x4_1 : Int) p10 q10; obtain rfl := k92_openM hM10; have hx10_0 : w11.cell? ⟨go10, (x4_1 : Int).toNat * 2, none⟩ = some (.int .i64 ((rd_T92 x3_1 x4_1).f0)) := hcc10 0 _ rfl; have hx10_1 : w11.cell? ⟨go10, (x4_1 : Int).toNat * 2 + 1, none⟩ = some (.int .i64 ((rd_T92 x3_1 x4_1).f1)) := hcc10 1 _ rfl; have hf10_0 : w11.frozen? ⟨go10, (x4_1 : Int).toNat * 2, none⟩ = false := hfr10 0; have hf10_1 : w11.frozen? ⟨go10, (x4_1 : Int).toNat * 2 + 1, none⟩ = false := hfr10 1; clear hcl10 hcc10 hfr10 hM10; replace p10 := eq_true p10; replace q10 := eq_true q10; have HX12 := Aside0.mk (show Kd.R k92 92 w11 w.heap.size (fun _ => True) (.slice (some ⟨go10, 0, none⟩) x3_1.length co10) x3_1 from (mR HO_3.out)); obtain ⟨ce12, hcl12, hM12, hcc12, hfr12⟩ := Kd.R_elem HX12.out z92 (x4_1 : Int) (of_decide_eq_true (by first | (with_reducible assumption) | assumption)) (by have h_ : (x4_1 : Int) < ((x3_1.length : Int) : Int) := of_decide_eq_true (by first | (with_reducible assumption) | assumption); first | exact h_ | (have e_ := (Kd.R_reads' HO_3.out).1; omega) | simpa using h_); obtain rfl := k92_openM hM12; have HP12 := Kd.R_seg HX12.out (x4_1 : Int) (of_decide_eq_true (by first | (with_reducible assumption) | assumption)) (by have h_ : (x4_1 : Int) < ((x3_1.length : Int) : Int) := of_decide_eq_true (by first | (with_reducible assumption) | assumption); first | exact h_ | (have e_ := (Kd.R_reads' HO_3.out).1; omega) | simpa using h_) (seg := [.int .i64 t168, .int .i64 t169]) (j := 0) hcl12 hcc12 (show 2 ≤ 2 from by decide) (x' := (⟨t168, t169⟩ : S92)) (k92_mkM _ _ _ (⟨t168, t169⟩ : S92) ) (fun _ hk => hk); have hx12_0 := hcc12 0 _ rfl; (try simp only [show (k92).sz = 2 from rfl, Nat.mul_one, Nat.add_zero] at hx12_0); have hf12_0 := hfr12 0; (try simp only [show (k92).sz = 2 from rfl, Nat.mul_one, Nat.add_zero] at hf12_0); have hx12_1 := hcc12 1 _ rfl; (try simp only [show (k92).sz = 2 from rfl, Nat.mul_one, Nat.add_zero] at hx12_1); have hf12_1 := hfr12 1; (try simp only [show (k92).sz = 2 from rfl, Nat.mul_one, Nat.add_zero] at hf12_1); clear hcl12 hcc12 hfr12 hM12) | ((with_reducible refine gate_store (t := 92) (p := 21) rfl ?_); refine store_event (t := 92) (p := 21) (v := ?vo_w13) (w1 := ((w11.setCell ⟨go10, (x4_1 : Int).toNat * 2, none⟩ (.int .i64 t168)).setCell ⟨go10, (x4_1 : Int).toNat * 2 + 1, none⟩ (.int .i64 t169))) ?hg ?ho ?hn ?hr ?_; (case ho => rfl); (case hg => rfl); (case hn => rfl); (case hr => first | (go_simp; done) | (go_simp; rfl)); intro w13 hw; have hg : w11.grownBy w13 (some go10) := (by rw [hw]; exact HP12.2); have hp_ : Kd.R k92 92 w13 w.heap.size (fun _ => True) (.slice (some ⟨go10, 0, none⟩) x3_1.length co10) y170 := (by rw [hw, Ny170.out]; exact HP12.1); clear HP12; have n0_ := Aside0.mk (hp_); have n1_ := Aside0.mk ((by rw [hw]; exact below_set (below_set (HB.out) GB10.out) GB10.out : Below w.heap.size w w13)); clear HO_3; clear HB; have HO_3 := n0_; have HB := n1_; clear n0_ n1_; clear hg hw hp_))
        go_roundg k1
        case measure => have := HK1.out; omega
        case rel => exact ⟨(y170), (wrap64 (x4_1 + 1)), (by first | rfl | (simp; done) | (simp [*]; done)), H', ⟨by have := HK1.out; omega⟩, ⟨by (with_reducible repeat (first | apply Kd.R_alloc | apply Kd.R_drewN | apply Kd.R_drew)); exact HO_3.out⟩, ⟨by repeat (first | (with_reducible first | exact HB.out | apply below_alloc | apply pw_below_drewN | apply below_drew1) | exact HB.out)⟩⟩
       ·rw [if_neg c9] at H
        exact absurd H (by simp)
      ·rw [if_neg c7] at H
       exact absurd H (by simp)
     ·rw [if_neg c6] at H
      have c6b0 : decide (x4_1 < (l0.length : Int)) = false := decide_eq_false c6
      clear c6
      obtain rfl := Option.some.inj H
      go_wp2
      go_ret
      exact ⟨_, by first | rfl | (simp [errW_none, errW_some] <;> rfl) | (simp [*, errW_none, errW_some] <;> rfl), by (with_reducible repeat (first | apply Kd.R_alloc | apply Kd.R_drewN | apply Kd.R_drew)); exact HO_3.out, by repeat (first | (with_reducible first | exact HB.out | apply below_alloc | apply pw_below_drewN | apply below_drew1) | exact HB.out)⟩
  ·rw [if_neg c3] at H
   exact absurd H (by simp)
 ·rw [if_neg c2] at H
  exact absurd H (by simp)

/-! ### impl_in: function 74 -/
def impl_in.f (a0 : Int) (a1 : Int) (a2 : Int) : Option (Bool) := if a0 ≥ a1 then (some (decide (a0 ≤ a2))) else (some false)
set_option maxHeartbeats 64000000 in
set_option maxRecDepth 100000 in
theorem impl_in.calls (a0 : Int) (a1 : Int) (a2 : Int) (r : Bool) (w : World) (h : impl_in.f a0 a1 a2 = some r) :
  Calls Try.prog 74 #[.int .i64 a0, .int .i64 a1, .int .i64 a2] w fun e w' => e = .returned (.bool r) ∧ Drawn0 w w' := by
 have H : (if a0 ≥ a1 then (some (decide (a0 ≤ a2))) else (some false)) = some r := h
 clear h
 by_cases c4 : a0 ≥ a1
 ·rw [if_pos c4] at H
  have c4b0 : decide (a1 ≤ a0) = true := decide_eq_true c4
  clear c4
  obtain rfl := Option.some.inj H
  go_enter Try.func74, Try.ntmps74
  go_wp2
  go_ret
  exact ⟨by first | rfl | (simp; done) | (simp [*]; done), by repeat (first | exact Drawn0.refl _ | apply Drawn0.step)⟩
 ·rw [if_neg c4] at H
  have c4b0 : decide (a1 ≤ a0) = false := decide_eq_false c4
  clear c4
  obtain rfl := Option.some.inj H
  go_enter Try.func74, Try.ntmps74
  go_wp2
  go_ret
  exact ⟨by first | rfl | (simp; done) | (simp [*]; done), by repeat (first | exact Drawn0.refl _ | apply Drawn0.step)⟩

/-! ### impl_isTick: function 59 -/
def impl_isTick.f (a0 : Int) : Option (Bool) := (impl_in.f a0 0 1000000000).bind fun t171 => (some t171)
set_option maxHeartbeats 64000000 in
set_option maxRecDepth 100000 in
theorem impl_isTick.calls (a0 : Int) (r : Bool) (w : World) (h : impl_isTick.f a0 = some r) :
  Calls Try.prog 59 #[.int .i64 a0] w fun e w' => e = .returned (.bool r) ∧ Drawn0 w w' := by
 have H : ((impl_in.f a0 0 1000000000).bind fun t171 => (some t171)) = some r := h
 clear h
 replace H := Option.bind_eq_some_iff.mp H
 obtain ⟨t171, A20, H⟩ := H
 replace H : (some t171) = some r := H
 have A2 := Aside0.mk A20
 clear A20
 obtain rfl := Option.some.inj H
 go_enter Try.func59, Try.ntmps59
 go_wp2_with (first | ((with_reducible refine gate_callee (f := 74) rfl ?_); refine goesL_ (some 4) rfl rfl Try.func74 (by kernel_rfl) rfl #[.int .i64 a0, .int .i64 0, .int .i64 1000000000] rfl (by (try simp only [List.map_toArray, List.map_cons, List.map_nil]); first | done | rfl | (simp only [List.length_drop, List.length_take]; rfl)) ?_; (with_reducible refine (impl_in.calls a0 0 1000000000 t171 _ A2.out).mono ?_); rintro e w' ⟨rfl, ⟨nd, rfl⟩⟩; refine ⟨_, rfl, ?_⟩))
 go_ret
 exact ⟨by first | rfl | (simp; done) | (simp [*]; done), by repeat (first | exact Drawn0.refl _ | apply Drawn0.step)⟩

/-! ### impl_isVarint: function 85 -/
def impl_isVarint.f (a0 : Int) : Option (Bool) := (impl_in.f a0 0 4611686018427387903).bind fun t172 => (some t172)
set_option maxHeartbeats 64000000 in
set_option maxRecDepth 100000 in
theorem impl_isVarint.calls (a0 : Int) (r : Bool) (w : World) (h : impl_isVarint.f a0 = some r) :
  Calls Try.prog 85 #[.int .i64 a0] w fun e w' => e = .returned (.bool r) ∧ Drawn0 w w' := by
 have H : ((impl_in.f a0 0 4611686018427387903).bind fun t172 => (some t172)) = some r := h
 clear h
 replace H := Option.bind_eq_some_iff.mp H
 obtain ⟨t172, A20, H⟩ := H
 replace H : (some t172) = some r := H
 have A2 := Aside0.mk A20
 clear A20
 obtain rfl := Option.some.inj H
 go_enter Try.func85, Try.ntmps85
 go_wp2_with (first | ((with_reducible refine gate_callee (f := 74) rfl ?_); refine goesL_ (some 4) rfl rfl Try.func74 (by kernel_rfl) rfl #[.int .i64 a0, .int .i64 0, .int .i64 4611686018427387903] rfl (by (try simp only [List.map_toArray, List.map_cons, List.map_nil]); first | done | rfl | (simp only [List.length_drop, List.length_take]; rfl)) ?_; (with_reducible refine (impl_in.calls a0 0 4611686018427387903 t172 _ A2.out).mono ?_); rintro e w' ⟨rfl, ⟨nd, rfl⟩⟩; refine ⟨_, rfl, ?_⟩))
 go_ret
 exact ⟨by first | rfl | (simp; done) | (simp [*]; done), by repeat (first | exact Drawn0.refl _ | apply Drawn0.step)⟩

/-! ### impl_sentOk: function 104 -/
def impl_sentOk.f (a0_0 : Int) (a0_1 : Int) (a0_2 : Int) : Option (Bool) := (impl_isVarint.f a0_0).bind fun t174 => (if t174 = true then ((impl_isTick.f a0_1).bind fun t175 => (if t175 = true then ((impl_in.f a0_2 0 1500).bind fun t176 => (some t176)) else (some false))) else (some false))
set_option maxHeartbeats 64000000 in
set_option maxRecDepth 100000 in
theorem impl_sentOk.calls (a0_0 : Int) (a0_1 : Int) (a0_2 : Int) (r : Bool) (w : World) (h : impl_sentOk.f a0_0 a0_1 a0_2 = some r) :
  Calls Try.prog 104 #[.agg #[.int .i64 a0_0, .int .i64 a0_1, .int .i64 a0_2]] w fun e w' => e = .returned (.bool r) ∧ Below w.heap.size w w' := by
 have hu89 := Try.underlying89
 have HB := Aside0.mk (Below.refl w.heap.size w)
 have H : ((impl_isVarint.f a0_0).bind fun t174 => (if t174 = true then ((impl_isTick.f a0_1).bind fun t175 => (if t175 = true then ((impl_in.f a0_2 0 1500).bind fun t176 => (some t176)) else (some false))) else (some false))) = some r := h
 clear h
 replace H := Option.bind_eq_some_iff.mp H
 obtain ⟨t174, A20, H⟩ := H
 replace H : (if t174 = true then ((impl_isTick.f a0_1).bind fun t175 => (if t175 = true then ((impl_in.f a0_2 0 1500).bind fun t176 => (some t176)) else (some false))) else (some false)) = some r := H
 have A2 := Aside0.mk A20
 clear A20
 by_cases c3 : t174 = true
 ·subst c3
  have H1 : ((impl_isTick.f a0_1).bind fun t175 => (if t175 = true then ((impl_in.f a0_2 0 1500).bind fun t176 => (some t176)) else (some false))) = some r := by rw [if_pos rfl] at H; exact H
  clear H
  have H := H1
  clear H1
  replace H := Option.bind_eq_some_iff.mp H
  obtain ⟨t175, A40, H⟩ := H
  replace H : (if t175 = true then ((impl_in.f a0_2 0 1500).bind fun t176 => (some t176)) else (some false)) = some r := H
  have A4 := Aside0.mk A40
  clear A40
  by_cases c5 : t175 = true
  ·subst c5
   have H1 : ((impl_in.f a0_2 0 1500).bind fun t176 => (some t176)) = some r := by rw [if_pos rfl] at H; exact H
   clear H
   have H := H1
   clear H1
   replace H := Option.bind_eq_some_iff.mp H
   obtain ⟨t176, A60, H⟩ := H
   replace H : (some t176) = some r := H
   have A6 := Aside0.mk A60
   clear A60
   obtain rfl := Option.some.inj H
   go_enter Try.func104, Try.ntmps104
   go_wp2_with (first | ((with_reducible refine gate_dst (N := 1) rfl ?_); refine box_event ?hg (N := 1) ?hd (cs := #[.int .i64 a0_0, .int .i64 a0_1, .int .i64 a0_2]) (t := 89) ?hr ?_; (case hd => rfl); (case hg => rfl); (case hr => first | (go_simp; done) | (go_simp; rfl)); intro gb173 hg w7 hbox hb; have n0_ := bS HB hb; have n1_ := Aside0.mk (hbox); have n2_ := Aside0.mk ((by rw [hg]; exact (below_size (by repeat (first | (with_reducible first | exact HB.out | apply below_alloc | apply pw_below_drewN | apply below_drew1) | exact HB.out))) : w.heap.size ≤ gb173)); have n3_ := n2_; clear HB; have HB := n0_; have BK173 := n1_; have GW173 := n2_; have GE173 := n3_; clear n0_ n1_ n2_ n3_; clear hb hbox hg; obtain ⟨hcz8_0, hcz8_1, hcz8_2⟩ := cz3 BK173; obtain ⟨hfz8_0, hfz8_1, hfz8_2⟩ := fz3 BK173) | ((with_reducible refine gate_callee (f := 85) rfl ?_); refine goesL_ (some 5) rfl rfl Try.func85 (by kernel_rfl) rfl #[.int .i64 a0_0] rfl (by (try simp only [List.map_toArray, List.map_cons, List.map_nil]); first | done | rfl | (simp only [List.length_drop, List.length_take]; rfl)) ?_; (with_reducible refine (impl_isVarint.calls a0_0 true _ A2.out).mono ?_); rintro e w' ⟨rfl, ⟨nd, rfl⟩⟩; refine ⟨_, rfl, ?_⟩) | (go_at_call 59; (with_reducible refine (impl_isTick.calls a0_1 true _ A4.out).mono ?_); rintro e w' ⟨rfl, ⟨nd, rfl⟩⟩) | (go_at_call 74; (with_reducible refine (impl_in.calls a0_2 0 1500 t176 _ A6.out).mono ?_); rintro e w' ⟨rfl, ⟨nd, rfl⟩⟩))
   go_ret
   exact ⟨by first | rfl | (simp [errW_none, errW_some] <;> rfl) | (simp [*, errW_none, errW_some] <;> rfl), by repeat (first | (with_reducible first | exact HB.out | apply below_alloc | apply pw_below_drewN | apply below_drew1 | refine below_set ?_ GE173.out) | exact HB.out)⟩
  ·replace c5 := Bool.eq_false_iff.mpr c5
   subst c5
   have H1 : (some false) = some r := by rw [if_neg (show ¬ (false = true) by decide)] at H; exact H
   clear H
   have H := H1
   clear H1
   obtain rfl := Option.some.inj H
   go_enter Try.func104, Try.ntmps104
   go_wp2_with (first | ((with_reducible refine gate_dst (N := 1) rfl ?_); refine box_event ?hg (N := 1) ?hd (cs := #[.int .i64 a0_0, .int .i64 a0_1, .int .i64 a0_2]) (t := 89) ?hr ?_; (case hd => rfl); (case hg => rfl); (case hr => first | (go_simp; done) | (go_simp; rfl)); intro gb173 hg w9 hbox hb; have n0_ := bS HB hb; have n1_ := Aside0.mk (hbox); have n2_ := Aside0.mk ((by rw [hg]; exact (below_size (by repeat (first | (with_reducible first | exact HB.out | apply below_alloc | apply pw_below_drewN | apply below_drew1) | exact HB.out))) : w.heap.size ≤ gb173)); have n3_ := n2_; clear HB; have HB := n0_; have BK173 := n1_; have GW173 := n2_; have GE173 := n3_; clear n0_ n1_ n2_ n3_; clear hb hbox hg; obtain ⟨hcz10_0, hcz10_1, hcz10_2⟩ := cz3 BK173; obtain ⟨hfz10_0, hfz10_1, hfz10_2⟩ := fz3 BK173) | ((with_reducible refine gate_callee (f := 85) rfl ?_); refine goesL_ (some 5) rfl rfl Try.func85 (by kernel_rfl) rfl #[.int .i64 a0_0] rfl (by (try simp only [List.map_toArray, List.map_cons, List.map_nil]); first | done | rfl | (simp only [List.length_drop, List.length_take]; rfl)) ?_; (with_reducible refine (impl_isVarint.calls a0_0 true _ A2.out).mono ?_); rintro e w' ⟨rfl, ⟨nd, rfl⟩⟩; refine ⟨_, rfl, ?_⟩) | (go_at_call 59; (with_reducible refine (impl_isTick.calls a0_1 false _ A4.out).mono ?_); rintro e w' ⟨rfl, ⟨nd, rfl⟩⟩))
   go_ret
   exact ⟨by first | rfl | (simp [errW_none, errW_some] <;> rfl) | (simp [*, errW_none, errW_some] <;> rfl), by repeat (first | (with_reducible first | exact HB.out | apply below_alloc | apply pw_below_drewN | apply below_drew1 | refine below_set ?_ GE173.out) | exact HB.out)⟩
 ·replace c3 := Bool.eq_false_iff.mpr c3
  subst c3
  have H1 : (some false) = some r := by rw [if_neg (show ¬ (false = true) by decide)] at H; exact H
  clear H
  have H := H1
  clear H1
  obtain rfl := Option.some.inj H
  go_enter Try.func104, Try.ntmps104
  go_wp2_with (first | ((with_reducible refine gate_dst (N := 1) rfl ?_); refine box_event ?hg (N := 1) ?hd (cs := #[.int .i64 a0_0, .int .i64 a0_1, .int .i64 a0_2]) (t := 89) ?hr ?_; (case hd => rfl); (case hg => rfl); (case hr => first | (go_simp; done) | (go_simp; rfl)); intro gb173 hg w11 hbox hb; have n0_ := bS HB hb; have n1_ := Aside0.mk (hbox); have n2_ := Aside0.mk ((by rw [hg]; exact (below_size (by repeat (first | (with_reducible first | exact HB.out | apply below_alloc | apply pw_below_drewN | apply below_drew1) | exact HB.out))) : w.heap.size ≤ gb173)); have n3_ := n2_; clear HB; have HB := n0_; have BK173 := n1_; have GW173 := n2_; have GE173 := n3_; clear n0_ n1_ n2_ n3_; clear hb hbox hg; obtain ⟨hcz12_0, hcz12_1, hcz12_2⟩ := cz3 BK173; obtain ⟨hfz12_0, hfz12_1, hfz12_2⟩ := fz3 BK173) | ((with_reducible refine gate_callee (f := 85) rfl ?_); refine goesL_ (some 5) rfl rfl Try.func85 (by kernel_rfl) rfl #[.int .i64 a0_0] rfl (by (try simp only [List.map_toArray, List.map_cons, List.map_nil]); first | done | rfl | (simp only [List.length_drop, List.length_take]; rfl)) ?_; (with_reducible refine (impl_isVarint.calls a0_0 false _ A2.out).mono ?_); rintro e w' ⟨rfl, ⟨nd, rfl⟩⟩; refine ⟨_, rfl, ?_⟩))
  go_ret
  exact ⟨by first | rfl | (simp [errW_none, errW_some] <;> rfl) | (simp [*, errW_none, errW_some] <;> rfl), by repeat (first | (with_reducible first | exact HB.out | apply below_alloc | apply pw_below_drewN | apply below_drew1 | refine below_set ?_ GE173.out) | exact HB.out)⟩

/-! ### impl_goodRtt: function 105 -/
def impl_goodRtt.f (a0_0 : Bool) (a0_1 : Int) (a0_2 : Int) (a0_3 : Int) (a0_4 : Int) : Option (Bool) := if a0_0 = true then (if a0_2 ≥ 0 then (if a0_2 ≤ a0_1 then ((impl_isTick.f a0_1).bind fun t178 => (if t178 = true then ((impl_isTick.f a0_3).bind fun t179 => (if t179 = true then ((impl_isTick.f a0_4).bind fun t180 => (some t180)) else (some false))) else (some false))) else (some false)) else (some false)) else (some (!a0_0 && (a0_1 == 0 && (a0_2 == 0 && (a0_3 == 0 && (a0_4 == 0))))))
set_option maxHeartbeats 64000000 in
set_option maxRecDepth 100000 in
theorem impl_goodRtt.calls (a0_0 : Bool) (a0_1 : Int) (a0_2 : Int) (a0_3 : Int) (a0_4 : Int) (r : Bool) (w : World) (h : impl_goodRtt.f a0_0 a0_1 a0_2 a0_3 a0_4 = some r) :
  Calls Try.prog 105 #[.agg #[.bool a0_0, .int .i64 a0_1, .int .i64 a0_2, .int .i64 a0_3, .int .i64 a0_4]] w fun e w' => e = .returned (.bool r) ∧ Below w.heap.size w w' := by
 have hu42 := Try.underlying42
 have HB := Aside0.mk (Below.refl w.heap.size w)
 have H : (if a0_0 = true then (if a0_2 ≥ 0 then (if a0_2 ≤ a0_1 then ((impl_isTick.f a0_1).bind fun t178 => (if t178 = true then ((impl_isTick.f a0_3).bind fun t179 => (if t179 = true then ((impl_isTick.f a0_4).bind fun t180 => (some t180)) else (some false))) else (some false))) else (some false)) else (some false)) else (some (!a0_0 && (a0_1 == 0 && (a0_2 == 0 && (a0_3 == 0 && (a0_4 == 0))))))) = some r := h
 clear h
 by_cases c2 : a0_0 = true
 ·subst c2
  have H1 : (if a0_2 ≥ 0 then (if a0_2 ≤ a0_1 then ((impl_isTick.f a0_1).bind fun t178 => (if t178 = true then ((impl_isTick.f a0_3).bind fun t179 => (if t179 = true then ((impl_isTick.f a0_4).bind fun t180 => (some t180)) else (some false))) else (some false))) else (some false)) else (some false)) = some r := by rw [if_pos rfl] at H; exact H
  clear H
  have H := H1
  clear H1
  by_cases c3 : a0_2 ≥ 0
  ·rw [if_pos c3] at H
   have c3b0 : decide (0 ≤ a0_2) = true := decide_eq_true c3
   clear c3
   by_cases c4 : a0_2 ≤ a0_1
   ·rw [if_pos c4] at H
    have c4b0 : decide (a0_2 ≤ a0_1) = true := decide_eq_true c4
    clear c4
    replace H := Option.bind_eq_some_iff.mp H
    obtain ⟨t178, A50, H⟩ := H
    replace H : (if t178 = true then ((impl_isTick.f a0_3).bind fun t179 => (if t179 = true then ((impl_isTick.f a0_4).bind fun t180 => (some t180)) else (some false))) else (some false)) = some r := H
    have A5 := Aside0.mk A50
    clear A50
    by_cases c6 : t178 = true
    ·subst c6
     have H1 : ((impl_isTick.f a0_3).bind fun t179 => (if t179 = true then ((impl_isTick.f a0_4).bind fun t180 => (some t180)) else (some false))) = some r := by rw [if_pos rfl] at H; exact H
     clear H
     have H := H1
     clear H1
     replace H := Option.bind_eq_some_iff.mp H
     obtain ⟨t179, A70, H⟩ := H
     replace H : (if t179 = true then ((impl_isTick.f a0_4).bind fun t180 => (some t180)) else (some false)) = some r := H
     have A7 := Aside0.mk A70
     clear A70
     by_cases c8 : t179 = true
     ·subst c8
      have H1 : ((impl_isTick.f a0_4).bind fun t180 => (some t180)) = some r := by rw [if_pos rfl] at H; exact H
      clear H
      have H := H1
      clear H1
      replace H := Option.bind_eq_some_iff.mp H
      obtain ⟨t180, A90, H⟩ := H
      replace H : (some t180) = some r := H
      have A9 := Aside0.mk A90
      clear A90
      obtain rfl := Option.some.inj H
      go_enter Try.func105, Try.ntmps105
      go_wp2_with (first | ((with_reducible refine gate_dst (N := 1) rfl ?_); refine box_event ?hg (N := 1) ?hd (cs := #[.bool true, .int .i64 a0_1, .int .i64 a0_2, .int .i64 a0_3, .int .i64 a0_4]) (t := 42) ?hr ?_; (case hd => rfl); (case hg => rfl); (case hr => first | (go_simp; done) | (go_simp; rfl)); intro gb177 hg w10 hbox hb; have n0_ := bS HB hb; have n1_ := Aside0.mk (hbox); have n2_ := Aside0.mk ((by rw [hg]; exact (below_size (by repeat (first | (with_reducible first | exact HB.out | apply below_alloc | apply pw_below_drewN | apply below_drew1) | exact HB.out))) : w.heap.size ≤ gb177)); have n3_ := n2_; clear HB; have HB := n0_; have BK177 := n1_; have GW177 := n2_; have GE177 := n3_; clear n0_ n1_ n2_ n3_; clear hb hbox hg; obtain ⟨hcz11_0, hcz11_1, hcz11_2, hcz11_3, hcz11_4⟩ := cz5 BK177; obtain ⟨hfz11_0, hfz11_1, hfz11_2, hfz11_3, hfz11_4⟩ := fz5 BK177) | (go_at_call 59; (with_reducible refine (impl_isTick.calls a0_1 true _ A5.out).mono ?_); rintro e w' ⟨rfl, ⟨nd, rfl⟩⟩) | (go_at_call 59; (with_reducible refine (impl_isTick.calls a0_3 true _ A7.out).mono ?_); rintro e w' ⟨rfl, ⟨nd, rfl⟩⟩) | (go_at_call 59; (with_reducible refine (impl_isTick.calls a0_4 t180 _ A9.out).mono ?_); rintro e w' ⟨rfl, ⟨nd, rfl⟩⟩))
      go_ret
      exact ⟨by first | rfl | (simp [errW_none, errW_some] <;> rfl) | (simp [*, errW_none, errW_some] <;> rfl), by repeat (first | (with_reducible first | exact HB.out | apply below_alloc | apply pw_below_drewN | apply below_drew1 | refine below_set ?_ GE177.out) | exact HB.out)⟩
     ·replace c8 := Bool.eq_false_iff.mpr c8
      subst c8
      have H1 : (some false) = some r := by rw [if_neg (show ¬ (false = true) by decide)] at H; exact H
      clear H
      have H := H1
      clear H1
      obtain rfl := Option.some.inj H
      go_enter Try.func105, Try.ntmps105
      go_wp2_with (first | ((with_reducible refine gate_dst (N := 1) rfl ?_); refine box_event ?hg (N := 1) ?hd (cs := #[.bool true, .int .i64 a0_1, .int .i64 a0_2, .int .i64 a0_3, .int .i64 a0_4]) (t := 42) ?hr ?_; (case hd => rfl); (case hg => rfl); (case hr => first | (go_simp; done) | (go_simp; rfl)); intro gb177 hg w12 hbox hb; have n0_ := bS HB hb; have n1_ := Aside0.mk (hbox); have n2_ := Aside0.mk ((by rw [hg]; exact (below_size (by repeat (first | (with_reducible first | exact HB.out | apply below_alloc | apply pw_below_drewN | apply below_drew1) | exact HB.out))) : w.heap.size ≤ gb177)); have n3_ := n2_; clear HB; have HB := n0_; have BK177 := n1_; have GW177 := n2_; have GE177 := n3_; clear n0_ n1_ n2_ n3_; clear hb hbox hg; obtain ⟨hcz13_0, hcz13_1, hcz13_2, hcz13_3, hcz13_4⟩ := cz5 BK177; obtain ⟨hfz13_0, hfz13_1, hfz13_2, hfz13_3, hfz13_4⟩ := fz5 BK177) | (go_at_call 59; (with_reducible refine (impl_isTick.calls a0_1 true _ A5.out).mono ?_); rintro e w' ⟨rfl, ⟨nd, rfl⟩⟩) | (go_at_call 59; (with_reducible refine (impl_isTick.calls a0_3 false _ A7.out).mono ?_); rintro e w' ⟨rfl, ⟨nd, rfl⟩⟩))
      go_ret
      exact ⟨by first | rfl | (simp [errW_none, errW_some] <;> rfl) | (simp [*, errW_none, errW_some] <;> rfl), by repeat (first | (with_reducible first | exact HB.out | apply below_alloc | apply pw_below_drewN | apply below_drew1 | refine below_set ?_ GE177.out) | exact HB.out)⟩
    ·replace c6 := Bool.eq_false_iff.mpr c6
     subst c6
     have H1 : (some false) = some r := by rw [if_neg (show ¬ (false = true) by decide)] at H; exact H
     clear H
     have H := H1
     clear H1
     obtain rfl := Option.some.inj H
     go_enter Try.func105, Try.ntmps105
     go_wp2_with (first | ((with_reducible refine gate_dst (N := 1) rfl ?_); refine box_event ?hg (N := 1) ?hd (cs := #[.bool true, .int .i64 a0_1, .int .i64 a0_2, .int .i64 a0_3, .int .i64 a0_4]) (t := 42) ?hr ?_; (case hd => rfl); (case hg => rfl); (case hr => first | (go_simp; done) | (go_simp; rfl)); intro gb177 hg w14 hbox hb; have n0_ := bS HB hb; have n1_ := Aside0.mk (hbox); have n2_ := Aside0.mk ((by rw [hg]; exact (below_size (by repeat (first | (with_reducible first | exact HB.out | apply below_alloc | apply pw_below_drewN | apply below_drew1) | exact HB.out))) : w.heap.size ≤ gb177)); have n3_ := n2_; clear HB; have HB := n0_; have BK177 := n1_; have GW177 := n2_; have GE177 := n3_; clear n0_ n1_ n2_ n3_; clear hb hbox hg; obtain ⟨hcz15_0, hcz15_1, hcz15_2, hcz15_3, hcz15_4⟩ := cz5 BK177; obtain ⟨hfz15_0, hfz15_1, hfz15_2, hfz15_3, hfz15_4⟩ := fz5 BK177) | (go_at_call 59; (with_reducible refine (impl_isTick.calls a0_1 false _ A5.out).mono ?_); rintro e w' ⟨rfl, ⟨nd, rfl⟩⟩))
     go_ret
     exact ⟨by first | rfl | (simp [errW_none, errW_some] <;> rfl) | (simp [*, errW_none, errW_some] <;> rfl), by repeat (first | (with_reducible first | exact HB.out | apply below_alloc | apply pw_below_drewN | apply below_drew1 | refine below_set ?_ GE177.out) | exact HB.out)⟩
   ·rw [if_neg c4] at H
    have c4b0 : decide (a0_2 ≤ a0_1) = false := decide_eq_false c4
    clear c4
    obtain rfl := Option.some.inj H
    go_enter Try.func105, Try.ntmps105
    go_wp2_with (first | ((with_reducible refine gate_dst (N := 1) rfl ?_); refine box_event ?hg (N := 1) ?hd (cs := #[.bool true, .int .i64 a0_1, .int .i64 a0_2, .int .i64 a0_3, .int .i64 a0_4]) (t := 42) ?hr ?_; (case hd => rfl); (case hg => rfl); (case hr => first | (go_simp; done) | (go_simp; rfl)); intro gb177 hg w16 hbox hb; have n0_ := bS HB hb; have n1_ := Aside0.mk (hbox); have n2_ := Aside0.mk ((by rw [hg]; exact (below_size (by repeat (first | (with_reducible first | exact HB.out | apply below_alloc | apply pw_below_drewN | apply below_drew1) | exact HB.out))) : w.heap.size ≤ gb177)); have n3_ := n2_; clear HB; have HB := n0_; have BK177 := n1_; have GW177 := n2_; have GE177 := n3_; clear n0_ n1_ n2_ n3_; clear hb hbox hg; obtain ⟨hcz17_0, hcz17_1, hcz17_2, hcz17_3, hcz17_4⟩ := cz5 BK177; obtain ⟨hfz17_0, hfz17_1, hfz17_2, hfz17_3, hfz17_4⟩ := fz5 BK177))
    go_ret
    exact ⟨by first | rfl | (simp [errW_none, errW_some] <;> rfl) | (simp [*, errW_none, errW_some] <;> rfl), by repeat (first | (with_reducible first | exact HB.out | apply below_alloc | apply pw_below_drewN | apply below_drew1 | refine below_set ?_ GE177.out) | exact HB.out)⟩
  ·rw [if_neg c3] at H
   have c3b0 : decide (0 ≤ a0_2) = false := decide_eq_false c3
   clear c3
   obtain rfl := Option.some.inj H
   go_enter Try.func105, Try.ntmps105
   go_wp2_with (first | ((with_reducible refine gate_dst (N := 1) rfl ?_); refine box_event ?hg (N := 1) ?hd (cs := #[.bool true, .int .i64 a0_1, .int .i64 a0_2, .int .i64 a0_3, .int .i64 a0_4]) (t := 42) ?hr ?_; (case hd => rfl); (case hg => rfl); (case hr => first | (go_simp; done) | (go_simp; rfl)); intro gb177 hg w18 hbox hb; have n0_ := bS HB hb; have n1_ := Aside0.mk (hbox); have n2_ := Aside0.mk ((by rw [hg]; exact (below_size (by repeat (first | (with_reducible first | exact HB.out | apply below_alloc | apply pw_below_drewN | apply below_drew1) | exact HB.out))) : w.heap.size ≤ gb177)); have n3_ := n2_; clear HB; have HB := n0_; have BK177 := n1_; have GW177 := n2_; have GE177 := n3_; clear n0_ n1_ n2_ n3_; clear hb hbox hg; obtain ⟨hcz19_0, hcz19_1, hcz19_2, hcz19_3, hcz19_4⟩ := cz5 BK177; obtain ⟨hfz19_0, hfz19_1, hfz19_2, hfz19_3, hfz19_4⟩ := fz5 BK177))
   go_ret
   exact ⟨by first | rfl | (simp [errW_none, errW_some] <;> rfl) | (simp [*, errW_none, errW_some] <;> rfl), by repeat (first | (with_reducible first | exact HB.out | apply below_alloc | apply pw_below_drewN | apply below_drew1 | refine below_set ?_ GE177.out) | exact HB.out)⟩
 ·replace c2 := Bool.eq_false_iff.mpr c2
  subst c2
  have H1 : (some (!false && (a0_1 == 0 && (a0_2 == 0 && (a0_3 == 0 && (a0_4 == 0)))))) = some r := by rw [if_neg (show ¬ (false = true) by decide)] at H; exact H
  clear H
  have H := H1
  clear H1
  obtain rfl := Option.some.inj H
  go_enter Try.func105, Try.ntmps105
  go_wp2_with (first | ((with_reducible refine gate_dst (N := 1) rfl ?_); refine box_event ?hg (N := 1) ?hd (cs := #[.bool false, .int .i64 a0_1, .int .i64 a0_2, .int .i64 a0_3, .int .i64 a0_4]) (t := 42) ?hr ?_; (case hd => rfl); (case hg => rfl); (case hr => first | (go_simp; done) | (go_simp; rfl)); intro gb177 hg w20 hbox hb; have n0_ := bS HB hb; have n1_ := Aside0.mk (hbox); have n2_ := Aside0.mk ((by rw [hg]; exact (below_size (by repeat (first | (with_reducible first | exact HB.out | apply below_alloc | apply pw_below_drewN | apply below_drew1) | exact HB.out))) : w.heap.size ≤ gb177)); have n3_ := n2_; clear HB; have HB := n0_; have BK177 := n1_; have GW177 := n2_; have GE177 := n3_; clear n0_ n1_ n2_ n3_; clear hb hbox hg; obtain ⟨hcz21_0, hcz21_1, hcz21_2, hcz21_3, hcz21_4⟩ := cz5 BK177; obtain ⟨hfz21_0, hfz21_1, hfz21_2, hfz21_3, hfz21_4⟩ := fz5 BK177))
  go_ret
  exact ⟨by first | rfl | (simp [errW_none, errW_some] <;> rfl) | (simp [*, errW_none, errW_some] <;> rfl), by repeat (first | (with_reducible first | exact HB.out | apply below_alloc | apply pw_below_drewN | apply below_drew1 | refine below_set ?_ GE177.out) | exact HB.out)⟩

end Go.Proofs.Ytpdoplkiaejpiaa.PFnExactTakeAck
