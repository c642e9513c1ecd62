-- Written by a program of this session (wip/xprint.py).
import Derived.Test.YthkmjfapljmmpaaPFnExactCapsulesBytesx0
import Derived.Test.YthkmjfapljmmpaaPFnExactCapsulesBytesx2
namespace Go.Proofs.Ythkmjfapljmmpaa.PFnExactCapsulesBytes
open Go.RowKit Go.Proofs.YthkmjfapljmmpaaW.PrintWords Go.Proofs.YthkmjfapljmmpaaW.PrintLast Go.Proofs.YthkmjfapljmmpaaW.PrintMore
open Go.Proofs.Ythkmjfapljmmpaa.ShortK (bN bD bA sA sZ sS cz2 fz2 cz3 fz3 cz4 fz4 cz5 fz5 cz6 fz6 cz7 fz7 cz8 fz8 cz9 fz9 cz10 fz10 cz11 fz11 cz12 fz12)
open Go.Proofs.Ythkmjfapljmmpaa.StoreK (bm)
attribute [local go_sem] Go.Proofs.Ythkmjfapljmmpaa.StoreK.isSome_setCell max2_int min2_int max_two min_two max_three min_three max_four min_four   -- for this text's walks alone
set_option linter.unusedVariables false
set_option linter.unusedSimpArgs false

/-! ### impl_capsulesOk: function 87 -/
/-- Is a capsule right? -/
def capOk (c : S139) : Bool := decide (0 ≤ c.f0 ∧ c.f0 ≤ 4611686018427387903) && decide ((c.f1.size : Int) ≤ 200)
def impl_capsulesOk.f (l0 : List (S139)) : Option (Bool) := some (decide ((l0.length : Int) ≤ 30) && !(l0.any fun c => !capOk c))
set_option maxHeartbeats 4000000 in
theorem capsulesOk1_calls (base : Nat) (w W : World) (x : S139) (hb : Below base w W) (hbase : base ≤ W.heap.size) :
    Calls Try.prog 158 #[.agg #[.int .i64 x.f0, .string x.f1]] W fun e w' => e = .returned (.bool (!capOk x)) ∧ Below base w w' := by
  have hin : impl_isVarint.f x.f0 = some (decide (0 ≤ x.f0 ∧ x.f0 ≤ 4611686018427387903)) := by
    unfold impl_isVarint.f impl_in.f
    by_cases h : 0 ≤ x.f0
    · simp [h]
    · simp [h]
  unfold capOk
  have HI := Aside0.mk hin
  clear hin
  generalize decide (0 ≤ x.f0 ∧ x.f0 ≤ 4611686018427387903) = b at HI ⊢
  have HD := Aside0.mk (hb.alloc hbase (.cells #[.int .i64 x.f0, .string x.f1] 139))
  clear hb
  have HZ := Aside0.mk hbase
  clear hbase
  generalize hq : decide ((x.f1.size : Int) ≤ 200) = s
  have hs3 : decide ((200 : Int) < (x.f1.size : Int)) = !s := by
    rw [← hq]
    by_cases h : (x.f1.size : Int) ≤ 200
    · rw [decide_eq_true h, decide_eq_false (by omega)]; rfl
    · rw [decide_eq_false h, decide_eq_true (by omega)]; rfl
  clear hq
  cases b with
  | true =>
    cases s with
    | true =>
      have hs4 : decide ((200 : Int) < (x.f1.size : Int)) = false := hs3
      clear hs3
      go_enter Try.func158, Try.ntmps158
      go_wp2_with fail
      refine (impl_isVarint.calls x.f0 true _ HI.out).mono ?_
      rintro e w' ⟨rfl, ⟨nd, rfl⟩⟩
      go_wp2
      go_ret
      exact ⟨rfl, pw_below_drewN HD.out nd⟩
    | false =>
      have hs4 : decide ((200 : Int) < (x.f1.size : Int)) = true := hs3
      clear hs3
      go_enter Try.func158, Try.ntmps158
      go_wp2_with fail
      refine (impl_isVarint.calls x.f0 true _ HI.out).mono ?_
      rintro e w' ⟨rfl, ⟨nd, rfl⟩⟩
      go_wp2
      go_ret
      exact ⟨rfl, pw_below_drewN HD.out nd⟩
  | false =>
    clear hs3
    go_enter Try.func158, Try.ntmps158
    go_wp2_with fail
    refine (impl_isVarint.calls x.f0 false _ HI.out).mono ?_
    rintro e w' ⟨rfl, ⟨nd, rfl⟩⟩
    go_wp2
    go_ret
    exact ⟨rfl, pw_below_drewN HD.out nd⟩
set_option maxHeartbeats 4000000 in
theorem impl_capsulesOk.calls (A0 : Option Addr) (c0 : Nat) (l0 : List (S139)) (r : Bool) (w : World) (hr0 : Kd.C k139 w A0 l0.length l0) (hc0 : l0.length ≤ c0) (h : impl_capsulesOk.f l0 = some r) :
    Calls Try.prog 87 #[.slice A0 l0.length c0] w fun e w' => e = .returned (.bool r) ∧ Below w.heap.size w w' := by
  obtain rfl := Option.some.inj h
  clear h
  have eg : ∀ args w, (callFunc 158 args).run Try.prog w = .ok (.enter 158 args) w := enters_ Try.func158 (by kernel_rfl) rfl
  have hcon := anyF_Capsule A0 c0 l0 158 #[] (fun c => !capOk c) w eg
    (fun W x _ hb => capsulesOk1_calls w.heap.size w W x hb hb.size) hr0
  clear hr0 eg
  have HB := Aside0.mk (Below.refl w.heap.size w)
  generalize (l0.any fun c => !capOk c) = q at hcon ⊢
  by_cases hl : (l0.length : Int) ≤ 30
  · have c1 : decide ((l0.length : Int) ≤ 30) = true := decide_eq_true hl
    rw [c1]
    clear hl
    go_enter Try.func87, Try.ntmps87
    go_wp2_with fail
    refine hcon.mono ?_
    rintro e w' ⟨rfl, hb'⟩
    go_wp2
    go_ret
    exact ⟨rfl, HB.out.trans (hb'.mono (by simp))⟩
  · have c1 : decide ((l0.length : Int) ≤ 30) = false := decide_eq_false hl
    rw [c1]
    clear hl hcon
    go_enter Try.func87, Try.ntmps87
    go_wp2_with fail
    go_ret
    exact ⟨rfl, HB.out⟩

/-! ### impl_varintSize: function 161 -/
def impl_varintSize.f (a0 : Int) : Option (Int) := if a0 < 64 then (some 1) else (if a0 < 16384 then (some 2) else (if a0 < 1073741824 then (some 4) else (some 8)))
set_option maxHeartbeats 8000000 in
set_option maxRecDepth 100000 in
theorem impl_varintSize.calls (a0 : Int) (r : Int) (w : World) (h : impl_varintSize.f a0 = some r) :
  Calls Try.prog 161 #[.int .i64 a0] w fun e w' => e = .returned (.int .i64 r) ∧ Drawn0 w w' := by
 have H : (if a0 < 64 then (some 1) else (if a0 < 16384 then (some 2) else (if a0 < 1073741824 then (some 4) else (some 8)))) = some r := h
 clear h
 by_cases c2 : a0 < 64
 ·rw [if_pos c2] at H
  have c2b0 : decide (a0 < 64) = true := decide_eq_true c2
  clear c2
  obtain rfl := Option.some.inj H
  go_enter Try.func161, Try.ntmps161
  go_wp2
  go_ret
  exact ⟨by first | rfl | (simp; done) | (simp [*]; done), by repeat (first | exact Drawn0.refl _ | apply Drawn0.step)⟩
 ·rw [if_neg c2] at H
  have c2b0 : decide (a0 < 64) = false := decide_eq_false c2
  clear c2
  by_cases c3 : a0 < 16384
  ·rw [if_pos c3] at H
   have c3b0 : decide (a0 < 16384) = true := decide_eq_true c3
   clear c3
   obtain rfl := Option.some.inj H
   go_enter Try.func161, Try.ntmps161
   go_wp2
   go_ret
   exact ⟨by first | rfl | (simp; done) | (simp [*]; done), by repeat (first | exact Drawn0.refl _ | apply Drawn0.step)⟩
  ·rw [if_neg c3] at H
   have c3b0 : decide (a0 < 16384) = false := decide_eq_false c3
   clear c3
   by_cases c4 : a0 < 1073741824
   ·rw [if_pos c4] at H
    have c4b0 : decide (a0 < 1073741824) = true := decide_eq_true c4
    clear c4
    obtain rfl := Option.some.inj H
    go_enter Try.func161, Try.ntmps161
    go_wp2
    go_ret
    exact ⟨by first | rfl | (simp; done) | (simp [*]; done), by repeat (first | exact Drawn0.refl _ | apply Drawn0.step)⟩
   ·rw [if_neg c4] at H
    have c4b0 : decide (a0 < 1073741824) = false := decide_eq_false c4
    clear c4
    obtain rfl := Option.some.inj H
    go_enter Try.func161, Try.ntmps161
    go_wp2
    go_ret
    exact ⟨by first | rfl | (simp; done) | (simp [*]; done), by repeat (first | exact Drawn0.refl _ | apply Drawn0.step)⟩

/-! ### impl_bigEndian: function 162 -/
def impl_bigEndian.l0 : Nat → Int → List Int → Int → Option (ByteArray)
 | 0, _, _, _ => none
 | k + 1, x0, x5, x6 => if x6 ≥ 0 then (if 0 ≤ x6 then (if x6 < (x5.length : Int) then (impl_bigEndian.l0 k (x0 / 256) (x5.set (x6 : Int).toNat ((x0) % 256)) (wrap64 (x6 - 1))) else (none)) else (none)) else (some (strOfNums x5))
def impl_bigEndian.f (k : Nat) (a0 : Int) (a1 : Int) : Option (ByteArray) := if 0 ≤ a1 then (if (a1 : Int).toNat ≤ 281474976710656 then (impl_bigEndian.l0 k a0 (List.replicate (a1 : Int).toNat 0) (wrap64 (a1 - 1))) else (none)) else (none)
theorem impl_bigEndian.mono_l : ∀ k, (∀ y0 y1 y2, LeO (impl_bigEndian.l0 k y0 y1 y2) (impl_bigEndian.l0 (k + 1) y0 y1 y2))
 | 0 => fun _ _ _ r h => by simp [impl_bigEndian.l0] at h
 | k + 1 => by
  have ih0 := impl_bigEndian.mono_l k
  ·intro y0 y1 y2
   unfold impl_bigEndian.l0
   repeat' first
   | (with_reducible exact ih0 _ _ _)
   | (with_reducible exact LeO.refl _)
   | (with_reducible exact LeO.none _)
   | (with_reducible refine LeO.ite ?_ ?_)
   | (with_reducible refine LeO.bind ?_ (fun _ => ?_))
   | exact ih0 _ _ _
   | exact LeO.none _
   | refine LeO.ite ?_ ?_
   | refine LeO.bind ?_ (fun _ => ?_)
theorem impl_bigEndian.mono : ∀ a0 a1 k, LeO (impl_bigEndian.f k a0 a1) (impl_bigEndian.f (k + 1) a0 a1) := by
 intro a0 a1 k
 have ih0 := impl_bigEndian.mono_l k
 unfold impl_bigEndian.f
 repeat' first
   | (with_reducible exact ih0 _ _ _)
   | (with_reducible exact LeO.refl _)
   | (with_reducible exact LeO.none _)
   | (with_reducible refine LeO.ite ?_ ?_)
   | (with_reducible refine LeO.bind ?_ (fun _ => ?_))
   | exact ih0 _ _ _
   | exact LeO.none _
   | refine LeO.ite ?_ ?_
   | refine LeO.bind ?_ (fun _ => ?_)
set_option maxHeartbeats 8000000 in
set_option maxRecDepth 100000 in
theorem impl_bigEndian.calls (k : Nat) (a0 : Int) (a1 : Int) (r : ByteArray) (w : World) (h : impl_bigEndian.f k a0 a1 = some r) :
  Calls Try.prog 162 #[.int .u64 a0, .int .i64 a1] w fun e w' => e = .returned (.string r) ∧ Below w.heap.size w w' := by
 have HB := Aside0.mk (Below.refl w.heap.size w)
 have H : (if 0 ≤ a1 then (if (a1 : Int).toNat ≤ 281474976710656 then (impl_bigEndian.l0 k a0 (List.replicate (a1 : Int).toNat 0) (wrap64 (a1 - 1))) else (none)) else (none)) = some r := h
 clear h
 by_cases c3 : 0 ≤ a1
 ·rw [if_pos c3] at H
  have c3b0 := eq_true c3
  have c3b1 : decide (0 ≤ a1) = true := decide_eq_true c3
  clear c3
  by_cases c4 : (a1 : Int).toNat ≤ 281474976710656
  ·rw [if_pos c4] at H
   have c4b0 := eq_true c4
   have c4b1 : decide ((a1 : Int).toNat ≤ 281474976710656) = true := decide_eq_true c4
   clear c4
   obtain ⟨y138, hy138⟩ : ∃ y_ : List Int, y_ = (List.replicate (a1 : Int).toNat 0) := ⟨_, rfl⟩
   replace H : (impl_bigEndian.l0 k a0 y138 (wrap64 (a1 - 1))) = some r := by first | (rw [hy138]; with_reducible exact H) | (have H2_ := (Option.bind_some _ _).symm.trans H; rw [hy138]; with_reducible exact H2_) | (have H2_ := (Option.bind_some _ _).symm.trans H; with_reducible exact H2_) | with_reducible exact H | (rw [hy138]; exact H) | exact H
   have Ny138 := Aside0.mk hy138
   clear hy138
   have H' := Aside0.mk H
   clear H
   go_enter Try.func162, Try.ntmps162
   go_wp2_with (first | ((with_reducible refine gate_dst (N := 8) rfl ?_); refine Kd.R_make (Kd.int .u8) _ 5 rfl (N := 8) rfl 206 _ _ rfl a1 rfl rfl Try.underlying206 (.int .u8 0) 1 info5 rfl (by decide) (by omega) 0 (ok := fun _ => True) (okp := fun _ => True) rfl (fun _ hk => hk) trivial (of_decide_eq_true (by first | (with_reducible assumption) | assumption)) (Nat.le_trans (Nat.mul_le_mul_right _ (of_decide_eq_true (by first | (with_reducible assumption) | assumption) : a1.toNat ≤ 281474976710656)) (by omega)) (Below.refl _ _) (Nat.le_refl _) ?_; intro v139 w5 ho6 hb hg_ hnew_; clear hg_ hnew_; (first | rw [← Ny138.out] at ho6 | (simp only [Int.reduceToNat] at ho6; rw [← Ny138.out] at ho6)); have n0_ := Aside0.mk (Kd.R_lower ho6 (below_size (by repeat (first | (with_reducible first | exact HB.out | apply below_alloc | apply pw_below_drewN | apply below_drew1) | exact HB.out)))); have n1_ := Aside0.mk (below_step (by repeat (first | (with_reducible first | exact HB.out | apply below_alloc | apply pw_below_drewN | apply below_drew1) | exact HB.out)) hb); clear HB; have HO140 := n0_; have HB := n1_; clear n0_ n1_; clear hb ho6))
   go_loopg [0, 6] k (fun kq v0 v6 w' => ∃ (x0_1 : Int) (x5_1 : List Int) (x6_1 : Int), v0 = .int .u64 x0_1 ∧ v6 = .int .i64 x6_1 ∧ Aside0 (impl_bigEndian.l0 kq x0_1 x5_1 x6_1 = some r) ∧ Aside0 (kq ≤ k) ∧ Aside0 (Kd.R (Kd.int .u8) 5 w' w.heap.size (fun _ => True) v139 x5_1) ∧ Aside0 (Below w.heap.size w w'))
   case atStart => exact ⟨(a0), (y138), (wrap64 (a1 - 1)), (by first | rfl | (simp; done) | (simp [*]; done)), (by first | rfl | (simp; done) | (simp [*]; done)), H', ⟨Nat.le_refl _⟩, ⟨by (with_reducible repeat (first | apply Kd.R_alloc | apply Kd.R_drewN | apply Kd.R_drew)); exact HO140.out⟩, ⟨by repeat (first | (with_reducible first | exact HB.out | apply below_alloc | apply pw_below_drewN | apply below_drew1) | exact HB.out)⟩⟩
   case round =>
    clear H'
    try clear c1
    try clear p2
    try clear c3
    try clear c3b0
    try clear c3b1
    try clear c4
    try clear c4b0
    try clear c4b1
    try clear p6
    obtain ⟨x0_1, x5_1, x6_1, rfl, rfl, HA, HK1, HO_5, HB⟩ := hrel
    cases gk with
    | zero => exact absurd HA.out (by simp [impl_bigEndian.l0])
    | succ k1 =>
     have H := HA.out
     clear HA
     simp only [impl_bigEndian.l0] at H
     by_cases c7 : x6_1 ≥ 0
     ·rw [if_pos c7] at H
      have c7b0 : decide (0 ≤ x6_1) = true := decide_eq_true c7
      clear c7
      by_cases c8 : 0 ≤ x6_1
      ·rw [if_pos c8] at H
       have c8b0 : decide (0 ≤ x6_1) = true := decide_eq_true c8
       clear c8
       by_cases c9 : x6_1 < (x5_1.length : Int)
       ·rw [if_pos c9] at H
        have c9b0 : decide (x6_1 < (x5_1.length : Int)) = true := decide_eq_true c9
        clear c9
        obtain ⟨y141, hy141⟩ : ∃ y_ : List Int, y_ = (x5_1.set (x6_1 : Int).toNat ((x0_1) % 256)) := ⟨_, rfl⟩
        replace H : (impl_bigEndian.l0 k1 (x0_1 / 256) y141 (wrap64 (x6_1 - 1))) = some r := by first | (rw [hy141]; with_reducible exact H) | (have H2_ := (Option.bind_some _ _).symm.trans H; rw [hy141]; with_reducible exact H2_) | (have H2_ := (Option.bind_some _ _).symm.trans H; with_reducible exact H2_) | with_reducible exact H | (rw [hy141]; exact H) | exact H
        have Ny141 := Aside0.mk hy141
        clear hy141
        have H' := Aside0.mk H
        clear H
        have p10 : 0 ≤ (x6_1 : Int) := of_decide_eq_true (by first | (with_reducible assumption) | assumption)
        have q10 : (x6_1 : Int) < ((x5_1.length : Int) : Int) := of_decide_eq_true (by first | (with_reducible assumption) | assumption)
        obtain ⟨go10, co10, eo10, gb10, gl10, cl10, HG10⟩ := Kd.R_form HO_5.out (by omega)
        (first | cases eo10 | (injection eo10 with ea_ en_ ec_; (first | subst ea_ | (injection ea_ with ea_; subst ea_)); subst ec_; clear en_))
        have GB10 := Aside0.mk gb10
        have GG10 := Aside0.mk HG10
        clear gb10 gl10 HG10
        obtain ⟨hx10_0, hf10_0⟩ := Kd.R_celln 0 HO_5.out (x6_1 : Int) p10 q10
        replace p10 := eq_true p10
        replace q10 := eq_true q10
        have HP11 := Kd.R_putg HO_5.out (x6_1 : Int) ((x0_1) % 256)
        go_wp2_with (first | ((with_reducible refine gate_store (t := 5) (p := 19) rfl ?_); refine store_event (t := 5) (p := 19) (v := ?vo_w12) (w1 := (wr.setCell ⟨go10, (x6_1 : Int).toNat, none⟩ (.int .u8 ((x0_1) % 256)))) ?hg ?ho ?hn ?hr ?_; (case ho => rfl); (case hg => rfl); (case hn => rfl); (case hr => first | (go_simp; done) | (go_simp; rfl)); intro w12 hw; have hg : wr.grownBy w12 (some go10) := (by rw [hw]; exact HP11.2); have hp_ : Kd.R (Kd.int .u8) 5 w12 w.heap.size (fun _ => True) (.slice (some ⟨go10, 0, none⟩) x5_1.length co10) y141 := (by rw [hw, Ny141.out]; exact HP11.1); clear HP11; have n0_ := Aside0.mk (hp_); have n1_ := Aside0.mk ((by rw [hw]; exact below_set (HB.out) GB10.out : Below w.heap.size w w12)); clear HO_5; clear HB; have HO_5 := n0_; have HB := n1_; clear n0_ n1_; clear hg hw hp_))
        go_roundg k1
        case measure => have := HK1.out; omega
        case rel => exact ⟨(x0_1 / 256), (y141), (wrap64 (x6_1 - 1)), (by first | rfl | (simp; done) | (simp [*]; done)), (by first | rfl | (simp; done) | (simp [*]; done)), H', ⟨by have := HK1.out; omega⟩, ⟨by (with_reducible repeat (first | apply Kd.R_alloc | apply Kd.R_drewN | apply Kd.R_drew)); exact HO_5.out⟩, ⟨by repeat (first | (with_reducible first | exact HB.out | apply below_alloc | apply pw_below_drewN | apply below_drew1) | exact HB.out)⟩⟩
       ·rw [if_neg c9] at H
        exact absurd H (by simp)
      ·rw [if_neg c8] at H
       exact absurd H (by simp)
     ·rw [if_neg c7] at H
      have c7b0 : decide (0 ≤ x6_1) = false := decide_eq_false c7
      clear c7
      obtain rfl := Option.some.inj H
      have hcv13 := own_string (P := Try.prog) Try.underlying206 Try.underlying5 Try.underlying9 (Kd.own_of_R HO_5.out)
      go_wp2
      go_ret
      exact ⟨by first | rfl | (simp [errW_none, errW_some] <;> rfl) | (simp [*, errW_none, errW_some] <;> rfl), by repeat (first | (with_reducible first | exact HB.out | apply below_alloc | apply pw_below_drewN | apply below_drew1) | exact HB.out)⟩
  ·rw [if_neg c4] at H
   exact absurd H (by simp)
 ·rw [if_neg c3] at H
  exact absurd H (by simp)

/-! ### impl_varint: function 94 -/
/-- The two bits that a size has ahead. -/
def vfirst (t : Int) : Int := if t = 2 then 1 else if t = 4 then 2 else if t = 8 then 3 else 0
def impl_varint.f (k : Nat) (a0 : Int) : Option (ByteArray) := (impl_varintSize.f a0).bind fun t => (impl_bigEndian.f k (Go.bits .or .u64 (IntKind.u64.wrap (a0)) (shl .u64 (vfirst t) (8 * t - 2))) t)
theorem impl_varint.mono : ∀ a0 k, LeO (impl_varint.f k a0) (impl_varint.f (k + 1) a0) := by
  intro a0 k
  unfold impl_varint.f
  exact LeO.bind (LeO.refl _) (fun _ => impl_bigEndian.mono _ _ _)
theorem varintSize_in (a0 t : Int) (h : impl_varintSize.f a0 = some t) : t = 1 ∨ t = 2 ∨ t = 4 ∨ t = 8 := by
  unfold impl_varintSize.f at h
  split at h
  · exact Or.inl (Option.some.inj h).symm
  · split at h
    · exact Or.inr (Or.inl (Option.some.inj h).symm)
    · split at h
      · exact Or.inr (Or.inr (Or.inl (Option.some.inj h).symm))
      · exact Or.inr (Or.inr (Or.inr (Option.some.inj h).symm))
theorem varint_key (t : Int) (h : t = 1 ∨ t = 2 ∨ t = 4 ∨ t = 8) : keyOf Try.prog 3 (.int .i64 t) = some (.int .i64 t) :=
  Go.Maps.keyOf_int_mk Try.underlying3 (by rcases h with rfl | rfl | rfl | rfl <;> decide)
theorem varint_look (t c : Int) (h : t = 1 ∨ t = 2 ∨ t = 4 ∨ t = 8) (hat : (((((DataW.map [] : DataW Unit).put (.int .i64 1) (.lit (.int .u64 0))).put (.int .i64 2) (.lit (.int .u64 1))).put (.int .i64 4) (.lit (.int .u64 2))).put (.int .i64 8) (.lit (.int .u64 3))).atKey (.int .i64 t) (.lit (.int .u64 0)) = .lit (.int .u64 c)) : c = vfirst t := by
  rcases h with rfl | rfl | rfl | rfl
  all_goals
    have e : ∀ x y : Int, (DataW.lit (.int .u64 x) : DataW Unit) = .lit (.int .u64 y) → y = x := fun x y h => by
      injection h with h
      injection h with _ h
      exact h.symm
    exact (e _ _ hat)
set_option maxHeartbeats 4000000 in
set_option maxRecDepth 100000 in
theorem impl_varint.calls (k : Nat) (a0 : Int) (r : ByteArray) (w : World) (h : impl_varint.f k a0 = some r) :
    Calls Try.prog 94 #[.int .i64 a0] w fun e w' => e = .returned (.string r) ∧ Below w.heap.size w w' := by
  have H := Option.bind_eq_some_iff.mp h
  clear h
  obtain ⟨t, A1, A2⟩ := H
  have ht := varintSize_in a0 t A1
  have hkey := varint_key t ht
  have HT := Aside0.mk ht
  have HA1 := Aside0.mk A1
  have HA2 := Aside0.mk A2
  clear ht A1 A2
  have hmm := @run_makeMap Try.prog
  have law : Go.Maps.Keyed Try.prog 3 := Go.Maps.int_keyed Try.underlying3
  have zeroE : ∀ w : World, (zeroValue 208).run Try.prog w = .ok (.int .u64 0) w := fun w => by kernel_rfl
  go_enter Try.func94, Try.ntmps94
  go_wp2_with fail
  refine (impl_varintSize.calls a0 t _ HA1.out).mono ?_
  rintro e w' ⟨rfl, ⟨nd, rfl⟩⟩
  have hM : Try.prog.underlying 209 = some (.map 3 208) := Try.underlying209
  have WU : ∀ n : Int, 0 ≤ n → n < 4 → (Lit.int .u64 n).wf = true := fun n h0 h1 => by
    simp [Lit.wf, IntKind.min, IntKind.max, IntKind.signed, IntKind.bits]
    omega
  go_wp2_with (first
    | (refine Go.Proofs.Ythkmjfapljmmpaa.MapK.wpList_insert_own (H := Unit) _ rfl (.tmp 7) (.const (.int .i64 1)) (.const (.int .u64 0)) 209 rfl 3 208 law hM (Go.plainElem Try.prog 208) w.heap.size 0 (DataW.map []) rfl (World.ownsMap_made _ _ _ _) (by unfold maxLen; omega) (.int .i64 1) (.int .u64 0) (.int .i64 1) rfl rfl (varint_key 1 (by simp)) _ [] (Go.plainElem_int Try.underlying208 (WU 0 (by omega) (by omega))) ?_; intro w1 o1 g1)
    | (refine Go.Proofs.Ythkmjfapljmmpaa.MapK.wpList_insert_own (H := Unit) _ rfl (.tmp 7) (.const (.int .i64 2)) (.const (.int .u64 1)) 209 rfl 3 208 law hM (Go.plainElem Try.prog 208) w.heap.size 1 _ rfl o1 (by unfold maxLen; omega) (.int .i64 2) (.int .u64 1) (.int .i64 2) rfl rfl (varint_key 2 (by simp)) _ [] (Go.plainElem_int Try.underlying208 (WU 1 (by omega) (by omega))) ?_; intro w2 o2 g2)
    | (refine Go.Proofs.Ythkmjfapljmmpaa.MapK.wpList_insert_own (H := Unit) _ rfl (.tmp 7) (.const (.int .i64 4)) (.const (.int .u64 2)) 209 rfl 3 208 law hM (Go.plainElem Try.prog 208) w.heap.size 2 _ rfl o2 (by unfold maxLen; omega) (.int .i64 4) (.int .u64 2) (.int .i64 4) rfl rfl (varint_key 4 (by simp)) _ [] (Go.plainElem_int Try.underlying208 (WU 2 (by omega) (by omega))) ?_; intro w3 o3 g3)
    | (refine Go.Proofs.Ythkmjfapljmmpaa.MapK.wpList_insert_own (H := Unit) _ rfl (.tmp 7) (.const (.int .i64 8)) (.const (.int .u64 3)) 209 rfl 3 208 law hM (Go.plainElem Try.prog 208) w.heap.size 3 _ rfl o3 (by unfold maxLen; omega) (.int .i64 8) (.int .u64 3) (.int .i64 8) rfl rfl (varint_key 8 (by simp)) _ [] (Go.plainElem_int Try.underlying208 (WU 3 (by omega) (by omega))) ?_; intro w4 o4 g4)
    | (refine Go.wpList_lookup_own_int _ rfl (.tmp 8) (.tmp 9) 209 rfl 3 208 .u64 law hM Try.underlying208 (zeroE _) w.heap.size 4 _ rfl o4 (.int .i64 t) (.int .i64 t) rfl hkey ?_; intro c hat hwc)
    | fail)
  have hc := varint_look t c HT.out hat
  subst hc
  clear hat hwc o1 o2 o3 o4 hkey hmm zeroE WU hM law
  have HB : Aside0 (Below w.heap.size w w4) := Aside0.mk (by
    have b0 : Below w.heap.size w ((w.drewN nd).alloc (.map #[] 0)) := below_alloc (pw_below_drewN (Below.refl _ _) nd) _
    have b1 := b0.grown g1 b0.size (fun j hj => by cases hj; exact Nat.le_refl _)
    have b2 := b1.grown g2 b1.size (fun j hj => by cases hj; exact Nat.le_refl _)
    have b3 := b2.grown g3 b2.size (fun j hj => by cases hj; exact Nat.le_refl _)
    exact b3.grown g4 b3.size (fun j hj => by cases hj; exact Nat.le_refl _))
  clear g1 g2 g3 g4
  obtain ⟨HT⟩ := HT
  obtain ⟨HA2⟩ := HA2
  have hw : ∀ n : Int, -9223372036854775808 ≤ n → n ≤ 9223372036854775807 → wrap64 n = n := fun n h0 h1 => by first | exact wrap64_id h0 h1 | exact wrap64_id ⟨h0, h1⟩ | (unfold wrap64; omega)
  rcases HT with rfl | rfl | rfl | rfl
  · have ev : vfirst 1 = 0 := rfl
    have e3 : wrap64 (wrap64 (8 * 1) - 2) = 6 := by rw [hw (8 * 1) (by omega) (by omega), hw (8 * 1 - 2) (by omega) (by omega)]; rfl
    have el : shl .u64 0 (8 * 1 - 2) = 0 := rfl
    have e5 : Op.shift .shl .u64 0 .i64 (wrap64 (wrap64 (8 * 1) - 2)) = pure (.int .u64 0) := by rw [e3]; rfl
    rw [ev, el] at HA2
    rw [ev]
    clear ev el e3 hw
    have HA3 := Aside0.mk HA2
    clear HA2
    go_wp2_with fail
    rw [e5]
    clear e5
    rw [show ∀ v : Value, (Sem.run Try.prog (pure v) w4).andThen (fun a w' => Result.ok (Next.value a) w') = Result.ok (Next.value v) w4 from fun _ => rfl, Oper.upon_value]
    go_wp2_with fail
    refine (impl_bigEndian.calls k _ _ r _ HA3.out).mono ?_
    rintro e w' ⟨rfl, hb⟩
    go_wp2
    go_ret
    exact ⟨rfl, HB.out.trans (hb.mono HB.out.size)⟩
  · have ev : vfirst 2 = 1 := rfl
    have e3 : wrap64 (wrap64 (8 * 2) - 2) = 14 := by rw [hw (8 * 2) (by omega) (by omega), hw (8 * 2 - 2) (by omega) (by omega)]; rfl
    have el : shl .u64 1 (8 * 2 - 2) = 16384 := rfl
    have e5 : Op.shift .shl .u64 1 .i64 (wrap64 (wrap64 (8 * 2) - 2)) = pure (.int .u64 16384) := by rw [e3]; rfl
    rw [ev, el] at HA2
    rw [ev]
    clear ev el e3 hw
    have HA3 := Aside0.mk HA2
    clear HA2
    go_wp2_with fail
    rw [e5]
    clear e5
    rw [show ∀ v : Value, (Sem.run Try.prog (pure v) w4).andThen (fun a w' => Result.ok (Next.value a) w') = Result.ok (Next.value v) w4 from fun _ => rfl, Oper.upon_value]
    go_wp2_with fail
    refine (impl_bigEndian.calls k _ _ r _ HA3.out).mono ?_
    rintro e w' ⟨rfl, hb⟩
    go_wp2
    go_ret
    exact ⟨rfl, HB.out.trans (hb.mono HB.out.size)⟩
  · have ev : vfirst 4 = 2 := rfl
    have e3 : wrap64 (wrap64 (8 * 4) - 2) = 30 := by rw [hw (8 * 4) (by omega) (by omega), hw (8 * 4 - 2) (by omega) (by omega)]; rfl
    have el : shl .u64 2 (8 * 4 - 2) = 2147483648 := rfl
    have e5 : Op.shift .shl .u64 2 .i64 (wrap64 (wrap64 (8 * 4) - 2)) = pure (.int .u64 2147483648) := by rw [e3]; rfl
    rw [ev, el] at HA2
    rw [ev]
    clear ev el e3 hw
    have HA3 := Aside0.mk HA2
    clear HA2
    go_wp2_with fail
    rw [e5]
    clear e5
    rw [show ∀ v : Value, (Sem.run Try.prog (pure v) w4).andThen (fun a w' => Result.ok (Next.value a) w') = Result.ok (Next.value v) w4 from fun _ => rfl, Oper.upon_value]
    go_wp2_with fail
    refine (impl_bigEndian.calls k _ _ r _ HA3.out).mono ?_
    rintro e w' ⟨rfl, hb⟩
    go_wp2
    go_ret
    exact ⟨rfl, HB.out.trans (hb.mono HB.out.size)⟩
  · have ev : vfirst 8 = 3 := rfl
    have e3 : wrap64 (wrap64 (8 * 8) - 2) = 62 := by rw [hw (8 * 8) (by omega) (by omega), hw (8 * 8 - 2) (by omega) (by omega)]; rfl
    have el : shl .u64 3 (8 * 8 - 2) = 13835058055282163712 := rfl
    have e5 : Op.shift .shl .u64 3 .i64 (wrap64 (wrap64 (8 * 8) - 2)) = pure (.int .u64 13835058055282163712) := by rw [e3]; rfl
    rw [ev, el] at HA2
    rw [ev]
    clear ev el e3 hw
    have HA3 := Aside0.mk HA2
    clear HA2
    go_wp2_with fail
    rw [e5]
    clear e5
    rw [show ∀ v : Value, (Sem.run Try.prog (pure v) w4).andThen (fun a w' => Result.ok (Next.value a) w') = Result.ok (Next.value v) w4 from fun _ => rfl, Oper.upon_value]
    go_wp2_with fail
    refine (impl_bigEndian.calls k _ _ r _ HA3.out).mono ?_
    rintro e w' ⟨rfl, hb⟩
    go_wp2
    go_ret
    exact ⟨rfl, HB.out.trans (hb.mono HB.out.size)⟩

/-! ### impl_counted: function 95 -/
def impl_counted.f (k : Nat) (a0 : ByteArray) : Option (ByteArray) := (impl_varint.f k (a0.size : Int)).bind fun t142 => (if t142.size + a0.size ≤ 9223372036854775807 then (some (t142 ++ a0)) else (none))
theorem impl_counted.mono : ∀ a0 k, LeO (impl_counted.f k a0) (impl_counted.f (k + 1) a0) := by
 intro a0 k
 unfold impl_counted.f
 repeat' first
   | (with_reducible exact impl_varint.mono _ _)
   | (with_reducible exact LeO.refl _)
   | (with_reducible exact LeO.none _)
   | (with_reducible refine LeO.ite ?_ ?_)
   | (with_reducible refine LeO.bind ?_ (fun _ => ?_))
   | exact impl_varint.mono _ _
   | exact LeO.none _
   | refine LeO.ite ?_ ?_
   | refine LeO.bind ?_ (fun _ => ?_)
set_option maxHeartbeats 8000000 in
set_option maxRecDepth 100000 in
theorem impl_counted.calls (k : Nat) (a0 : ByteArray) (r : ByteArray) (w : World) (h : impl_counted.f k a0 = some r) :
  Calls Try.prog 95 #[.string a0] w fun e w' => e = .returned (.string r) ∧ Below w.heap.size w w' := by
 have HB := Aside0.mk (Below.refl w.heap.size w)
 have H : ((impl_varint.f k (a0.size : Int)).bind fun t142 => (if t142.size + a0.size ≤ 9223372036854775807 then (some (t142 ++ a0)) else (none))) = some r := h
 clear h
 replace H := Option.bind_eq_some_iff.mp H
 obtain ⟨t142, A20, H⟩ := H
 replace H : (if t142.size + a0.size ≤ 9223372036854775807 then (some (t142 ++ a0)) else (none)) = some r := H
 have A2 := Aside0.mk A20
 clear A20
 by_cases c3 : t142.size + a0.size ≤ 9223372036854775807
 ·rw [if_pos c3] at H
  have c3b0 := eq_true c3
  have c3b1 : decide (t142.size + a0.size ≤ 9223372036854775807) = true := decide_eq_true c3
  try have c3b2 : (9223372036854775807 < t142.size + a0.size) = False := eq_false (Nat.not_lt.2 c3)
  obtain rfl := Option.some.inj H
  go_enter Try.func95, Try.ntmps95
  go_wp2_with (first | ((with_reducible refine gate_callee (f := 94) rfl ?_); refine goesL_ (some 5) rfl rfl Try.func94 (by kernel_rfl) rfl #[.int .i64 (a0.size : Int)] rfl (by (try simp only [List.map_toArray, List.map_cons, List.map_nil]); first | done | rfl | (simp only [List.length_drop, List.length_take]; rfl)) ?_; (with_reducible refine (impl_varint.calls k (a0.size : Int) t142 _ A2.out).mono ?_); rintro e w4 ⟨rfl, hb⟩; refine ⟨_, rfl, ?_⟩; have n0_ := Aside0.mk (below_step (by repeat (first | (with_reducible first | exact HB.out | apply below_alloc | apply pw_below_drewN | apply below_drew1) | exact HB.out)) hb); clear HB; have HB := n0_; clear n0_; (try clear hb); (try clear hb2); (try clear hk); (try clear hi)))
  go_ret
  exact ⟨by first | rfl | (simp [errW_none, errW_some] <;> rfl) | (simp [*, errW_none, errW_some] <;> rfl), by repeat (first | (with_reducible first | exact HB.out | apply below_alloc | apply pw_below_drewN | apply below_drew1) | exact HB.out)⟩
 ·rw [if_neg c3] at H
  exact absurd H (by simp)

/-! ### impl_CapsulesBytes: function 30 -/
def impl_CapsulesBytes.l0 : Nat → ByteArray → List (S139) → Int → Int → Option (ByteArray × Bool)
 | 0, _, _, _, _ => none
 | k + 1, x4, x10, x11, x12 => if x12 < x11 then (if 0 ≤ x12 then (if x12 < (x10.length : Int) then ((impl_varint.f k ((rd_T139 x10 x12).f0)).bind fun t146 => ((impl_counted.f k ((rd_T139 x10 x12).f1)).bind fun t147 => (if t146.size + t147.size ≤ 9223372036854775807 then (if x4.size + (t146 ++ t147).size ≤ 9223372036854775807 then (impl_CapsulesBytes.l0 k (x4 ++ (t146 ++ t147)) x10 x11 (wrap64 (x12 + 1))) else (none)) else (none)))) else (none)) else (none)) else (some (x4, true))
def impl_CapsulesBytes.f (k : Nat) (l0 : List (S139)) : Option (ByteArray × Bool) := (impl_capsulesOk.f l0).bind fun t143 => (if t143 = true then (impl_CapsulesBytes.l0 k (⟨#[]⟩ : ByteArray) l0 (l0.length : Int) 0) else (some ((⟨#[]⟩ : ByteArray), false)))
theorem impl_CapsulesBytes.mono_l : ∀ k, (∀ y0 y1 y2 y3, LeO (impl_CapsulesBytes.l0 k y0 y1 y2 y3) (impl_CapsulesBytes.l0 (k + 1) y0 y1 y2 y3))
 | 0 => fun _ _ _ _ r h => by simp [impl_CapsulesBytes.l0] at h
 | k + 1 => by
  have ih0 := impl_CapsulesBytes.mono_l k
  ·intro y0 y1 y2 y3
   unfold impl_CapsulesBytes.l0
   repeat' first
   | (with_reducible exact ih0 _ _ _ _)
   | (with_reducible exact impl_counted.mono _ _)
   | (with_reducible exact impl_varint.mono _ _)
   | (with_reducible exact LeO.refl _)
   | (with_reducible exact LeO.none _)
   | (with_reducible refine LeO.ite ?_ ?_)
   | (with_reducible refine LeO.bind ?_ (fun _ => ?_))
   | exact ih0 _ _ _ _
   | exact impl_counted.mono _ _
   | exact impl_varint.mono _ _
   | exact LeO.none _
   | refine LeO.ite ?_ ?_
   | refine LeO.bind ?_ (fun _ => ?_)
theorem impl_CapsulesBytes.mono : ∀ a0 k, LeO (impl_CapsulesBytes.f k a0) (impl_CapsulesBytes.f (k + 1) a0) := by
 intro a0 k
 have ih0 := impl_CapsulesBytes.mono_l k
 unfold impl_CapsulesBytes.f
 repeat' first
   | (with_reducible exact ih0 _ _ _ _)
   | (with_reducible exact impl_counted.mono _ _)
   | (with_reducible exact impl_varint.mono _ _)
   | (with_reducible exact LeO.refl _)
   | (with_reducible exact LeO.none _)
   | (with_reducible refine LeO.ite ?_ ?_)
   | (with_reducible refine LeO.bind ?_ (fun _ => ?_))
   | exact ih0 _ _ _ _
   | exact impl_counted.mono _ _
   | exact impl_varint.mono _ _
   | exact LeO.none _
   | refine LeO.ite ?_ ?_
   | refine LeO.bind ?_ (fun _ => ?_)
def impl_CapsulesBytes.T7 : Bool × List (List Nat × List Nat) := (true, [([], []), ([], []), ([1], [1]), ([2], [2]), ([], []), ([4], [4]), ([5, 3], [5]), ([3, 6], [3, 6]), ([0, 7], [0, 7]), ([8, 6, 0, 1, 2, 3, 4, 5, 6, 7, 8], [0, 8])])
def impl_CapsulesBytes.B7 : List Nat := [0, 0, 2, 6, 0, 16, 62, 126, 255, 511]
theorem impl_CapsulesBytes.tab7 : rtab .any (opsOf Try.f30 7) = impl_CapsulesBytes.T7 := by kernel_rfl
theorem impl_CapsulesBytes.bits7 : waitsOk impl_CapsulesBytes.T7.2 impl_CapsulesBytes.B7 = true := by kernel_rfl
set_option maxHeartbeats 8000000 in
set_option maxRecDepth 100000 in
theorem impl_CapsulesBytes.calls (k : Nat) (A0 : Option Addr) (c0 : Nat) (l0 : List (S139)) (r1 : ByteArray) (r2 : Bool) (w : World) (hr0 : Kd.C k139 w A0 l0.length l0) (hc0 : l0.length ≤ c0) (h : impl_CapsulesBytes.f k l0 = some (r1, r2)) :
  Calls Try.prog 30 #[.slice A0 l0.length c0] w fun e w' => e = .returned (.tuple #[.string r1, .bool r2]) ∧ Below w.heap.size w w' := by
 have hu139 := Try.underlying139
 have HR0 := Aside0.mk hr0
 have HC0 := Aside0.mk hc0
 clear hr0 hc0
 have HB := Aside0.mk (Below.refl w.heap.size w)
 have H : ((impl_capsulesOk.f l0).bind fun t143 => (if t143 = true then (impl_CapsulesBytes.l0 k (⟨#[]⟩ : ByteArray) l0 (l0.length : Int) 0) else (some ((⟨#[]⟩ : ByteArray), false)))) = some (r1, r2) := h
 clear h
 replace H := Option.bind_eq_some_iff.mp H
 obtain ⟨t143, A20, H⟩ := H
 replace H : (if t143 = true then (impl_CapsulesBytes.l0 k (⟨#[]⟩ : ByteArray) l0 (l0.length : Int) 0) else (some ((⟨#[]⟩ : ByteArray), false))) = some (r1, r2) := H
 have A2 := Aside0.mk A20
 clear A20
 by_cases c3 : t143 = true
 ·subst c3
  have H1 : (impl_CapsulesBytes.l0 k (⟨#[]⟩ : ByteArray) l0 (l0.length : Int) 0) = some (r1, r2) := by rw [if_pos rfl] at H; exact H
  clear H
  have H := H1
  clear H1
  have H' := Aside0.mk H
  clear H
  go_enter Try.func30, Try.ntmps30
  go_wp2_with (first | ((with_reducible refine gate_callee (f := 87) rfl ?_); refine goesL_ (some 8) rfl rfl Try.func87 (by kernel_rfl) rfl #[.slice A0 l0.length c0] rfl (by (try simp only [List.map_toArray, List.map_cons, List.map_nil]); first | done | rfl | (simp only [List.length_drop, List.length_take]; rfl)) ?_; (with_reducible refine (impl_capsulesOk.calls _ _ l0 true _ ?side1 ?side2 A2.out).mono ?_); (case side1 => repeat (first | exact HR0.out | (with_reducible refine Kd.C_alloc ?_ _) | (with_reducible refine Kd.C_drewN ?_ _) | (with_reducible refine Kd.C_drew ?_))); (case side2 => exact HC0.out); rintro e w4 ⟨rfl, hb⟩; refine ⟨_, rfl, ?_⟩; have n0_ := Aside0.mk (below_step (by repeat (first | (with_reducible first | exact HB.out | apply below_alloc | apply pw_below_drewN | apply below_drew1) | exact HB.out)) hb); clear HB; have HB := n0_; clear n0_; (try clear hb); (try clear hb2); (try clear hk); (try clear hi)))
  go_loopg [4, 12] k (fun kq v4 v12 w' => ∃ (x4_1 : ByteArray) (x12_1 : Int), v4 = .string x4_1 ∧ v12 = .int .i64 x12_1 ∧ Aside0 (impl_CapsulesBytes.l0 kq x4_1 l0 (l0.length : Int) x12_1 = some (r1, r2)) ∧ Aside0 (kq ≤ k) ∧ Aside0 (Below w.heap.size w w'))
  case atStart => exact ⟨((⟨#[]⟩ : ByteArray)), (0), (by first | rfl | (simp; done) | (simp [*]; done)), (by first | rfl | (simp; done) | (simp [*]; done)), H', ⟨Nat.le_refl _⟩, ⟨by repeat (first | (with_reducible first | exact HB.out | apply below_alloc | apply pw_below_drewN | apply below_drew1) | exact HB.out)⟩⟩
  case round =>
   clear H'
   try clear p2
   try clear c3
   obtain ⟨x4_1, x12_1, rfl, rfl, HA, HK1, HB⟩ := hrel
   cases gk with
   | zero => exact absurd HA.out (by simp [impl_CapsulesBytes.l0])
   | succ k1 =>
    have H := HA.out
    clear HA
    simp only [impl_CapsulesBytes.l0] at H
    by_cases c5 : x12_1 < (l0.length : Int)
    ·rw [if_pos c5] at H
     have c5b0 : decide (x12_1 < (l0.length : Int)) = true := decide_eq_true c5
     clear c5
     by_cases c6 : 0 ≤ x12_1
     ·rw [if_pos c6] at H
      have c6b0 : decide (0 ≤ x12_1) = true := decide_eq_true c6
      clear c6
      by_cases c7 : x12_1 < (l0.length : Int)
      ·rw [if_pos c7] at H
       have c7b0 : decide (x12_1 < (l0.length : Int)) = true := decide_eq_true c7
       clear c7
       replace H := Option.bind_eq_some_iff.mp H
       obtain ⟨t146, A80, H⟩ := H
       replace H : ((impl_counted.f k1 ((rd_T139 l0 x12_1).f1)).bind fun t147 => (if t146.size + t147.size ≤ 9223372036854775807 then (if x4_1.size + (t146 ++ t147).size ≤ 9223372036854775807 then (impl_CapsulesBytes.l0 k1 (x4_1 ++ (t146 ++ t147)) l0 (l0.length : Int) (wrap64 (x12_1 + 1))) else (none)) else (none))) = some (r1, r2) := H
       have A8 := Aside0.mk A80
       clear A80
       replace H := Option.bind_eq_some_iff.mp H
       obtain ⟨t147, A90, H⟩ := H
       replace H : (if t146.size + t147.size ≤ 9223372036854775807 then (if x4_1.size + (t146 ++ t147).size ≤ 9223372036854775807 then (impl_CapsulesBytes.l0 k1 (x4_1 ++ (t146 ++ t147)) l0 (l0.length : Int) (wrap64 (x12_1 + 1))) else (none)) else (none)) = some (r1, r2) := H
       have A9 := Aside0.mk A90
       clear A90
       by_cases c10 : t146.size + t147.size ≤ 9223372036854775807
       ·rw [if_pos c10] at H
        have c10b0 := eq_true c10
        have c10b1 : decide (t146.size + t147.size ≤ 9223372036854775807) = true := decide_eq_true c10
        try have c10b2 : (9223372036854775807 < t146.size + t147.size) = False := eq_false (Nat.not_lt.2 c10)
        by_cases c11 : x4_1.size + (t146 ++ t147).size ≤ 9223372036854775807
        ·rw [if_pos c11] at H
         have c11b0 := eq_true c11
         have c11b1 : decide (x4_1.size + (t146 ++ t147).size ≤ 9223372036854775807) = true := decide_eq_true c11
         try have c11b2 : (9223372036854775807 < x4_1.size + (t146 ++ t147).size) = False := eq_false (Nat.not_lt.2 c11)
         try have c11b3 : (9223372036854775807 < _) = False := (by have sz_app := c11b2; simp only [ByteArray.size_append] at sz_app; exact sz_app)
         have H' := Aside0.mk H
         clear H
         have p144 : 0 ≤ (x12_1 : Int) := of_decide_eq_true (by first | (with_reducible assumption) | assumption)
         have q144 : x12_1 < (l0.length : Int) := of_decide_eq_true (by first | (with_reducible assumption) | assumption)
         obtain ⟨ad144, e144, hx144_0, hx144_1⟩ := at_T139 HR0.out x12_1 p144 q144
         cases e144
         replace hx144_0 := (HB.out.cell (World.block_lt_of_cell? w _ hx144_0)).trans hx144_0
         replace hx144_1 := (HB.out.cell (World.block_lt_of_cell? w _ hx144_1)).trans hx144_1
         replace p144 := eq_true p144
         replace q144 := eq_true q144
         try go_wp2_with (first | ((with_reducible refine gate_dst (N := 6) rfl ?_); refine box_event ?hg (N := 6) ?hd (cs := #[.int .i64 0, .string (⟨#[]⟩ : ByteArray)]) (t := 139) ?hr ?_; (case hd => rfl); (case hg => rfl); (case hr => first | (go_simp; done) | (go_simp; rfl)); intro gb145 hg w12 hbox hb; have n0_ := Aside0.mk (below_step (by repeat (first | (with_reducible first | exact HB.out | apply below_alloc | apply pw_below_drewN | apply below_drew1) | exact HB.out)) hb); have n1_ := Aside0.mk (hbox); have n2_ := Aside0.mk ((by rw [hg]; exact (below_size (by repeat (first | (with_reducible first | exact HB.out | apply below_alloc | apply pw_below_drewN | apply below_drew1) | exact HB.out))) : w.heap.size ≤ gb145)); have n3_ := n2_; clear HB; have HB := n0_; have BK145 := n1_; have GW145 := n2_; have GE145 := n3_; clear n0_ n1_ n2_ n3_; clear hb hbox hg; obtain ⟨hcz13_0, hcz13_1⟩ := cz2 BK145; obtain ⟨hfz13_0, hfz13_1⟩ := fz2 BK145))
         have n0_ : Aside0 (((w12.setCell ⟨gb145, 0, none⟩ (.int .i64 ((rd_T139 l0 x12_1).f0))).setCell ⟨gb145, 1, none⟩ (.string ((rd_T139 l0 x12_1).f1))).heap[gb145]? = some (.cells #[.int .i64 ((rd_T139 l0 x12_1).f0), .string ((rd_T139 l0 x12_1).f1)] 139 (0, 0))) := ⟨by (with_reducible repeat (first | refine bN ?_ _ | refine bD ?_ | refine bA ?_ _)); refine blk_put (cs := #[.int .i64 ((rd_T139 l0 x12_1).f0), .string (⟨#[]⟩ : ByteArray)]) ?_ 1 _ rfl; (with_reducible repeat (first | refine bN ?_ _ | refine bD ?_ | refine bA ?_ _)); refine blk_put (cs := #[.int .i64 0, .string (⟨#[]⟩ : ByteArray)]) ?_ 0 _ rfl; (with_reducible repeat (first | refine bN ?_ _ | refine bD ?_ | refine bA ?_ _)); exact BK145.out⟩
         have n1_ : Aside0 (Below w.heap.size w ((w12.setCell ⟨gb145, 0, none⟩ (.int .i64 ((rd_T139 l0 x12_1).f0))).setCell ⟨gb145, 1, none⟩ (.string ((rd_T139 l0 x12_1).f1)))) := ⟨by repeat (first | (with_reducible first | exact HB.out | apply below_alloc | apply pw_below_drewN | apply below_drew1 | refine below_set ?_ GE145.out) | exact HB.out)⟩
         (try clear BK145)
         (try clear HB)
         generalize ((w12.setCell ⟨gb145, 0, none⟩ (.int .i64 ((rd_T139 l0 x12_1).f0))).setCell ⟨gb145, 1, none⟩ (.string ((rd_T139 l0 x12_1).f1))) = w14 at n0_ n1_ ⊢
         have BK145 := n0_
         have HB := n1_
         clear n0_ n1_
         have n0_ := Aside0.mk (blk_drew BK145.out)
         have n1_ := Aside0.mk (below_drew1 HB.out)
         clear BK145
         clear HB
         have BK145 := n0_
         have HB := n1_
         clear n0_ n1_
         refine start_ (n := 10) (S := fun w' => w'.cell? ⟨gb145, 0, none⟩ = some (.int .i64 ((rd_T139 l0 x12_1).f0)) ∧ w'.cell? ⟨gb145, 1, none⟩ = some (.string ((rd_T139 l0 x12_1).f1))) (ds := []) (bm 10 0) (by kernel_rfl) rfl rfl ⟨(blk_cell BK145.out 0).trans rfl, (blk_cell BK145.out 1).trans rfl⟩ (fun hHeld => ?_); refine with_tabW impl_CapsulesBytes.tab7 impl_CapsulesBytes.bits7 (fun HT_ HW_ => ?_)
         generalize w14.drew = w15 at BK145 HB hHeld ⊢
         refine pure_ (i := 0) (N := some 16) (v := ?_) (a' := ?_) (bm 10 1) rfl rfl (any_of HT_.out (by kernel_rfl)) (fun _ _ _ h => h) (Or.inl ⟨by rfl, ?_⟩) ?_ ?_
         rotate_left
         ·intro w'
          go_simp
          with_reducible rfl
         rotate_left
         ·simp only [Act.put, sA, sZ, sS, i64_w, i32_w]
          rfl
         refine pure_ (i := 1) (N := some 17) (v := ?_) (a' := ?_) (bm 10 3) rfl rfl (any_of HT_.out (by kernel_rfl)) (fun _ _ _ h => h) (Or.inl ⟨by rfl, ?_⟩) ?_ ?_
         rotate_left
         ·intro w'
          go_simp
          with_reducible rfl
         rotate_left
         ·simp only [Act.put, sA, sZ, sS, i64_w, i32_w]
          rfl
         refine pure_ (i := 4) (N := some 20) (v := ?_) (a' := ?_) (bm 10 19) rfl rfl (any_of HT_.out (by kernel_rfl)) (fun _ _ _ h => h) (Or.inl ⟨by rfl, ?_⟩) ?_ ?_
         rotate_left
         ·intro w'
          go_simp
          with_reducible rfl
         rotate_left
         ·simp only [Act.put, sA, sZ, sS, i64_w, i32_w]
          rfl
         refine take_ (i := 2) (N := some 18) (v := ?_) (a' := ?_) (bm 10 23) rfl rfl (take_ofW HT_.out HW_.out (by kernel_rfl)) (fun _ _ _ h => h) (Or.inl ⟨by rfl, ?_⟩) hHeld ?_ ?_
         rotate_left
         ·rintro w' ⟨s0, s1⟩
          go_simp
          with_reducible rfl
         rotate_left
         ·simp only [Act.put, sA, sZ, sS, i64_w, i32_w]
          rfl
         refine take_ (i := 5) (N := some 21) (v := ?_) (a' := ?_) (bm 10 55) rfl rfl (take_ofW HT_.out HW_.out (by kernel_rfl)) (fun _ _ _ h => h) (Or.inl ⟨by rfl, ?_⟩) hHeld ?_ ?_
         rotate_left
         ·rintro w' ⟨s0, s1⟩
          go_simp
          with_reducible rfl
         rotate_left
         ·simp only [Act.put, sA, sZ, sS, i64_w, i32_w]
          rfl
         refine one_ (i := 3) (N := some 19) (bm 10 63) rfl rfl (one_of HT_.out (by kernel_rfl)) (by decide) (fun K hK => ?_)
         refine goes_ Try.func94 (by kernel_rfl) rfl #[.int .i64 ((rd_T139 l0 x12_1).f0)] (by rfl) rfl rfl (by (try simp only [List.map_toArray, List.map_cons, List.map_nil]); first | done | rfl | (simp only [List.length_drop, List.length_take]; rfl)) ?_
         with_reducible refine (impl_varint.calls k1 ((rd_T139 l0 x12_1).f0) t146 _ A8.out).mono ?_
         rintro e w16 ⟨rfl, hb⟩
         refine ⟨_, rfl, ?_⟩
         have n0_ := Aside0.mk (blk_below (g := gb145) (o := .cells #[.int .i64 ((rd_T139 l0 x12_1).f0), .string ((rd_T139 l0 x12_1).f1)] 139 (0, 0)) (by (with_reducible repeat (first | refine bN ?_ _ | refine bD ?_ | refine bA ?_ _)); exact BK145.out) hb)
         have n1_ := Aside0.mk (below_step (by repeat (first | (with_reducible first | exact HB.out | apply below_alloc | apply pw_below_drewN | apply below_drew1 | refine below_set ?_ GE145.out) | exact HB.out)) hb)
         clear BK145
         clear HB
         have BK145 := n0_
         have HB := n1_
         clear n0_ n1_
         (try clear hb)
         (try clear hb2)
         (try clear hk)
         (try clear hi)
         refine hK.out _ _ ⟨(blk_cell BK145.out 0).trans rfl, (blk_cell BK145.out 1).trans rfl⟩ (fun hHeld => ?_)
         clear hK K
         refine norm_ (a' := ?_) ?_ ?_
         rotate_left
         ·show Act.put _ (some 19) _ = _
          simp only [Act.put, sA, sZ, sS, i64_w, i32_w]
          rfl
         refine one_ (i := 6) (N := some 22) (bm 10 127) rfl rfl (one_of HT_.out (by kernel_rfl)) (by decide) (fun K hK => ?_)
         refine goes_ Try.func95 (by kernel_rfl) rfl #[.string ((rd_T139 l0 x12_1).f1)] (by rfl) rfl rfl (by (try simp only [List.map_toArray, List.map_cons, List.map_nil]); first | done | rfl | (simp only [List.length_drop, List.length_take]; rfl)) ?_
         with_reducible refine (impl_counted.calls k1 ((rd_T139 l0 x12_1).f1) t147 _ A9.out).mono ?_
         rintro e w17 ⟨rfl, hb⟩
         refine ⟨_, rfl, ?_⟩
         have n0_ := Aside0.mk (blk_below (g := gb145) (o := .cells #[.int .i64 ((rd_T139 l0 x12_1).f0), .string ((rd_T139 l0 x12_1).f1)] 139 (0, 0)) (by (with_reducible repeat (first | refine bN ?_ _ | refine bD ?_ | refine bA ?_ _)); exact BK145.out) hb)
         have n1_ := Aside0.mk (below_step (by repeat (first | (with_reducible first | exact HB.out | apply below_alloc | apply pw_below_drewN | apply below_drew1 | refine below_set ?_ GE145.out) | exact HB.out)) hb)
         clear BK145
         clear HB
         have BK145 := n0_
         have HB := n1_
         clear n0_ n1_
         (try clear hb)
         (try clear hb2)
         (try clear hk)
         (try clear hi)
         refine hK.out _ _ ⟨(blk_cell BK145.out 0).trans rfl, (blk_cell BK145.out 1).trans rfl⟩ (fun hHeld => ?_)
         clear hK K
         refine norm_ (a' := ?_) ?_ ?_
         rotate_left
         ·show Act.put _ (some 22) _ = _
          simp only [Act.put, sA, sZ, sS, i64_w, i32_w]
          rfl
         refine pure_ (i := 7) (N := some 23) (v := ?_) (a' := ?_) (bm 10 255) rfl rfl (any_of HT_.out (by kernel_rfl)) (fun _ _ _ h => h) (Or.inl ⟨by rfl, ?_⟩) ?_ ?_
         rotate_left
         ·intro w'
          go_simp
          with_reducible rfl
         rotate_left
         ·simp only [Act.put, sA, sZ, sS, i64_w, i32_w]
          rfl
         refine pure_ (i := 8) (N := some 24) (v := ?_) (a' := ?_) (bm 10 511) rfl rfl (any_of HT_.out (by kernel_rfl)) (fun _ _ _ h => h) (Or.inl ⟨by rfl, ?_⟩) ?_ ?_
         rotate_left
         ·intro w'
          go_simp
          with_reducible rfl
         rotate_left
         ·simp only [Act.put, sA, sZ, sS, i64_w, i32_w]
          rfl
         refine pure_ (i := 9) (N := some 4) (v := ?_) (a' := ?_) (bm 10 1023) rfl rfl (any_of HT_.out (by kernel_rfl)) (fun _ _ _ h => h) (Or.inl ⟨by rfl, ?_⟩) ?_ ?_
         rotate_left
         ·intro w'
          go_simp
          with_reducible rfl
         rotate_left
         ·simp only [Act.put, sA, sZ, sS, i64_w, i32_w]
          rfl
         refine done_ (done_of HT_.out (by kernel_rfl)) ?_
         try go_wp2
         go_roundg k1
         case measure => have := HK1.out; omega
         case rel => exact ⟨(x4_1 ++ (t146 ++ t147)), (wrap64 (x12_1 + 1)), (by first | rfl | (simp; done) | (simp [*]; done)), (by first | rfl | (simp; done) | (simp [*]; done)), H', ⟨by have := HK1.out; omega⟩, ⟨by repeat (first | (with_reducible first | exact HB.out | apply below_alloc | apply pw_below_drewN | apply below_drew1 | refine below_set ?_ GE145.out) | exact HB.out)⟩⟩
        ·rw [if_neg c11] at H
         exact absurd H (by simp)
       ·rw [if_neg c10] at H
        exact absurd H (by simp)
      ·rw [if_neg c7] at H
       exact absurd H (by simp)
     ·rw [if_neg c6] at H
      exact absurd H (by simp)
    ·rw [if_neg c5] at H
     have c5b0 : decide (x12_1 < (l0.length : Int)) = false := decide_eq_false c5
     clear c5
     simp only [Option.some.injEq, Prod.mk.injEq] at H
     obtain ⟨rfl, rfl⟩ := H
     go_wp2
     go_ret2
     exact ⟨by first | rfl | (simp [errW_none, errW_some] <;> rfl) | (simp [*, errW_none, errW_some] <;> rfl), by repeat (first | (with_reducible first | exact HB.out | apply below_alloc | apply pw_below_drewN | apply below_drew1) | exact HB.out)⟩
 ·replace c3 := Bool.eq_false_iff.mpr c3
  subst c3
  have H1 : (some ((⟨#[]⟩ : ByteArray), false)) = some (r1, r2) := by rw [if_neg (show ¬ (false = true) by decide)] at H; exact H
  clear H
  have H := H1
  clear H1
  simp only [Option.some.injEq, Prod.mk.injEq] at H
  obtain ⟨rfl, rfl⟩ := H
  go_enter Try.func30, Try.ntmps30
  go_wp2_with (first | ((with_reducible refine gate_callee (f := 87) rfl ?_); refine goesL_ (some 8) rfl rfl Try.func87 (by kernel_rfl) rfl #[.slice A0 l0.length c0] rfl (by (try simp only [List.map_toArray, List.map_cons, List.map_nil]); first | done | rfl | (simp only [List.length_drop, List.length_take]; rfl)) ?_; (with_reducible refine (impl_capsulesOk.calls _ _ l0 false _ ?side1 ?side2 A2.out).mono ?_); (case side1 => repeat (first | exact HR0.out | (with_reducible refine Kd.C_alloc ?_ _) | (with_reducible refine Kd.C_drewN ?_ _) | (with_reducible refine Kd.C_drew ?_))); (case side2 => exact HC0.out); rintro e w18 ⟨rfl, hb⟩; refine ⟨_, rfl, ?_⟩; have n0_ := Aside0.mk (below_step (by repeat (first | (with_reducible first | exact HB.out | apply below_alloc | apply pw_below_drewN | apply below_drew1) | exact HB.out)) hb); clear HB; have HB := n0_; clear n0_; (try clear hb); (try clear hb2); (try clear hk); (try clear hi)))
  go_ret2
  exact ⟨by first | rfl | (simp [errW_none, errW_some] <;> rfl) | (simp [*, errW_none, errW_some] <;> rfl), by repeat (first | (with_reducible first | exact HB.out | apply below_alloc | apply pw_below_drewN | apply below_drew1) | exact HB.out)⟩

end Go.Proofs.Ythkmjfapljmmpaa.PFnExactCapsulesBytes
