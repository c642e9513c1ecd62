-- Written by a program of this session (wip/xprint.py).
import Derived.Test.YtpdoplkiaejpiaaPFnExactFrameBytesx0
namespace Go.Proofs.Ytpdoplkiaejpiaa.PFnExactFrameBytes
open Go.RowKit Go.Proofs.YtpdoplkiaejpiaaW.PrintWords Go.Proofs.YtpdoplkiaejpiaaW.PrintLast Go.Proofs.YtpdoplkiaejpiaaW.PrintMore
open Go.Proofs.Ytpdoplkiaejpiaa.ShortK (bN bD bA sA sZ sS mR mB bX bLt bS cz2 fz2 cx2 cz3 fz3 cx3 cz4 fz4 cx4 cz5 fz5 cx5 cz6 fz6 cx6 cz7 fz7 cx7 cz8 fz8 cx8 cz9 fz9 cx9 cz10 fz10 cx10 cz11 fz11 cx11 cz12 fz12 cx12)
attribute [local go_sem] Go.Proofs.Ytpdoplkiaejpiaa.StoreK.isSome_setCell max2_int min2_int max_two min_two max_three min_three max_four min_four   -- for this text's walks alone
set_option linter.unusedVariables false
set_option linter.unusedSimpArgs false

-- NOT PRINTED: function 44 (impl_GoodFrame)

/-! ### impl_bigEndian: function 101 -/
def impl_bigEndian.l0 : Nat → Int → List Int → Int → Option (ByteArray)
 | 0, _, _, _ => none
 | k + 1, x0, x5, x6 => if x6 ≥ 0 then (if 0 ≤ x6 then (if x6 < (x5.length : Int) then (impl_bigEndian.l0 k (x0 / 256) (x5.set (x6 : Int).toNat ((x0) % 256)) (wrap64 (x6 - 1))) else (none)) else (none)) else (some (strOfNums x5))
def impl_bigEndian.f (k : Nat) (a0 : Int) (a1 : Int) : Option (ByteArray) := if 0 ≤ a1 then (if (a1 : Int).toNat ≤ 281474976710656 then (impl_bigEndian.l0 k a0 (List.replicate (a1 : Int).toNat 0) (wrap64 (a1 - 1))) else (none)) else (none)
theorem impl_bigEndian.mono_l : ∀ k, (∀ y0 y1 y2, LeO (impl_bigEndian.l0 k y0 y1 y2) (impl_bigEndian.l0 (k + 1) y0 y1 y2))
 | 0 => fun _ _ _ r h => by simp [impl_bigEndian.l0] at h
 | k + 1 => by
  have ih0 := impl_bigEndian.mono_l k
  ·intro y0 y1 y2
   unfold impl_bigEndian.l0
   repeat' first
   | (with_reducible exact ih0 _ _ _)
   | (with_reducible exact LeO.refl _)
   | (with_reducible exact LeO.none _)
   | (with_reducible refine LeO.ite ?_ ?_)
   | (with_reducible refine LeO.bind ?_ (fun _ => ?_))
   | exact ih0 _ _ _
   | exact LeO.none _
   | refine LeO.ite ?_ ?_
   | refine LeO.bind ?_ (fun _ => ?_)
theorem impl_bigEndian.mono : ∀ a0 a1 k, LeO (impl_bigEndian.f k a0 a1) (impl_bigEndian.f (k + 1) a0 a1) := by
 intro a0 a1 k
 have ih0 := impl_bigEndian.mono_l k
 unfold impl_bigEndian.f
 repeat' first
   | (with_reducible exact ih0 _ _ _)
   | (with_reducible exact LeO.refl _)
   | (with_reducible exact LeO.none _)
   | (with_reducible refine LeO.ite ?_ ?_)
   | (with_reducible refine LeO.bind ?_ (fun _ => ?_))
   | exact ih0 _ _ _
   | exact LeO.none _
   | refine LeO.ite ?_ ?_
   | refine LeO.bind ?_ (fun _ => ?_)
set_option maxHeartbeats 64000000 in
set_option maxRecDepth 100000 in
theorem impl_bigEndian.calls (k : Nat) (a0 : Int) (a1 : Int) (r : ByteArray) (w : World) (h : impl_bigEndian.f k a0 a1 = some r) :
  Calls Try.prog 101 #[.int .u64 a0, .int .i64 a1] w fun e w' => e = .returned (.string r) ∧ Below w.heap.size w w' := by
 have HB := Aside0.mk (Below.refl w.heap.size w)
 have H : (if 0 ≤ a1 then (if (a1 : Int).toNat ≤ 281474976710656 then (impl_bigEndian.l0 k a0 (List.replicate (a1 : Int).toNat 0) (wrap64 (a1 - 1))) else (none)) else (none)) = some r := h
 clear h
 by_cases c3 : 0 ≤ a1
 ·rw [if_pos c3] at H
  have c3b0 := eq_true c3
  have c3b1 : decide (0 ≤ a1) = true := decide_eq_true c3
  clear c3
  by_cases c4 : (a1 : Int).toNat ≤ 281474976710656
  ·rw [if_pos c4] at H
   have c4b0 := eq_true c4
   have c4b1 : decide ((a1 : Int).toNat ≤ 281474976710656) = true := decide_eq_true c4
   clear c4
   obtain ⟨y134, hy134⟩ : ∃ y_ : List Int, y_ = (List.replicate (a1 : Int).toNat 0) := ⟨_, rfl⟩
   replace H : (impl_bigEndian.l0 k a0 y134 (wrap64 (a1 - 1))) = some r := by first | (rw [hy134]; with_reducible exact H) | (have H2_ := (Option.bind_some _ _).symm.trans H; rw [hy134]; with_reducible exact H2_) | (have H2_ := (Option.bind_some _ _).symm.trans H; with_reducible exact H2_) | with_reducible exact H | (rw [hy134]; exact H) | exact H
   have Ny134 := Aside0.mk hy134
   clear hy134
   have H' := Aside0.mk H
   clear H
   go_enter Try.func101, Try.ntmps101
   go_wp2_with (first | ((with_reducible refine gate_dst (N := 8) rfl ?_); refine Kd.R_make (Kd.int .u8) _ 5 rfl (N := 8) rfl 154 _ _ rfl a1 rfl rfl Try.underlying154 (.int .u8 0) 1 info5 rfl (by decide) (by omega) 0 (ok := fun _ => True) (okp := fun _ => True) rfl (fun _ hk => hk) trivial (of_decide_eq_true (by first | (with_reducible assumption) | assumption)) (Nat.le_trans (Nat.mul_le_mul_right _ (of_decide_eq_true (by first | (with_reducible assumption) | assumption) : a1.toNat ≤ 281474976710656)) (by omega)) (Below.refl _ _) (Nat.le_refl _) ?_; intro v135 w5 ho6 hb hg_ hnew_; clear hg_ hnew_; (first | rw [← Ny134.out] at ho6 | (simp only [Int.reduceToNat] at ho6; rw [← Ny134.out] at ho6)); have n0_ := Aside0.mk (Kd.R_lower ho6 (below_size (by repeat (first | (with_reducible first | exact HB.out | apply below_alloc | apply pw_below_drewN | apply below_drew1) | exact HB.out)))); have n1_ := bS HB hb; clear HB; have HO136 := n0_; have HB := n1_; clear n0_ n1_; clear hb ho6))
   go_loopg [0, 6] k (fun kq v0 v6 w' => ∃ (x0_1 : Int) (x5_1 : List Int) (x6_1 : Int), v0 = .int .u64 x0_1 ∧ v6 = .int .i64 x6_1 ∧ Aside0 (impl_bigEndian.l0 kq x0_1 x5_1 x6_1 = some r) ∧ Aside0 (kq ≤ k) ∧ Aside0 (Kd.R (Kd.int .u8) 5 w' w.heap.size (fun _ => True) v135 x5_1) ∧ Aside0 (Below w.heap.size w w'))
   case atStart => exact ⟨(a0), (y134), (wrap64 (a1 - 1)), (by first | rfl | (simp; done) | (simp [*]; done)), (by first | rfl | (simp; done) | (simp [*]; done)), H', ⟨Nat.le_refl _⟩, ⟨by (with_reducible repeat (first | apply Kd.R_alloc | apply Kd.R_drewN | apply Kd.R_drew)); exact HO136.out⟩, ⟨by repeat (first | (with_reducible first | exact HB.out | apply below_alloc | apply pw_below_drewN | apply below_drew1) | exact HB.out)⟩⟩
   case round =>
    clear H'
    try clear c1
    try clear p2
    try clear c3
    try clear c3b0
    try clear c3b1
    try clear c4
    try clear c4b0
    try clear c4b1
    try clear p6
    obtain ⟨x0_1, x5_1, x6_1, rfl, rfl, HA, HK1, HO_5, HB⟩ := hrel
    cases gk with
    | zero => exact absurd HA.out (by simp [impl_bigEndian.l0])
    | succ k1 =>
     have H := HA.out
     clear HA
     simp only [impl_bigEndian.l0] at H
     by_cases c7 : x6_1 ≥ 0
     ·rw [if_pos c7] at H
      have c7b0 : decide (0 ≤ x6_1) = true := decide_eq_true c7
      clear c7
      by_cases c8 : 0 ≤ x6_1
      ·rw [if_pos c8] at H
       have c8b0 : decide (0 ≤ x6_1) = true := decide_eq_true c8
       clear c8
       by_cases c9 : x6_1 < (x5_1.length : Int)
       ·rw [if_pos c9] at H
        have c9b0 : decide (x6_1 < (x5_1.length : Int)) = true := decide_eq_true c9
        clear c9
        obtain ⟨y137, hy137⟩ : ∃ y_ : List Int, y_ = (x5_1.set (x6_1 : Int).toNat ((x0_1) % 256)) := ⟨_, rfl⟩
        replace H : (impl_bigEndian.l0 k1 (x0_1 / 256) y137 (wrap64 (x6_1 - 1))) = some r := by first | (rw [hy137]; with_reducible exact H) | (have H2_ := (Option.bind_some _ _).symm.trans H; rw [hy137]; with_reducible exact H2_) | (have H2_ := (Option.bind_some _ _).symm.trans H; with_reducible exact H2_) | with_reducible exact H | (rw [hy137]; exact H) | exact H
        have Ny137 := Aside0.mk hy137
        clear hy137
        have H' := Aside0.mk H
        clear H
        have p10 : 0 ≤ (x6_1 : Int) := of_decide_eq_true (by first | (with_reducible assumption) | assumption)
        have q10 : (x6_1 : Int) < ((x5_1.length : Int) : Int) := of_decide_eq_true (by first | (with_reducible assumption) | assumption)
        obtain ⟨go10, co10, eo10, gb10, gl10, cl10, HG10⟩ := Kd.R_form HO_5.out (by omega)
        (first | cases eo10 | (injection eo10 with ea_ en_ ec_; (first | subst ea_ | (injection ea_ with ea_; subst ea_)); subst ec_; clear en_))
        have GB10 := Aside0.mk gb10
        have GG10 := Aside0.mk HG10
        clear gb10 gl10 HG10
        obtain ⟨hx10_0, hf10_0⟩ := Kd.R_celln 0 HO_5.out (x6_1 : Int) p10 q10
        replace p10 := eq_true p10
        replace q10 := eq_true q10
        have HP11 := Kd.R_putg HO_5.out (x6_1 : Int) ((x0_1) % 256)
        go_wp2_with (first | ((with_reducible refine gate_store (t := 5) (p := 19) rfl ?_); refine store_event (t := 5) (p := 19) (v := ?vo_w12) (w1 := (wr.setCell ⟨go10, (x6_1 : Int).toNat, none⟩ (.int .u8 ((x0_1) % 256)))) ?hg ?ho ?hn ?hr ?_; (case ho => rfl); (case hg => rfl); (case hn => rfl); (case hr => first | (go_simp; done) | (go_simp; rfl)); intro w12 hw; have hg : wr.grownBy w12 (some go10) := (by rw [hw]; exact HP11.2); have hp_ : Kd.R (Kd.int .u8) 5 w12 w.heap.size (fun _ => True) (.slice (some ⟨go10, 0, none⟩) x5_1.length co10) y137 := (by rw [hw, Ny137.out]; exact HP11.1); clear HP11; have n0_ := Aside0.mk (hp_); have n1_ := Aside0.mk ((by rw [hw]; exact below_set (HB.out) GB10.out : Below w.heap.size w w12)); clear HO_5; clear HB; have HO_5 := n0_; have HB := n1_; clear n0_ n1_; clear hg hw hp_))
        go_roundg k1
        case measure => have := HK1.out; omega
        case rel => exact ⟨(x0_1 / 256), (y137), (wrap64 (x6_1 - 1)), (by first | rfl | (simp; done) | (simp [*]; done)), (by first | rfl | (simp; done) | (simp [*]; done)), H', ⟨by have := HK1.out; omega⟩, ⟨by (with_reducible repeat (first | apply Kd.R_alloc | apply Kd.R_drewN | apply Kd.R_drew)); exact HO_5.out⟩, ⟨by repeat (first | (with_reducible first | exact HB.out | apply below_alloc | apply pw_below_drewN | apply below_drew1) | exact HB.out)⟩⟩
       ·rw [if_neg c9] at H
        exact absurd H (by simp)
      ·rw [if_neg c8] at H
       exact absurd H (by simp)
     ·rw [if_neg c7] at H
      have c7b0 : decide (0 ≤ x6_1) = false := decide_eq_false c7
      clear c7
      obtain rfl := Option.some.inj H
      have hcv13 := own_string (P := Try.prog) Try.underlying154 Try.underlying5 Try.underlying9 (Kd.own_of_R HO_5.out)
      go_wp2
      go_ret
      exact ⟨by first | rfl | (simp [errW_none, errW_some] <;> rfl) | (simp [*, errW_none, errW_some] <;> rfl), by repeat (first | (with_reducible first | exact HB.out | apply below_alloc | apply pw_below_drewN | apply below_drew1) | exact HB.out)⟩
  ·rw [if_neg c4] at H
   exact absurd H (by simp)
 ·rw [if_neg c3] at H
  exact absurd H (by simp)

/-! ### impl_varintSize: function 123 -/
def impl_varintSize.f (a0 : Int) : Option (Int) := if a0 < 64 then (some 1) else (if a0 < 16384 then (some 2) else (if a0 < 1073741824 then (some 4) else (some 8)))
set_option maxHeartbeats 64000000 in
set_option maxRecDepth 100000 in
theorem impl_varintSize.calls (a0 : Int) (r : Int) (w : World) (h : impl_varintSize.f a0 = some r) :
  Calls Try.prog 123 #[.int .i64 a0] w fun e w' => e = .returned (.int .i64 r) ∧ Drawn0 w w' := by
 have H : (if a0 < 64 then (some 1) else (if a0 < 16384 then (some 2) else (if a0 < 1073741824 then (some 4) else (some 8)))) = some r := h
 clear h
 by_cases c2 : a0 < 64
 ·rw [if_pos c2] at H
  have c2b0 : decide (a0 < 64) = true := decide_eq_true c2
  clear c2
  obtain rfl := Option.some.inj H
  go_enter Try.func123, Try.ntmps123
  go_wp2
  go_ret
  exact ⟨by first | rfl | (simp; done) | (simp [*]; done), by repeat (first | exact Drawn0.refl _ | apply Drawn0.step)⟩
 ·rw [if_neg c2] at H
  have c2b0 : decide (a0 < 64) = false := decide_eq_false c2
  clear c2
  by_cases c3 : a0 < 16384
  ·rw [if_pos c3] at H
   have c3b0 : decide (a0 < 16384) = true := decide_eq_true c3
   clear c3
   obtain rfl := Option.some.inj H
   go_enter Try.func123, Try.ntmps123
   go_wp2
   go_ret
   exact ⟨by first | rfl | (simp; done) | (simp [*]; done), by repeat (first | exact Drawn0.refl _ | apply Drawn0.step)⟩
  ·rw [if_neg c3] at H
   have c3b0 : decide (a0 < 16384) = false := decide_eq_false c3
   clear c3
   by_cases c4 : a0 < 1073741824
   ·rw [if_pos c4] at H
    have c4b0 : decide (a0 < 1073741824) = true := decide_eq_true c4
    clear c4
    obtain rfl := Option.some.inj H
    go_enter Try.func123, Try.ntmps123
    go_wp2
    go_ret
    exact ⟨by first | rfl | (simp; done) | (simp [*]; done), by repeat (first | exact Drawn0.refl _ | apply Drawn0.step)⟩
   ·rw [if_neg c4] at H
    have c4b0 : decide (a0 < 1073741824) = false := decide_eq_false c4
    clear c4
    obtain rfl := Option.some.inj H
    go_enter Try.func123, Try.ntmps123
    go_wp2
    go_ret
    exact ⟨by first | rfl | (simp; done) | (simp [*]; done), by repeat (first | exact Drawn0.refl _ | apply Drawn0.step)⟩

/-! ### impl_varint: function 97 -/
/-- The two bits that a size has ahead. -/
def vfirst (t : Int) : Int := if t = 2 then 1 else if t = 4 then 2 else if t = 8 then 3 else 0
def impl_varint.f (k : Nat) (a0 : Int) : Option (ByteArray) := (impl_varintSize.f a0).bind fun t => (impl_bigEndian.f k (Go.bits .or .u64 (IntKind.u64.wrap (a0)) (shl .u64 (vfirst t) (8 * t - 2))) t)
theorem impl_varint.mono : ∀ a0 k, LeO (impl_varint.f k a0) (impl_varint.f (k + 1) a0) := by
  intro a0 k
  unfold impl_varint.f
  exact LeO.bind (LeO.refl _) (fun _ => impl_bigEndian.mono _ _ _)
theorem varintSize_in (a0 t : Int) (h : impl_varintSize.f a0 = some t) : t = 1 ∨ t = 2 ∨ t = 4 ∨ t = 8 := by
  unfold impl_varintSize.f at h
  split at h
  · exact Or.inl (Option.some.inj h).symm
  · split at h
    · exact Or.inr (Or.inl (Option.some.inj h).symm)
    · split at h
      · exact Or.inr (Or.inr (Or.inl (Option.some.inj h).symm))
      · exact Or.inr (Or.inr (Or.inr (Option.some.inj h).symm))
theorem varint_key (t : Int) (h : t = 1 ∨ t = 2 ∨ t = 4 ∨ t = 8) : keyOf Try.prog 3 (.int .i64 t) = some (.int .i64 t) :=
  Go.Maps.keyOf_int_mk Try.underlying3 (by rcases h with rfl | rfl | rfl | rfl <;> decide)
theorem varint_look (t c : Int) (h : t = 1 ∨ t = 2 ∨ t = 4 ∨ t = 8) (hat : (((((DataW.map [] : DataW Unit).put (.int .i64 1) (.lit (.int .u64 0))).put (.int .i64 2) (.lit (.int .u64 1))).put (.int .i64 4) (.lit (.int .u64 2))).put (.int .i64 8) (.lit (.int .u64 3))).atKey (.int .i64 t) (.lit (.int .u64 0)) = .lit (.int .u64 c)) : c = vfirst t := by
  rcases h with rfl | rfl | rfl | rfl
  all_goals
    have e : ∀ x y : Int, (DataW.lit (.int .u64 x) : DataW Unit) = .lit (.int .u64 y) → y = x := fun x y h => by
      injection h with h
      injection h with _ h
      exact h.symm
    exact (e _ _ hat)
set_option maxHeartbeats 4000000 in
set_option maxRecDepth 100000 in
theorem impl_varint.calls (k : Nat) (a0 : Int) (r : ByteArray) (w : World) (h : impl_varint.f k a0 = some r) :
    Calls Try.prog 97 #[.int .i64 a0] w fun e w' => e = .returned (.string r) ∧ Below w.heap.size w w' := by
  have H := Option.bind_eq_some_iff.mp h
  clear h
  obtain ⟨t, A1, A2⟩ := H
  have ht := varintSize_in a0 t A1
  have hkey := varint_key t ht
  have HT := Aside0.mk ht
  have HA1 := Aside0.mk A1
  have HA2 := Aside0.mk A2
  clear ht A1 A2
  have hmm := @run_makeMap Try.prog
  have law : Go.Maps.Keyed Try.prog 3 := Go.Maps.int_keyed Try.underlying3
  have zeroE : ∀ w : World, (zeroValue 133).run Try.prog w = .ok (.int .u64 0) w := fun w => by kernel_rfl
  go_enter Try.func97, Try.ntmps97
  go_wp2_with fail
  refine (impl_varintSize.calls a0 t _ HA1.out).mono ?_
  rintro e w' ⟨rfl, ⟨nd, rfl⟩⟩
  have hM : Try.prog.underlying 161 = some (.map 3 133) := Try.underlying161
  have WU : ∀ n : Int, 0 ≤ n → n < 4 → (Lit.int .u64 n).wf = true := fun n h0 h1 => by
    simp [Lit.wf, IntKind.min, IntKind.max, IntKind.signed, IntKind.bits]
    omega
  go_wp2_with (first
    | (refine Go.Proofs.Ytpdoplkiaejpiaa.MapK.wpList_insert_own (H := Unit) _ rfl (.tmp 7) (.const (.int .i64 1)) (.const (.int .u64 0)) 161 rfl 3 133 law hM (Go.plainElem Try.prog 133) w.heap.size 0 (DataW.map []) rfl (World.ownsMap_made _ _ _ _) (by unfold maxLen; omega) (.int .i64 1) (.int .u64 0) (.int .i64 1) rfl rfl (varint_key 1 (by simp)) _ [] (Go.plainElem_int Try.underlying133 (WU 0 (by omega) (by omega))) ?_; intro w1 o1 g1)
    | (refine Go.Proofs.Ytpdoplkiaejpiaa.MapK.wpList_insert_own (H := Unit) _ rfl (.tmp 7) (.const (.int .i64 2)) (.const (.int .u64 1)) 161 rfl 3 133 law hM (Go.plainElem Try.prog 133) w.heap.size 1 _ rfl o1 (by unfold maxLen; omega) (.int .i64 2) (.int .u64 1) (.int .i64 2) rfl rfl (varint_key 2 (by simp)) _ [] (Go.plainElem_int Try.underlying133 (WU 1 (by omega) (by omega))) ?_; intro w2 o2 g2)
    | (refine Go.Proofs.Ytpdoplkiaejpiaa.MapK.wpList_insert_own (H := Unit) _ rfl (.tmp 7) (.const (.int .i64 4)) (.const (.int .u64 2)) 161 rfl 3 133 law hM (Go.plainElem Try.prog 133) w.heap.size 2 _ rfl o2 (by unfold maxLen; omega) (.int .i64 4) (.int .u64 2) (.int .i64 4) rfl rfl (varint_key 4 (by simp)) _ [] (Go.plainElem_int Try.underlying133 (WU 2 (by omega) (by omega))) ?_; intro w3 o3 g3)
    | (refine Go.Proofs.Ytpdoplkiaejpiaa.MapK.wpList_insert_own (H := Unit) _ rfl (.tmp 7) (.const (.int .i64 8)) (.const (.int .u64 3)) 161 rfl 3 133 law hM (Go.plainElem Try.prog 133) w.heap.size 3 _ rfl o3 (by unfold maxLen; omega) (.int .i64 8) (.int .u64 3) (.int .i64 8) rfl rfl (varint_key 8 (by simp)) _ [] (Go.plainElem_int Try.underlying133 (WU 3 (by omega) (by omega))) ?_; intro w4 o4 g4)
    | (refine Go.wpList_lookup_own_int _ rfl (.tmp 8) (.tmp 9) 161 rfl 3 133 .u64 law hM Try.underlying133 (zeroE _) w.heap.size 4 _ rfl o4 (.int .i64 t) (.int .i64 t) rfl hkey ?_; intro c hat hwc)
    | fail)
  have hc := varint_look t c HT.out hat
  subst hc
  clear hat hwc o1 o2 o3 o4 hkey hmm zeroE WU hM law
  have HB : Aside0 (Below w.heap.size w w4) := Aside0.mk (by
    have b0 : Below w.heap.size w ((w.drewN nd).alloc (.map #[] 0)) := below_alloc (pw_below_drewN (Below.refl _ _) nd) _
    have b1 := b0.grown g1 b0.size (fun j hj => by cases hj; exact Nat.le_refl _)
    have b2 := b1.grown g2 b1.size (fun j hj => by cases hj; exact Nat.le_refl _)
    have b3 := b2.grown g3 b2.size (fun j hj => by cases hj; exact Nat.le_refl _)
    exact b3.grown g4 b3.size (fun j hj => by cases hj; exact Nat.le_refl _))
  clear g1 g2 g3 g4
  obtain ⟨HT⟩ := HT
  obtain ⟨HA2⟩ := HA2
  have hw : ∀ n : Int, -9223372036854775808 ≤ n → n ≤ 9223372036854775807 → wrap64 n = n := fun n h0 h1 => by first | exact wrap64_id h0 h1 | exact wrap64_id ⟨h0, h1⟩ | (unfold wrap64; omega)
  rcases HT with rfl | rfl | rfl | rfl
  · have ev : vfirst 1 = 0 := rfl
    have e3 : wrap64 (wrap64 (8 * 1) - 2) = 6 := by rw [hw (8 * 1) (by omega) (by omega), hw (8 * 1 - 2) (by omega) (by omega)]; rfl
    have el : shl .u64 0 (8 * 1 - 2) = 0 := rfl
    have e5 : Op.shift .shl .u64 0 .i64 (wrap64 (wrap64 (8 * 1) - 2)) = pure (.int .u64 0) := by rw [e3]; rfl
    rw [ev, el] at HA2
    rw [ev]
    clear ev el e3 hw
    have HA3 := Aside0.mk HA2
    clear HA2
    go_wp2_with fail
    rw [e5]
    clear e5
    rw [show ∀ v : Value, (Sem.run Try.prog (pure v) w4).andThen (fun a w' => Result.ok (Next.value a) w') = Result.ok (Next.value v) w4 from fun _ => rfl, Oper.upon_value]
    go_wp2_with fail
    refine (impl_bigEndian.calls k _ _ r _ HA3.out).mono ?_
    rintro e w' ⟨rfl, hb⟩
    go_wp2
    go_ret
    exact ⟨rfl, HB.out.trans (hb.mono HB.out.size)⟩
  · have ev : vfirst 2 = 1 := rfl
    have e3 : wrap64 (wrap64 (8 * 2) - 2) = 14 := by rw [hw (8 * 2) (by omega) (by omega), hw (8 * 2 - 2) (by omega) (by omega)]; rfl
    have el : shl .u64 1 (8 * 2 - 2) = 16384 := rfl
    have e5 : Op.shift .shl .u64 1 .i64 (wrap64 (wrap64 (8 * 2) - 2)) = pure (.int .u64 16384) := by rw [e3]; rfl
    rw [ev, el] at HA2
    rw [ev]
    clear ev el e3 hw
    have HA3 := Aside0.mk HA2
    clear HA2
    go_wp2_with fail
    rw [e5]
    clear e5
    rw [show ∀ v : Value, (Sem.run Try.prog (pure v) w4).andThen (fun a w' => Result.ok (Next.value a) w') = Result.ok (Next.value v) w4 from fun _ => rfl, Oper.upon_value]
    go_wp2_with fail
    refine (impl_bigEndian.calls k _ _ r _ HA3.out).mono ?_
    rintro e w' ⟨rfl, hb⟩
    go_wp2
    go_ret
    exact ⟨rfl, HB.out.trans (hb.mono HB.out.size)⟩
  · have ev : vfirst 4 = 2 := rfl
    have e3 : wrap64 (wrap64 (8 * 4) - 2) = 30 := by rw [hw (8 * 4) (by omega) (by omega), hw (8 * 4 - 2) (by omega) (by omega)]; rfl
    have el : shl .u64 2 (8 * 4 - 2) = 2147483648 := rfl
    have e5 : Op.shift .shl .u64 2 .i64 (wrap64 (wrap64 (8 * 4) - 2)) = pure (.int .u64 2147483648) := by rw [e3]; rfl
    rw [ev, el] at HA2
    rw [ev]
    clear ev el e3 hw
    have HA3 := Aside0.mk HA2
    clear HA2
    go_wp2_with fail
    rw [e5]
    clear e5
    rw [show ∀ v : Value, (Sem.run Try.prog (pure v) w4).andThen (fun a w' => Result.ok (Next.value a) w') = Result.ok (Next.value v) w4 from fun _ => rfl, Oper.upon_value]
    go_wp2_with fail
    refine (impl_bigEndian.calls k _ _ r _ HA3.out).mono ?_
    rintro e w' ⟨rfl, hb⟩
    go_wp2
    go_ret
    exact ⟨rfl, HB.out.trans (hb.mono HB.out.size)⟩
  · have ev : vfirst 8 = 3 := rfl
    have e3 : wrap64 (wrap64 (8 * 8) - 2) = 62 := by rw [hw (8 * 8) (by omega) (by omega), hw (8 * 8 - 2) (by omega) (by omega)]; rfl
    have el : shl .u64 3 (8 * 8 - 2) = 13835058055282163712 := rfl
    have e5 : Op.shift .shl .u64 3 .i64 (wrap64 (wrap64 (8 * 8) - 2)) = pure (.int .u64 13835058055282163712) := by rw [e3]; rfl
    rw [ev, el] at HA2
    rw [ev]
    clear ev el e3 hw
    have HA3 := Aside0.mk HA2
    clear HA2
    go_wp2_with fail
    rw [e5]
    clear e5
    rw [show ∀ v : Value, (Sem.run Try.prog (pure v) w4).andThen (fun a w' => Result.ok (Next.value a) w') = Result.ok (Next.value v) w4 from fun _ => rfl, Oper.upon_value]
    go_wp2_with fail
    refine (impl_bigEndian.calls k _ _ r _ HA3.out).mono ?_
    rintro e w' ⟨rfl, hb⟩
    go_wp2
    go_ret
    exact ⟨rfl, HB.out.trans (hb.mono HB.out.size)⟩

-- NOT PRINTED: function 98 (impl_Frame_ackBytes)

/-! ### impl_counted: function 99 -/
def impl_counted.f (k : Nat) (a0 : ByteArray) : Option (ByteArray) := (impl_varint.f k (a0.size : Int)).bind fun t144 => (if t144.size + a0.size ≤ 9223372036854775807 then (some (t144 ++ a0)) else (none))
theorem impl_counted.mono : ∀ a0 k, LeO (impl_counted.f k a0) (impl_counted.f (k + 1) a0) := by
 intro a0 k
 unfold impl_counted.f
 repeat' first
   | (with_reducible exact impl_varint.mono _ _)
   | (with_reducible exact LeO.refl _)
   | (with_reducible exact LeO.none _)
   | (with_reducible refine LeO.ite ?_ ?_)
   | (with_reducible refine LeO.bind ?_ (fun _ => ?_))
   | exact impl_varint.mono _ _
   | exact LeO.none _
   | refine LeO.ite ?_ ?_
   | refine LeO.bind ?_ (fun _ => ?_)
set_option maxHeartbeats 64000000 in
set_option maxRecDepth 100000 in
theorem impl_counted.calls (k : Nat) (a0 : ByteArray) (r : ByteArray) (w : World) (h : impl_counted.f k a0 = some r) :
  Calls Try.prog 99 #[.string a0] w fun e w' => e = .returned (.string r) ∧ Below w.heap.size w w' := by
 have HB := Aside0.mk (Below.refl w.heap.size w)
 have H : ((impl_varint.f k (a0.size : Int)).bind fun t144 => (if t144.size + a0.size ≤ 9223372036854775807 then (some (t144 ++ a0)) else (none))) = some r := h
 clear h
 replace H := Option.bind_eq_some_iff.mp H
 obtain ⟨t144, A20, H⟩ := H
 replace H : (if t144.size + a0.size ≤ 9223372036854775807 then (some (t144 ++ a0)) else (none)) = some r := H
 have A2 := Aside0.mk A20
 clear A20
 by_cases c3 : t144.size + a0.size ≤ 9223372036854775807
 ·rw [if_pos c3] at H
  have c3b0 := eq_true c3
  have c3b1 : decide (t144.size + a0.size ≤ 9223372036854775807) = true := decide_eq_true c3
  try have c3b2 : (9223372036854775807 < t144.size + a0.size) = False := eq_false (Nat.not_lt.2 c3)
  obtain rfl := Option.some.inj H
  go_enter Try.func99, Try.ntmps99
  go_wp2_with (first | ((with_reducible refine gate_callee (f := 97) rfl ?_); refine goesL_ (some 5) rfl rfl Try.func97 (by kernel_rfl) rfl #[.int .i64 (a0.size : Int)] rfl (by (try simp only [List.map_toArray, List.map_cons, List.map_nil]); first | done | rfl | (simp only [List.length_drop, List.length_take]; rfl)) ?_; (with_reducible refine (impl_varint.calls k (a0.size : Int) t144 _ A2.out).mono ?_); rintro e w4 ⟨rfl, hb⟩; refine ⟨_, rfl, ?_⟩; have n0_ := bS HB hb; clear HB; have HB := n0_; clear n0_; (try clear hb); (try clear hb2); (try clear hk); (try clear hi)))
  go_ret
  exact ⟨by first | rfl | (simp [errW_none, errW_some] <;> rfl) | (simp [*, errW_none, errW_some] <;> rfl), by repeat (first | (with_reducible first | exact HB.out | apply below_alloc | apply pw_below_drewN | apply below_drew1) | exact HB.out)⟩
 ·rw [if_neg c3] at H
  exact absurd H (by simp)

-- NOT PRINTED: function 100 (impl_Frame_streamBytes)

-- NOT PRINTED: function 45 (impl_Frame_bytes)

end Go.Proofs.Ytpdoplkiaejpiaa.PFnExactFrameBytes
