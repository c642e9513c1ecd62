-- Written by a program of this session (wip/xprint.py).
import Derived.Test.YtjmakjddhbdocaaDoorPFnExactFieldsBytesx0
import Derived.Test.YtjmakjddhbdocaaDoorPFnExactFieldsBytesx1
import Derived.Test.YtjmakjddhbdocaaDoorPFnExactFieldsBytesx5
import Derived.Test.YtjmakjddhbdocaaDoorPFnExactFieldsBytesx6
namespace Go.Proofs.YtjmakjddhbdocaaDoor.PFnExactFieldsBytes
open Go.RowKit Go.Proofs.YtjmakjddhbdocaaDoorW.PrintWords Go.Proofs.YtjmakjddhbdocaaDoorW.PrintLast Go.Proofs.YtjmakjddhbdocaaDoorW.PrintMore
open Go.Proofs.YtjmakjddhbdocaaDoor.ShortK (bN bD bA sA sZ sS mR mB bX bLt bS cz2 fz2 cx2 cz3 fz3 cx3 cz4 fz4 cx4 cz5 fz5 cx5 cz6 fz6 cx6 cz7 fz7 cx7 cz8 fz8 cx8 cz9 fz9 cx9 cz10 fz10 cx10 cz11 fz11 cx11 cz12 fz12 cx12)
attribute [local go_sem] Go.Proofs.YtjmakjddhbdocaaDoor.StoreK.isSome_setCell max2_int min2_int max_two min_two max_three min_three max_four min_four   -- for this text's walks alone
set_option linter.unusedVariables false
set_option linter.unusedSimpArgs false

attribute [local go_sem high] eqA36
/-! ### impl_GoodFields: function 9 -/
/-- What the closure says of an element. -/
def GoodFieldsP (k : Nat) (x : S36) : Option Bool := impl_GoodFields_1.f k x.f0 x.f1
def impl_GoodFields.f (k : Nat) (l0 : List (S36)) : Option (Bool) := if (l0.all fun x => (GoodFieldsP k x).isSome) = true then (some (decide ((l0.length : Int) ≤ 30) && !(l0.any fun x => (GoodFieldsP k x).getD false))) else none
theorem impl_GoodFields.mono : ∀ (l0 : List (S36)) (k : Nat), LeO (impl_GoodFields.f k l0) (impl_GoodFields.f (k + 1) l0) := by
  intro l0 k r h
  unfold impl_GoodFields.f at h ⊢
  by_cases ha : (l0.all fun x => (GoodFieldsP k x).isSome) = true
  · rw [if_pos ha] at h
    have he : ∀ x, x ∈ l0 → GoodFieldsP (k + 1) x = GoodFieldsP k x := fun x hx => by
      obtain ⟨b, hb⟩ := Option.isSome_iff_exists.1 (List.all_eq_true.1 ha x hx)
      rw [hb]
      exact impl_GoodFields_1.mono _ _ k b hb
    have ha' : (l0.all fun x => (GoodFieldsP (k + 1) x).isSome) = true := List.all_eq_true.2 (fun x hx => by rw [he x hx]; exact List.all_eq_true.1 ha x hx)
    have hn : (l0.any fun x => (GoodFieldsP (k + 1) x).getD false) = (l0.any fun x => (GoodFieldsP k x).getD false) := by
      rw [Bool.eq_iff_iff, List.any_eq_true, List.any_eq_true]
      exact ⟨fun ⟨x, hx, h⟩ => ⟨x, hx, by rw [← he x hx]; exact h⟩, fun ⟨x, hx, h⟩ => ⟨x, hx, by rw [he x hx]; exact h⟩⟩
    rw [if_pos ha', hn]
    exact h
  · rw [if_neg ha] at h
    cases h
theorem GoodFieldsP_calls (k : Nat) (x : S36) (b : Bool) (W : World) (h : GoodFieldsP k x = some b) :
    Calls Tryd.prog 20 #[.agg #[.string x.f0, .string x.f1]] W fun e w' => e = .returned (.bool b) ∧ Below W.heap.size W w' :=
  (impl_GoodFields_1.calls k x.f0 x.f1 b W h).mono fun e w' hh => ⟨hh.1, by first | exact hh.2 | exact hh.2.below⟩
set_option maxHeartbeats 4000000 in
set_option maxRecDepth 100000 in
theorem impl_GoodFields.calls (k : Nat) (A0 : Option Addr) (c0 : Nat) (l0 : List (S36)) (r : Bool) (w : World) (hr0 : Kd.C k36 w A0 l0.length l0) (hc0 : l0.length ≤ c0) (h : impl_GoodFields.f k l0 = some r) :
    Calls Tryd.prog 9 #[.slice A0 l0.length c0] w fun e w' => e = .returned (.bool r) ∧ Below w.heap.size w w' := by
  have hs : (l0.all fun x => (GoodFieldsP k x).isSome) = true ∧ (decide ((l0.length : Int) ≤ 30) && !(l0.any fun x => (GoodFieldsP k x).getD false)) = r := by
    unfold impl_GoodFields.f at h
    split at h
    · exact ⟨by assumption, Option.some.inj h⟩
    · cases h
  clear h
  obtain ⟨ha, rfl⟩ := hs
  have eg : ∀ args w, (callFunc 20 args).run Tryd.prog w = .ok (.enter 20 args) w := enters_ Tryd.func20 (by kernel_rfl) rfl
  have hcon := anyF_Field A0 c0 l0 20 #[] (fun x => (GoodFieldsP k x).getD false) w eg
    (fun W x hx hb => by
      have hq := List.all_eq_true.1 ha x hx
      obtain ⟨b, hb'⟩ := Option.isSome_iff_exists.1 hq
      refine (show Calls Tryd.prog 20 (#[.agg #[.string x.f0, .string x.f1]] ++ #[]) W _ from ?_)
      rw [hb', Option.getD_some]
      exact (GoodFieldsP_calls k x b W hb').mono fun e w' hh => ⟨hh.1, hb.trans (hh.2.mono hb.size)⟩) hr0
  clear hr0 eg ha
  have HB := Aside0.mk (Below.refl w.heap.size w)
  generalize (l0.any fun x => (GoodFieldsP k x).getD false) = q at hcon ⊢
  by_cases hl : (l0.length : Int) ≤ 30
  · have c1 : decide ((l0.length : Int) ≤ 30) = true := decide_eq_true hl
    rw [c1]
    clear hl
    go_enter Tryd.func9, Tryd.ntmps9
    go_wp2_with fail
    refine hcon.mono ?_
    rintro e w' ⟨rfl, hb'⟩
    go_wp2
    go_ret
    exact ⟨rfl, HB.out.trans (hb'.mono (by simp))⟩
  · have c1 : decide ((l0.length : Int) ≤ 30) = false := decide_eq_false hl
    rw [c1]
    clear hl hcon
    go_enter Tryd.func9, Tryd.ntmps9
    go_wp2_with fail
    go_ret
    exact ⟨rfl, HB.out⟩

/-! ### impl_bigEndian: function 45 -/
def impl_bigEndian.l0 : Nat → Int → List Int → Int → Option (ByteArray)
 | 0, _, _, _ => none
 | k + 1, x0, x5, x6 => if x6 ≥ 0 then (if 0 ≤ x6 then (if x6 < (x5.length : Int) then (impl_bigEndian.l0 k (x0 / 256) (x5.set (x6 : Int).toNat ((x0) % 256)) (wrap64 (x6 - 1))) else (none)) else (none)) else (some (strOfNums x5))
def impl_bigEndian.f (k : Nat) (a0 : Int) (a1 : Int) : Option (ByteArray) := if 0 ≤ a1 then (if (a1 : Int).toNat ≤ 281474976710656 then (impl_bigEndian.l0 k a0 (List.replicate (a1 : Int).toNat 0) (wrap64 (a1 - 1))) else (none)) else (none)
theorem impl_bigEndian.mono_l : ∀ k, (∀ y0 y1 y2, LeO (impl_bigEndian.l0 k y0 y1 y2) (impl_bigEndian.l0 (k + 1) y0 y1 y2))
 | 0 => fun _ _ _ r h => by simp [impl_bigEndian.l0] at h
 | k + 1 => by
  have ih0 := impl_bigEndian.mono_l k
  ·intro y0 y1 y2
   unfold impl_bigEndian.l0
   repeat' first
   | (with_reducible exact ih0 _ _ _)
   | (with_reducible exact LeO.refl _)
   | (with_reducible exact LeO.none _)
   | (with_reducible refine LeO.ite ?_ ?_)
   | (with_reducible refine LeO.bind ?_ (fun _ => ?_))
   | exact ih0 _ _ _
   | exact LeO.none _
   | refine LeO.ite ?_ ?_
   | refine LeO.bind ?_ (fun _ => ?_)
theorem impl_bigEndian.mono : ∀ a0 a1 k, LeO (impl_bigEndian.f k a0 a1) (impl_bigEndian.f (k + 1) a0 a1) := by
 intro a0 a1 k
 have ih0 := impl_bigEndian.mono_l k
 unfold impl_bigEndian.f
 repeat' first
   | (with_reducible exact ih0 _ _ _)
   | (with_reducible exact LeO.refl _)
   | (with_reducible exact LeO.none _)
   | (with_reducible refine LeO.ite ?_ ?_)
   | (with_reducible refine LeO.bind ?_ (fun _ => ?_))
   | exact ih0 _ _ _
   | exact LeO.none _
   | refine LeO.ite ?_ ?_
   | refine LeO.bind ?_ (fun _ => ?_)
set_option maxHeartbeats 64000000 in
set_option maxRecDepth 100000 in
theorem impl_bigEndian.calls (k : Nat) (a0 : Int) (a1 : Int) (r : ByteArray) (w : World) (h : impl_bigEndian.f k a0 a1 = some r) :
  Calls Tryd.prog 45 #[.int .u64 a0, .int .i64 a1] w fun e w' => e = .returned (.string r) ∧ Below w.heap.size w w' := by
 have HB := Aside0.mk (Below.refl w.heap.size w)
 have H : (if 0 ≤ a1 then (if (a1 : Int).toNat ≤ 281474976710656 then (impl_bigEndian.l0 k a0 (List.replicate (a1 : Int).toNat 0) (wrap64 (a1 - 1))) else (none)) else (none)) = some r := h
 clear h
 by_cases c3 : 0 ≤ a1
 ·rw [if_pos c3] at H
  have c3b0 := eq_true c3
  have c3b1 : decide (0 ≤ a1) = true := decide_eq_true c3
  clear c3
  by_cases c4 : (a1 : Int).toNat ≤ 281474976710656
  ·rw [if_pos c4] at H
   have c4b0 := eq_true c4
   have c4b1 : decide ((a1 : Int).toNat ≤ 281474976710656) = true := decide_eq_true c4
   clear c4
   obtain ⟨y161, hy161⟩ : ∃ y_ : List Int, y_ = (List.replicate (a1 : Int).toNat 0) := ⟨_, rfl⟩
   replace H : (impl_bigEndian.l0 k a0 y161 (wrap64 (a1 - 1))) = some r := by first | (rw [hy161]; with_reducible exact H) | (have H2_ := (Option.bind_some _ _).symm.trans H; rw [hy161]; with_reducible exact H2_) | (have H2_ := (Option.bind_some _ _).symm.trans H; with_reducible exact H2_) | with_reducible exact H | (rw [hy161]; exact H) | exact H
   have Ny161 := Aside0.mk hy161
   clear hy161
   have H' := Aside0.mk H
   clear H
   go_enter Tryd.func45, Tryd.ntmps45
   go_wp2_with (first | ((with_reducible refine gate_dst (N := 8) rfl ?_); refine Kd.R_make (Kd.int .u8) _ 5 rfl (N := 8) rfl 61 _ _ rfl a1 rfl rfl Tryd.underlying61 (.int .u8 0) 1 info5 rfl (by decide) (by omega) 0 (ok := fun _ => True) (okp := fun _ => True) rfl (fun _ hk => hk) trivial (of_decide_eq_true (by first | (with_reducible assumption) | assumption)) (Nat.le_trans (Nat.mul_le_mul_right _ (of_decide_eq_true (by first | (with_reducible assumption) | assumption) : a1.toNat ≤ 281474976710656)) (by omega)) (Below.refl _ _) (Nat.le_refl _) ?_; intro v162 w5 ho6 hb hg_ hnew_; clear hg_ hnew_; (first | rw [← Ny161.out] at ho6 | (simp only [Int.reduceToNat] at ho6; rw [← Ny161.out] at ho6)); have n0_ := Aside0.mk (Kd.R_lower ho6 (below_size (by repeat (first | (with_reducible first | exact HB.out | apply below_alloc | apply pw_below_drewN | apply below_drew1) | exact HB.out)))); have n1_ := bS HB hb; clear HB; have HO163 := n0_; have HB := n1_; clear n0_ n1_; clear hb ho6))
   go_loopg [0, 6] k (fun kq v0 v6 w' => ∃ (x0_1 : Int) (x5_1 : List Int) (x6_1 : Int), v0 = .int .u64 x0_1 ∧ v6 = .int .i64 x6_1 ∧ Aside0 (impl_bigEndian.l0 kq x0_1 x5_1 x6_1 = some r) ∧ Aside0 (kq ≤ k) ∧ Aside0 (Kd.R (Kd.int .u8) 5 w' w.heap.size (fun _ => True) v162 x5_1) ∧ Aside0 (Below w.heap.size w w'))
   case atStart => exact ⟨(a0), (y161), (wrap64 (a1 - 1)), (by first | rfl | (simp; done) | (simp [*]; done)), (by first | rfl | (simp; done) | (simp [*]; done)), H', ⟨Nat.le_refl _⟩, ⟨by (with_reducible repeat (first | apply Kd.R_alloc | apply Kd.R_drewN | apply Kd.R_drew)); exact HO163.out⟩, ⟨by repeat (first | (with_reducible first | exact HB.out | apply below_alloc | apply pw_below_drewN | apply below_drew1) | exact HB.out)⟩⟩
   case round =>
    clear H'
    try clear p2
    try clear c3
    try clear c3b0
    try clear c3b1
    try clear c4
    try clear c4b0
    try clear c4b1
    try clear p6
    obtain ⟨x0_1, x5_1, x6_1, rfl, rfl, HA, HK1, HO_5, HB⟩ := hrel
    cases gk with
    | zero => exact absurd HA.out (by simp [impl_bigEndian.l0])
    | succ k1 =>
     have H := HA.out
     clear HA
     simp only [impl_bigEndian.l0] at H
     by_cases c7 : x6_1 ≥ 0
     ·rw [if_pos c7] at H
      have c7b0 : decide (0 ≤ x6_1) = true := decide_eq_true c7
      clear c7
      by_cases c8 : 0 ≤ x6_1
      ·rw [if_pos c8] at H
       have c8b0 : decide (0 ≤ x6_1) = true := decide_eq_true c8
       clear c8
       by_cases c9 : x6_1 < (x5_1.length : Int)
       ·rw [if_pos c9] at H
        have c9b0 : decide (x6_1 < (x5_1.length : Int)) = true := decide_eq_true c9
        clear c9
        obtain ⟨y164, hy164⟩ : ∃ y_ : List Int, y_ = (x5_1.set (x6_1 : Int).toNat ((x0_1) % 256)) := ⟨_, rfl⟩
        replace H : (impl_bigEndian.l0 k1 (x0_1 / 256) y164 (wrap64 (x6_1 - 1))) = some r := by first | (rw [hy164]; with_reducible exact H) | (have H2_ := (Option.bind_some _ _).symm.trans H; rw [hy164]; with_reducible exact H2_) | (have H2_ := (Option.bind_some _ _).symm.trans H; with_reducible exact H2_) | with_reducible exact H | (rw [hy164]; exact H) | exact H
        have Ny164 := Aside0.mk hy164
        clear hy164
        have H' := Aside0.mk H
        clear H
        have p10 : 0 ≤ (x6_1 : Int) := of_decide_eq_true (by first | (with_reducible assumption) | assumption)
        have q10 : (x6_1 : Int) < ((x5_1.length : Int) : Int) := of_decide_eq_true (by first | (with_reducible assumption) | assumption)
        obtain ⟨go10, co10, eo10, gb10, gl10, cl10, HG10⟩ := Kd.R_form HO_5.out (by omega)
        (first | cases eo10 | (injection eo10 with ea_ en_ ec_; (first | subst ea_ | (injection ea_ with ea_; subst ea_)); subst ec_; clear en_))
        have GB10 := Aside0.mk gb10
        have GG10 := Aside0.mk HG10
        clear gb10 gl10 HG10
        obtain ⟨hx10_0, hf10_0⟩ := Kd.R_celln 0 HO_5.out (x6_1 : Int) p10 q10
        replace p10 := eq_true p10
        replace q10 := eq_true q10
        have HP11 := Kd.R_putg HO_5.out (x6_1 : Int) ((x0_1) % 256)
        go_wp2_with (first | ((with_reducible refine gate_store (t := 5) (p := 19) rfl ?_); refine store_event (t := 5) (p := 19) (v := ?vo_w12) (w1 := (wr.setCell ⟨go10, (x6_1 : Int).toNat, none⟩ (.int .u8 ((x0_1) % 256)))) ?hg ?ho ?hn ?hr ?_; (case ho => rfl); (case hg => rfl); (case hn => rfl); (case hr => first | (go_simp; done) | (go_simp; rfl)); intro w12 hw; have hg : wr.grownBy w12 (some go10) := (by rw [hw]; exact HP11.2); have hp_ : Kd.R (Kd.int .u8) 5 w12 w.heap.size (fun _ => True) (.slice (some ⟨go10, 0, none⟩) x5_1.length co10) y164 := (by rw [hw, Ny164.out]; exact HP11.1); clear HP11; have n0_ := Aside0.mk (hp_); have n1_ := Aside0.mk ((by rw [hw]; exact below_set (HB.out) GB10.out : Below w.heap.size w w12)); clear HO_5; clear HB; have HO_5 := n0_; have HB := n1_; clear n0_ n1_; clear hg hw hp_))
        go_roundg k1
        case measure => have := HK1.out; omega
        case rel => exact ⟨(x0_1 / 256), (y164), (wrap64 (x6_1 - 1)), (by first | rfl | (simp; done) | (simp [*]; done)), (by first | rfl | (simp; done) | (simp [*]; done)), H', ⟨by have := HK1.out; omega⟩, ⟨by (with_reducible repeat (first | apply Kd.R_alloc | apply Kd.R_drewN | apply Kd.R_drew)); exact HO_5.out⟩, ⟨by repeat (first | (with_reducible first | exact HB.out | apply below_alloc | apply pw_below_drewN | apply below_drew1) | exact HB.out)⟩⟩
       ·rw [if_neg c9] at H
        exact absurd H (by simp)
      ·rw [if_neg c8] at H
       exact absurd H (by simp)
     ·rw [if_neg c7] at H
      have c7b0 : decide (0 ≤ x6_1) = false := decide_eq_false c7
      clear c7
      obtain rfl := Option.some.inj H
      have hcv13 := own_string (P := Tryd.prog) Tryd.underlying61 Tryd.underlying5 Tryd.underlying9 (Kd.own_of_R HO_5.out)
      go_wp2
      go_ret
      exact ⟨by first | rfl | (simp [errW_none, errW_some] <;> rfl) | (simp [*, errW_none, errW_some] <;> rfl), by repeat (first | (with_reducible first | exact HB.out | apply below_alloc | apply pw_below_drewN | apply below_drew1) | exact HB.out)⟩
  ·rw [if_neg c4] at H
   exact absurd H (by simp)
 ·rw [if_neg c3] at H
  exact absurd H (by simp)

/-! ### impl_prefixed: function 36 -/
def impl_prefixed.l0 : Nat → Int → ByteArray → Option (ByteArray)
 | 0, _, _ => none
 | k + 1, x0, x8 => if x0 ≥ 128 then ((impl_bigEndian.f k (IntKind.u64.wrap (wrap64 ((Int.tmod x0 128) + 128))) 1).bind fun t167 => (if x8.size + t167.size ≤ 9223372036854775807 then (impl_prefixed.l0 k (wrap64 (Int.tdiv x0 128)) (x8 ++ t167)) else (none))) else ((impl_bigEndian.f k (IntKind.u64.wrap (x0)) 1).bind fun t168 => (if x8.size + t168.size ≤ 9223372036854775807 then (some (x8 ++ t168)) else (none)))
def impl_prefixed.f (k : Nat) (a0 : Int) (a1 : Int) (a2 : Int) : Option (ByteArray) := if 0 ≤ a1 then (if a0 < (wrap64 ((shl .i64 1 a1) - 1)) then ((impl_bigEndian.f k (IntKind.u64.wrap (wrap64 (a2 + a0))) 1).bind fun t165 => (some t165)) else ((impl_bigEndian.f k (IntKind.u64.wrap (wrap64 (a2 + (wrap64 ((shl .i64 1 a1) - 1))))) 1).bind fun t166 => (impl_prefixed.l0 k (wrap64 (a0 - (wrap64 ((shl .i64 1 a1) - 1)))) t166))) else (none)
theorem impl_prefixed.mono_l : ∀ k, (∀ y0 y1, LeO (impl_prefixed.l0 k y0 y1) (impl_prefixed.l0 (k + 1) y0 y1))
 | 0 => fun _ _ r h => by simp [impl_prefixed.l0] at h
 | k + 1 => by
  have ih0 := impl_prefixed.mono_l k
  ·intro y0 y1
   unfold impl_prefixed.l0
   repeat' first
   | (with_reducible exact ih0 _ _)
   | (with_reducible exact impl_bigEndian.mono _ _ _)
   | (with_reducible exact LeO.refl _)
   | (with_reducible exact LeO.none _)
   | (with_reducible refine LeO.ite ?_ ?_)
   | (with_reducible refine LeO.bind ?_ (fun _ => ?_))
   | exact ih0 _ _
   | exact impl_bigEndian.mono _ _ _
   | exact LeO.none _
   | refine LeO.ite ?_ ?_
   | refine LeO.bind ?_ (fun _ => ?_)
theorem impl_prefixed.mono : ∀ a0 a1 a2 k, LeO (impl_prefixed.f k a0 a1 a2) (impl_prefixed.f (k + 1) a0 a1 a2) := by
 intro a0 a1 a2 k
 have ih0 := impl_prefixed.mono_l k
 unfold impl_prefixed.f
 repeat' first
   | (with_reducible exact ih0 _ _)
   | (with_reducible exact impl_bigEndian.mono _ _ _)
   | (with_reducible exact LeO.refl _)
   | (with_reducible exact LeO.none _)
   | (with_reducible refine LeO.ite ?_ ?_)
   | (with_reducible refine LeO.bind ?_ (fun _ => ?_))
   | exact ih0 _ _
   | exact impl_bigEndian.mono _ _ _
   | exact LeO.none _
   | refine LeO.ite ?_ ?_
   | refine LeO.bind ?_ (fun _ => ?_)
set_option maxHeartbeats 64000000 in
set_option maxRecDepth 100000 in
theorem impl_prefixed.calls (k : Nat) (a0 : Int) (a1 : Int) (a2 : Int) (r : ByteArray) (w : World) (h : impl_prefixed.f k a0 a1 a2 = some r) :
  Calls Tryd.prog 36 #[.int .i64 a0, .int .i64 a1, .int .i64 a2] w fun e w' => e = .returned (.string r) ∧ Below w.heap.size w w' := by
 have HB := Aside0.mk (Below.refl w.heap.size w)
 have H : (if 0 ≤ a1 then (if a0 < (wrap64 ((shl .i64 1 a1) - 1)) then ((impl_bigEndian.f k (IntKind.u64.wrap (wrap64 (a2 + a0))) 1).bind fun t165 => (some t165)) else ((impl_bigEndian.f k (IntKind.u64.wrap (wrap64 (a2 + (wrap64 ((shl .i64 1 a1) - 1))))) 1).bind fun t166 => (impl_prefixed.l0 k (wrap64 (a0 - (wrap64 ((shl .i64 1 a1) - 1)))) t166))) else (none)) = some r := h
 clear h
 by_cases c4 : 0 ≤ a1
 ·rw [if_pos c4] at H
  have c4b0 := eq_true c4
  have c4b1 : decide (0 ≤ a1) = true := decide_eq_true c4
  clear c4
  obtain ⟨ji5, hji5⟩ : ∃ j_ : Int, (shl .i64 1 a1) = j_ := ⟨_, rfl⟩
  replace H : (if a0 < (wrap64 ((ji5) - 1)) then ((impl_bigEndian.f k (IntKind.u64.wrap (wrap64 (a2 + a0))) 1).bind fun t165 => (some t165)) else ((impl_bigEndian.f k (IntKind.u64.wrap (wrap64 (a2 + (wrap64 ((ji5) - 1))))) 1).bind fun t166 => (impl_prefixed.l0 k (wrap64 (a0 - (wrap64 ((ji5) - 1)))) t166))) = some r := by first | (rw [hji5] at H; exact H) | (simp only [hji5] at H ⊢; exact H)
  have hji5_ : (IntKind.i64.wrap (1 * 2 ^ min a1.toNat 64)) = ji5 := hji5
  have hji5z : a1 ≤ 64 → (IntKind.i64.wrap (1 * 2 ^ a1.toNat)) = ji5 := shl_small hji5
  have hji5u : (IntKind.i64.wrap (2 ^ min a1.toNat 64)) = ji5 := by have h_ := hji5_; rw [Int.one_mul] at h_; exact h_
  have hji5v : a1 ≤ 64 → (IntKind.i64.wrap (2 ^ a1.toNat)) = ji5 := fun hle_ => by have h_ := hji5z hle_; rw [Int.one_mul] at h_; exact h_
  have hji5y : (wrap64 (1 * 2 ^ min a1.toNat 64)) = ji5 := (i64_w _).symm.trans hji5_
  have hji5x : a1 ≤ 64 → (wrap64 (1 * 2 ^ a1.toNat)) = ji5 := fun h_ => (i64_w _).symm.trans (hji5z h_)
  by_cases c6 : a0 < (wrap64 ((ji5) - 1))
  ·rw [if_pos c6] at H
   have c6b0 : decide (a0 < (wrap64 ((ji5) - 1))) = true := decide_eq_true c6
   (try (have c6b1 : decide (a0 < (IntKind.i64.wrap ((ji5) - 1))) = true := by simp only [i64_w]; exact (decide_eq_true c6)))
   clear c6
   replace H := Option.bind_eq_some_iff.mp H
   obtain ⟨t165, A70, H⟩ := H
   replace H : (some t165) = some r := H
   have A7 := Aside0.mk A70
   clear A70
   obtain rfl := Option.some.inj H
   go_enter Tryd.func36, Tryd.ntmps36
   go_wp2_with (first | ((with_reducible refine gate_callee (f := 45) rfl ?_); refine goesL_ (some 19) rfl rfl Tryd.func45 (by kernel_rfl) rfl #[.int .u64 (IntKind.u64.wrap (wrap64 (a2 + a0))), .int .i64 1] rfl (by (try simp only [List.map_toArray, List.map_cons, List.map_nil]); first | done | rfl | (simp only [List.length_drop, List.length_take]; rfl)) ?_; (with_reducible refine (impl_bigEndian.calls k (IntKind.u64.wrap (wrap64 (a2 + a0))) 1 t165 _ A7.out).mono ?_); rintro e w8 ⟨rfl, hb⟩; refine ⟨_, rfl, ?_⟩; have n0_ := bS HB hb; clear HB; have HB := n0_; clear n0_; (try clear hb); (try clear hb2); (try clear hk); (try clear hi)))
   go_ret
   exact ⟨by first | rfl | (simp [errW_none, errW_some] <;> rfl) | (simp only [← hji5]; first | rfl | (simp [errW_none, errW_some] <;> rfl)) | (simp [*, errW_none, errW_some] <;> rfl), by repeat (first | (with_reducible first | exact HB.out | apply below_alloc | apply pw_below_drewN | apply below_drew1) | exact HB.out)⟩
  ·rw [if_neg c6] at H
   have c6b0 : decide (a0 < (wrap64 ((ji5) - 1))) = false := decide_eq_false c6
   (try (have c6b1 : decide (a0 < (IntKind.i64.wrap ((ji5) - 1))) = false := by simp only [i64_w]; exact (decide_eq_false c6)))
   clear c6
   replace H := Option.bind_eq_some_iff.mp H
   obtain ⟨t166, A90, H⟩ := H
   replace H : (impl_prefixed.l0 k (wrap64 (a0 - (wrap64 ((ji5) - 1)))) t166) = some r := H
   have A9 := Aside0.mk A90
   clear A90
   have H' := Aside0.mk H
   clear H
   go_enter Tryd.func36, Tryd.ntmps36
   go_wp2_with (first | ((with_reducible refine gate_callee (f := 45) rfl ?_); refine goesL_ (some 24) rfl rfl Tryd.func45 (by kernel_rfl) rfl #[.int .u64 (IntKind.u64.wrap (wrap64 (a2 + (wrap64 ((ji5) - 1))))), .int .i64 1] rfl (by (try simp only [List.map_toArray, List.map_cons, List.map_nil]); first | done | (simp only [hji5]; rfl) | rfl | (simp only [List.length_drop, List.length_take]; rfl)) ?_; (with_reducible refine (impl_bigEndian.calls k (IntKind.u64.wrap (wrap64 (a2 + (wrap64 ((ji5) - 1))))) 1 t166 _ A9.out).mono ?_); rintro e w10 ⟨rfl, hb⟩; refine ⟨_, rfl, ?_⟩; have n0_ := bS HB hb; clear HB; have HB := n0_; clear n0_; (try clear hb); (try clear hb2); (try clear hk); (try clear hi)))
   go_loopg [0, 8] k (fun kq v0 v8 w' => ∃ (x0_1 : Int) (x8_1 : ByteArray), v0 = .int .i64 x0_1 ∧ v8 = .string x8_1 ∧ Aside0 (impl_prefixed.l0 kq x0_1 x8_1 = some r) ∧ Aside0 (kq ≤ k) ∧ Aside0 (Below w.heap.size w w'))
   case atStart => exact ⟨(wrap64 (a0 - (wrap64 ((ji5) - 1)))), (t166), (by first | rfl | (simp; done) | (simp only [← hji5] <;> (first | rfl | (simp; done))) | (simp only [← hji5, i64_w] <;> (first | rfl | (simp; done))) | (simp [*]; done)), (by first | rfl | (simp; done) | (simp [*]; done)), H', ⟨Nat.le_refl _⟩, ⟨by repeat (first | (with_reducible first | exact HB.out | apply below_alloc | apply pw_below_drewN | apply below_drew1) | exact HB.out)⟩⟩
   case round =>
    clear H'
    try clear p2
    try clear c3
    try clear c4
    try clear c4b0
    try clear c4b1
    try clear c6
    try clear c6b0
    try clear c6b1
    try clear p6
    obtain ⟨x0_1, x8_1, rfl, rfl, HA, HK1, HB⟩ := hrel
    cases gk with
    | zero => exact absurd HA.out (by simp [impl_prefixed.l0])
    | succ k1 =>
     have H := HA.out
     clear HA
     simp only [impl_prefixed.l0] at H
     by_cases c11 : x0_1 ≥ 128
     ·rw [if_pos c11] at H
      have c11b0 : decide (128 ≤ x0_1) = true := decide_eq_true c11
      clear c11
      replace H := Option.bind_eq_some_iff.mp H
      obtain ⟨t167, A120, H⟩ := H
      replace H : (if x8_1.size + t167.size ≤ 9223372036854775807 then (impl_prefixed.l0 k1 (wrap64 (Int.tdiv x0_1 128)) (x8_1 ++ t167)) else (none)) = some r := H
      have A12 := Aside0.mk A120
      clear A120
      by_cases c13 : x8_1.size + t167.size ≤ 9223372036854775807
      ·rw [if_pos c13] at H
       have c13b0 := eq_true c13
       have c13b1 : decide (x8_1.size + t167.size ≤ 9223372036854775807) = true := decide_eq_true c13
       try have c13b2 : (9223372036854775807 < x8_1.size + t167.size) = False := eq_false (Nat.not_lt.2 c13)
       have H' := Aside0.mk H
       clear H
       go_wp2_with (first | ((with_reducible refine gate_callee (f := 45) rfl ?_); refine goesL_ (some 37) rfl rfl Tryd.func45 (by kernel_rfl) rfl #[.int .u64 (IntKind.u64.wrap (wrap64 ((Int.tmod x0_1 128) + 128))), .int .i64 1] rfl (by (try simp only [List.map_toArray, List.map_cons, List.map_nil]); first | done | rfl | (simp only [List.length_drop, List.length_take]; rfl)) ?_; (with_reducible refine (impl_bigEndian.calls k1 (IntKind.u64.wrap (wrap64 ((Int.tmod x0_1 128) + 128))) 1 t167 _ A12.out).mono ?_); rintro e w14 ⟨rfl, hb⟩; refine ⟨_, rfl, ?_⟩; have n0_ := bS HB hb; clear HB; have HB := n0_; clear n0_; (try clear hb); (try clear hb2); (try clear hk); (try clear hi)))
       go_roundg k1
       case measure => have := HK1.out; omega
       case rel => exact ⟨(wrap64 (Int.tdiv x0_1 128)), (x8_1 ++ t167), (by first | rfl | (simp; done) | (simp [*]; done)), (by first | rfl | (simp; done) | (simp [*]; done)), H', ⟨by have := HK1.out; omega⟩, ⟨by repeat (first | (with_reducible first | exact HB.out | apply below_alloc | apply pw_below_drewN | apply below_drew1) | exact HB.out)⟩⟩
      ·rw [if_neg c13] at H
       exact absurd H (by simp)
     ·rw [if_neg c11] at H
      have c11b0 : decide (128 ≤ x0_1) = false := decide_eq_false c11
      clear c11
      replace H := Option.bind_eq_some_iff.mp H
      obtain ⟨t168, A150, H⟩ := H
      replace H : (if x8_1.size + t168.size ≤ 9223372036854775807 then (some (x8_1 ++ t168)) else (none)) = some r := H
      have A15 := Aside0.mk A150
      clear A150
      by_cases c16 : x8_1.size + t168.size ≤ 9223372036854775807
      ·rw [if_pos c16] at H
       have c16b0 := eq_true c16
       have c16b1 : decide (x8_1.size + t168.size ≤ 9223372036854775807) = true := decide_eq_true c16
       try have c16b2 : (9223372036854775807 < x8_1.size + t168.size) = False := eq_false (Nat.not_lt.2 c16)
       obtain rfl := Option.some.inj H
       go_wp2_with (first | ((with_reducible refine gate_callee (f := 45) rfl ?_); refine goesL_ (some 42) rfl rfl Tryd.func45 (by kernel_rfl) rfl #[.int .u64 (IntKind.u64.wrap (x0_1)), .int .i64 1] rfl (by (try simp only [List.map_toArray, List.map_cons, List.map_nil]); first | done | rfl | (simp only [List.length_drop, List.length_take]; rfl)) ?_; (with_reducible refine (impl_bigEndian.calls k1 (IntKind.u64.wrap (x0_1)) 1 t168 _ A15.out).mono ?_); rintro e w17 ⟨rfl, hb⟩; refine ⟨_, rfl, ?_⟩; have n0_ := bS HB hb; clear HB; have HB := n0_; clear n0_; (try clear hb); (try clear hb2); (try clear hk); (try clear hi)))
       go_ret
       exact ⟨by first | rfl | (simp [errW_none, errW_some] <;> rfl) | (simp only [← hji5]; first | rfl | (simp [errW_none, errW_some] <;> rfl)) | (simp [*, errW_none, errW_some] <;> rfl), by repeat (first | (with_reducible first | exact HB.out | apply below_alloc | apply pw_below_drewN | apply below_drew1) | exact HB.out)⟩
      ·rw [if_neg c16] at H
       exact absurd H (by simp)
 ·rw [if_neg c4] at H
  exact absurd H (by simp)

/-! ### impl_Field_46: function 46 -/
def impl_Field_46.l0 : Nat → List (S36) → Int → Int → ByteArray → ByteArray → Option (Int)
 | 0, _, _, _, _, _ => none
 | k + 1, x0, x7, x8, x170000, x170001 => if x8 < x7 then (if 0 ≤ x8 then (if x8 < (x0.length : Int) then (if (x170000.toList == (((rd_T36 x0 x8).f0).toList) && (x170001.toList == (((rd_T36 x0 x8).f1).toList))) = true then (some x8) else (impl_Field_46.l0 k x0 x7 (wrap64 (x8 + 1)) x170000 x170001)) else (none)) else (none)) else (some (-1))
def impl_Field_46.f (k : Nat) (l0 : List (S36)) (a1_0 : ByteArray) (a1_1 : ByteArray) : Option (Int) := impl_Field_46.l0 k l0 (l0.length : Int) 0 a1_0 a1_1
theorem impl_Field_46.mono_l : ∀ k, (∀ y0 y1 y2 y3 y4, LeO (impl_Field_46.l0 k y0 y1 y2 y3 y4) (impl_Field_46.l0 (k + 1) y0 y1 y2 y3 y4))
 | 0 => fun _ _ _ _ _ r h => by simp [impl_Field_46.l0] at h
 | k + 1 => by
  have ih0 := impl_Field_46.mono_l k
  ·intro y0 y1 y2 y3 y4
   unfold impl_Field_46.l0
   repeat' first
   | (with_reducible exact ih0 _ _ _ _ _)
   | (with_reducible exact LeO.refl _)
   | (with_reducible exact LeO.none _)
   | (with_reducible refine LeO.ite ?_ ?_)
   | (with_reducible refine LeO.bind ?_ (fun _ => ?_))
   | exact ih0 _ _ _ _ _
   | exact LeO.none _
   | refine LeO.ite ?_ ?_
   | refine LeO.bind ?_ (fun _ => ?_)
theorem impl_Field_46.mono : ∀ a0 a1 a2 k, LeO (impl_Field_46.f k a0 a1 a2) (impl_Field_46.f (k + 1) a0 a1 a2) := by
 intro a0 a1 a2 k
 have ih0 := impl_Field_46.mono_l k
 unfold impl_Field_46.f
 repeat' first
   | (with_reducible exact ih0 _ _ _ _ _)
   | (with_reducible exact LeO.refl _)
   | (with_reducible exact LeO.none _)
   | (with_reducible refine LeO.ite ?_ ?_)
   | (with_reducible refine LeO.bind ?_ (fun _ => ?_))
   | exact ih0 _ _ _ _ _
   | exact LeO.none _
   | refine LeO.ite ?_ ?_
   | refine LeO.bind ?_ (fun _ => ?_)
set_option maxHeartbeats 64000000 in
set_option maxRecDepth 100000 in
theorem impl_Field_46.calls (k : Nat) (A0 : Option Addr) (c0 : Nat) (l0 : List (S36)) (a1_0 : ByteArray) (a1_1 : ByteArray) (r : Int) (w : World) (hr0 : Kd.C k36 w A0 l0.length l0) (hc0 : l0.length ≤ c0) (h : impl_Field_46.f k l0 a1_0 a1_1 = some r) :
  Calls Tryd.prog 46 #[.slice A0 l0.length c0, .agg #[.string a1_0, .string a1_1]] w fun e w' => e = .returned (.int .i64 r) ∧ Below w.heap.size w w' := by
 have hu36 := Tryd.underlying36
 have HR0 := Aside0.mk hr0
 have HC0 := Aside0.mk hc0
 clear hr0 hc0
 have HB := Aside0.mk (Below.refl w.heap.size w)
 have H : (impl_Field_46.l0 k l0 (l0.length : Int) 0 a1_0 a1_1) = some r := h
 clear h
 have H' := Aside0.mk H
 clear H
 go_enter Tryd.func46, Tryd.ntmps46
 go_wp2_with (first | ((with_reducible refine gate_dst (N := 3) rfl ?_); refine box_event ?hg (N := 3) ?hd (cs := #[.string a1_0, .string a1_1]) (t := 36) ?hr ?_; (case hd => rfl); (case hg => rfl); (case hr => first | (go_simp; done) | (go_simp; rfl)); intro gb169 hg w3 hbox hb; have n0_ := bS HB hb; have n1_ := Aside0.mk (hbox); have n2_ := Aside0.mk ((by rw [hg]; exact (below_size (by repeat (first | (with_reducible first | exact HB.out | apply below_alloc | apply pw_below_drewN | apply below_drew1) | exact HB.out))) : w.heap.size ≤ gb169)); have n3_ := n2_; clear HB; have HB := n0_; have BK169 := n1_; have GW169 := n2_; have GE169 := n3_; clear n0_ n1_ n2_ n3_; clear hb hbox hg))
 repeat (go_quiet (first | ((with_reducible refine gate_dst (N := 3) rfl ?_); refine box_event ?hg (N := 3) ?hd (cs := #[.string a1_0, .string a1_1]) (t := 36) ?hr ?_; (case hd => rfl); (case hg => rfl); (case hr => first | (go_simp; done) | (go_simp; rfl)); intro gb169 hg w3 hbox hb; have n0_ := bS HB hb; have n1_ := Aside0.mk (hbox); have n2_ := Aside0.mk ((by rw [hg]; exact (below_size (by repeat (first | (with_reducible first | exact HB.out | apply below_alloc | apply pw_below_drewN | apply below_drew1) | exact HB.out))) : w.heap.size ≤ gb169)); have n3_ := n2_; clear HB; have HB := n0_; have BK169 := n1_; have GW169 := n2_; have GE169 := n3_; clear n0_ n1_ n2_ n3_; clear hb hbox hg)); try go_wp2_with (first | ((with_reducible refine gate_dst (N := 3) rfl ?_); refine box_event ?hg (N := 3) ?hd (cs := #[.string a1_0, .string a1_1]) (t := 36) ?hr ?_; (case hd => rfl); (case hg => rfl); (case hr => first | (go_simp; done) | (go_simp; rfl)); intro gb169 hg w3 hbox hb; have n0_ := bS HB hb; have n1_ := Aside0.mk (hbox); have n2_ := Aside0.mk ((by rw [hg]; exact (below_size (by repeat (first | (with_reducible first | exact HB.out | apply below_alloc | apply pw_below_drewN | apply below_drew1) | exact HB.out))) : w.heap.size ≤ gb169)); have n3_ := n2_; clear HB; have HB := n0_; have BK169 := n1_; have GW169 := n2_; have GE169 := n3_; clear n0_ n1_ n2_ n3_; clear hb hbox hg)))
 go_loopg [8] k (fun kq v8 w' => ∃ (x8_1 : Int), v8 = .int .i64 x8_1 ∧ Aside0 (impl_Field_46.l0 kq l0 (l0.length : Int) x8_1 a1_0 a1_1 = some r) ∧ Aside0 (kq ≤ k) ∧ Aside0 (w'.heap[gb169]? = some (.cells #[.string a1_0, .string a1_1] 36 (0, 0))) ∧ Aside0 (Below w.heap.size w w'))
 case atStart => exact ⟨(0), (by first | rfl | (simp; done) | (simp [*]; done)), H', ⟨Nat.le_refl _⟩, ⟨by (with_reducible repeat (first | refine bN ?_ _ | refine bD ?_ | refine bA ?_ _)); exact BK169.out⟩, ⟨by repeat (first | (with_reducible first | exact HB.out | apply below_alloc | apply pw_below_drewN | apply below_drew1 | refine below_set ?_ GE169.out) | exact HB.out)⟩⟩
 case round =>
  clear H'
  try clear p2
  obtain ⟨x8_1, rfl, HA, HK1, BK169, HB⟩ := hrel
  cases gk with
  | zero => exact absurd HA.out (by simp [impl_Field_46.l0])
  | succ k1 =>
   have H := HA.out
   clear HA
   simp only [impl_Field_46.l0] at H
   by_cases c4 : x8_1 < (l0.length : Int)
   ·rw [if_pos c4] at H
    have c4b0 : decide (x8_1 < (l0.length : Int)) = true := decide_eq_true c4
    clear c4
    by_cases c5 : 0 ≤ x8_1
    ·rw [if_pos c5] at H
     have c5b0 : decide (0 ≤ x8_1) = true := decide_eq_true c5
     clear c5
     by_cases c6 : x8_1 < (l0.length : Int)
     ·rw [if_pos c6] at H
      have c6b0 : decide (x8_1 < (l0.length : Int)) = true := decide_eq_true c6
      clear c6
      by_cases c7 : (a1_0.toList == (((rd_T36 l0 x8_1).f0).toList) && (a1_1.toList == (((rd_T36 l0 x8_1).f1).toList))) = true
      ·rw [if_pos c7] at H
       have c7b0 : (a1_0.toList == (((rd_T36 l0 x8_1).f0).toList) && (a1_1.toList == (((rd_T36 l0 x8_1).f1).toList))) = true := c7
       (try (have c7b1 : decide (a1_0.toList = (((rd_T36 l0 x8_1).f0).toList) && (a1_1.toList == (((rd_T36 l0 x8_1).f1).toList))) = true := by simpa using c7))
       (try (have c7b2 : (a1_0.toList == (((rd_T36 l0 x8_1).f0).toList) && (a1_1.toList == (((rd_T36 l0 x8_1).f1).toList))) = true := by simpa using c7))
       clear c7
       obtain rfl := Option.some.inj H
       obtain ⟨hcz8_0, hcz8_1⟩ := cz2 BK169
       obtain ⟨hfz8_0, hfz8_1⟩ := fz2 BK169
       have p170 : 0 ≤ (x8_1 : Int) := of_decide_eq_true (by first | (with_reducible assumption) | assumption)
       have q170 : x8_1 < (l0.length : Int) := of_decide_eq_true (by first | (with_reducible assumption) | assumption)
       obtain ⟨ad170, e170, hx170_0, hx170_1⟩ := at_T36 HR0.out x8_1 p170 q170
       cases e170
       replace hx170_0 := (HB.out.cell (World.block_lt_of_cell? w _ hx170_0)).trans hx170_0
       replace hx170_1 := (HB.out.cell (World.block_lt_of_cell? w _ hx170_1)).trans hx170_1
       replace p170 := eq_true p170
       replace q170 := eq_true q170
       go_wp2
       repeat (go_quiet (fail); try go_wp2)
       go_ret
       exact ⟨by first | rfl | (simp [errW_none, errW_some] <;> rfl) | (simp [*, errW_none, errW_some] <;> rfl), by repeat (first | (with_reducible first | exact HB.out | apply below_alloc | apply pw_below_drewN | apply below_drew1 | refine below_set ?_ GE169.out) | exact HB.out)⟩
      ·rw [if_neg c7] at H
       have c7b0 : (a1_0.toList == (((rd_T36 l0 x8_1).f0).toList) && (a1_1.toList == (((rd_T36 l0 x8_1).f1).toList))) = false := by simpa using c7
       (try (have c7b1 : decide (a1_0.toList = (((rd_T36 l0 x8_1).f0).toList) && (a1_1.toList == (((rd_T36 l0 x8_1).f1).toList))) = false := by simpa using c7))
       (try (have c7b2 : (a1_0.toList == (((rd_T36 l0 x8_1).f0).toList) && (a1_1.toList == (((rd_T36 l0 x8_1).f1).toList))) = false := by simpa using c7))
       (try (have c7b3 : ¬ (a1_0.toList = (((rd_T36 l0 x8_1).f0).toList) && (a1_1.toList == (((rd_T36 l0 x8_1).f1).toList))) := by simpa using c7))
       clear c7
       have H' := Aside0.mk H
       clear H
       obtain ⟨hcz9_0, hcz9_1⟩ := cz2 BK169
       obtain ⟨hfz9_0, hfz9_1⟩ := fz2 BK169
       have p170 : 0 ≤ (x8_1 : Int) := of_decide_eq_true (by first | (with_reducible assumption) | assumption)
       have q170 : x8_1 < (l0.length : Int) := of_decide_eq_true (by first | (with_reducible assumption) | assumption)
       obtain ⟨ad170, e170, hx170_0, hx170_1⟩ := at_T36 HR0.out x8_1 p170 q170
       cases e170
       replace hx170_0 := (HB.out.cell (World.block_lt_of_cell? w _ hx170_0)).trans hx170_0
       replace hx170_1 := (HB.out.cell (World.block_lt_of_cell? w _ hx170_1)).trans hx170_1
       replace p170 := eq_true p170
       replace q170 := eq_true q170
       go_wp2
       repeat (go_quiet (fail); try go_wp2)
       go_roundg k1
       case measure => have := HK1.out; omega
       case rel => exact ⟨(wrap64 (x8_1 + 1)), (by first | rfl | (simp; done) | (simp [*]; done)), H', ⟨by have := HK1.out; omega⟩, ⟨by (with_reducible repeat (first | refine bN ?_ _ | refine bD ?_ | refine bA ?_ _)); exact BK169.out⟩, ⟨by repeat (first | (with_reducible first | exact HB.out | apply below_alloc | apply pw_below_drewN | apply below_drew1 | refine below_set ?_ GE169.out) | exact HB.out)⟩⟩
     ·rw [if_neg c6] at H
      exact absurd H (by simp)
    ·rw [if_neg c5] at H
     exact absurd H (by simp)
   ·rw [if_neg c4] at H
    have c4b0 : decide (x8_1 < (l0.length : Int)) = false := decide_eq_false c4
    clear c4
    obtain rfl := Option.some.inj H
    go_wp2
    repeat (go_quiet (fail); try go_wp2)
    go_ret
    exact ⟨by first | rfl | (simp [errW_none, errW_some] <;> rfl) | (simp [*, errW_none, errW_some] <;> rfl), by repeat (first | (with_reducible first | exact HB.out | apply below_alloc | apply pw_below_drewN | apply below_drew1 | refine below_set ?_ GE169.out) | exact HB.out)⟩

/-! ### impl_static: function 47 -/
def impl_static.f  : Option ((List (S36))) := some (([(⟨(⟨#[58, 97, 117, 116, 104, 111, 114, 105, 116, 121]⟩ : ByteArray), (⟨#[]⟩ : ByteArray)⟩ : S36), (⟨(⟨#[58, 112, 97, 116, 104]⟩ : ByteArray), (⟨#[47]⟩ : ByteArray)⟩ : S36), (⟨(⟨#[58, 109, 101, 116, 104, 111, 100]⟩ : ByteArray), (⟨#[67, 79, 78, 78, 69, 67, 84]⟩ : ByteArray)⟩ : S36), (⟨(⟨#[58, 109, 101, 116, 104, 111, 100]⟩ : ByteArray), (⟨#[71, 69, 84]⟩ : ByteArray)⟩ : S36), (⟨(⟨#[58, 109, 101, 116, 104, 111, 100]⟩ : ByteArray), (⟨#[80, 79, 83, 84]⟩ : ByteArray)⟩ : S36), (⟨(⟨#[58, 115, 99, 104, 101, 109, 101]⟩ : ByteArray), (⟨#[104, 116, 116, 112]⟩ : ByteArray)⟩ : S36), (⟨(⟨#[58, 115, 99, 104, 101, 109, 101]⟩ : ByteArray), (⟨#[104, 116, 116, 112, 115]⟩ : ByteArray)⟩ : S36), (⟨(⟨#[58, 115, 116, 97, 116, 117, 115]⟩ : ByteArray), (⟨#[50, 48, 48]⟩ : ByteArray)⟩ : S36), (⟨(⟨#[58, 115, 116, 97, 116, 117, 115]⟩ : ByteArray), (⟨#[52, 48, 52]⟩ : ByteArray)⟩ : S36), (⟨(⟨#[58, 115, 116, 97, 116, 117, 115]⟩ : ByteArray), (⟨#[53, 48, 51]⟩ : ByteArray)⟩ : S36), (⟨(⟨#[58, 112, 114, 111, 116, 111, 99, 111, 108]⟩ : ByteArray), (⟨#[99, 111, 110, 110, 101, 99, 116, 45, 117, 100, 112]⟩ : ByteArray)⟩ : S36), (⟨(⟨#[99, 97, 112, 115, 117, 108, 101, 45, 112, 114, 111, 116, 111, 99, 111, 108]⟩ : ByteArray), (⟨#[63, 49]⟩ : ByteArray)⟩ : S36), (⟨(⟨#[99, 111, 110, 116, 101, 110, 116, 45, 108, 101, 110, 103, 116, 104]⟩ : ByteArray), (⟨#[48]⟩ : ByteArray)⟩ : S36), (⟨(⟨#[100, 97, 116, 101]⟩ : ByteArray), (⟨#[]⟩ : ByteArray)⟩ : S36), (⟨(⟨#[117, 115, 101, 114, 45, 97, 103, 101, 110, 116]⟩ : ByteArray), (⟨#[]⟩ : ByteArray)⟩ : S36), (⟨(⟨#[97, 99, 99, 101, 112, 116]⟩ : ByteArray), (⟨#[42, 47, 42]⟩ : ByteArray)⟩ : S36)] : List (S36)))
set_option maxHeartbeats 64000000 in
set_option maxRecDepth 100000 in
theorem impl_static.calls  (r : List (S36)) (w : World) (h : impl_static.f  = some r) :
  Calls Tryd.prog 47 #[] w fun e w' => ∃ v0_ : Value, e = .returned (v0_) ∧ Kd.R k36 36 w' w.heap.size (fun _ => True) v0_ r ∧ Below w.heap.size w w' := by
 have hu36 := Tryd.underlying36
 have HB := Aside0.mk (Below.refl w.heap.size w)
 have H : (some (([(⟨(⟨#[58, 97, 117, 116, 104, 111, 114, 105, 116, 121]⟩ : ByteArray), (⟨#[]⟩ : ByteArray)⟩ : S36), (⟨(⟨#[58, 112, 97, 116, 104]⟩ : ByteArray), (⟨#[47]⟩ : ByteArray)⟩ : S36), (⟨(⟨#[58, 109, 101, 116, 104, 111, 100]⟩ : ByteArray), (⟨#[67, 79, 78, 78, 69, 67, 84]⟩ : ByteArray)⟩ : S36), (⟨(⟨#[58, 109, 101, 116, 104, 111, 100]⟩ : ByteArray), (⟨#[71, 69, 84]⟩ : ByteArray)⟩ : S36), (⟨(⟨#[58, 109, 101, 116, 104, 111, 100]⟩ : ByteArray), (⟨#[80, 79, 83, 84]⟩ : ByteArray)⟩ : S36), (⟨(⟨#[58, 115, 99, 104, 101, 109, 101]⟩ : ByteArray), (⟨#[104, 116, 116, 112]⟩ : ByteArray)⟩ : S36), (⟨(⟨#[58, 115, 99, 104, 101, 109, 101]⟩ : ByteArray), (⟨#[104, 116, 116, 112, 115]⟩ : ByteArray)⟩ : S36), (⟨(⟨#[58, 115, 116, 97, 116, 117, 115]⟩ : ByteArray), (⟨#[50, 48, 48]⟩ : ByteArray)⟩ : S36), (⟨(⟨#[58, 115, 116, 97, 116, 117, 115]⟩ : ByteArray), (⟨#[52, 48, 52]⟩ : ByteArray)⟩ : S36), (⟨(⟨#[58, 115, 116, 97, 116, 117, 115]⟩ : ByteArray), (⟨#[53, 48, 51]⟩ : ByteArray)⟩ : S36), (⟨(⟨#[58, 112, 114, 111, 116, 111, 99, 111, 108]⟩ : ByteArray), (⟨#[99, 111, 110, 110, 101, 99, 116, 45, 117, 100, 112]⟩ : ByteArray)⟩ : S36), (⟨(⟨#[99, 97, 112, 115, 117, 108, 101, 45, 112, 114, 111, 116, 111, 99, 111, 108]⟩ : ByteArray), (⟨#[63, 49]⟩ : ByteArray)⟩ : S36), (⟨(⟨#[99, 111, 110, 116, 101, 110, 116, 45, 108, 101, 110, 103, 116, 104]⟩ : ByteArray), (⟨#[48]⟩ : ByteArray)⟩ : S36), (⟨(⟨#[100, 97, 116, 101]⟩ : ByteArray), (⟨#[]⟩ : ByteArray)⟩ : S36), (⟨(⟨#[117, 115, 101, 114, 45, 97, 103, 101, 110, 116]⟩ : ByteArray), (⟨#[]⟩ : ByteArray)⟩ : S36), (⟨(⟨#[97, 99, 99, 101, 112, 116]⟩ : ByteArray), (⟨#[42, 47, 42]⟩ : ByteArray)⟩ : S36)] : List (S36)))) = some r := h
 clear h
 obtain ⟨y171, hy171⟩ : ∃ y_ : List (S36), y_ = (([(⟨(⟨#[58, 97, 117, 116, 104, 111, 114, 105, 116, 121]⟩ : ByteArray), (⟨#[]⟩ : ByteArray)⟩ : S36), (⟨(⟨#[58, 112, 97, 116, 104]⟩ : ByteArray), (⟨#[47]⟩ : ByteArray)⟩ : S36), (⟨(⟨#[58, 109, 101, 116, 104, 111, 100]⟩ : ByteArray), (⟨#[67, 79, 78, 78, 69, 67, 84]⟩ : ByteArray)⟩ : S36), (⟨(⟨#[58, 109, 101, 116, 104, 111, 100]⟩ : ByteArray), (⟨#[71, 69, 84]⟩ : ByteArray)⟩ : S36), (⟨(⟨#[58, 109, 101, 116, 104, 111, 100]⟩ : ByteArray), (⟨#[80, 79, 83, 84]⟩ : ByteArray)⟩ : S36), (⟨(⟨#[58, 115, 99, 104, 101, 109, 101]⟩ : ByteArray), (⟨#[104, 116, 116, 112]⟩ : ByteArray)⟩ : S36), (⟨(⟨#[58, 115, 99, 104, 101, 109, 101]⟩ : ByteArray), (⟨#[104, 116, 116, 112, 115]⟩ : ByteArray)⟩ : S36), (⟨(⟨#[58, 115, 116, 97, 116, 117, 115]⟩ : ByteArray), (⟨#[50, 48, 48]⟩ : ByteArray)⟩ : S36), (⟨(⟨#[58, 115, 116, 97, 116, 117, 115]⟩ : ByteArray), (⟨#[52, 48, 52]⟩ : ByteArray)⟩ : S36), (⟨(⟨#[58, 115, 116, 97, 116, 117, 115]⟩ : ByteArray), (⟨#[53, 48, 51]⟩ : ByteArray)⟩ : S36), (⟨(⟨#[58, 112, 114, 111, 116, 111, 99, 111, 108]⟩ : ByteArray), (⟨#[99, 111, 110, 110, 101, 99, 116, 45, 117, 100, 112]⟩ : ByteArray)⟩ : S36), (⟨(⟨#[99, 97, 112, 115, 117, 108, 101, 45, 112, 114, 111, 116, 111, 99, 111, 108]⟩ : ByteArray), (⟨#[63, 49]⟩ : ByteArray)⟩ : S36), (⟨(⟨#[99, 111, 110, 116, 101, 110, 116, 45, 108, 101, 110, 103, 116, 104]⟩ : ByteArray), (⟨#[48]⟩ : ByteArray)⟩ : S36), (⟨(⟨#[100, 97, 116, 101]⟩ : ByteArray), (⟨#[]⟩ : ByteArray)⟩ : S36), (⟨(⟨#[117, 115, 101, 114, 45, 97, 103, 101, 110, 116]⟩ : ByteArray), (⟨#[]⟩ : ByteArray)⟩ : S36), (⟨(⟨#[97, 99, 99, 101, 112, 116]⟩ : ByteArray), (⟨#[42, 47, 42]⟩ : ByteArray)⟩ : S36)] : List (S36))) := ⟨_, rfl⟩
 replace H : (some y171) = some r := by first | (rw [hy171]; with_reducible exact H) | (have H2_ := (Option.bind_some _ _).symm.trans H; rw [hy171]; with_reducible exact H2_) | (have H2_ := (Option.bind_some _ _).symm.trans H; with_reducible exact H2_) | with_reducible exact H | (rw [hy171]; exact H) | exact H
 have Ny171 := Aside0.mk hy171
 clear hy171
 obtain rfl := Option.some.inj H
 go_enter Tryd.func47, Tryd.ntmps47
 go_wp2_with (first | ((with_reducible refine gate_dst (N := 17) rfl ?_); refine Kd.R_lit k36 _ 36 ?hg (N := 17) ?hd (xs := ([(⟨(⟨#[58, 97, 117, 116, 104, 111, 114, 105, 116, 121]⟩ : ByteArray), (⟨#[]⟩ : ByteArray)⟩ : S36), (⟨(⟨#[58, 112, 97, 116, 104]⟩ : ByteArray), (⟨#[47]⟩ : ByteArray)⟩ : S36), (⟨(⟨#[58, 109, 101, 116, 104, 111, 100]⟩ : ByteArray), (⟨#[67, 79, 78, 78, 69, 67, 84]⟩ : ByteArray)⟩ : S36), (⟨(⟨#[58, 109, 101, 116, 104, 111, 100]⟩ : ByteArray), (⟨#[71, 69, 84]⟩ : ByteArray)⟩ : S36), (⟨(⟨#[58, 109, 101, 116, 104, 111, 100]⟩ : ByteArray), (⟨#[80, 79, 83, 84]⟩ : ByteArray)⟩ : S36), (⟨(⟨#[58, 115, 99, 104, 101, 109, 101]⟩ : ByteArray), (⟨#[104, 116, 116, 112]⟩ : ByteArray)⟩ : S36), (⟨(⟨#[58, 115, 99, 104, 101, 109, 101]⟩ : ByteArray), (⟨#[104, 116, 116, 112, 115]⟩ : ByteArray)⟩ : S36), (⟨(⟨#[58, 115, 116, 97, 116, 117, 115]⟩ : ByteArray), (⟨#[50, 48, 48]⟩ : ByteArray)⟩ : S36), (⟨(⟨#[58, 115, 116, 97, 116, 117, 115]⟩ : ByteArray), (⟨#[52, 48, 52]⟩ : ByteArray)⟩ : S36), (⟨(⟨#[58, 115, 116, 97, 116, 117, 115]⟩ : ByteArray), (⟨#[53, 48, 51]⟩ : ByteArray)⟩ : S36), (⟨(⟨#[58, 112, 114, 111, 116, 111, 99, 111, 108]⟩ : ByteArray), (⟨#[99, 111, 110, 110, 101, 99, 116, 45, 117, 100, 112]⟩ : ByteArray)⟩ : S36), (⟨(⟨#[99, 97, 112, 115, 117, 108, 101, 45, 112, 114, 111, 116, 111, 99, 111, 108]⟩ : ByteArray), (⟨#[63, 49]⟩ : ByteArray)⟩ : S36), (⟨(⟨#[99, 111, 110, 116, 101, 110, 116, 45, 108, 101, 110, 103, 116, 104]⟩ : ByteArray), (⟨#[48]⟩ : ByteArray)⟩ : S36), (⟨(⟨#[100, 97, 116, 101]⟩ : ByteArray), (⟨#[]⟩ : ByteArray)⟩ : S36), (⟨(⟨#[117, 115, 101, 114, 45, 97, 103, 101, 110, 116]⟩ : ByteArray), (⟨#[]⟩ : ByteArray)⟩ : S36), (⟨(⟨#[97, 99, 99, 101, 112, 116]⟩ : ByteArray), (⟨#[42, 47, 42]⟩ : ByteArray)⟩ : S36)] : List (S36))) (inner := [.string (⟨#[58, 97, 117, 116, 104, 111, 114, 105, 116, 121]⟩ : ByteArray), .string (⟨#[]⟩ : ByteArray), .string (⟨#[58, 112, 97, 116, 104]⟩ : ByteArray), .string (⟨#[47]⟩ : ByteArray), .string (⟨#[58, 109, 101, 116, 104, 111, 100]⟩ : ByteArray), .string (⟨#[67, 79, 78, 78, 69, 67, 84]⟩ : ByteArray), .string (⟨#[58, 109, 101, 116, 104, 111, 100]⟩ : ByteArray), .string (⟨#[71, 69, 84]⟩ : ByteArray), .string (⟨#[58, 109, 101, 116, 104, 111, 100]⟩ : ByteArray), .string (⟨#[80, 79, 83, 84]⟩ : ByteArray), .string (⟨#[58, 115, 99, 104, 101, 109, 101]⟩ : ByteArray), .string (⟨#[104, 116, 116, 112]⟩ : ByteArray), .string (⟨#[58, 115, 99, 104, 101, 109, 101]⟩ : ByteArray), .string (⟨#[104, 116, 116, 112, 115]⟩ : ByteArray), .string (⟨#[58, 115, 116, 97, 116, 117, 115]⟩ : ByteArray), .string (⟨#[50, 48, 48]⟩ : ByteArray), .string (⟨#[58, 115, 116, 97, 116, 117, 115]⟩ : ByteArray), .string (⟨#[52, 48, 52]⟩ : ByteArray), .string (⟨#[58, 115, 116, 97, 116, 117, 115]⟩ : ByteArray), .string (⟨#[53, 48, 51]⟩ : ByteArray), .string (⟨#[58, 112, 114, 111, 116, 111, 99, 111, 108]⟩ : ByteArray), .string (⟨#[99, 111, 110, 110, 101, 99, 116, 45, 117, 100, 112]⟩ : ByteArray), .string (⟨#[99, 97, 112, 115, 117, 108, 101, 45, 112, 114, 111, 116, 111, 99, 111, 108]⟩ : ByteArray), .string (⟨#[63, 49]⟩ : ByteArray), .string (⟨#[99, 111, 110, 116, 101, 110, 116, 45, 108, 101, 110, 103, 116, 104]⟩ : ByteArray), .string (⟨#[48]⟩ : ByteArray), .string (⟨#[100, 97, 116, 101]⟩ : ByteArray), .string (⟨#[]⟩ : ByteArray), .string (⟨#[117, 115, 101, 114, 45, 97, 103, 101, 110, 116]⟩ : ByteArray), .string (⟨#[]⟩ : ByteArray), .string (⟨#[97, 99, 99, 101, 112, 116]⟩ : ByteArray), .string (⟨#[42, 47, 42]⟩ : ByteArray)]) (ok := fun _ => True) (okp := fun _ => True) ?hr ?hp (fun _ hk => hk) trivial (Below.refl _ _) (Nat.le_refl _) (by simp) ?_; (case hd => rfl); (case hg => rfl); (case hr => first | (go_simp; done) | (go_simp; rfl)); (case hp => exact (Reps.c2 (show Kd.M k36 _ _ _ (⟨(⟨#[58, 97, 117, 116, 104, 111, 114, 105, 116, 121]⟩ : ByteArray), (⟨#[]⟩ : ByteArray)⟩ : S36) [.string (⟨#[58, 97, 117, 116, 104, 111, 114, 105, 116, 121]⟩ : ByteArray), .string (⟨#[]⟩ : ByteArray)] from (k36_mkM _ _ _ (⟨(⟨#[58, 97, 117, 116, 104, 111, 114, 105, 116, 121]⟩ : ByteArray), (⟨#[]⟩ : ByteArray)⟩ : S36) )) (Reps.c2 (show Kd.M k36 _ _ _ (⟨(⟨#[58, 112, 97, 116, 104]⟩ : ByteArray), (⟨#[47]⟩ : ByteArray)⟩ : S36) [.string (⟨#[58, 112, 97, 116, 104]⟩ : ByteArray), .string (⟨#[47]⟩ : ByteArray)] from (k36_mkM _ _ _ (⟨(⟨#[58, 112, 97, 116, 104]⟩ : ByteArray), (⟨#[47]⟩ : ByteArray)⟩ : S36) )) (Reps.c2 (show Kd.M k36 _ _ _ (⟨(⟨#[58, 109, 101, 116, 104, 111, 100]⟩ : ByteArray), (⟨#[67, 79, 78, 78, 69, 67, 84]⟩ : ByteArray)⟩ : S36) [.string (⟨#[58, 109, 101, 116, 104, 111, 100]⟩ : ByteArray), .string (⟨#[67, 79, 78, 78, 69, 67, 84]⟩ : ByteArray)] from (k36_mkM _ _ _ (⟨(⟨#[58, 109, 101, 116, 104, 111, 100]⟩ : ByteArray), (⟨#[67, 79, 78, 78, 69, 67, 84]⟩ : ByteArray)⟩ : S36) )) (Reps.c2 (show Kd.M k36 _ _ _ (⟨(⟨#[58, 109, 101, 116, 104, 111, 100]⟩ : ByteArray), (⟨#[71, 69, 84]⟩ : ByteArray)⟩ : S36) [.string (⟨#[58, 109, 101, 116, 104, 111, 100]⟩ : ByteArray), .string (⟨#[71, 69, 84]⟩ : ByteArray)] from (k36_mkM _ _ _ (⟨(⟨#[58, 109, 101, 116, 104, 111, 100]⟩ : ByteArray), (⟨#[71, 69, 84]⟩ : ByteArray)⟩ : S36) )) (Reps.c2 (show Kd.M k36 _ _ _ (⟨(⟨#[58, 109, 101, 116, 104, 111, 100]⟩ : ByteArray), (⟨#[80, 79, 83, 84]⟩ : ByteArray)⟩ : S36) [.string (⟨#[58, 109, 101, 116, 104, 111, 100]⟩ : ByteArray), .string (⟨#[80, 79, 83, 84]⟩ : ByteArray)] from (k36_mkM _ _ _ (⟨(⟨#[58, 109, 101, 116, 104, 111, 100]⟩ : ByteArray), (⟨#[80, 79, 83, 84]⟩ : ByteArray)⟩ : S36) )) (Reps.c2 (show Kd.M k36 _ _ _ (⟨(⟨#[58, 115, 99, 104, 101, 109, 101]⟩ : ByteArray), (⟨#[104, 116, 116, 112]⟩ : ByteArray)⟩ : S36) [.string (⟨#[58, 115, 99, 104, 101, 109, 101]⟩ : ByteArray), .string (⟨#[104, 116, 116, 112]⟩ : ByteArray)] from (k36_mkM _ _ _ (⟨(⟨#[58, 115, 99, 104, 101, 109, 101]⟩ : ByteArray), (⟨#[104, 116, 116, 112]⟩ : ByteArray)⟩ : S36) )) (Reps.c2 (show Kd.M k36 _ _ _ (⟨(⟨#[58, 115, 99, 104, 101, 109, 101]⟩ : ByteArray), (⟨#[104, 116, 116, 112, 115]⟩ : ByteArray)⟩ : S36) [.string (⟨#[58, 115, 99, 104, 101, 109, 101]⟩ : ByteArray), .string (⟨#[104, 116, 116, 112, 115]⟩ : ByteArray)] from (k36_mkM _ _ _ (⟨(⟨#[58, 115, 99, 104, 101, 109, 101]⟩ : ByteArray), (⟨#[104, 116, 116, 112, 115]⟩ : ByteArray)⟩ : S36) )) (Reps.c2 (show Kd.M k36 _ _ _ (⟨(⟨#[58, 115, 116, 97, 116, 117, 115]⟩ : ByteArray), (⟨#[50, 48, 48]⟩ : ByteArray)⟩ : S36) [.string (⟨#[58, 115, 116, 97, 116, 117, 115]⟩ : ByteArray), .string (⟨#[50, 48, 48]⟩ : ByteArray)] from (k36_mkM _ _ _ (⟨(⟨#[58, 115, 116, 97, 116, 117, 115]⟩ : ByteArray), (⟨#[50, 48, 48]⟩ : ByteArray)⟩ : S36) )) (Reps.c2 (show Kd.M k36 _ _ _ (⟨(⟨#[58, 115, 116, 97, 116, 117, 115]⟩ : ByteArray), (⟨#[52, 48, 52]⟩ : ByteArray)⟩ : S36) [.string (⟨#[58, 115, 116, 97, 116, 117, 115]⟩ : ByteArray), .string (⟨#[52, 48, 52]⟩ : ByteArray)] from (k36_mkM _ _ _ (⟨(⟨#[58, 115, 116, 97, 116, 117, 115]⟩ : ByteArray), (⟨#[52, 48, 52]⟩ : ByteArray)⟩ : S36) )) (Reps.c2 (show Kd.M k36 _ _ _ (⟨(⟨#[58, 115, 116, 97, 116, 117, 115]⟩ : ByteArray), (⟨#[53, 48, 51]⟩ : ByteArray)⟩ : S36) [.string (⟨#[58, 115, 116, 97, 116, 117, 115]⟩ : ByteArray), .string (⟨#[53, 48, 51]⟩ : ByteArray)] from (k36_mkM _ _ _ (⟨(⟨#[58, 115, 116, 97, 116, 117, 115]⟩ : ByteArray), (⟨#[53, 48, 51]⟩ : ByteArray)⟩ : S36) )) (Reps.c2 (show Kd.M k36 _ _ _ (⟨(⟨#[58, 112, 114, 111, 116, 111, 99, 111, 108]⟩ : ByteArray), (⟨#[99, 111, 110, 110, 101, 99, 116, 45, 117, 100, 112]⟩ : ByteArray)⟩ : S36) [.string (⟨#[58, 112, 114, 111, 116, 111, 99, 111, 108]⟩ : ByteArray), .string (⟨#[99, 111, 110, 110, 101, 99, 116, 45, 117, 100, 112]⟩ : ByteArray)] from (k36_mkM _ _ _ (⟨(⟨#[58, 112, 114, 111, 116, 111, 99, 111, 108]⟩ : ByteArray), (⟨#[99, 111, 110, 110, 101, 99, 116, 45, 117, 100, 112]⟩ : ByteArray)⟩ : S36) )) (Reps.c2 (show Kd.M k36 _ _ _ (⟨(⟨#[99, 97, 112, 115, 117, 108, 101, 45, 112, 114, 111, 116, 111, 99, 111, 108]⟩ : ByteArray), (⟨#[63, 49]⟩ : ByteArray)⟩ : S36) [.string (⟨#[99, 97, 112, 115, 117, 108, 101, 45, 112, 114, 111, 116, 111, 99, 111, 108]⟩ : ByteArray), .string (⟨#[63, 49]⟩ : ByteArray)] from (k36_mkM _ _ _ (⟨(⟨#[99, 97, 112, 115, 117, 108, 101, 45, 112, 114, 111, 116, 111, 99, 111, 108]⟩ : ByteArray), (⟨#[63, 49]⟩ : ByteArray)⟩ : S36) )) (Reps.c2 (show Kd.M k36 _ _ _ (⟨(⟨#[99, 111, 110, 116, 101, 110, 116, 45, 108, 101, 110, 103, 116, 104]⟩ : ByteArray), (⟨#[48]⟩ : ByteArray)⟩ : S36) [.string (⟨#[99, 111, 110, 116, 101, 110, 116, 45, 108, 101, 110, 103, 116, 104]⟩ : ByteArray), .string (⟨#[48]⟩ : ByteArray)] from (k36_mkM _ _ _ (⟨(⟨#[99, 111, 110, 116, 101, 110, 116, 45, 108, 101, 110, 103, 116, 104]⟩ : ByteArray), (⟨#[48]⟩ : ByteArray)⟩ : S36) )) (Reps.c2 (show Kd.M k36 _ _ _ (⟨(⟨#[100, 97, 116, 101]⟩ : ByteArray), (⟨#[]⟩ : ByteArray)⟩ : S36) [.string (⟨#[100, 97, 116, 101]⟩ : ByteArray), .string (⟨#[]⟩ : ByteArray)] from (k36_mkM _ _ _ (⟨(⟨#[100, 97, 116, 101]⟩ : ByteArray), (⟨#[]⟩ : ByteArray)⟩ : S36) )) (Reps.c2 (show Kd.M k36 _ _ _ (⟨(⟨#[117, 115, 101, 114, 45, 97, 103, 101, 110, 116]⟩ : ByteArray), (⟨#[]⟩ : ByteArray)⟩ : S36) [.string (⟨#[117, 115, 101, 114, 45, 97, 103, 101, 110, 116]⟩ : ByteArray), .string (⟨#[]⟩ : ByteArray)] from (k36_mkM _ _ _ (⟨(⟨#[117, 115, 101, 114, 45, 97, 103, 101, 110, 116]⟩ : ByteArray), (⟨#[]⟩ : ByteArray)⟩ : S36) )) (Reps.c2 (show Kd.M k36 _ _ _ (⟨(⟨#[97, 99, 99, 101, 112, 116]⟩ : ByteArray), (⟨#[42, 47, 42]⟩ : ByteArray)⟩ : S36) [.string (⟨#[97, 99, 99, 101, 112, 116]⟩ : ByteArray), .string (⟨#[42, 47, 42]⟩ : ByteArray)] from (k36_mkM _ _ _ (⟨(⟨#[97, 99, 99, 101, 112, 116]⟩ : ByteArray), (⟨#[42, 47, 42]⟩ : ByteArray)⟩ : S36) )) (Reps.none _ _)))))))))))))))))); intro v172 w1 ho2 hb hg_ hnew_; clear hg_ hnew_; (first | rw [← Ny171.out] at ho2 | (simp only [Int.reduceToNat] at ho2; rw [← Ny171.out] at ho2)); have n0_ := Aside0.mk (Kd.R_lower ho2 (below_size (by repeat (first | (with_reducible first | exact HB.out | apply below_alloc | apply pw_below_drewN | apply below_drew1) | exact HB.out)))); have n1_ := bS HB hb; clear HB; have HO173 := n0_; have HB := n1_; clear n0_ n1_; clear hb ho2))
 go_ret
 exact ⟨_, by first | rfl | (simp [errW_none, errW_some] <;> rfl) | (simp [*, errW_none, errW_some] <;> rfl), by (with_reducible repeat (first | apply Kd.R_alloc | apply Kd.R_drewN | apply Kd.R_drew)); exact HO173.out, by repeat (first | (with_reducible first | exact HB.out | apply below_alloc | apply pw_below_drewN | apply below_drew1) | exact HB.out)⟩

/-! ### impl_StaticAt: function 37 -/
def impl_StaticAt.f (k : Nat) (a0_0 : ByteArray) (a0_1 : ByteArray) : Option (Int × Int) := (impl_static.f).bind fun l => ((impl_Field_46.f k l a0_0 a0_1).bind fun i => (some (i, Go.Proofs.YtjmakjddhbdocaaDoor.IdxK.idxF (fun g => g.f0.toList == a0_0.toList) l)))
theorem impl_StaticAt.mono : ∀ a0 a1 k, LeO (impl_StaticAt.f k a0 a1) (impl_StaticAt.f (k + 1) a0 a1) := by
  intro a0 a1 k
  unfold impl_StaticAt.f
  exact LeO.bind (LeO.refl _) (fun _ => LeO.bind (impl_Field_46.mono _ _ _ _) (fun _ => LeO.refl _))
set_option maxHeartbeats 4000000 in
theorem staticAt1_calls (n0 n1 : ByteArray) (B : Nat) (w : World) (hB : B < w.heap.size) (hcell : w.cell? ⟨B, 0, none⟩ = some (.string n0)) (W : World) (x : S36) (hb : Below w.heap.size w W) :
    Calls Tryd.prog 48 #[.agg #[.string x.f0, .string x.f1], .pointer (some ⟨B, 0, none⟩)] W fun e w' => e = .returned (.bool (x.f0.toList == n0.toList)) ∧ Below w.heap.size w w' := by
  have hc : W.cell? ⟨B, 0, none⟩ = some (.string n0) := (hb.cell (p := ⟨B, 0, none⟩) hB).trans hcell
  have hBW : B < W.heap.size := Nat.lt_of_lt_of_le hB hb.size
  have hne : B ≠ W.heap.size := by omega
  have HD := Aside0.mk (hb.alloc hb.size (.cells #[.string x.f0, .string x.f1] 36))
  clear hb hcell
  go_enter Tryd.func48, Tryd.ntmps48
  go_wp2
  go_ret
  exact ⟨rfl, HD.out⟩
set_option maxHeartbeats 16000000 in
set_option maxRecDepth 100000 in
theorem impl_StaticAt.calls (k : Nat) (a0_0 : ByteArray) (a0_1 : ByteArray) (r1 : Int) (r2 : Int) (w : World) (h : impl_StaticAt.f k a0_0 a0_1 = some (r1, r2)) :
    Calls Tryd.prog 37 #[.agg #[.string a0_0, .string a0_1]] w fun e w' => e = .returned (.tuple #[.int .i64 r1, .int .i64 r2]) ∧ Below w.heap.size w w' := by
  obtain ⟨l, A1, H⟩ := Option.bind_eq_some_iff.mp h
  obtain ⟨i, A2, H⟩ := Option.bind_eq_some_iff.mp H
  clear h
  simp only [Option.some.injEq, Prod.mk.injEq] at H
  obtain ⟨rfl, rfl⟩ := H
  have HA1 := Aside0.mk A1
  have HA2 := Aside0.mk A2
  clear A1 A2
  have hB0 : Below w.heap.size w (w.alloc (.cells #[.string a0_0, .string a0_1] 36)) := (Below.refl _ w).alloc (Nat.le_refl _) _
  have HB := Aside0.mk hB0
  have HC0 : Aside0 ((w.alloc (.cells #[.string a0_0, .string a0_1] 36)).heap[w.heap.size]? = some (.cells #[.string a0_0, .string a0_1] 36 (0, 0))) := ⟨blk_new w _⟩
  clear hB0
  go_enter Tryd.func37, Tryd.ntmps37
  go_wp2_with fail
  clear H
  generalize hgb : w.heap.size = gb at HC0 ⊢
  have HG : Aside0 (gb < (w.alloc (.cells #[.string a0_0, .string a0_1] 36)).heap.size) := ⟨by rw [← hgb]; simp⟩
  have HGE : Aside0 (w.heap.size ≤ gb) := ⟨by omega⟩
  generalize w.alloc (.cells #[.string a0_0, .string a0_1] 36) = w1 at HB HC0 HG ⊢
  rw [← hgb]
  refine start_ (n := 8) (S := fun w' => w'.cell? ⟨gb, 0, none⟩ = some (.string a0_0) ∧ w'.cell? ⟨gb, 1, none⟩ = some (.string a0_1)) (ds := []) (Go.Proofs.YtjmakjddhbdocaaDoor.StoreK.bm 8 0) (by kernel_rfl) rfl rfl ⟨(blk_cell (blk_drew HC0.out) 0).trans rfl, (blk_cell (blk_drew HC0.out) 1).trans rfl⟩ (fun hHeld => ?_)
  have HC := Aside0.mk (blk_drew HC0.out)
  have HB2 : Aside0 (Below w.heap.size w w1.drew) := ⟨by first | exact below_drew1 HB.out | (apply below_drew1; exact HB.out)⟩
  have HG2 : Aside0 (gb < w1.drew.heap.size) := ⟨HG.out⟩
  clear HB HC0 HG
  generalize w1.drew = w2 at HC HB2 HG2 hHeld ⊢
  refine pure_ (i := 4) (N := some 8) (v := ?_) (a' := ?_) (Go.Proofs.YtjmakjddhbdocaaDoor.StoreK.bm 8 16) rfl rfl (by kernel_rfl) (fun _ _ _ h => h) (Or.inl ⟨by rfl, ?_⟩) ?_ ?_
  rotate_left
  · intro w'
    go_simp
    with_reducible rfl
  rotate_left
  · simp only [Act.put, List.setIfInBounds_toArray, List.set_cons_zero, List.set_cons_succ, i64_w, i32_w]
    rfl
  refine take_ (i := 1) (N := some 5) (v := ?_) (a' := ?_) (Go.Proofs.YtjmakjddhbdocaaDoor.StoreK.bm 8 18) rfl rfl (by kernel_rfl) (fun _ _ _ h => h) (Or.inl ⟨by rfl, ?_⟩) hHeld ?_ ?_
  rotate_left
  · rintro w' ⟨s0, s1⟩
    go_simp
    with_reducible rfl
  rotate_left
  · simp only [Act.put, List.setIfInBounds_toArray, List.set_cons_zero, List.set_cons_succ, i64_w, i32_w]
    rfl
  refine one_ (i := 0) (N := some 4) (Go.Proofs.YtjmakjddhbdocaaDoor.StoreK.bm 8 19) rfl rfl (by kernel_rfl) (by decide) (fun K hK => ?_)
  refine goes_ Tryd.func47 (by kernel_rfl) rfl #[] (by rfl) rfl rfl (by (try simp only [List.map_toArray, List.map_cons, List.map_nil]); first | done | rfl) ?_
  refine (impl_static.calls l _ HA1.out).mono ?_
  rintro e w3 ⟨v0, rfl, ho, hb⟩
  refine ⟨_, rfl, ?_⟩
  obtain ⟨A3, c3, rfl, hl3, hC3⟩ := Kd.R_reads ho
  have HR3 := Aside0.mk hC3
  have HL3 := Aside0.mk hl3
  have HC3 := Aside0.mk (blk_below HC.out hb)
  have HB3 := Aside0.mk (HB2.out.trans (hb.mono HB2.out.size))
  have HG3 : Aside0 (gb < w3.heap.size) := ⟨Nat.lt_of_lt_of_le HG2.out hb.size⟩
  clear ho hl3 hC3 hb
  refine hK.out _ _ ⟨(blk_cell HC3.out 0).trans rfl, (blk_cell HC3.out 1).trans rfl⟩ (fun hHeld => ?_)
  clear hK K
  refine norm_ (a' := ?_) ?_ ?_
  rotate_left
  · show Act.put _ (some 4) _ = _
    simp only [Act.put, List.setIfInBounds_toArray, List.set_cons_zero, List.set_cons_succ, i64_w, i32_w]
    rfl
  refine one_ (i := 2) (N := some 6) (Go.Proofs.YtjmakjddhbdocaaDoor.StoreK.bm 8 23) rfl rfl (by kernel_rfl) (by decide) (fun K hK => ?_)
  refine goes_ Tryd.func46 (by kernel_rfl) rfl #[.slice A3 l.length c3, .agg #[.string a0_0, .string a0_1]] (by rfl) rfl rfl (by (try simp only [List.map_toArray, List.map_cons, List.map_nil]); first | done | rfl) ?_
  refine (impl_Field_46.calls k A3 c3 l a0_0 a0_1 i _ HR3.out HL3.out HA2.out).mono ?_
  rintro e w4 ⟨rfl, hb⟩
  refine ⟨_, rfl, ?_⟩
  have HC4 := Aside0.mk (blk_below HC3.out hb)
  have HB4 := Aside0.mk (HB3.out.trans (hb.mono HB3.out.size))
  have HG4 : Aside0 (gb < w4.heap.size) := ⟨Nat.lt_of_lt_of_le HG3.out hb.size⟩
  clear hb
  refine hK.out _ _ ⟨(blk_cell HC4.out 0).trans rfl, (blk_cell HC4.out 1).trans rfl⟩ (fun hHeld => ?_)
  clear hK K
  refine norm_ (a' := ?_) ?_ ?_
  rotate_left
  · show Act.put _ (some 6) _ = _
    simp only [Act.put, List.setIfInBounds_toArray, List.set_cons_zero, List.set_cons_succ, i64_w, i32_w]
    rfl
  refine one_ (i := 3) (N := some 7) (Go.Proofs.YtjmakjddhbdocaaDoor.StoreK.bm 8 31) rfl rfl (by kernel_rfl) (by decide) (fun K hK => ?_)
  refine goes_ Tryd.func47 (by kernel_rfl) rfl #[] (by rfl) rfl rfl (by (try simp only [List.map_toArray, List.map_cons, List.map_nil]); first | done | rfl) ?_
  refine (impl_static.calls l _ HA1.out).mono ?_
  rintro e w5 ⟨v5, rfl, ho, hb⟩
  refine ⟨_, rfl, ?_⟩
  obtain ⟨A5, c5, rfl, hl5, hC5⟩ := Kd.R_reads ho
  have HR5 := Aside0.mk hC5
  have HC5 := Aside0.mk (blk_below HC4.out hb)
  have HB5 := Aside0.mk (HB4.out.trans (hb.mono HB4.out.size))
  have HG5 : Aside0 (gb < w5.heap.size) := ⟨Nat.lt_of_lt_of_le HG4.out hb.size⟩
  clear ho hl5 hC5 hb
  refine hK.out _ _ ⟨(blk_cell HC5.out 0).trans rfl, (blk_cell HC5.out 1).trans rfl⟩ (fun hHeld => ?_)
  clear hK K
  refine norm_ (a' := ?_) ?_ ?_
  rotate_left
  · show Act.put _ (some 7) _ = _
    simp only [Act.put, List.setIfInBounds_toArray, List.set_cons_zero, List.set_cons_succ, i64_w, i32_w]
    rfl
  have eg : ∀ args w, (callFunc 48 args).run Tryd.prog w = .ok (.enter 48 args) w := enters_ Tryd.func48 (by kernel_rfl) rfl
  refine one_ (i := 5) (N := some 9) (Go.Proofs.YtjmakjddhbdocaaDoor.StoreK.bm 8 63) rfl rfl (by kernel_rfl) (by decide) (fun K hK => ?_)
  refine goes_ Tryd.func23 (by kernel_rfl) rfl #[.slice A5 l.length c5, .func (.func 48) #[] #[.pointer (some ⟨gb, 0, none⟩)]] (by rfl) rfl rfl (by (try simp only [List.map_toArray, List.map_cons, List.map_nil]); first | done | rfl) ?_
  refine (idxF_Field A5 c5 l 48 #[.pointer (some ⟨gb, 0, none⟩)] (fun g => g.f0.toList == a0_0.toList) _ eg (fun W x _ hb => staticAt1_calls a0_0 a0_1 gb _ HG5.out ((blk_cell HC5.out 0).trans rfl) W x hb) HR5.out).mono ?_
  rintro e w6 ⟨rfl, hb⟩
  refine ⟨_, rfl, ?_⟩
  have HC6 := Aside0.mk (blk_below HC5.out hb)
  have HB6 := Aside0.mk (HB5.out.trans (hb.mono HB5.out.size))
  clear hb
  refine hK.out _ _ ⟨(blk_cell HC6.out 0).trans rfl, (blk_cell HC6.out 1).trans rfl⟩ (fun hHeld => ?_)
  clear hK K
  refine norm_ (a' := ?_) ?_ ?_
  rotate_left
  · show Act.put _ (some 9) _ = _
    simp only [Act.put, List.setIfInBounds_toArray, List.set_cons_zero, List.set_cons_succ, i64_w, i32_w]
    rfl
  refine pure_ (i := 6) (N := some 2) (v := ?_) (a' := ?_) (Go.Proofs.YtjmakjddhbdocaaDoor.StoreK.bm 8 127) rfl rfl (by kernel_rfl) (fun _ _ _ h => h) (Or.inl ⟨by rfl, ?_⟩) ?_ ?_
  rotate_left
  · intro w'
    go_simp
    with_reducible rfl
  rotate_left
  · simp only [Act.put, List.setIfInBounds_toArray, List.set_cons_zero, List.set_cons_succ, i64_w, i32_w]
    rfl
  refine pure_ (i := 7) (N := some 3) (v := ?_) (a' := ?_) (Go.Proofs.YtjmakjddhbdocaaDoor.StoreK.bm 8 255) rfl rfl (by kernel_rfl) (fun _ _ _ h => h) (Or.inl ⟨by rfl, ?_⟩) ?_ ?_
  rotate_left
  · intro w'
    go_simp
    with_reducible rfl
  rotate_left
  · simp only [Act.put, List.setIfInBounds_toArray, List.set_cons_zero, List.set_cons_succ, i64_w, i32_w]
    rfl
  refine done_ (by kernel_rfl) ?_
  go_wp2
  go_ret2
  exact ⟨rfl, HB6.out⟩

end Go.Proofs.YtjmakjddhbdocaaDoor.PFnExactFieldsBytes
