-- Written by a program of this session (wip/xprint.py).
import Derived.Test.YthkmjfapljmmpaaPFnExactHeaderBytesx0
import Derived.Test.YthkmjfapljmmpaaPFnExactHeaderBytesx6
namespace Go.Proofs.Ythkmjfapljmmpaa.PFnExactHeaderBytes
open Go.RowKit Go.Proofs.YthkmjfapljmmpaaW.PrintWords Go.Proofs.YthkmjfapljmmpaaW.PrintLast Go.Proofs.YthkmjfapljmmpaaW.PrintMore
attribute [local go_sem] Go.Proofs.Ythkmjfapljmmpaa.StoreK.isSome_setCell max2_int min2_int max_two min_two max_three min_three max_four min_four   -- for this text's walks alone
set_option linter.unusedVariables false
set_option linter.unusedSimpArgs false

/-! ### impl_varint: function 94 -/
/-- The two bits that a size has ahead. -/
def vfirst (t : Int) : Int := if t = 2 then 1 else if t = 4 then 2 else if t = 8 then 3 else 0
def impl_varint.f (k : Nat) (a0 : Int) : Option (ByteArray) := (impl_varintSize.f a0).bind fun t => (impl_bigEndian.f k (Go.bits .or .u64 (IntKind.u64.wrap (a0)) (shl .u64 (vfirst t) (8 * t - 2))) t)
theorem impl_varint.mono : ∀ a0 k, LeO (impl_varint.f k a0) (impl_varint.f (k + 1) a0) := by
  intro a0 k
  unfold impl_varint.f
  exact LeO.bind (LeO.refl _) (fun _ => impl_bigEndian.mono _ _ _)
theorem varintSize_in (a0 t : Int) (h : impl_varintSize.f a0 = some t) : t = 1 ∨ t = 2 ∨ t = 4 ∨ t = 8 := by
  unfold impl_varintSize.f at h
  split at h
  · exact Or.inl (Option.some.inj h).symm
  · split at h
    · exact Or.inr (Or.inl (Option.some.inj h).symm)
    · split at h
      · exact Or.inr (Or.inr (Or.inl (Option.some.inj h).symm))
      · exact Or.inr (Or.inr (Or.inr (Option.some.inj h).symm))
theorem varint_key (t : Int) (h : t = 1 ∨ t = 2 ∨ t = 4 ∨ t = 8) : keyOf Try.prog 3 (.int .i64 t) = some (.int .i64 t) :=
  Go.Maps.keyOf_int_mk Try.underlying3 (by rcases h with rfl | rfl | rfl | rfl <;> decide)
theorem varint_look (t c : Int) (h : t = 1 ∨ t = 2 ∨ t = 4 ∨ t = 8) (hat : (((((DataW.map [] : DataW Unit).put (.int .i64 1) (.lit (.int .u64 0))).put (.int .i64 2) (.lit (.int .u64 1))).put (.int .i64 4) (.lit (.int .u64 2))).put (.int .i64 8) (.lit (.int .u64 3))).atKey (.int .i64 t) (.lit (.int .u64 0)) = .lit (.int .u64 c)) : c = vfirst t := by
  rcases h with rfl | rfl | rfl | rfl
  all_goals
    have e : ∀ x y : Int, (DataW.lit (.int .u64 x) : DataW Unit) = .lit (.int .u64 y) → y = x := fun x y h => by
      injection h with h
      injection h with _ h
      exact h.symm
    exact (e _ _ hat)
set_option maxHeartbeats 4000000 in
set_option maxRecDepth 100000 in
theorem impl_varint.calls (k : Nat) (a0 : Int) (r : ByteArray) (w : World) (h : impl_varint.f k a0 = some r) :
    Calls Try.prog 94 #[.int .i64 a0] w fun e w' => e = .returned (.string r) ∧ Below w.heap.size w w' := by
  have H := Option.bind_eq_some_iff.mp h
  clear h
  obtain ⟨t, A1, A2⟩ := H
  have ht := varintSize_in a0 t A1
  have hkey := varint_key t ht
  have HT := Aside0.mk ht
  have HA1 := Aside0.mk A1
  have HA2 := Aside0.mk A2
  clear ht A1 A2
  have hmm := @run_makeMap Try.prog
  have law : Go.Maps.Keyed Try.prog 3 := Go.Maps.int_keyed Try.underlying3
  have zeroE : ∀ w : World, (zeroValue 208).run Try.prog w = .ok (.int .u64 0) w := fun w => by kernel_rfl
  go_enter Try.func94, Try.ntmps94
  go_wp2_with fail
  refine (impl_varintSize.calls a0 t _ HA1.out).mono ?_
  rintro e w' ⟨rfl, ⟨nd, rfl⟩⟩
  have hM : Try.prog.underlying 209 = some (.map 3 208) := Try.underlying209
  have WU : ∀ n : Int, 0 ≤ n → n < 4 → (Lit.int .u64 n).wf = true := fun n h0 h1 => by
    simp [Lit.wf, IntKind.min, IntKind.max, IntKind.signed, IntKind.bits]
    omega
  go_wp2_with (first
    | (refine Go.Proofs.Ythkmjfapljmmpaa.MapK.wpList_insert_own (H := Unit) _ rfl (.tmp 7) (.const (.int .i64 1)) (.const (.int .u64 0)) 209 rfl 3 208 law hM (Go.plainElem Try.prog 208) w.heap.size 0 (DataW.map []) rfl (World.ownsMap_made _ _ _ _) (by unfold maxLen; omega) (.int .i64 1) (.int .u64 0) (.int .i64 1) rfl rfl (varint_key 1 (by simp)) _ [] (Go.plainElem_int Try.underlying208 (WU 0 (by omega) (by omega))) ?_; intro w1 o1 g1)
    | (refine Go.Proofs.Ythkmjfapljmmpaa.MapK.wpList_insert_own (H := Unit) _ rfl (.tmp 7) (.const (.int .i64 2)) (.const (.int .u64 1)) 209 rfl 3 208 law hM (Go.plainElem Try.prog 208) w.heap.size 1 _ rfl o1 (by unfold maxLen; omega) (.int .i64 2) (.int .u64 1) (.int .i64 2) rfl rfl (varint_key 2 (by simp)) _ [] (Go.plainElem_int Try.underlying208 (WU 1 (by omega) (by omega))) ?_; intro w2 o2 g2)
    | (refine Go.Proofs.Ythkmjfapljmmpaa.MapK.wpList_insert_own (H := Unit) _ rfl (.tmp 7) (.const (.int .i64 4)) (.const (.int .u64 2)) 209 rfl 3 208 law hM (Go.plainElem Try.prog 208) w.heap.size 2 _ rfl o2 (by unfold maxLen; omega) (.int .i64 4) (.int .u64 2) (.int .i64 4) rfl rfl (varint_key 4 (by simp)) _ [] (Go.plainElem_int Try.underlying208 (WU 2 (by omega) (by omega))) ?_; intro w3 o3 g3)
    | (refine Go.Proofs.Ythkmjfapljmmpaa.MapK.wpList_insert_own (H := Unit) _ rfl (.tmp 7) (.const (.int .i64 8)) (.const (.int .u64 3)) 209 rfl 3 208 law hM (Go.plainElem Try.prog 208) w.heap.size 3 _ rfl o3 (by unfold maxLen; omega) (.int .i64 8) (.int .u64 3) (.int .i64 8) rfl rfl (varint_key 8 (by simp)) _ [] (Go.plainElem_int Try.underlying208 (WU 3 (by omega) (by omega))) ?_; intro w4 o4 g4)
    | (refine Go.wpList_lookup_own_int _ rfl (.tmp 8) (.tmp 9) 209 rfl 3 208 .u64 law hM Try.underlying208 (zeroE _) w.heap.size 4 _ rfl o4 (.int .i64 t) (.int .i64 t) rfl hkey ?_; intro c hat hwc)
    | fail)
  have hc := varint_look t c HT.out hat
  subst hc
  clear hat hwc o1 o2 o3 o4 hkey hmm zeroE WU hM law
  have HB : Aside0 (Below w.heap.size w w4) := Aside0.mk (by
    have b0 : Below w.heap.size w ((w.drewN nd).alloc (.map #[] 0)) := below_alloc (pw_below_drewN (Below.refl _ _) nd) _
    have b1 := b0.grown g1 b0.size (fun j hj => by cases hj; exact Nat.le_refl _)
    have b2 := b1.grown g2 b1.size (fun j hj => by cases hj; exact Nat.le_refl _)
    have b3 := b2.grown g3 b2.size (fun j hj => by cases hj; exact Nat.le_refl _)
    exact b3.grown g4 b3.size (fun j hj => by cases hj; exact Nat.le_refl _))
  clear g1 g2 g3 g4
  obtain ⟨HT⟩ := HT
  obtain ⟨HA2⟩ := HA2
  have hw : ∀ n : Int, -9223372036854775808 ≤ n → n ≤ 9223372036854775807 → wrap64 n = n := fun n h0 h1 => by first | exact wrap64_id h0 h1 | exact wrap64_id ⟨h0, h1⟩ | (unfold wrap64; omega)
  rcases HT with rfl | rfl | rfl | rfl
  · have ev : vfirst 1 = 0 := rfl
    have e3 : wrap64 (wrap64 (8 * 1) - 2) = 6 := by rw [hw (8 * 1) (by omega) (by omega), hw (8 * 1 - 2) (by omega) (by omega)]; rfl
    have el : shl .u64 0 (8 * 1 - 2) = 0 := rfl
    have e5 : Op.shift .shl .u64 0 .i64 (wrap64 (wrap64 (8 * 1) - 2)) = pure (.int .u64 0) := by rw [e3]; rfl
    rw [ev, el] at HA2
    rw [ev]
    clear ev el e3 hw
    have HA3 := Aside0.mk HA2
    clear HA2
    go_wp2_with fail
    rw [e5]
    clear e5
    rw [show ∀ v : Value, (Sem.run Try.prog (pure v) w4).andThen (fun a w' => Result.ok (Next.value a) w') = Result.ok (Next.value v) w4 from fun _ => rfl, Oper.upon_value]
    go_wp2_with fail
    refine (impl_bigEndian.calls k _ _ r _ HA3.out).mono ?_
    rintro e w' ⟨rfl, hb⟩
    go_wp2
    go_ret
    exact ⟨rfl, HB.out.trans (hb.mono HB.out.size)⟩
  · have ev : vfirst 2 = 1 := rfl
    have e3 : wrap64 (wrap64 (8 * 2) - 2) = 14 := by rw [hw (8 * 2) (by omega) (by omega), hw (8 * 2 - 2) (by omega) (by omega)]; rfl
    have el : shl .u64 1 (8 * 2 - 2) = 16384 := rfl
    have e5 : Op.shift .shl .u64 1 .i64 (wrap64 (wrap64 (8 * 2) - 2)) = pure (.int .u64 16384) := by rw [e3]; rfl
    rw [ev, el] at HA2
    rw [ev]
    clear ev el e3 hw
    have HA3 := Aside0.mk HA2
    clear HA2
    go_wp2_with fail
    rw [e5]
    clear e5
    rw [show ∀ v : Value, (Sem.run Try.prog (pure v) w4).andThen (fun a w' => Result.ok (Next.value a) w') = Result.ok (Next.value v) w4 from fun _ => rfl, Oper.upon_value]
    go_wp2_with fail
    refine (impl_bigEndian.calls k _ _ r _ HA3.out).mono ?_
    rintro e w' ⟨rfl, hb⟩
    go_wp2
    go_ret
    exact ⟨rfl, HB.out.trans (hb.mono HB.out.size)⟩
  · have ev : vfirst 4 = 2 := rfl
    have e3 : wrap64 (wrap64 (8 * 4) - 2) = 30 := by rw [hw (8 * 4) (by omega) (by omega), hw (8 * 4 - 2) (by omega) (by omega)]; rfl
    have el : shl .u64 2 (8 * 4 - 2) = 2147483648 := rfl
    have e5 : Op.shift .shl .u64 2 .i64 (wrap64 (wrap64 (8 * 4) - 2)) = pure (.int .u64 2147483648) := by rw [e3]; rfl
    rw [ev, el] at HA2
    rw [ev]
    clear ev el e3 hw
    have HA3 := Aside0.mk HA2
    clear HA2
    go_wp2_with fail
    rw [e5]
    clear e5
    rw [show ∀ v : Value, (Sem.run Try.prog (pure v) w4).andThen (fun a w' => Result.ok (Next.value a) w') = Result.ok (Next.value v) w4 from fun _ => rfl, Oper.upon_value]
    go_wp2_with fail
    refine (impl_bigEndian.calls k _ _ r _ HA3.out).mono ?_
    rintro e w' ⟨rfl, hb⟩
    go_wp2
    go_ret
    exact ⟨rfl, HB.out.trans (hb.mono HB.out.size)⟩
  · have ev : vfirst 8 = 3 := rfl
    have e3 : wrap64 (wrap64 (8 * 8) - 2) = 62 := by rw [hw (8 * 8) (by omega) (by omega), hw (8 * 8 - 2) (by omega) (by omega)]; rfl
    have el : shl .u64 3 (8 * 8 - 2) = 13835058055282163712 := rfl
    have e5 : Op.shift .shl .u64 3 .i64 (wrap64 (wrap64 (8 * 8) - 2)) = pure (.int .u64 13835058055282163712) := by rw [e3]; rfl
    rw [ev, el] at HA2
    rw [ev]
    clear ev el e3 hw
    have HA3 := Aside0.mk HA2
    clear HA2
    go_wp2_with fail
    rw [e5]
    clear e5
    rw [show ∀ v : Value, (Sem.run Try.prog (pure v) w4).andThen (fun a w' => Result.ok (Next.value a) w') = Result.ok (Next.value v) w4 from fun _ => rfl, Oper.upon_value]
    go_wp2_with fail
    refine (impl_bigEndian.calls k _ _ r _ HA3.out).mono ?_
    rintro e w' ⟨rfl, hb⟩
    go_wp2
    go_ret
    exact ⟨rfl, HB.out.trans (hb.mono HB.out.size)⟩

/-! ### impl_counted: function 95 -/
def impl_counted.f (k : Nat) (a0 : ByteArray) : Option (ByteArray) := (impl_varint.f k (a0.size : Int)).bind fun t160 => (if t160.size + a0.size ≤ 9223372036854775807 then (some (t160 ++ a0)) else (none))
theorem impl_counted.mono : ∀ a0 k, LeO (impl_counted.f k a0) (impl_counted.f (k + 1) a0) := by
 intro a0 k
 unfold impl_counted.f
 repeat' first
   | (with_reducible exact impl_varint.mono _ _)
   | (with_reducible exact LeO.refl _)
   | (with_reducible exact LeO.none _)
   | (with_reducible refine LeO.ite ?_ ?_)
   | (with_reducible refine LeO.bind ?_ (fun _ => ?_))
   | exact impl_varint.mono _ _
   | exact LeO.none _
   | refine LeO.ite ?_ ?_
   | refine LeO.bind ?_ (fun _ => ?_)
set_option maxHeartbeats 64000000 in
set_option maxRecDepth 100000 in
theorem impl_counted.calls (k : Nat) (a0 : ByteArray) (r : ByteArray) (w : World) (h : impl_counted.f k a0 = some r) :
  Calls Try.prog 95 #[.string a0] w fun e w' => e = .returned (.string r) ∧ Below w.heap.size w w' := by
 have HB := Aside0.mk (Below.refl w.heap.size w)
 have H : ((impl_varint.f k (a0.size : Int)).bind fun t160 => (if t160.size + a0.size ≤ 9223372036854775807 then (some (t160 ++ a0)) else (none))) = some r := h
 clear h
 replace H := Option.bind_eq_some_iff.mp H
 obtain ⟨t160, A20, H⟩ := H
 replace H : (if t160.size + a0.size ≤ 9223372036854775807 then (some (t160 ++ a0)) else (none)) = some r := H
 have A2 := Aside0.mk A20
 clear A20
 by_cases c3 : t160.size + a0.size ≤ 9223372036854775807
 ·rw [if_pos c3] at H
  have c3b0 := eq_true c3
  have c3b1 : decide (t160.size + a0.size ≤ 9223372036854775807) = true := decide_eq_true c3
  try have c3b2 : (9223372036854775807 < t160.size + a0.size) = False := eq_false (Nat.not_lt.2 c3)
  obtain rfl := Option.some.inj H
  go_enter Try.func95, Try.ntmps95
  go_wp2_with (first | ((with_reducible refine gate_callee (f := 94) rfl ?_); refine goesL_ (some 5) rfl rfl Try.func94 (by kernel_rfl) rfl #[.int .i64 (a0.size : Int)] rfl (by (try simp only [List.map_toArray, List.map_cons, List.map_nil]); first | done | rfl | (simp only [List.length_drop, List.length_take]; rfl)) ?_; (with_reducible refine (impl_varint.calls k (a0.size : Int) t160 _ A2.out).mono ?_); rintro e w4 ⟨rfl, hb⟩; refine ⟨_, rfl, ?_⟩; have n0_ := Aside0.mk (below_step (by repeat (first | (with_reducible first | exact HB.out | apply below_alloc | apply pw_below_drewN | apply below_drew1) | exact HB.out)) hb); clear HB; have HB := n0_; clear n0_; (try clear hb); (try clear hb2); (try clear hk); (try clear hi)))
  go_ret
  exact ⟨by first | rfl | (simp [errW_none, errW_some] <;> rfl) | (simp [*, errW_none, errW_some] <;> rfl), by repeat (first | (with_reducible first | exact HB.out | apply below_alloc | apply pw_below_drewN | apply below_drew1) | exact HB.out)⟩
 ·rw [if_neg c3] at H
  exact absurd H (by simp)

/-! ### impl_byteCounted: function 211 -/
def impl_byteCounted.f (k : Nat) (a0 : ByteArray) : Option (ByteArray) := (impl_bigEndian.f k (IntKind.u64.wrap ((a0.size : Int))) 1).bind fun t => (if t.size + a0.size ≤ 9223372036854775807 then (some (t ++ a0)) else (none))
theorem impl_byteCounted.mono : ∀ a0 k, LeO (impl_byteCounted.f k a0) (impl_byteCounted.f (k + 1) a0) := by
  intro a0 k
  unfold impl_byteCounted.f
  exact LeO.bind (impl_bigEndian.mono _ _ _) (fun _ => LeO.refl _)
set_option maxHeartbeats 4000000 in
set_option maxRecDepth 100000 in
theorem impl_byteCounted.calls (k : Nat) (a0 : ByteArray) (r : ByteArray) (w : World) (h : impl_byteCounted.f k a0 = some r) :
    Calls Try.prog 211 #[.string a0] w fun e w' => e = .returned (.string r) ∧ Below w.heap.size w w' := by
  obtain ⟨t, A1, H⟩ := Option.bind_eq_some_iff.mp h
  clear h
  by_cases c : t.size + a0.size ≤ 9223372036854775807
  · rw [if_pos c] at H
    obtain rfl := Option.some.inj H
    have hw : IntKind.u64.wrap ((a0.size : Int)) = (a0.size : Int) := by simp only [IntKind.wrap, IntKind.signed, IntKind.bits]; simp; omega
    rw [hw] at A1
    have HA := Aside0.mk A1
    have cb : (9223372036854775807 < t.size + a0.size) = False := eq_false (Nat.not_lt.2 c)
    have hz : (a0.size : Int) < 18446744073709551616 := by omega
    clear A1 c hw
    go_enter Try.func211, Try.ntmps211
    go_wp2_with fail
    refine (impl_bigEndian.calls k _ _ t _ HA.out).mono ?_
    rintro e w' ⟨rfl, hb⟩
    go_wp2
    go_ret
    exact ⟨rfl, hb⟩
  · rw [if_neg c] at H
    cases H

/-- A state of type 95 at block g of W; what its slices lead to came in by w0. -/
def IsS95 (w0 W : World) (g : Nat) (f0 : Int) (f1 : Int) (f2 : Int) (f3 : ByteArray) (f4 : ByteArray) (f5 : ByteArray) (f6 : ByteArray) (f7 : List Int) : Prop := ∃ A7 c7, W.heap[g]? = some (.cells #[.int .i64 f0, .int .i64 f1, .int .i64 f2, .string f3, .string f4, .string f5, .string f6, .slice A7 f7.length c7] 95 (0, 0)) ∧ w0.heap.size ≤ g ∧ Kd.C (Kd.int .i64) w0 A7 f7.length f7
theorem IsS95.grown {w0 W : World} {g : Nat} {f0 : Int} {f1 : Int} {f2 : Int} {f3 : ByteArray} {f4 : ByteArray} {f5 : ByteArray} {f6 : ByteArray} {f7 : List Int} {W1 : World} {row : Option Nat} (h : IsS95 w0 W g f0 f1 f2 f3 f4 f5 f6 f7) (hw : W.grownBy W1 row) (hne : some g ≠ row) : IsS95 w0 W1 g f0 f1 f2 f3 f4 f5 f6 f7 := by
  obtain ⟨A7, c7, hb, hg, hr7⟩ := h
  exact ⟨A7, c7, blk_grown hb hw hne, hg, hr7⟩
theorem IsS95.own_neN {w0 W : World} {g : Nat} {f0 : Int} {f1 : Int} {f2 : Int} {f3 : ByteArray} {f4 : ByteArray} {f5 : ByteArray} {f6 : ByteArray} {f7 : List Int} {α : Type} {d : Kd α} {e : Nat} {base : Nat} {ok : Nat → Prop} {v : Value} {xs : List α} (h : IsS95 w0 W g f0 f1 f2 f3 f4 f5 f6 f7) (ho : Kd.N d e W base ok v xs) (ht : e ≠ 95) : some g ≠ v.ownBlock := by
  obtain ⟨A7, c7, hb, hg, hr7⟩ := h
  exact Kd.N_ne ho hb ht
theorem IsS95.fresh {w0 W : World} {g : Nat} {f0 : Int} {f1 : Int} {f2 : Int} {f3 : ByteArray} {f4 : ByteArray} {f5 : ByteArray} {f6 : ByteArray} {f7 : List Int} (h : IsS95 w0 W g f0 f1 f2 f3 f4 f5 f6 f7) : ∀ k, W.heap.size ≤ k → k ≠ g := by
  obtain ⟨A7, c7, hb, hg, hr7⟩ := h
  exact Kd.freshB hb
theorem IsS95.kept {w0 W : World} {g : Nat} {f0 : Int} {f1 : Int} {f2 : Int} {f3 : ByteArray} {f4 : ByteArray} {f5 : ByteArray} {f6 : ByteArray} {f7 : List Int} {W1 : World} {S : Nat → Prop} (h : IsS95 w0 W g f0 f1 f2 f3 f4 f5 f6 f7) (hk : Kept W W1 S) (hne : ¬ S g) : IsS95 w0 W1 g f0 f1 f2 f3 f4 f5 f6 f7 := by
  obtain ⟨A7, c7, hb, hg, hr7⟩ := h
  exact ⟨A7, c7, blk_kept hb hk hne, hg, hr7⟩
theorem IsS95.below {w0 W : World} {g : Nat} {f0 : Int} {f1 : Int} {f2 : Int} {f3 : ByteArray} {f4 : ByteArray} {f5 : ByteArray} {f6 : ByteArray} {f7 : List Int} {W1 : World} (h : IsS95 w0 W g f0 f1 f2 f3 f4 f5 f6 f7) (hw : Below W.heap.size W W1) : IsS95 w0 W1 g f0 f1 f2 f3 f4 f5 f6 f7 := h.grown (grown_of_below hw none) (by simp)
theorem IsS95.alloc {w0 W : World} {g : Nat} {f0 : Int} {f1 : Int} {f2 : Int} {f3 : ByteArray} {f4 : ByteArray} {f5 : ByteArray} {f6 : ByteArray} {f7 : List Int} (h : IsS95 w0 W g f0 f1 f2 f3 f4 f5 f6 f7) (o : Obj) : IsS95 w0 (W.alloc o) g f0 f1 f2 f3 f4 f5 f6 f7 := h.below (below_alloc (Below.refl _ _) o)
theorem IsS95.drewN {w0 W : World} {g : Nat} {f0 : Int} {f1 : Int} {f2 : Int} {f3 : ByteArray} {f4 : ByteArray} {f5 : ByteArray} {f6 : ByteArray} {f7 : List Int} (h : IsS95 w0 W g f0 f1 f2 f3 f4 f5 f6 f7) (m : Nat) : IsS95 w0 (W.drewN m) g f0 f1 f2 f3 f4 f5 f6 f7 := h
theorem IsS95.drew {w0 W : World} {g : Nat} {f0 : Int} {f1 : Int} {f2 : Int} {f3 : ByteArray} {f4 : ByteArray} {f5 : ByteArray} {f6 : ByteArray} {f7 : List Int} (h : IsS95 w0 W g f0 f1 f2 f3 f4 f5 f6 f7) : IsS95 w0 W.drew g f0 f1 f2 f3 f4 f5 f6 f7 := h
theorem IsS95.at_ {w0 W : World} {g : Nat} {f0 : Int} {f1 : Int} {f2 : Int} {f3 : ByteArray} {f4 : ByteArray} {f5 : ByteArray} {f6 : ByteArray} {f7 : List Int} {w' : World} {m : Nat} (hq : W.drewN m = w') (h : IsS95 w0 W g f0 f1 f2 f3 f4 f5 f6 f7) : IsS95 w0 w' g f0 f1 f2 f3 f4 f5 f6 f7 := by subst hq; exact IsS95.drewN h m
theorem IsS95.apart {w0 W : World} {g : Nat} {f0 : Int} {f1 : Int} {f2 : Int} {f3 : ByteArray} {f4 : ByteArray} {f5 : ByteArray} {f6 : ByteArray} {f7 : List Int} {α : Type} {d : Kd α} {e : Nat} {base : Nat} {ok : Nat → Prop} {v : Value} {xs : List α} (h : IsS95 w0 W g f0 f1 f2 f3 f4 f5 f6 f7) (ho : d.R e W base ok v xs) (ht : ∀ q, q ∈ e :: d.E → q ≠ 95) : d.R e W base (fun k => ok k ∧ k ≠ g) v xs := by
  obtain ⟨A7, c7, hb, hg, hr7⟩ := h
  exact Kd.R_types ho hb ht
theorem IsS95.own_ne {w0 W : World} {g : Nat} {f0 : Int} {f1 : Int} {f2 : Int} {f3 : ByteArray} {f4 : ByteArray} {f5 : ByteArray} {f6 : ByteArray} {f7 : List Int} {α : Type} {d : Kd α} {e : Nat} {base : Nat} {ok : Nat → Prop} {v : Value} {xs : List α} (h : IsS95 w0 W g f0 f1 f2 f3 f4 f5 f6 f7) (ho : d.R e W base ok v xs) (ht : e ≠ 95) : some g ≠ v.ownBlock := by
  obtain ⟨A7, c7, hb, hg, hr7⟩ := h
  exact Kd.R_ne ho hb ht
theorem IsS95.apartQ {w0 W : World} {g : Nat} {f0 : Int} {f1 : Int} {f2 : Int} {f3 : ByteArray} {f4 : ByteArray} {f5 : ByteArray} {f6 : ByteArray} {f7 : List Int} {α : Type} {d : Kd α} {e : Nat} {base : Nat} {ok : Nat → Prop} {v : Value} {xs : List α} (h : IsS95 w0 W g f0 f1 f2 f3 f4 f5 f6 f7) (ho : d.Q e W base ok v xs) (ht : ∀ q, q ∈ e :: d.E → q ≠ 95) : d.Q e W base (fun k => ok k ∧ k ≠ g) v xs := by
  obtain ⟨A7, c7, hb, hg, hr7⟩ := h
  exact Kd.Q_types ho hb ht
theorem IsS95.own_neQ {w0 W : World} {g : Nat} {f0 : Int} {f1 : Int} {f2 : Int} {f3 : ByteArray} {f4 : ByteArray} {f5 : ByteArray} {f6 : ByteArray} {f7 : List Int} {α : Type} {d : Kd α} {e : Nat} {base : Nat} {ok : Nat → Prop} {v : Value} {xs : List α} (h : IsS95 w0 W g f0 f1 f2 f3 f4 f5 f6 f7) (ho : d.Q e W base ok v xs) (ht : e ≠ 95) : some g ≠ v.ownBlock := by
  obtain ⟨A7, c7, hb, hg, hr7⟩ := h
  exact Kd.Q_ne ho hb ht
theorem IsS95.apartS {w0 W : World} {g : Nat} {f0 : Int} {f1 : Int} {f2 : Int} {f3 : ByteArray} {f4 : ByteArray} {f5 : ByteArray} {f6 : ByteArray} {f7 : List Int} {α : Type} {d : Kd α} {e : Nat} {base : Nat} {ok : Nat → Prop} {v : Value} {xs : List α} (h : IsS95 w0 W g f0 f1 f2 f3 f4 f5 f6 f7) (ho : d.S e W base ok v xs) (ht : ∀ q, q ∈ e :: d.E → q ≠ 95) : d.S e W base (fun k => ok k ∧ k ≠ g) v xs := by
  obtain ⟨A7, c7, hb, hg, hr7⟩ := h
  exact Kd.S_types ho hb ht
theorem IsS95.own_neS {w0 W : World} {g : Nat} {f0 : Int} {f1 : Int} {f2 : Int} {f3 : ByteArray} {f4 : ByteArray} {f5 : ByteArray} {f6 : ByteArray} {f7 : List Int} {α : Type} {d : Kd α} {e : Nat} {base : Nat} {ok : Nat → Prop} {v : Value} {xs : List α} (h : IsS95 w0 W g f0 f1 f2 f3 f4 f5 f6 f7) (ho : d.S e W base ok v xs) (ht : e ≠ 95) : some g ≠ v.ownBlock := by
  obtain ⟨A7, c7, hb, hg, hr7⟩ := h
  exact Kd.S_ne ho hb ht
theorem IsS95.lt {w0 W : World} {g : Nat} {f0 : Int} {f1 : Int} {f2 : Int} {f3 : ByteArray} {f4 : ByteArray} {f5 : ByteArray} {f6 : ByteArray} {f7 : List Int} (h : IsS95 w0 W g f0 f1 f2 f3 f4 f5 f6 f7) : g < W.heap.size := by
  obtain ⟨A7, c7, hb, hg, hr7⟩ := h
  exact blk_lt hb
theorem IsS95.ge {w0 W : World} {g : Nat} {f0 : Int} {f1 : Int} {f2 : Int} {f3 : ByteArray} {f4 : ByteArray} {f5 : ByteArray} {f6 : ByteArray} {f7 : List Int} (h : IsS95 w0 W g f0 f1 f2 f3 f4 f5 f6 f7) : w0.heap.size ≤ g := by
  obtain ⟨A7, c7, hb, hg, hr7⟩ := h
  exact hg
theorem IsS95.ne_blk {w0 W : World} {g : Nat} {f0 : Int} {f1 : Int} {f2 : Int} {f3 : ByteArray} {f4 : ByteArray} {f5 : ByteArray} {f6 : ByteArray} {f7 : List Int} {a : Nat} {cs : Array Value} {t : TypeId} {fr : Nat × Nat} (h : IsS95 w0 W g f0 f1 f2 f3 f4 f5 f6 f7) (hb2 : W.heap[a]? = some (.cells cs t fr)) (ht : t ≠ 95) : g ≠ a := by
  obtain ⟨A7, c7, hb, hg, hr7⟩ := h
  rintro rfl
  rw [hb] at hb2
  injection hb2 with hb2
  injection hb2 with _ ht2
  exact ht ht2.symm
theorem IsS95.far {w0 W : World} {g : Nat} {f0 : Int} {f1 : Int} {f2 : Int} {f3 : ByteArray} {f4 : ByteArray} {f5 : ByteArray} {f6 : ByteArray} {f7 : List Int} {p : Addr} (h : IsS95 w0 W g f0 f1 f2 f3 f4 f5 f6 f7) (hne : g ≠ p.block) (u : Value) : IsS95 w0 (W.setCell p u) g f0 f1 f2 f3 f4 f5 f6 f7 := by
  obtain ⟨A7, c7, hb, hg, hr7⟩ := h
  exact ⟨A7, c7, blk_far hb hne u, hg, hr7⟩
theorem cellS95_0 {W : World} {g : Nat} {A7 : Option Addr} {c7 : Nat} {f0 : Int} {f1 : Int} {f2 : Int} {f3 : ByteArray} {f4 : ByteArray} {f5 : ByteArray} {f6 : ByteArray} {f7 : List Int} (h : W.heap[g]? = some (.cells #[.int .i64 f0, .int .i64 f1, .int .i64 f2, .string f3, .string f4, .string f5, .string f6, .slice A7 f7.length c7] 95 (0, 0))) : W.cell? ⟨g, 0, none⟩ = some (.int .i64 f0) := (blk_cell h 0).trans rfl
theorem IsS95.set_0 {w0 W : World} {g : Nat} {f0 : Int} {f1 : Int} {f2 : Int} {f3 : ByteArray} {f4 : ByteArray} {f5 : ByteArray} {f6 : ByteArray} {f7 : List Int} (h : IsS95 w0 W g f0 f1 f2 f3 f4 f5 f6 f7) (x : Int) : IsS95 w0 (W.setCell ⟨g, 0, none⟩ (.int .i64 x)) g x f1 f2 f3 f4 f5 f6 f7 := by
  obtain ⟨A7, c7, hb, hg, hr7⟩ := h
  exact ⟨A7, c7, by simpa using blk_set hb 0 (.int .i64 x), hg, hr7⟩
theorem cellS95_1 {W : World} {g : Nat} {A7 : Option Addr} {c7 : Nat} {f0 : Int} {f1 : Int} {f2 : Int} {f3 : ByteArray} {f4 : ByteArray} {f5 : ByteArray} {f6 : ByteArray} {f7 : List Int} (h : W.heap[g]? = some (.cells #[.int .i64 f0, .int .i64 f1, .int .i64 f2, .string f3, .string f4, .string f5, .string f6, .slice A7 f7.length c7] 95 (0, 0))) : W.cell? ⟨g, 1, none⟩ = some (.int .i64 f1) := (blk_cell h 1).trans rfl
theorem IsS95.set_1 {w0 W : World} {g : Nat} {f0 : Int} {f1 : Int} {f2 : Int} {f3 : ByteArray} {f4 : ByteArray} {f5 : ByteArray} {f6 : ByteArray} {f7 : List Int} (h : IsS95 w0 W g f0 f1 f2 f3 f4 f5 f6 f7) (x : Int) : IsS95 w0 (W.setCell ⟨g, 1, none⟩ (.int .i64 x)) g f0 x f2 f3 f4 f5 f6 f7 := by
  obtain ⟨A7, c7, hb, hg, hr7⟩ := h
  exact ⟨A7, c7, by simpa using blk_set hb 1 (.int .i64 x), hg, hr7⟩
theorem cellS95_2 {W : World} {g : Nat} {A7 : Option Addr} {c7 : Nat} {f0 : Int} {f1 : Int} {f2 : Int} {f3 : ByteArray} {f4 : ByteArray} {f5 : ByteArray} {f6 : ByteArray} {f7 : List Int} (h : W.heap[g]? = some (.cells #[.int .i64 f0, .int .i64 f1, .int .i64 f2, .string f3, .string f4, .string f5, .string f6, .slice A7 f7.length c7] 95 (0, 0))) : W.cell? ⟨g, 2, none⟩ = some (.int .i64 f2) := (blk_cell h 2).trans rfl
theorem IsS95.set_2 {w0 W : World} {g : Nat} {f0 : Int} {f1 : Int} {f2 : Int} {f3 : ByteArray} {f4 : ByteArray} {f5 : ByteArray} {f6 : ByteArray} {f7 : List Int} (h : IsS95 w0 W g f0 f1 f2 f3 f4 f5 f6 f7) (x : Int) : IsS95 w0 (W.setCell ⟨g, 2, none⟩ (.int .i64 x)) g f0 f1 x f3 f4 f5 f6 f7 := by
  obtain ⟨A7, c7, hb, hg, hr7⟩ := h
  exact ⟨A7, c7, by simpa using blk_set hb 2 (.int .i64 x), hg, hr7⟩
theorem cellS95_3 {W : World} {g : Nat} {A7 : Option Addr} {c7 : Nat} {f0 : Int} {f1 : Int} {f2 : Int} {f3 : ByteArray} {f4 : ByteArray} {f5 : ByteArray} {f6 : ByteArray} {f7 : List Int} (h : W.heap[g]? = some (.cells #[.int .i64 f0, .int .i64 f1, .int .i64 f2, .string f3, .string f4, .string f5, .string f6, .slice A7 f7.length c7] 95 (0, 0))) : W.cell? ⟨g, 3, none⟩ = some (.string f3) := (blk_cell h 3).trans rfl
theorem IsS95.set_3 {w0 W : World} {g : Nat} {f0 : Int} {f1 : Int} {f2 : Int} {f3 : ByteArray} {f4 : ByteArray} {f5 : ByteArray} {f6 : ByteArray} {f7 : List Int} (h : IsS95 w0 W g f0 f1 f2 f3 f4 f5 f6 f7) (x : ByteArray) : IsS95 w0 (W.setCell ⟨g, 3, none⟩ (.string x)) g f0 f1 f2 x f4 f5 f6 f7 := by
  obtain ⟨A7, c7, hb, hg, hr7⟩ := h
  exact ⟨A7, c7, by simpa using blk_set hb 3 (.string x), hg, hr7⟩
theorem cellS95_4 {W : World} {g : Nat} {A7 : Option Addr} {c7 : Nat} {f0 : Int} {f1 : Int} {f2 : Int} {f3 : ByteArray} {f4 : ByteArray} {f5 : ByteArray} {f6 : ByteArray} {f7 : List Int} (h : W.heap[g]? = some (.cells #[.int .i64 f0, .int .i64 f1, .int .i64 f2, .string f3, .string f4, .string f5, .string f6, .slice A7 f7.length c7] 95 (0, 0))) : W.cell? ⟨g, 4, none⟩ = some (.string f4) := (blk_cell h 4).trans rfl
theorem IsS95.set_4 {w0 W : World} {g : Nat} {f0 : Int} {f1 : Int} {f2 : Int} {f3 : ByteArray} {f4 : ByteArray} {f5 : ByteArray} {f6 : ByteArray} {f7 : List Int} (h : IsS95 w0 W g f0 f1 f2 f3 f4 f5 f6 f7) (x : ByteArray) : IsS95 w0 (W.setCell ⟨g, 4, none⟩ (.string x)) g f0 f1 f2 f3 x f5 f6 f7 := by
  obtain ⟨A7, c7, hb, hg, hr7⟩ := h
  exact ⟨A7, c7, by simpa using blk_set hb 4 (.string x), hg, hr7⟩
theorem cellS95_5 {W : World} {g : Nat} {A7 : Option Addr} {c7 : Nat} {f0 : Int} {f1 : Int} {f2 : Int} {f3 : ByteArray} {f4 : ByteArray} {f5 : ByteArray} {f6 : ByteArray} {f7 : List Int} (h : W.heap[g]? = some (.cells #[.int .i64 f0, .int .i64 f1, .int .i64 f2, .string f3, .string f4, .string f5, .string f6, .slice A7 f7.length c7] 95 (0, 0))) : W.cell? ⟨g, 5, none⟩ = some (.string f5) := (blk_cell h 5).trans rfl
theorem IsS95.set_5 {w0 W : World} {g : Nat} {f0 : Int} {f1 : Int} {f2 : Int} {f3 : ByteArray} {f4 : ByteArray} {f5 : ByteArray} {f6 : ByteArray} {f7 : List Int} (h : IsS95 w0 W g f0 f1 f2 f3 f4 f5 f6 f7) (x : ByteArray) : IsS95 w0 (W.setCell ⟨g, 5, none⟩ (.string x)) g f0 f1 f2 f3 f4 x f6 f7 := by
  obtain ⟨A7, c7, hb, hg, hr7⟩ := h
  exact ⟨A7, c7, by simpa using blk_set hb 5 (.string x), hg, hr7⟩
theorem cellS95_6 {W : World} {g : Nat} {A7 : Option Addr} {c7 : Nat} {f0 : Int} {f1 : Int} {f2 : Int} {f3 : ByteArray} {f4 : ByteArray} {f5 : ByteArray} {f6 : ByteArray} {f7 : List Int} (h : W.heap[g]? = some (.cells #[.int .i64 f0, .int .i64 f1, .int .i64 f2, .string f3, .string f4, .string f5, .string f6, .slice A7 f7.length c7] 95 (0, 0))) : W.cell? ⟨g, 6, none⟩ = some (.string f6) := (blk_cell h 6).trans rfl
theorem IsS95.set_6 {w0 W : World} {g : Nat} {f0 : Int} {f1 : Int} {f2 : Int} {f3 : ByteArray} {f4 : ByteArray} {f5 : ByteArray} {f6 : ByteArray} {f7 : List Int} (h : IsS95 w0 W g f0 f1 f2 f3 f4 f5 f6 f7) (x : ByteArray) : IsS95 w0 (W.setCell ⟨g, 6, none⟩ (.string x)) g f0 f1 f2 f3 f4 f5 x f7 := by
  obtain ⟨A7, c7, hb, hg, hr7⟩ := h
  exact ⟨A7, c7, by simpa using blk_set hb 6 (.string x), hg, hr7⟩
theorem cellS95_7 {W : World} {g : Nat} {A7 : Option Addr} {c7 : Nat} {f0 : Int} {f1 : Int} {f2 : Int} {f3 : ByteArray} {f4 : ByteArray} {f5 : ByteArray} {f6 : ByteArray} {f7 : List Int} (h : W.heap[g]? = some (.cells #[.int .i64 f0, .int .i64 f1, .int .i64 f2, .string f3, .string f4, .string f5, .string f6, .slice A7 f7.length c7] 95 (0, 0))) : W.cell? ⟨g, 7, none⟩ = some (.slice A7 f7.length c7) := (blk_cell h 7).trans rfl
theorem IsS95.new (w0 W : World) (A7 : Option Addr) (c7 : Nat) (f0 : Int) (f1 : Int) (f2 : Int) (f3 : ByteArray) (f4 : ByteArray) (f5 : ByteArray) (f6 : ByteArray) (f7 : List Int) (hB : Below w0.heap.size w0 W) (hr7 : Kd.C (Kd.int .i64) w0 A7 f7.length f7) : IsS95 w0 (W.alloc (.cells #[.int .i64 f0, .int .i64 f1, .int .i64 f2, .string f3, .string f4, .string f5, .string f6, .slice A7 f7.length c7] 95)) W.heap.size f0 f1 f2 f3 f4 f5 f6 f7 := ⟨A7, c7, by simpa using heap_alloc_new W _, hB.size, hr7⟩

/-! ### impl_Header_ids: function 186 -/
theorem keep_trans {w w1 w2 : World} {g : Nat} (h : KeepBut w w1 g none) (hb : Below w1.heap.size w1 w2) : KeepBut w w2 g none :=
  ⟨Nat.le_trans h.1 hb.size, fun i hi hg hr => (hb.block i (Nat.lt_of_lt_of_le hi h.1)).trans (h.2 i hi hg hr)⟩
def impl_Header_ids.f (k : Nat) (s0_0 : Int) (s0_1 : Int) (s0_2 : Int) (s0_3 : ByteArray) (s0_4 : ByteArray) (s0_5 : ByteArray) (s0_6 : ByteArray) (s0_7 : List Int) : Option (ByteArray × Int × Int × Int × ByteArray × ByteArray × ByteArray × ByteArray) := (impl_byteCounted.f k s0_3).bind fun a => (impl_byteCounted.f k s0_4).bind fun b => (if a.size + b.size ≤ 9223372036854775807 then (some (a ++ b, s0_0, s0_1, s0_2, s0_3, s0_4, s0_5, s0_6)) else none)
theorem impl_Header_ids.mono : ∀ a0 a1 a2 a3 a4 a5 a6 a7 k, LeO (impl_Header_ids.f k a0 a1 a2 a3 a4 a5 a6 a7) (impl_Header_ids.f (k + 1) a0 a1 a2 a3 a4 a5 a6 a7) := by
  intro a0 a1 a2 a3 a4 a5 a6 a7 k
  unfold impl_Header_ids.f
  exact LeO.bind (impl_byteCounted.mono _ _) (fun _ => LeO.bind (impl_byteCounted.mono _ _) (fun _ => LeO.refl _))
set_option maxHeartbeats 16000000 in
set_option maxRecDepth 100000 in
theorem impl_Header_ids.keeps (k : Nat) (g : Nat) (s0_0 : Int) (s0_1 : Int) (s0_2 : Int) (s0_3 : ByteArray) (s0_4 : ByteArray) (s0_5 : ByteArray) (s0_6 : ByteArray) (s0_7 : List Int) (r1 : ByteArray) (r2 : Int) (r3 : Int) (r4 : Int) (r5 : ByteArray) (r6 : ByteArray) (r7 : ByteArray) (r8 : ByteArray) (w : World) (A7 : Option Addr) (c7 : Nat) (hb0 : w.heap[g]? = some (.cells #[.int .i64 s0_0, .int .i64 s0_1, .int .i64 s0_2, .string s0_3, .string s0_4, .string s0_5, .string s0_6, .slice A7 s0_7.length c7] 95 (0, 0))) (h : impl_Header_ids.f k s0_0 s0_1 s0_2 s0_3 s0_4 s0_5 s0_6 s0_7 = some (r1, r2, r3, r4, r5, r6, r7, r8)) :
    Calls Try.prog 186 #[.pointer (some ⟨g, 0, none⟩)] w fun e w' => e = .returned (.string r1) ∧ Below w.heap.size w w' := by
  obtain ⟨a, A1, H⟩ := Option.bind_eq_some_iff.mp h
  obtain ⟨b, A2, H⟩ := Option.bind_eq_some_iff.mp H
  clear h
  by_cases hs : a.size + b.size ≤ 9223372036854775807
  · rw [if_pos hs] at H
    simp only [Option.some.injEq, Prod.mk.injEq] at H
    obtain ⟨rfl, rfl, rfl, rfl, rfl, rfl, rfl, rfl⟩ := H
    have HA := Aside0.mk A1
    have HA2 := Aside0.mk A2
    have HC := Aside0.mk hb0
    have HB := Aside0.mk (Below.refl w.heap.size w)
    have hs1 : (9223372036854775807 < a.size + b.size) = False := eq_false (Nat.not_lt.2 hs)
    clear A1 A2 hb0 hs
    go_enter Try.func186, Try.ntmps186
    go_wp2_with fail
    refine start_ (n := 12) (S := fun w' => w'.cell? ⟨g, 0, none⟩ = some (.int .i64 s0_0) ∧ w'.cell? ⟨g, 1, none⟩ = some (.int .i64 s0_1) ∧ w'.cell? ⟨g, 2, none⟩ = some (.int .i64 s0_2) ∧ w'.cell? ⟨g, 3, none⟩ = some (.string s0_3) ∧ w'.cell? ⟨g, 4, none⟩ = some (.string s0_4) ∧ w'.cell? ⟨g, 5, none⟩ = some (.string s0_5) ∧ w'.cell? ⟨g, 6, none⟩ = some (.string s0_6) ∧ w'.cell? ⟨g, 7, none⟩ = some (.slice A7 s0_7.length c7)) (ds := []) (Go.Proofs.Ythkmjfapljmmpaa.StoreK.bm 12 0) (by kernel_rfl) rfl rfl ⟨(blk_cell (blk_drew HC.out) 0).trans rfl, (blk_cell (blk_drew HC.out) 1).trans rfl, (blk_cell (blk_drew HC.out) 2).trans rfl, (blk_cell (blk_drew HC.out) 3).trans rfl, (blk_cell (blk_drew HC.out) 4).trans rfl, (blk_cell (blk_drew HC.out) 5).trans rfl, (blk_cell (blk_drew HC.out) 6).trans rfl, (blk_cell (blk_drew HC.out) 7).trans rfl⟩ (fun hHeld => ?_)
    have HC0 := Aside0.mk (blk_drew HC.out)
    have HB0 := Aside0.mk (below_drew HB.out)
    clear HC HB
    generalize w.drew = w9 at HC0 HB0 hHeld ⊢
    refine pure_ (i := 0) (N := some 3) (v := ?_) (a' := ?_) (Go.Proofs.Ythkmjfapljmmpaa.StoreK.bm 12 1) rfl rfl (by kernel_rfl) (fun _ _ _ h => h) (Or.inl ⟨by rfl, ?_⟩) ?_ ?_
    rotate_left
    · intro w'
      go_simp
      with_reducible rfl
    rotate_left
    · simp only [Act.put, List.setIfInBounds_toArray, List.set_cons_zero, List.set_cons_succ, i64_w, i32_w]
      rfl
    refine pure_ (i := 1) (N := some 4) (v := ?_) (a' := ?_) (Go.Proofs.Ythkmjfapljmmpaa.StoreK.bm 12 3) rfl rfl (by kernel_rfl) (fun _ _ _ h => h) (Or.inl ⟨by rfl, ?_⟩) ?_ ?_
    rotate_left
    · intro w'
      go_simp
      with_reducible rfl
    rotate_left
    · simp only [Act.put, List.setIfInBounds_toArray, List.set_cons_zero, List.set_cons_succ, i64_w, i32_w]
      rfl
    refine pure_ (i := 2) (N := some 5) (v := ?_) (a' := ?_) (Go.Proofs.Ythkmjfapljmmpaa.StoreK.bm 12 7) rfl rfl (by kernel_rfl) (fun _ _ _ h => h) (Or.inl ⟨by rfl, ?_⟩) ?_ ?_
    rotate_left
    · intro w'
      go_simp
      with_reducible rfl
    rotate_left
    · simp only [Act.put, List.setIfInBounds_toArray, List.set_cons_zero, List.set_cons_succ, i64_w, i32_w]
      rfl
    refine take_ (i := 3) (N := some 6) (v := ?_) (a' := ?_) (Go.Proofs.Ythkmjfapljmmpaa.StoreK.bm 12 15) rfl rfl (by kernel_rfl) (fun _ _ _ h => h) (Or.inl ⟨by rfl, ?_⟩) hHeld ?_ ?_
    rotate_left
    · rintro w' ⟨s0, s1, s2, s3, s4, s5, s6, s7⟩
      go_simp
      with_reducible rfl
    rotate_left
    · simp only [Act.put, List.setIfInBounds_toArray, List.set_cons_zero, List.set_cons_succ, i64_w, i32_w]
      rfl
    refine pure_ (i := 5) (N := some 8) (v := ?_) (a' := ?_) (Go.Proofs.Ythkmjfapljmmpaa.StoreK.bm 12 47) rfl rfl (by kernel_rfl) (fun _ _ _ h => h) (Or.inl ⟨by rfl, ?_⟩) ?_ ?_
    rotate_left
    · intro w'
      go_simp
      with_reducible rfl
    rotate_left
    · simp only [Act.put, List.setIfInBounds_toArray, List.set_cons_zero, List.set_cons_succ, i64_w, i32_w]
      rfl
    refine pure_ (i := 6) (N := some 9) (v := ?_) (a' := ?_) (Go.Proofs.Ythkmjfapljmmpaa.StoreK.bm 12 111) rfl rfl (by kernel_rfl) (fun _ _ _ h => h) (Or.inl ⟨by rfl, ?_⟩) ?_ ?_
    rotate_left
    · intro w'
      go_simp
      with_reducible rfl
    rotate_left
    · simp only [Act.put, List.setIfInBounds_toArray, List.set_cons_zero, List.set_cons_succ, i64_w, i32_w]
      rfl
    refine pure_ (i := 7) (N := some 10) (v := ?_) (a' := ?_) (Go.Proofs.Ythkmjfapljmmpaa.StoreK.bm 12 239) rfl rfl (by kernel_rfl) (fun _ _ _ h => h) (Or.inl ⟨by rfl, ?_⟩) ?_ ?_
    rotate_left
    · intro w'
      go_simp
      with_reducible rfl
    rotate_left
    · simp only [Act.put, List.setIfInBounds_toArray, List.set_cons_zero, List.set_cons_succ, i64_w, i32_w]
      rfl
    refine take_ (i := 8) (N := some 11) (v := ?_) (a' := ?_) (Go.Proofs.Ythkmjfapljmmpaa.StoreK.bm 12 495) rfl rfl (by kernel_rfl) (fun _ _ _ h => h) (Or.inl ⟨by rfl, ?_⟩) hHeld ?_ ?_
    rotate_left
    · rintro w' ⟨s0, s1, s2, s3, s4, s5, s6, s7⟩
      go_simp
      with_reducible rfl
    rotate_left
    · simp only [Act.put, List.setIfInBounds_toArray, List.set_cons_zero, List.set_cons_succ, i64_w, i32_w]
      rfl
    refine one_ (i := 4) (N := some 7) (Go.Proofs.Ythkmjfapljmmpaa.StoreK.bm 12 511) rfl rfl (by kernel_rfl) (by decide) (fun K hK => ?_)
    refine goes_ Try.func211 (by kernel_rfl) rfl #[.string s0_3] (by rfl) rfl rfl (by (try simp only [List.map_toArray, List.map_cons, List.map_nil]); first | done | rfl) ?_
    refine (impl_byteCounted.calls k s0_3 a _ HA.out).mono ?_
    rintro e w1 ⟨rfl, hb⟩
    refine ⟨_, rfl, ?_⟩
    have HC1 := Aside0.mk (blk_below HC0.out hb)
    have HB1 := Aside0.mk (HB0.out.trans (hb.mono HB0.out.size))
    clear hb
    refine hK.out _ _ ⟨(blk_cell HC1.out 0).trans rfl, (blk_cell HC1.out 1).trans rfl, (blk_cell HC1.out 2).trans rfl, (blk_cell HC1.out 3).trans rfl, (blk_cell HC1.out 4).trans rfl, (blk_cell HC1.out 5).trans rfl, (blk_cell HC1.out 6).trans rfl, (blk_cell HC1.out 7).trans rfl⟩ (fun hHeld => ?_)
    clear hK K
    refine norm_ (a' := ?_) ?_ ?_
    rotate_left
    · show Act.put _ (some 7) _ = _
      simp only [Act.put, List.setIfInBounds_toArray, List.set_cons_zero, List.set_cons_succ, i64_w, i32_w]
      rfl
    refine one_ (i := 9) (N := some 12) (Go.Proofs.Ythkmjfapljmmpaa.StoreK.bm 12 1023) rfl rfl (by kernel_rfl) (by decide) (fun K hK => ?_)
    refine goes_ Try.func211 (by kernel_rfl) rfl #[.string s0_4] (by rfl) rfl rfl (by (try simp only [List.map_toArray, List.map_cons, List.map_nil]); first | done | rfl) ?_
    refine (impl_byteCounted.calls k s0_4 b _ HA2.out).mono ?_
    rintro e w2 ⟨rfl, hb⟩
    refine ⟨_, rfl, ?_⟩
    have HC2 := Aside0.mk (blk_below HC1.out hb)
    have HB2 := Aside0.mk (HB1.out.trans (hb.mono HB1.out.size))
    clear hb
    refine hK.out _ _ ⟨(blk_cell HC2.out 0).trans rfl, (blk_cell HC2.out 1).trans rfl, (blk_cell HC2.out 2).trans rfl, (blk_cell HC2.out 3).trans rfl, (blk_cell HC2.out 4).trans rfl, (blk_cell HC2.out 5).trans rfl, (blk_cell HC2.out 6).trans rfl, (blk_cell HC2.out 7).trans rfl⟩ (fun hHeld => ?_)
    clear hK K
    refine norm_ (a' := ?_) ?_ ?_
    rotate_left
    · show Act.put _ (some 12) _ = _
      simp only [Act.put, List.setIfInBounds_toArray, List.set_cons_zero, List.set_cons_succ, i64_w, i32_w]
      rfl
    refine pure_ (i := 10) (N := some 13) (v := ?_) (a' := ?_) (Go.Proofs.Ythkmjfapljmmpaa.StoreK.bm 12 2047) rfl rfl (by kernel_rfl) (fun _ _ _ h => h) (Or.inl ⟨by rfl, ?_⟩) ?_ ?_
    rotate_left
    · intro w'
      go_simp
      with_reducible rfl
    rotate_left
    · simp only [Act.put, List.setIfInBounds_toArray, List.set_cons_zero, List.set_cons_succ, i64_w, i32_w]
      rfl
    refine pure_ (i := 11) (N := some 2) (v := ?_) (a' := ?_) (Go.Proofs.Ythkmjfapljmmpaa.StoreK.bm 12 4095) rfl rfl (by kernel_rfl) (fun _ _ _ h => h) (Or.inl ⟨by rfl, ?_⟩) ?_ ?_
    rotate_left
    · intro w'
      go_simp
      with_reducible rfl
    rotate_left
    · simp only [Act.put, List.setIfInBounds_toArray, List.set_cons_zero, List.set_cons_succ, i64_w, i32_w]
      rfl
    refine done_ (by kernel_rfl) ?_
    go_wp2
    go_ret
    exact ⟨rfl, HB2.out⟩
  · rw [if_neg hs] at H
    cases H
theorem impl_Header_ids.calls (k : Nat) (g : Nat) (s0_0 : Int) (s0_1 : Int) (s0_2 : Int) (s0_3 : ByteArray) (s0_4 : ByteArray) (s0_5 : ByteArray) (s0_6 : ByteArray) (s0_7 : List Int) (r1 : ByteArray) (r2 : Int) (r3 : Int) (r4 : Int) (r5 : ByteArray) (r6 : ByteArray) (r7 : ByteArray) (r8 : ByteArray) (w0 w : World) (hI : IsS95 w0 w g s0_0 s0_1 s0_2 s0_3 s0_4 s0_5 s0_6 s0_7) (hB : Below w0.heap.size w0 w) (h : impl_Header_ids.f k s0_0 s0_1 s0_2 s0_3 s0_4 s0_5 s0_6 s0_7 = some (r1, r2, r3, r4, r5, r6, r7, r8)) :
    Calls Try.prog 186 #[.pointer (some ⟨g, 0, none⟩)] w fun e w' => e = .returned (.string r1) ∧ IsS95 w0 w' g r2 r3 r4 r5 r6 r7 r8 s0_7 ∧ Below w0.heap.size w0 w' ∧ KeepBut w w' g none := by
  obtain ⟨A7, c7, hb0, hg0, hr7⟩ := hI
  have hs : s0_0 = r2 ∧ s0_1 = r3 ∧ s0_2 = r4 ∧ s0_3 = r5 ∧ s0_4 = r6 ∧ s0_5 = r7 ∧ s0_6 = r8 := by
    obtain ⟨a, A1, H⟩ := Option.bind_eq_some_iff.mp h
    obtain ⟨b, A2, H⟩ := Option.bind_eq_some_iff.mp H
    by_cases hs : a.size + b.size ≤ 9223372036854775807
    · rw [if_pos hs] at H
      simp only [Option.some.injEq, Prod.mk.injEq] at H
      exact H.2
    · rw [if_neg hs] at H
      cases H
  refine (impl_Header_ids.keeps k g s0_0 s0_1 s0_2 s0_3 s0_4 s0_5 s0_6 s0_7 r1 r2 r3 r4 r5 r6 r7 r8 w A7 c7 hb0 h).mono fun e w' hh => ?_
  obtain ⟨rfl, rfl, rfl, rfl, rfl, rfl, rfl⟩ := hs
  exact ⟨hh.1, ⟨A7, c7, blk_below hb0 hh.2, hg0, hr7⟩, hB.trans (hh.2.mono hB.size), keep_trans ⟨Nat.le_refl _, fun _ _ _ _ => rfl⟩ hh.2⟩

end Go.Proofs.Ythkmjfapljmmpaa.PFnExactHeaderBytes
