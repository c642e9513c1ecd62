/- The pure statement of the law FnExactTakePrefix: the program's function and the reference answer alike. -/
import Derived.Test.YtoifedpioonnnaaPFnExactTakePrefixx2
namespace Go.Proofs.Ytoifedpioonnnaa.Pure
open Go.RowKit Go.Proofs.Ytoifedpioonnnaa.PFnExactTakePrefix Go.Proofs.YtoifedpioonnnaaW.PrintWords Go.Proofs.YtoifedpioonnnaaW.PrintLast

theorem l1In_eq (a b c : Int) : spec_l1In.f a b c = some (decide (b ≤ a ∧ a ≤ c)) := by
  unfold spec_l1In.f
  by_cases h : b ≤ a
  · rw [if_pos h]; simp [h]
  · rw [if_neg h]; simp [h]
theorem in_eq (a b c : Int) : impl_in.f a b c = some (decide (b ≤ a ∧ a ≤ c)) := l1In_eq a b c
theorem and_ite (p q : Prop) [Decidable p] [Decidable q] : (if p then some (decide q) else some false) = some (decide (p ∧ q)) := by
  by_cases h : p <;> simp [h]

theorem w64 (n : Int) (h : -9223372036854775808 ≤ n ∧ n ≤ 9223372036854775807) : wrap64 n = n := by unfold wrap64; omega
theorem u64_id (n : Int) (h0 : 0 ≤ n) (h : n ≤ 9223372036854775807) : IntKind.u64.wrap n = n := by
  simp [IntKind.wrap, IntKind.bits, IntKind.signed]
  omega
theorem and127 (b : Int) (h0 : 0 ≤ b) (h : b ≤ 255) : Go.bits .and .u8 b 127 = b % 128 := bits_mask .u8 8 (by decide) wraps_u8 7 (by decide) b h0 (by omega)
theorem tmod128 (b : Int) (h0 : 0 ≤ b) : Int.tmod b 128 = b % 128 := by rw [Int.tmod_eq_emod_of_nonneg h0]
/-- What is over the limit is refused, however it goes on. -/
theorem tp_over_step (s : ByteArray) (hd : Int) (i p n : Int) (k : Nat) (hi : 1 ≤ i ∧ i ≤ 5) (hs : wrap64 (7 * wrap64 (i - 1)) = 7 * (i - 1)) (hp : ∀ x, shl .i64 x (7 * (i - 1)) = wrap64 (x * p)) (p1 : 1 ≤ p) (pm : p ≤ 268435456)
    (h0 : 1000000000 < n) (h1 : n ≤ 34359738368) (next : ∀ m, 1000000000 < m → m ≤ n + 127 * p → impl_TakePrefix.l0 k s m hd (i + 1) = some (0, 0, 0)) : impl_TakePrefix.l0 (k + 2) s n hd i = some (0, 0, 0) := by
  obtain ⟨b0, b1⟩ := bt_range s i
  simp only [impl_TakePrefix.l0, impl_TakePrefix.j2]
  rw [hs]
  simp only [hp, tmod128 _ b0]
  have q0 : 0 ≤ bt s i % 128 := by omega
  have q1 : bt s i % 128 ≤ 127 := by omega
  generalize bt s i % 128 = q at q0 q1
  have m0 : 0 ≤ q * p := Int.mul_nonneg q0 (by omega)
  have m1 : q * p ≤ 127 * p := Int.mul_le_mul_of_nonneg_right q1 (by omega)
  have e1 : wrap64 q = q := w64 _ (by omega)
  have e2 : wrap64 (q * p) = q * p := w64 _ (by omega)
  have e3 : wrap64 (n + q * p) = n + q * p := w64 _ (by omega)
  have e4 : wrap64 (i + 1) = i + 1 := w64 _ (by omega)
  rw [e1, e2, e3, e4]
  have c1 : 0 ≤ i := by omega
  have c2 : 0 ≤ 7 * (i - 1) := by omega
  have c3 : i ≤ 5 := hi.2
  by_cases hlt : i < (s.size : Int)
  · simp only [hlt, c1, c2, c3, if_true, decide_true]
    by_cases hb : bt s i < 128
    · rw [if_pos hb, if_pos (by omega)]
    · rw [if_neg hb]
      exact next _ (by omega) (by omega)
  · simp [hlt]
theorem tp_step (s : ByteArray) (hd : Int) (i p n : Int) (k : Nat) (hi : 1 ≤ i ∧ i ≤ 5) (hs : wrap64 (7 * wrap64 (i - 1)) = 7 * (i - 1)) (hp : ∀ x, shl .i64 x (7 * (i - 1)) = wrap64 (x * p)) (p1 : 1 ≤ p) (pm : p ≤ 268435456)
    (h0 : 0 ≤ n) (h1 : n ≤ 34359738368) (next : ∀ m, 0 ≤ m → m ≤ n + 127 * p → ∃ r, spec_TakePrefix.l0 k s m hd (i + 1) = some r ∧ impl_TakePrefix.l0 k s m hd (i + 1) = some r)
    (over : ∀ m, 1000000000 < m → m ≤ n + 127 * p → impl_TakePrefix.l0 k s m hd (i + 1) = some (0, 0, 0)) : ∃ r, spec_TakePrefix.l0 (k + 2) s n hd i = some r ∧ impl_TakePrefix.l0 (k + 2) s n hd i = some r := by
  obtain ⟨b0, b1⟩ := bt_range s i
  simp only [impl_TakePrefix.l0, impl_TakePrefix.j2, spec_TakePrefix.l0, spec_TakePrefix.j2]
  rw [hs, u64_id (7 * (i - 1)) (by omega) (by omega)]
  simp only [hp, tmod128 _ b0, and127 _ b0 b1]
  have q0 : 0 ≤ bt s i % 128 := by omega
  have q1 : bt s i % 128 ≤ 127 := by omega
  generalize bt s i % 128 = q at q0 q1
  have m0 : 0 ≤ q * p := Int.mul_nonneg q0 (by omega)
  have m1 : q * p ≤ 127 * p := Int.mul_le_mul_of_nonneg_right q1 (by omega)
  have e1 : wrap64 q = q := w64 _ (by omega)
  have e2 : wrap64 (q * p) = q * p := w64 _ (by omega)
  have e3 : wrap64 (n + q * p) = n + q * p := w64 _ (by omega)
  have e4 : wrap64 (i + 1) = i + 1 := w64 _ (by omega)
  rw [e1, e2, e3, e4]
  have c1 : 0 ≤ i := by omega
  have c2 : 0 ≤ 7 * (i - 1) := by omega
  have c3 : i ≤ 5 := hi.2
  have c4 : i < 6 := by omega
  by_cases hlt : i < (s.size : Int)
  · simp only [hlt, c1, c2, c3, c4, if_true, decide_true]
    by_cases hv : n + q * p > 1000000000
    · refine ⟨(0, 0, 0), by rw [if_pos hv], ?_⟩
      by_cases hb : bt s i < 128
      · rw [if_pos hb, if_pos hv]
      · rw [if_neg hb]
        exact over _ hv (by omega)
    · rw [if_neg hv]
      by_cases hb : bt s i < 128
      · rw [if_pos hb, if_pos hb, if_neg hv]
        exact ⟨_, rfl, rfl⟩
      · rw [if_neg hb, if_neg hb]
        exact next _ (by omega) (by omega)
  · simp [hlt, c4]
theorem tp_over6 (s : ByteArray) (hd n : Int) (k : Nat) : impl_TakePrefix.l0 (k + 2) s n hd 6 = some (0, 0, 0) := by
  simp only [impl_TakePrefix.l0, impl_TakePrefix.j2]
  split <;> simp
theorem tp6 (s : ByteArray) (hd n : Int) (k : Nat) : ∃ r, spec_TakePrefix.l0 (k + 2) s n hd 6 = some r ∧ impl_TakePrefix.l0 (k + 2) s n hd 6 = some r :=
  ⟨(0, 0, 0), by simp [spec_TakePrefix.l0, spec_TakePrefix.j2], tp_over6 s hd n k⟩
theorem tp_shl (y : Int) (j : Nat) (p : Int) (hy : y.toNat = j) (hj : min j 64 = j) (hp : (2 : Int) ^ j = p) : ∀ x, shl .i64 x y = wrap64 (x * p) := by
  intro x
  unfold shl
  have e : min y.toNat IntKind.i64.bits = j := by rw [hy]; exact hj
  rw [e, hp]
  exact i64_w _
/-- Both loops, from the second byte on. -/
theorem tp_loops (s : ByteArray) (hd n : Int) (k : Nat) (h0 : 0 ≤ n) (h1 : n ≤ 255) : ∃ r, spec_TakePrefix.l0 (k + 12) s n hd 1 = some r ∧ impl_TakePrefix.l0 (k + 12) s n hd 1 = some r := by
  have o5 : ∀ m, 1000000000 < m → m ≤ 34359738368 → impl_TakePrefix.l0 (k + 4) s m hd 5 = some (0, 0, 0) := fun m a b => tp_over_step s hd 5 268435456 m (k + 2) (by omega) (by unfold wrap64; omega) (tp_shl _ 28 _ rfl rfl rfl) (by omega) (by omega) a b (fun m _ _ => tp_over6 s hd m k)
  have o4 : ∀ m, 1000000000 < m → m ≤ 30000000000 → impl_TakePrefix.l0 (k + 6) s m hd 4 = some (0, 0, 0) := fun m a b => tp_over_step s hd 4 2097152 m (k + 4) (by omega) (by unfold wrap64; omega) (tp_shl _ 21 _ rfl rfl rfl) (by omega) (by omega) a (by omega) (fun m a b => o5 m a (by omega))
  have o3 : ∀ m, 1000000000 < m → m ≤ 20000000000 → impl_TakePrefix.l0 (k + 8) s m hd 3 = some (0, 0, 0) := fun m a b => tp_over_step s hd 3 16384 m (k + 6) (by omega) (by unfold wrap64; omega) (tp_shl _ 14 _ rfl rfl rfl) (by omega) (by omega) a (by omega) (fun m a b => o4 m a (by omega))
  have o2 : ∀ m, 1000000000 < m → m ≤ 10000000000 → impl_TakePrefix.l0 (k + 10) s m hd 2 = some (0, 0, 0) := fun m a b => tp_over_step s hd 2 128 m (k + 8) (by omega) (by unfold wrap64; omega) (tp_shl _ 7 _ rfl rfl rfl) (by omega) (by omega) a (by omega) (fun m a b => o3 m a (by omega))
  have s5 : ∀ m, 0 ≤ m → m ≤ 34359738368 → ∃ r, spec_TakePrefix.l0 (k + 4) s m hd 5 = some r ∧ impl_TakePrefix.l0 (k + 4) s m hd 5 = some r := fun m a b => tp_step s hd 5 268435456 m (k + 2) (by omega) (by unfold wrap64; omega) (tp_shl _ 28 _ rfl rfl rfl) (by omega) (by omega) a b (fun m _ _ => tp6 s hd m k) (fun m _ _ => tp_over6 s hd m k)
  have s4 : ∀ m, 0 ≤ m → m ≤ 20000000000 → ∃ r, spec_TakePrefix.l0 (k + 6) s m hd 4 = some r ∧ impl_TakePrefix.l0 (k + 6) s m hd 4 = some r := fun m a b => tp_step s hd 4 2097152 m (k + 4) (by omega) (by unfold wrap64; omega) (tp_shl _ 21 _ rfl rfl rfl) (by omega) (by omega) a (by omega) (fun m a b => s5 m a (by omega)) (fun m a b => o5 m a (by omega))
  have s3 : ∀ m, 0 ≤ m → m ≤ 10000000000 → ∃ r, spec_TakePrefix.l0 (k + 8) s m hd 3 = some r ∧ impl_TakePrefix.l0 (k + 8) s m hd 3 = some r := fun m a b => tp_step s hd 3 16384 m (k + 6) (by omega) (by unfold wrap64; omega) (tp_shl _ 14 _ rfl rfl rfl) (by omega) (by omega) a (by omega) (fun m a b => s4 m a (by omega)) (fun m a b => o4 m a (by omega))
  have s2 : ∀ m, 0 ≤ m → m ≤ 5000000000 → ∃ r, spec_TakePrefix.l0 (k + 10) s m hd 2 = some r ∧ impl_TakePrefix.l0 (k + 10) s m hd 2 = some r := fun m a b => tp_step s hd 2 128 m (k + 8) (by omega) (by unfold wrap64; omega) (tp_shl _ 7 _ rfl rfl rfl) (by omega) (by omega) a (by omega) (fun m a b => s3 m a (by omega)) (fun m a b => o3 m a (by omega))
  exact tp_step s hd 1 1 n (k + 10) (by omega) (by unfold wrap64; omega) (tp_shl _ 0 _ rfl rfl rfl) (by omega) (by omega) h0 (by omega) (fun m a b => s2 m a (by omega)) (fun m a b => o2 m a (by omega))
theorem bitsOk_eq (a : Int) : impl_bitsOk.f a = some (decide (3 ≤ a ∧ a ≤ 8)) := by
  unfold impl_bitsOk.f
  simp only [in_eq, Option.bind_some]
theorem mask_of (a : Int) (h : 3 ≤ a ∧ a ≤ 8) : ∃ j : Nat, j ≤ 8 ∧ wrap64 (shl .i64 1 a - 1) = 2 ^ j - 1 := by
  have : a = 3 ∨ a = 4 ∨ a = 5 ∨ a = 6 ∨ a = 7 ∨ a = 8 := by omega
  rcases this with rfl | rfl | rfl | rfl | rfl | rfl
  · exact ⟨3, by decide, by rw [tp_shl _ 3 8 rfl rfl rfl]; unfold wrap64; omega⟩
  · exact ⟨4, by decide, by rw [tp_shl _ 4 16 rfl rfl rfl]; unfold wrap64; omega⟩
  · exact ⟨5, by decide, by rw [tp_shl _ 5 32 rfl rfl rfl]; unfold wrap64; omega⟩
  · exact ⟨6, by decide, by rw [tp_shl _ 6 64 rfl rfl rfl]; unfold wrap64; omega⟩
  · exact ⟨7, by decide, by rw [tp_shl _ 7 128 rfl rfl rfl]; unfold wrap64; omega⟩
  · exact ⟨8, by decide, by rw [tp_shl _ 8 256 rfl rfl rfl]; unfold wrap64; omega⟩
theorem takePrefix_eq (s : ByteArray) (a : Int) (k : Nat) : ∃ r, spec_TakePrefix.f (k + 13) s a = some r ∧ impl_TakePrefix.f (k + 13) s a = some r := by
  unfold spec_TakePrefix.f impl_TakePrefix.f
  simp only [bitsOk_eq, l1In_eq, Option.bind_some, decide_eq_true_eq]
  by_cases hs : s.toList = []
  · refine ⟨(0, 0, 0), by rw [if_pos hs]; rfl, ?_⟩
    by_cases ha : 3 ≤ a ∧ a ≤ 8
    · rw [if_pos ha, hs]; rfl
    · rw [if_neg ha]; rfl
  · rw [if_neg hs]
    have hb : (s.toList == []) = false := by simpa using hs
    rw [hb]
    by_cases ha : 3 ≤ a ∧ a ≤ 8
    · rw [if_pos ha]
      have hd : (!decide (3 ≤ a ∧ a ≤ 8)) = false := by simp [ha]
      rw [hd]
      simp only [spec_TakePrefix.j0, impl_TakePrefix.j0]
      rw [u64_id a (by omega) (by omega)]
      have a0 : 0 ≤ a := by omega
      have z : 0 < (s.size : Int) := by
        rcases Nat.eq_zero_or_pos s.size with h | h
        · exact absurd (by rw [ByteArray.toList_eq]; exact List.eq_nil_of_length_eq_zero (by simpa using h) : s.toList = []) hs
        · omega
      simp only [Bool.false_eq_true, if_false, a0, if_true, z]
      obtain ⟨b0, b1⟩ := bt_range s 0
      rw [w64 (bt s 0) (by omega)]
      obtain ⟨j, hj, hm⟩ := mask_of a ha
      rw [hm, bits_mask .i64 8 (by decide) (fun n h0 h1 => by rw [IntKind.wrap_i64]; omega) j hj (bt s 0) b0 (by omega)]
      by_cases hlt : bt s 0 % 2 ^ j < 2 ^ j - 1
      · rw [if_pos hlt, if_pos hlt]
        exact ⟨_, rfl, rfl⟩
      · rw [if_neg hlt, if_neg hlt]
        refine tp_loops s _ _ k ?_ ?_
        · exact Int.emod_nonneg _ (by exact Int.ne_of_gt (Int.pow_pos (by decide)))
        · have := Int.emod_lt_of_pos (bt s 0) (show (0 : Int) < 2 ^ j from Int.pow_pos (by decide))
          have h8 : (2 : Int) ^ j ≤ 2 ^ 8 := by exact_mod_cast Nat.pow_le_pow_right (by decide) hj
          omega
    · rw [if_neg ha]
      have hd : (!decide (3 ≤ a ∧ a ≤ 8)) = true := by simp [ha]
      rw [hd]
      exact ⟨_, rfl, rfl⟩

theorem FnExactTakePrefix : laws_FnExactTakePrefix.Pure := by
  intro s a hs ha
  refine ⟨13, ?_⟩
  unfold laws_FnExactTakePrefix.f
  obtain ⟨r, h1, h2⟩ := takePrefix_eq s a 0
  rw [h1, h2]
  simp

end Go.Proofs.Ytoifedpioonnnaa.Pure
