/- The pure statement of the law FnExactPrefixBytes: the program's function and the reference answer alike. -/
import Derived.Test.YtikomfdkdoognaaPFnExactPrefixBytesx2
import Derived.Test.YtikomfdkdoognaaLoopK
namespace Go.Proofs.Ytikomfdkdoognaa.Pure
open Go.RowKit Go.Proofs.Ytikomfdkdoognaa.PFnExactPrefixBytes Go.Proofs.YtikomfdkdoognaaW.PrintWords Go.Proofs.YtikomfdkdoognaaW.PrintLast
set_option linter.unusedVariables false
set_option linter.unusedSimpArgs false

theorem l1In_eq (a b c : Int) : spec_l1In.f a b c = some (decide (b ≤ a ∧ a ≤ c)) := by
  unfold spec_l1In.f
  by_cases h : b ≤ a
  · rw [if_pos h]; simp [h]
  · rw [if_neg h]; simp [h]
theorem in_eq (a b c : Int) : impl_in.f a b c = some (decide (b ≤ a ∧ a ≤ c)) := l1In_eq a b c
theorem and_ite (p q : Prop) [Decidable p] [Decidable q] : (if p then some (decide q) else some false) = some (decide (p ∧ q)) := by
  by_cases h : p <;> simp [h]

open Go.Proofs.Ytikomfdkdoognaa.LoopK (copyEv sameEv markEv heldEv foldEv mk mk_length at_lt at_lt' at_nn at_nlt at_stop at_getD at_set at_set2 at_snoc len_snoc at_w w64 chk last_or at_prev at_prev_lt at_prev_nn at_prev_pos at_prev_w pairEv)

/-- So many bytes of a number, the highest one first. -/
def be : Int → Nat → List Int
  | _, 0 => []
  | n, m + 1 => be (n / 256) m ++ [n % 256]
theorem be_length : ∀ (m : Nat) (n : Int), (be n m).length = m
  | 0, _ => rfl
  | m + 1, n => by simp [be, be_length m]
theorem pow256 (m : Nat) : (0 : Int) < 256 ^ m := Int.pow_pos (by decide)
theorem be_cons : ∀ (m : Nat) (n : Int), be n (m + 1) = (n / 256 ^ m % 256) :: be n m
  | 0, n => by simp [be]
  | m + 1, n => by
    have e : n / 256 / 256 ^ m = n / 256 ^ (m + 1) := by
      rw [Int.ediv_ediv_of_nonneg (by decide), Int.pow_succ, Int.mul_comm]
    rw [be, be_cons m (n / 256), e]
    simp [be]
theorem be_mod : ∀ (m : Nat) (n q : Int), be (n + 256 ^ m * q) m = be n m
  | 0, _, _ => rfl
  | m + 1, n, q => by
    have e1 : n + 256 ^ (m + 1) * q = n + 256 * (256 ^ m * q) := by rw [Int.pow_succ, Int.mul_comm (256 ^ m) 256, Int.mul_assoc]
    have e2 : (n + 256 * (256 ^ m * q)) / 256 = n / 256 + 256 ^ m * q := by omega
    have e3 : (n + 256 * (256 ^ m * q)) % 256 = n % 256 := by omega
    rw [be, e1, e2, e3, be_mod m]
    rfl
theorem strOfNums_size (l : List Int) : (strOfNums l).size = l.length := by simp [strOfNums, ByteArray.size]
theorem strOfNums_toList (l : List Int) : (strOfNums l).toList = l.map fun n => UInt8.ofNat n.toNat := by
  rw [ByteArray.toList_eq]
  simp [strOfNums]
theorem strOfNums_append (a b : List Int) : strOfNums a ++ strOfNums b = strOfNums (a ++ b) := by
  apply ByteArray.ext
  simp [strOfNums]
theorem shr8 (x : Int) (i : Nat) (hi : 8 * i ≤ 9223372036854775807) (hx : 0 ≤ x ∧ x < 18446744073709551616) : shr .u64 x (8 * (i : Int)) = x / 256 ^ i ∧ shr .i64 x (8 * (i : Int)) = x / 256 ^ i := by
  have hp : (256 : Int) ^ i = 2 ^ (8 * i) := by rw [Int.pow_mul]; rfl
  have e : (8 * (i : Int)).toNat = 8 * i := by omega
  have key : x / 2 ^ min (8 * i) 64 = x / 256 ^ i := by
    rcases Nat.lt_or_ge (8 * i) 64 with h | h
    · rw [hp, Nat.min_eq_left (by omega)]
    · rw [Nat.min_eq_right h, hp]
      have h1 : (2 : Int) ^ 64 ≤ 2 ^ (8 * i) := by exact_mod_cast Nat.pow_le_pow_right (by decide) h
      rw [Int.ediv_eq_zero_of_lt hx.1 (by omega), Int.ediv_eq_zero_of_lt hx.1 (by omega)]
  unfold shr
  rw [e]
  exact ⟨key, key⟩
theorem l1Fixed_loop (x : Int) (hx : 0 ≤ x ∧ x < 18446744073709551616) : ∀ (m : Nat) (out : List Int), m ≤ 1000 → out.length + m ≤ 100000 → Ev (fun k => spec_l1Fixed.l0 k x out ((m : Int) - 1)) (strOfNums (out ++ be x m))
  | 0, out, _, _ => by
    refine LoopK.Ev.succ ?_
    have c : ¬ (((0 : Nat) : Int) - 1 ≥ 0) := by omega
    simp only [spec_l1Fixed.l0, c, if_false, be, List.append_nil]
    exact Ev.now _
  | m + 1, out, hm, ho => by
    refine LoopK.Ev.succ ?_
    have e0 : ((m + 1 : Nat) : Int) - 1 = (m : Int) := by omega
    have c : (m : Int) ≥ 0 := by omega
    have w0 : wrap64 (8 * (m : Int)) = 8 * (m : Int) := w64 _ (by omega)
    have w1 : IntKind.u64.wrap (8 * (m : Int)) = 8 * (m : Int) := by
      simp [IntKind.wrap, IntKind.bits, IntKind.signed]
      omega
    have c1 : 0 ≤ 8 * (m : Int) := by omega
    have c2 : out.length < 140737488355328 := by omega
    have w2 : wrap64 ((m : Int) - 1) = (m : Int) - 1 := w64 _ (by omega)
    rw [e0]
    simp only [spec_l1Fixed.l0, c, if_true, w0, w1, c1, c2, w2, (shr8 x m (by omega) hx).2]
    refine LoopK.Ev.to (l1Fixed_loop x hx m _ (by omega) (by simp; omega)) ?_
    rw [be_cons, List.append_assoc]
    rfl
theorem l1Fixed_ev (x : Int) (hx : 0 ≤ x ∧ x < 18446744073709551616) (m : Nat) (hm : m ≤ 1000) : Ev (fun k => spec_l1Fixed.f k x (m : Int)) (strOfNums (be x m)) := by
  unfold spec_l1Fixed.f
  have w : wrap64 ((m : Int) - 1) = (m : Int) - 1 := w64 _ (by omega)
  simp only [w]
  simpa using l1Fixed_loop x hx m [] hm (by simp; omega)
theorem bigEndian_loop : ∀ (m : Nat) (x : Int) (tail : List Int), m ≤ 1000 → tail.length + m ≤ 100000 → Ev (fun k => impl_bigEndian.l0 k x (List.replicate m 0 ++ tail) ((m : Int) - 1)) (strOfNums (be x m ++ tail))
  | 0, x, tail, _, _ => by
    refine LoopK.Ev.succ ?_
    have c : ¬ (((0 : Nat) : Int) - 1 ≥ 0) := by omega
    simp only [impl_bigEndian.l0, c, if_false, be, List.replicate_zero, List.nil_append]
    exact Ev.now _
  | m + 1, x, tail, hm, ht => by
    refine LoopK.Ev.succ ?_
    have e0 : ((m + 1 : Nat) : Int) - 1 = (m : Int) := by omega
    have c : (m : Int) ≥ 0 := by omega
    have c1 : 0 ≤ (m : Int) := by omega
    have c2 : (m : Int) < ((List.replicate (m + 1) (0 : Int) ++ tail).length : Int) := by
      rw [List.length_append, List.length_replicate]
      omega
    have w2 : wrap64 ((m : Int) - 1) = (m : Int) - 1 := w64 _ (by omega)
    have e1 : (List.replicate (m + 1) (0 : Int) ++ tail).set (m : Int).toNat (x % 256) = List.replicate m 0 ++ (x % 256 :: tail) := by
      rw [List.replicate_succ', List.append_assoc]
      have : (m : Int).toNat = (List.replicate m (0 : Int)).length := by simp
      rw [this, List.set_append_right _ _ (Nat.le_refl _)]
      simp
    rw [e0]
    simp only [impl_bigEndian.l0, c, if_true, c1, c2, w2, e1]
    refine LoopK.Ev.to (bigEndian_loop m (x / 256) (x % 256 :: tail) (by omega) (by rw [List.length_cons]; omega)) ?_
    simp [be]
theorem bigEndian_ev (x : Int) (m : Nat) (hm : m ≤ 1000) : Ev (fun k => impl_bigEndian.f k x (m : Int)) (strOfNums (be x m)) := by
  unfold impl_bigEndian.f
  have c1 : 0 ≤ (m : Int) := by omega
  have c2 : (m : Int).toNat = m := by omega
  have c3 : m ≤ 281474976710656 := by omega
  have w : wrap64 ((m : Int) - 1) = (m : Int) - 1 := w64 _ (by omega)
  simp only [c1, if_true, c2, c3, w]
  simpa using bigEndian_loop m x [] hm (by simp; omega)

theorem u64_id (n : Int) (h0 : 0 ≤ n) (h : n ≤ 9223372036854775807) : IntKind.u64.wrap n = n := by
  simp [IntKind.wrap, IntKind.bits, IntKind.signed]
  omega
theorem i64w (n : Int) (h0 : 0 ≤ n) (h1 : n < 2 ^ 32) : IntKind.i64.wrap n = n := by rw [IntKind.wrap_i64]; omega
theorem bor_comm (k : IntKind) (x y : Int) : Go.bits .or k x y = Go.bits .or k y x := by
  unfold Go.bits
  simp only [BitVec.or_comm]
theorem shl_pow (y : Int) (j : Nat) (hy : y = j) (hj : j ≤ 8) : shl .i64 1 y = 2 ^ j := by
  subst hy
  unfold shl
  have e : min (j : Int).toNat IntKind.i64.bits = j := by simp [IntKind.bits]; omega
  rw [e, i64_w, Int.one_mul]
  have h8 : (2 : Int) ^ j ≤ 2 ^ 8 := by exact_mod_cast Nat.pow_le_pow_right (by decide) hj
  have h0 : (0 : Int) < 2 ^ j := Int.pow_pos (by decide)
  unfold wrap64
  omega
theorem prefix_last (n : Int) (s : ByteArray) (h0 : 0 ≤ n) (h1 : n ≤ 127) (h3 : s.size ≤ 1000) : ∃ r, Ev (fun k => spec_l15Prefix.l0 k n s) r ∧ Ev (fun k => impl_prefixed.l0 k n s) r := by
  have hn : ¬ (n > 127) := by omega
  have hn' : ¬ (n ≥ 128) := by omega
  have e5 : IntKind.u64.wrap n = n := u64_id _ (by omega) (by omega)
  have hs : (strOfNums (be n 1)).size = 1 := by rw [strOfNums_size, be_length]
  have c : s.size + (strOfNums (be n 1)).size ≤ 9223372036854775807 := by rw [hs]; omega
  refine ⟨s ++ strOfNums (be n 1), LoopK.Ev.succ ?_, LoopK.Ev.succ ?_⟩
  · simp only [spec_l15Prefix.l0, hn, if_false]
    refine LoopK.Ev.bind_ (l1Fixed_ev _ (by omega) 1 (by omega)) ?_
    simp only [c, if_true]
    exact Ev.now _
  · simp only [impl_prefixed.l0, hn', if_false, e5]
    refine LoopK.Ev.bind_ (bigEndian_ev _ 1 (by omega)) ?_
    simp only [c, if_true]
    exact Ev.now _
/-- What follows the first byte. -/
theorem prefix_loops : ∀ (d : Nat) (n : Int) (s : ByteArray), 0 ≤ n → n ≤ 2000000000 → n < 128 ^ d → s.size + d ≤ 1000 → ∃ r, Ev (fun k => spec_l15Prefix.l0 k n s) r ∧ Ev (fun k => impl_prefixed.l0 k n s) r := by
  intro d
  induction d with
  | zero =>
    intro n s h0 h1 h2 h3
    have hz : n = 0 := by
      have : (128 : Int) ^ 0 = 1 := rfl
      omega
    exact prefix_last n s (by omega) (by omega) (by omega)
  | succ d ih =>
    intro n s h0 h1 h2 h3
    by_cases hn : n > 127
    · have hn' : n ≥ 128 := by omega
      have e1 : Go.bits .and .i64 n 127 = n % 128 := bits_mask .i64 32 (by decide) i64w 7 (by decide) n h0 (by omega)
      have e2 : Go.bits .or .i64 (n % 128) 128 = n % 128 + 128 := by
        rw [bor_comm, Int.add_comm]
        exact bits_join .i64 32 (by decide) i64w 7 128 (n % 128) (by decide) (by decide) (by decide) (by omega) (by omega) (by omega)
      have e3 : Int.tmod n 128 = n % 128 := Int.tmod_eq_emod_of_nonneg h0
      have e4 : wrap64 (n % 128 + 128) = n % 128 + 128 := w64 _ (by omega)
      have e5 : IntKind.u64.wrap (n % 128 + 128) = n % 128 + 128 := u64_id _ (by omega) (by omega)
      have e6 : Int.tdiv n 128 = n / 128 := Int.tdiv_eq_ediv_of_nonneg h0
      have e7 : wrap64 (n / 128) = n / 128 := w64 _ (by omega)
      have hlt : n / 128 < 128 ^ d := by
        have : (128 : Int) ^ (d + 1) = 128 ^ d * 128 := by rw [Int.pow_succ]
        omega
      have hs : (strOfNums (be (n % 128 + 128) 1)).size = 1 := by rw [strOfNums_size, be_length]
      obtain ⟨r, hr1, hr2⟩ := ih (n / 128) (s ++ strOfNums (be (n % 128 + 128) 1)) (by omega) (by omega) hlt (by rw [ByteArray.size_append, hs]; omega)
      have c : s.size + (strOfNums (be (n % 128 + 128) 1)).size ≤ 9223372036854775807 := by rw [hs]; omega
      refine ⟨r, LoopK.Ev.succ ?_, LoopK.Ev.succ ?_⟩
      · simp only [spec_l15Prefix.l0, hn, if_true, e1, e2]
        refine LoopK.Ev.bind_ (l1Fixed_ev _ (by omega) 1 (by omega)) ?_
        simp only [c, if_true]
        exact hr1
      · simp only [impl_prefixed.l0, hn', if_true, e3, e4, e5, e6, e7]
        refine LoopK.Ev.bind_ (bigEndian_ev _ 1 (by omega)) ?_
        simp only [c, if_true]
        exact hr2
    · exact prefix_last n s h0 (by omega) (by omega)
theorem pow_in (j : Nat) (h : j ≤ 8) : (0 : Int) < 2 ^ j ∧ (2 : Int) ^ j ≤ 256 := by
  refine ⟨Int.pow_pos (by decide), ?_⟩
  have h1 : 2 ^ j ≤ 2 ^ 8 := Nat.pow_le_pow_right (by decide) h
  have e : (2 : Int) ^ j = ((2 ^ j : Nat) : Int) := by simp
  rw [e]
  omega
/-- Both ways to write a number with a prefix. -/
theorem prefixed_ev (n : Int) (j : Nat) (first : Int) (hn : 0 ≤ n ∧ n ≤ 1000000000) (hj : j ≤ 8) (hf : 0 ≤ first ∧ first ≤ 255) (hm : first % 2 ^ j = 0) : ∃ r, Ev (fun k => spec_l15Prefix.f k n (j : Int) first) r ∧ Ev (fun k => impl_prefixed.f k n (j : Int) first) r := by
  obtain ⟨p0, p1⟩ := pow_in j hj
  have s1 : shl .i64 1 (j : Int) = 2 ^ j := shl_pow _ j rfl hj
  have u1 : IntKind.u64.wrap (j : Int) = (j : Int) := u64_id _ (by omega) (by omega)
  have w1 : wrap64 ((2 : Int) ^ j - 1) = 2 ^ j - 1 := w64 _ (by omega)
  have c0 : 0 ≤ (j : Int) := by omega
  have hor : ∀ y : Int, 0 ≤ y → y < 2 ^ j → Go.bits .or .i64 first y = first + y := fun y h0 h1 => bits_join .i64 32 (by decide) i64w j first y hf.1 hm (by omega) h0 h1 (by omega)
  unfold spec_l15Prefix.f impl_prefixed.f
  simp only [u1, c0, if_true, s1, w1]
  by_cases hlt : n < 2 ^ j - 1
  · have e1 := hor n hn.1 (by omega)
    have e2 : wrap64 (first + n) = first + n := w64 _ (by omega)
    have e3 : IntKind.u64.wrap (first + n) = first + n := u64_id _ (by omega) (by omega)
    simp only [hlt, if_true, e1, e2, e3]
    exact ⟨_, LoopK.Ev.bind_ (l1Fixed_ev _ (by omega) 1 (by omega)) (Ev.now _), LoopK.Ev.bind_ (bigEndian_ev _ 1 (by omega)) (Ev.now _)⟩
  · have e1 := hor (2 ^ j - 1) (by omega) (by omega)
    have e2 : wrap64 (first + (2 ^ j - 1)) = first + (2 ^ j - 1) := w64 _ (by omega)
    have e3 : IntKind.u64.wrap (first + (2 ^ j - 1)) = first + (2 ^ j - 1) := u64_id _ (by omega) (by omega)
    have e4 : wrap64 (n - (2 ^ j - 1)) = n - (2 ^ j - 1) := w64 _ (by omega)
    have hs : (strOfNums (be (first + (2 ^ j - 1)) 1)).size = 1 := by rw [strOfNums_size, be_length]
    obtain ⟨r, h1, h2⟩ := prefix_loops 5 (n - (2 ^ j - 1)) (strOfNums (be (first + (2 ^ j - 1)) 1)) (by omega) (by omega) (by omega) (by omega)
    simp only [hlt, if_false, e1, e2, e3, e4]
    exact ⟨r, LoopK.Ev.bind_ (l1Fixed_ev _ (by omega) 1 (by omega)) h1, LoopK.Ev.bind_ (bigEndian_ev _ 1 (by omega)) h2⟩

theorem FnExactPrefixBytes : laws_FnExactPrefixBytes.Pure := by
  intro n b first _ _ _
  refine Ev.rounds ?_
  unfold laws_FnExactPrefixBytes.f spec_PrefixBytes.f impl_PrefixBytes.f impl_bitsOk.f
  simp only [l1In_eq, in_eq, Option.bind_some, decide_eq_true_eq]
  by_cases h1 : 0 ≤ n ∧ n ≤ 1000000000
  · by_cases h2 : 3 ≤ b ∧ b ≤ 8
    · by_cases h3 : 0 ≤ first ∧ first ≤ 255
      · obtain ⟨j, rfl⟩ : ∃ j : Nat, b = j := ⟨b.toNat, by omega⟩
        have hj : j ≤ 8 := by omega
        obtain ⟨p0, p1⟩ := pow_in j hj
        have s1 : shl .i64 1 (j : Int) = 2 ^ j := shl_pow _ j rfl hj
        have u1 : IntKind.u64.wrap (j : Int) = (j : Int) := u64_id _ (by omega) (by omega)
        have w1 : wrap64 ((2 : Int) ^ j - 1) = 2 ^ j - 1 := w64 _ (by omega)
        have c0 : 0 ≤ (j : Int) := by omega
        have c1 : ¬ ((2 : Int) ^ j = 0) := by omega
        have e1 : Go.bits .and .i64 first (2 ^ j - 1) = first % 2 ^ j := bits_mask .i64 32 (by decide) i64w j (by omega) first h3.1 (by omega)
        have e2 : Int.tmod first (2 ^ j) = first % 2 ^ j := Int.tmod_eq_emod_of_nonneg h3.1
        simp only [h1, h2, h3, and_self, if_true, u1, c0, s1, w1, e1, e2, c1, if_false]
        by_cases hm : first % 2 ^ j = 0
        · obtain ⟨r, g1, g2⟩ := prefixed_ev n j first h1 hj h3 hm
          simp only [hm, if_true]
          refine LoopK.Ev.bind_ (LoopK.Ev.bind_ g1 (Ev.now _)) ?_
          refine LoopK.Ev.bind_ (LoopK.Ev.bind_ g2 (Ev.now _)) ?_
          simp only [if_true, bne_self_eq_false, Bool.false_eq_true, if_false]
          exact Ev.now _
        · simp only [hm, if_false, Option.bind_some, if_true, bne_self_eq_false, Bool.false_eq_true]
          exact Ev.now _
      · simp only [h1, h2, h3, and_self, if_true, if_false, Option.bind_some, bne_self_eq_false, Bool.false_eq_true]
        exact Ev.now _
    · simp only [h1, h2, and_self, if_true, if_false, Option.bind_some, bne_self_eq_false, Bool.false_eq_true]
      exact Ev.now _
  · simp only [h1, if_false, Option.bind_some, if_true, bne_self_eq_false, Bool.false_eq_true]
    exact Ev.now _

end Go.Proofs.Ytikomfdkdoognaa.Pure
