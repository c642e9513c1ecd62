/- The pure statement of the law FnExactCarriedBytes: the program's function and the reference answer alike. -/
import Derived.Test.YtikomfdkdoognaaSFnExactCarriedBytes
import Derived.Test.YtikomfdkdoognaaLoopK
namespace Go.Proofs.Ytikomfdkdoognaa.Pure
open Go.RowKit Go.Proofs.Ytikomfdkdoognaa.PFnExactCarriedBytes Go.Proofs.YtikomfdkdoognaaW.PrintWords Go.Proofs.YtikomfdkdoognaaW.PrintLast Go.Proofs.Ytikomfdkdoognaa.SFnExactCarriedBytes
set_option linter.unusedVariables false
set_option linter.unusedSimpArgs false

open Go.Proofs.Ytikomfdkdoognaa.LoopK (copyEv sameEv markEv heldEv foldEv mk mk_length at_lt at_lt' at_nn at_nlt at_stop at_getD at_set at_set2 at_snoc len_snoc at_w w64 firstEv find_any chk last_or at_prev at_prev_lt at_prev_nn at_prev_pos at_prev_w pairEv)

/-- So many bytes of a number, the highest one first. -/
def be : Int → Nat → List Int
  | _, 0 => []
  | n, m + 1 => be (n / 256) m ++ [n % 256]
theorem be_length : ∀ (m : Nat) (n : Int), (be n m).length = m
  | 0, _ => rfl
  | m + 1, n => by simp [be, be_length m]
theorem pow256 (m : Nat) : (0 : Int) < 256 ^ m := Int.pow_pos (by decide)
theorem be_cons : ∀ (m : Nat) (n : Int), be n (m + 1) = (n / 256 ^ m % 256) :: be n m
  | 0, n => by simp [be]
  | m + 1, n => by
    have e : n / 256 / 256 ^ m = n / 256 ^ (m + 1) := by
      rw [Int.ediv_ediv_of_nonneg (by decide), Int.pow_succ, Int.mul_comm]
    rw [be, be_cons m (n / 256), e]
    simp [be]
theorem be_mod : ∀ (m : Nat) (n q : Int), be (n + 256 ^ m * q) m = be n m
  | 0, _, _ => rfl
  | m + 1, n, q => by
    have e1 : n + 256 ^ (m + 1) * q = n + 256 * (256 ^ m * q) := by rw [Int.pow_succ, Int.mul_comm (256 ^ m) 256, Int.mul_assoc]
    have e2 : (n + 256 * (256 ^ m * q)) / 256 = n / 256 + 256 ^ m * q := by omega
    have e3 : (n + 256 * (256 ^ m * q)) % 256 = n % 256 := by omega
    rw [be, e1, e2, e3, be_mod m]
    rfl
theorem strOfNums_size (l : List Int) : (strOfNums l).size = l.length := by simp [strOfNums, ByteArray.size]
theorem strOfNums_toList (l : List Int) : (strOfNums l).toList = l.map fun n => UInt8.ofNat n.toNat := by
  rw [ByteArray.toList_eq]
  simp [strOfNums]
theorem strOfNums_append (a b : List Int) : strOfNums a ++ strOfNums b = strOfNums (a ++ b) := by
  apply ByteArray.ext
  simp [strOfNums]
theorem shr8 (x : Int) (i : Nat) (hi : 8 * i ≤ 9223372036854775807) (hx : 0 ≤ x ∧ x < 18446744073709551616) : shr .u64 x (8 * (i : Int)) = x / 256 ^ i ∧ shr .i64 x (8 * (i : Int)) = x / 256 ^ i := by
  have hp : (256 : Int) ^ i = 2 ^ (8 * i) := by rw [Int.pow_mul]; rfl
  have e : (8 * (i : Int)).toNat = 8 * i := by omega
  have key : x / 2 ^ min (8 * i) 64 = x / 256 ^ i := by
    rcases Nat.lt_or_ge (8 * i) 64 with h | h
    · rw [hp, Nat.min_eq_left (by omega)]
    · rw [Nat.min_eq_right h, hp]
      have h1 : (2 : Int) ^ 64 ≤ 2 ^ (8 * i) := by exact_mod_cast Nat.pow_le_pow_right (by decide) h
      rw [Int.ediv_eq_zero_of_lt hx.1 (by omega), Int.ediv_eq_zero_of_lt hx.1 (by omega)]
  unfold shr
  rw [e]
  exact ⟨key, key⟩
theorem l1Fixed_loop (x : Int) (hx : 0 ≤ x ∧ x < 18446744073709551616) : ∀ (m : Nat) (out : List Int), m ≤ 1000 → out.length + m ≤ 100000 → Ev (fun k => spec_l1Fixed.l0 k x out ((m : Int) - 1)) (strOfNums (out ++ be x m))
  | 0, out, _, _ => by
    refine LoopK.Ev.succ ?_
    have c : ¬ (((0 : Nat) : Int) - 1 ≥ 0) := by omega
    simp only [spec_l1Fixed.l0, c, if_false, be, List.append_nil]
    exact Ev.now _
  | m + 1, out, hm, ho => by
    refine LoopK.Ev.succ ?_
    have e0 : ((m + 1 : Nat) : Int) - 1 = (m : Int) := by omega
    have c : (m : Int) ≥ 0 := by omega
    have w0 : wrap64 (8 * (m : Int)) = 8 * (m : Int) := w64 _ (by omega)
    have w1 : IntKind.u64.wrap (8 * (m : Int)) = 8 * (m : Int) := by
      simp [IntKind.wrap, IntKind.bits, IntKind.signed]
      omega
    have c1 : 0 ≤ 8 * (m : Int) := by omega
    have c2 : out.length < 140737488355328 := by omega
    have w2 : wrap64 ((m : Int) - 1) = (m : Int) - 1 := w64 _ (by omega)
    rw [e0]
    simp only [spec_l1Fixed.l0, c, if_true, w0, w1, c1, c2, w2, (shr8 x m (by omega) hx).2]
    refine LoopK.Ev.to (l1Fixed_loop x hx m _ (by omega) (by simp; omega)) ?_
    rw [be_cons, List.append_assoc]
    rfl
theorem l1Fixed_ev (x : Int) (hx : 0 ≤ x ∧ x < 18446744073709551616) (m : Nat) (hm : m ≤ 1000) : Ev (fun k => spec_l1Fixed.f k x (m : Int)) (strOfNums (be x m)) := by
  unfold spec_l1Fixed.f
  have w : wrap64 ((m : Int) - 1) = (m : Int) - 1 := w64 _ (by omega)
  simp only [w]
  simpa using l1Fixed_loop x hx m [] hm (by simp; omega)
theorem bigEndian_loop : ∀ (m : Nat) (x : Int) (tail : List Int), m ≤ 1000 → tail.length + m ≤ 100000 → Ev (fun k => impl_bigEndian.l0 k x (List.replicate m 0 ++ tail) ((m : Int) - 1)) (strOfNums (be x m ++ tail))
  | 0, x, tail, _, _ => by
    refine LoopK.Ev.succ ?_
    have c : ¬ (((0 : Nat) : Int) - 1 ≥ 0) := by omega
    simp only [impl_bigEndian.l0, c, if_false, be, List.replicate_zero, List.nil_append]
    exact Ev.now _
  | m + 1, x, tail, hm, ht => by
    refine LoopK.Ev.succ ?_
    have e0 : ((m + 1 : Nat) : Int) - 1 = (m : Int) := by omega
    have c : (m : Int) ≥ 0 := by omega
    have c1 : 0 ≤ (m : Int) := by omega
    have c2 : (m : Int) < ((List.replicate (m + 1) (0 : Int) ++ tail).length : Int) := by
      rw [List.length_append, List.length_replicate]
      omega
    have w2 : wrap64 ((m : Int) - 1) = (m : Int) - 1 := w64 _ (by omega)
    have e1 : (List.replicate (m + 1) (0 : Int) ++ tail).set (m : Int).toNat (x % 256) = List.replicate m 0 ++ (x % 256 :: tail) := by
      rw [List.replicate_succ', List.append_assoc]
      have : (m : Int).toNat = (List.replicate m (0 : Int)).length := by simp
      rw [this, List.set_append_right _ _ (Nat.le_refl _)]
      simp
    rw [e0]
    simp only [impl_bigEndian.l0, c, if_true, c1, c2, w2, e1]
    refine LoopK.Ev.to (bigEndian_loop m (x / 256) (x % 256 :: tail) (by omega) (by rw [List.length_cons]; omega)) ?_
    simp [be]
theorem bigEndian_ev (x : Int) (m : Nat) (hm : m ≤ 1000) : Ev (fun k => impl_bigEndian.f k x (m : Int)) (strOfNums (be x m)) := by
  unfold impl_bigEndian.f
  have c1 : 0 ≤ (m : Int) := by omega
  have c2 : (m : Int).toNat = m := by omega
  have c3 : m ≤ 281474976710656 := by omega
  have w : wrap64 ((m : Int) - 1) = (m : Int) - 1 := w64 _ (by omega)
  simp only [c1, if_true, c2, c3, w]
  simpa using bigEndian_loop m x [] hm (by simp; omega)

theorem shr8s (x : Int) (i : Nat) (hi : i < 8) : shr .i64 x (8 * (i : Int)) = x / 256 ^ i := by
  have hp : (256 : Int) ^ i = 2 ^ (8 * i) := by rw [Int.pow_mul]; rfl
  have e : (8 * (i : Int)).toNat = 8 * i := by omega
  unfold shr
  rw [e, hp, Nat.min_eq_left (by simp [IntKind.bits]; omega)]
theorem l1Fixed_loop_s (x : Int) : ∀ (m : Nat) (out : List Int), m ≤ 8 → out.length + m ≤ 100000 → Ev (fun k => spec_l1Fixed.l0 k x out ((m : Int) - 1)) (strOfNums (out ++ be x m))
  | 0, out, _, _ => by
    refine LoopK.Ev.succ ?_
    have c : ¬ (((0 : Nat) : Int) - 1 ≥ 0) := by omega
    simp only [spec_l1Fixed.l0, c, if_false, be, List.append_nil]
    exact Ev.now _
  | m + 1, out, hm, ho => by
    refine LoopK.Ev.succ ?_
    have e0 : ((m + 1 : Nat) : Int) - 1 = (m : Int) := by omega
    have c : (m : Int) ≥ 0 := by omega
    have w0 : wrap64 (8 * (m : Int)) = 8 * (m : Int) := w64 _ (by omega)
    have w1 : IntKind.u64.wrap (8 * (m : Int)) = 8 * (m : Int) := by
      simp [IntKind.wrap, IntKind.bits, IntKind.signed]
      omega
    have c1 : 0 ≤ 8 * (m : Int) := by omega
    have c2 : out.length < 140737488355328 := by omega
    have w2 : wrap64 ((m : Int) - 1) = (m : Int) - 1 := w64 _ (by omega)
    rw [e0]
    simp only [spec_l1Fixed.l0, c, if_true, w0, w1, c1, c2, w2, shr8s x m (by omega)]
    refine LoopK.Ev.to (l1Fixed_loop_s x m _ (by omega) (by simp; omega)) ?_
    rw [be_cons, List.append_assoc]
    rfl
theorem l1Fixed_any (x : Int) (m : Nat) (hm : m ≤ 8) : Ev (fun k => spec_l1Fixed.f k x (m : Int)) (strOfNums (be x m)) := by
  unfold spec_l1Fixed.f
  have w : wrap64 ((m : Int) - 1) = (m : Int) - 1 := w64 _ (by omega)
  simp only [w]
  simpa using l1Fixed_loop_s x m [] hm (by simp; omega)
theorem be_same (x y : Int) (m : Nat) (hm : m ≤ 8) (h : x % 18446744073709551616 = y % 18446744073709551616) : be x m = be y m := by
  have e : x = y + 18446744073709551616 * (x / 18446744073709551616 - y / 18446744073709551616) := by omega
  have hp : (18446744073709551616 : Int) = 256 ^ m * 256 ^ (8 - m) := by
    rw [← Int.pow_add, Nat.add_sub_cancel' hm]
    decide
  rw [e, hp, Int.mul_assoc, be_mod]
theorem wrap_mod (x : Int) : (IntKind.i64.wrap x) % 18446744073709551616 = x % 18446744073709551616 ∧ (IntKind.u64.wrap x) % 18446744073709551616 = x % 18446744073709551616 := by
  rw [IntKind.wrap_i64]
  rw [IntKind.wrap_u64]
  omega
theorem or_same (x x' y y' : Int) (hx : BitVec.ofInt 64 x = BitVec.ofInt 64 x') (hy : BitVec.ofInt 64 y = BitVec.ofInt 64 y') : (Go.bits .or .i64 x y) % 18446744073709551616 = (Go.bits .or .u64 x' y') % 18446744073709551616 := by
  have e1 : Go.bits .or .i64 x y = IntKind.i64.wrap ((BitVec.ofInt 64 x ||| BitVec.ofInt 64 y).toNat : Int) := rfl
  have e2 : Go.bits .or .u64 x' y' = IntKind.u64.wrap ((BitVec.ofInt 64 x' ||| BitVec.ofInt 64 y').toNat : Int) := rfl
  rw [e1, e2, (wrap_mod _).1, (wrap_mod _).2, hx, hy]
theorem ofInt_u64 (x : Int) : BitVec.ofInt 64 x = BitVec.ofInt 64 (IntKind.u64.wrap x) := by
  apply BitVec.eq_of_toInt_eq
  rw [BitVec.toInt_ofInt, BitVec.toInt_ofInt, IntKind.wrap_u64]
  exact (Int.emod_bmod x 18446744073709551616).symm
theorem or_zero (x : Int) : (Go.bits .or .u64 (IntKind.u64.wrap x) 0) % 18446744073709551616 = x % 18446744073709551616 := by
  have e2 : Go.bits .or .u64 (IntKind.u64.wrap x) 0 = IntKind.u64.wrap ((BitVec.ofInt 64 (IntKind.u64.wrap x) ||| BitVec.ofInt 64 0).toNat : Int) := rfl
  have e3 : BitVec.ofInt 64 (IntKind.u64.wrap x) ||| BitVec.ofInt 64 0 = BitVec.ofInt 64 (IntKind.u64.wrap x) := by simp
  rw [e2, (wrap_mod _).2, e3, ← ofInt_u64]
  rw [BitVec.toNat_ofInt]
  omega
/-- How many bytes a number takes. -/
def vsize (n : Int) : Nat := if n < 64 then 1 else if n < 16384 then 2 else if n < 1073741824 then 4 else 8
/-- The bytes of a number of that kind. -/
def vbytes (n : Int) : ByteArray := strOfNums (be (Go.bits .or .u64 (IntKind.u64.wrap n) (shl .u64 (vfirst (vsize n)) (8 * (vsize n : Int) - 2))) (vsize n))
theorem vsize_in (n : Int) : 1 ≤ vsize n ∧ vsize n ≤ 8 := by
  unfold vsize
  split
  · omega
  · split
    · omega
    · split <;> omega
theorem vbytes_size (n : Int) : (vbytes n).size = vsize n := by
  unfold vbytes
  rw [strOfNums_size, be_length]
theorem varintSize_eq (n : Int) : impl_varintSize.f n = some ((vsize n : Nat) : Int) := by
  unfold impl_varintSize.f vsize
  split
  · rfl
  · split
    · rfl
    · split <;> rfl
theorem l1Size_eq (n : Int) : spec_l1Size.f n = some ((vsize n : Nat) : Int) := by
  unfold spec_l1Size.f vsize
  split
  · rfl
  · split
    · rfl
    · split <;> rfl
theorem varint_ev (n : Int) : Ev (fun k => impl_varint.f k n) (vbytes n) := by
  unfold impl_varint.f
  simp only [varintSize_eq, Option.bind_some]
  exact bigEndian_ev _ _ (by have := vsize_in n; omega)
theorem l1Var_ev (n : Int) : Ev (fun k => spec_l1Var.f k n) (vbytes n) := by
  unfold spec_l1Var.f
  simp only [l1Size_eq, Option.bind_some]
  have hs := vbytes_size n
  have hv : vsize n = 1 ∨ vsize n = 2 ∨ vsize n = 4 ∨ vsize n = 8 := by
    unfold vsize
    split
    · omega
    · split
      · omega
      · split <;> omega
  have fin : ∀ (x : Int) (m : Nat) (h : vsize n = m), m ≤ 8 → x % 18446744073709551616 = (Go.bits .or .u64 (IntKind.u64.wrap n) (shl .u64 (vfirst (m : Int)) (8 * (m : Int) - 2))) % 18446744073709551616 → Ev (fun k => (spec_l1Fixed.f k x (m : Int)).bind fun t => some t) (vbytes n) := by
    intro x m h hm hx
    refine LoopK.Ev.bind_ (l1Fixed_any x m hm) ?_
    unfold vbytes
    rw [h, be_same _ _ m hm hx]
    exact Ev.now _
  rcases hv with h | h | h | h <;> rw [h]
  · simpa using fin n 1 h (by omega) (or_zero n).symm
  · simpa using fin (Go.bits .or .i64 n 16384) 2 h (by omega) (or_same _ _ _ _ (ofInt_u64 n) rfl)
  · simpa using fin (Go.bits .or .i64 n 2147483648) 4 h (by omega) (or_same _ _ _ _ (ofInt_u64 n) rfl)
  · simpa using fin (Go.bits .or .i64 n (-4611686018427387904)) 8 h (by omega) (or_same _ _ _ _ (ofInt_u64 n) rfl)

theorem l1In_eq (a b c : Int) : spec_l1In.f a b c = some (decide (b ≤ a ∧ a ≤ c)) := by
  unfold spec_l1In.f
  by_cases h : b ≤ a
  · rw [if_pos h]; simp [h]
  · rw [if_neg h]; simp [h]
theorem in_eq (a b c : Int) : impl_in.f a b c = some (decide (b ≤ a ∧ a ≤ c)) := l1In_eq a b c
theorem and_ite (p q : Prop) [Decidable p] [Decidable q] : (if p then some (decide q) else some false) = some (decide (p ∧ q)) := by
  by_cases h : p <;> simp [h]

theorem goodCarried_ev (a b : Int) (s : ByteArray) : ∃ r, spec_GoodCarried.f a b s = some r ∧ impl_GoodCarried.f a b s = some r ∧ (r = true → s.size ≤ 1200) := by
  unfold spec_GoodCarried.f impl_GoodCarried.f spec_l1Known.f impl_isStream.f impl_isVarint.f
  simp only [l1In_eq, in_eq, Option.bind_some, decide_eq_true_eq]
  by_cases h1 : 0 ≤ a ∧ a ≤ 4611686018427387900
  · by_cases h2 : a.tmod 4 = 0
    · simp only [if_pos h1, h2, if_true, Option.bind_some, beq_self_eq_true]
      split
      · refine ⟨_, rfl, rfl, fun h => ?_⟩
        have := of_decide_eq_true h
        omega
      · exact ⟨_, rfl, rfl, fun h => by cases h⟩
    · have h3 : (a.tmod 4 == 0) = false := by simpa using h2
      simp [h1, h3, h2]
  · simp [h1]

theorem FnExactCarriedBytes : SFnExactCarriedBytes.Pure := by
  intro a b s _ _ _
  refine Ev.rounds ?_
  unfold laws_FnExactCarriedBytes.f laws_toCarried.f laws_szCarried.f
  obtain ⟨r, h1, h2, h3⟩ := goodCarried_ev a b s
  split <;> simp only [Option.bind_some] <;> split
  all_goals first | exact Ev.now _ | skip
  all_goals
    unfold spec_CarriedBytes.f impl_CarriedBytes.f
    simp only [h1, h2, Option.bind_some]
    cases r with
    | false =>
      simp
      exact Ev.now _
    | true =>
      have hs := h3 rfl
      have k1 := vbytes_size (wrap64 (a.tdiv 4))
      have k2 := vbytes_size b
      have k3 := vsize_in (wrap64 (a.tdiv 4))
      have k4 := vsize_in b
      have c1 : (vbytes (wrap64 (a.tdiv 4))).size + (vbytes b).size ≤ 9223372036854775807 := by omega
      have c2 : (vbytes (wrap64 (a.tdiv 4)) ++ vbytes b).size + s.size ≤ 9223372036854775807 := by rw [ByteArray.size_append]; omega
      simp only [if_true]
      refine LoopK.Ev.bind_ (LoopK.Ev.bind_ (a := vbytes (wrap64 (a.tdiv 4)) ++ vbytes b ++ s) ?_ (Ev.now _)) ?_
      · unfold spec_l16Carried.f
        refine LoopK.Ev.bind_ (l1Var_ev _) ?_
        refine LoopK.Ev.bind_ (l1Var_ev _) ?_
        simp only [c1, c2, if_true]
        exact Ev.now _
      · refine LoopK.Ev.bind_ (a := (vbytes (wrap64 (a.tdiv 4)) ++ vbytes b ++ s, true)) ?_ ?_
        · refine LoopK.Ev.bind_ (varint_ev _) ?_
          refine LoopK.Ev.bind_ (varint_ev _) ?_
          simp only [c1, c2, if_true]
          exact Ev.now _
        · simp
          exact Ev.now _

end Go.Proofs.Ytikomfdkdoognaa.Pure
