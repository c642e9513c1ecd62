/- The pure statement of the law FnExactCapsulesBytes: the program's function and the reference answer alike. -/
import Derived.Test.YthkmjfapljmmpaaSFnExactCapsulesBytes
import Derived.Test.YthkmjfapljmmpaaLoopK
namespace Go.Proofs.Ythkmjfapljmmpaa.Pure
open Go.RowKit Go.Proofs.Ythkmjfapljmmpaa.PFnExactCapsulesBytes Go.Proofs.YthkmjfapljmmpaaW.PrintWords Go.Proofs.YthkmjfapljmmpaaW.PrintLast Go.Proofs.Ythkmjfapljmmpaa.SFnExactCapsulesBytes
set_option linter.unusedVariables false
set_option linter.unusedSimpArgs false

open Go.Proofs.Ythkmjfapljmmpaa.LoopK (copyEv sameEv markEv heldEv foldEv mk mk_length at_lt at_lt' at_nn at_nlt at_stop at_getD at_set at_set2 at_snoc len_snoc at_w w64 firstEv find_any chk last_or at_prev at_prev_lt at_prev_nn at_prev_pos at_prev_w pairEv)

/-- The copy of an element. -/
def cvCapsule (x : S137) : S139 := ⟨x.f0, x.f1⟩

theorem toCapsuleS_ev (l : List S137) (h : l.length ≤ 1048576) : Ev (fun k => laws_toCapsuleS.f k l) (l.map cvCapsule) := by
  have key := copyEv (fun k xs ys i => laws_toCapsuleS.l0 k xs ys i) cvCapsule z139 1048576
    (fun xs ys => by
      refine LoopK.Ev.succ ?_
      simp only [laws_toCapsuleS.l0, at_stop, if_false]
      exact Ev.now _)
    (fun p x r q y s res hq hB hs ih => by
      refine LoopK.Ev.succ ?_
      have e1 := at_w p x r (by omega)
      have e2 := at_lt' p q y s hq
      have e3 : (q ++ y :: s).set (p.length : Int).toNat (cvCapsule x) = q ++ cvCapsule x :: s := at_set2 p q y _ s hq
      simp only [cvCapsule] at e3 ih
      simp only [laws_toCapsuleS.l0, at_lt, at_nn, if_true, laws_toCapsule.f, Option.bind_some, rd_T137, at_getD, e1, e2, e3]
      exact ih) l [] (by simpa using h)
  unfold laws_toCapsuleS.f
  have c1 : 0 ≤ (l.length : Int) := by omega
  have c2 : (l.length : Int).toNat = l.length := by omega
  simp only [c1, if_true, c2]
  have c3 : l.length ≤ 11728124029610 := by omega
  simp only [c3, if_true]
  simpa using key

theorem eqCapsule_self (x : S139) : laws_eqCapsule.f x.f0 x.f1 x.f0 x.f1 = some true := by
  unfold laws_eqCapsule.f
  simp
theorem eqCapsuleS_ev (l : List S139) (h : l.length ≤ 4611686018427387904) : Ev (fun k => laws_eqCapsuleS.f k l l) true := by
  have key := sameEv (fun k xs ys i => laws_eqCapsuleS.l0 k xs ys i) 4611686018427387904
    (fun xs ys => by
      refine LoopK.Ev.succ ?_
      simp only [laws_eqCapsuleS.l0, at_stop, if_false]
      exact Ev.now _)
    (fun p x r hB ih => by
      refine LoopK.Ev.succ ?_
      have e1 := at_w p x r hB
      simp only [laws_eqCapsuleS.l0, at_lt, at_nn, if_true, eqCapsule_self, Option.bind_some, rd_T139, at_getD, e1]
      exact ih) l [] (by simpa using h)
  unfold laws_eqCapsuleS.f
  simp only [if_true]
  simpa using key

/-- What the strings of elements take. -/
def totCapsule : List S137 → Int
  | [] => 0
  | x :: r => (x.f1.size : Int) + totCapsule r
theorem totCapsule_nonneg : ∀ l, 0 ≤ totCapsule l
  | [] => by simp [totCapsule]
  | x :: r => by
    have := totCapsule_nonneg r
    simp only [totCapsule]
    omega
theorem szCapsule_some (x : S137) (a : Int) (ha : 0 ≤ a ∧ a ≤ 1048576) (hx : x.f1.size ≤ 140737488351232) : ∃ r, laws_szCapsule.f x.f0 x.f1 a = some r ∧ (0 ≤ r → r = a - ((x.f1.size : Int))) := by
  unfold laws_szCapsule.f
  have e : wrap64 (a - (x.f1.size : Int)) = a - (x.f1.size : Int) := w64 _ (by omega)
  rw [e]
  by_cases h1 : a - (x.f1.size : Int) < 0
  · rw [if_pos h1]
    exact ⟨_, rfl, fun h => by omega⟩
  · rw [if_neg h1]
    exact ⟨_, rfl, fun h => rfl⟩
theorem szCapsuleS_loop : ∀ (r p : List S137) (a : Int), (p ++ r).length ≤ 4611686018427387904 → 0 ≤ a → a ≤ 1048576 → (∀ x, x ∈ r → x.f1.size ≤ 140737488351232) →
    ∃ q, Ev (fun k => laws_szCapsuleS.l0 k (p ++ r) a (p.length : Int)) q ∧ -1 ≤ q ∧ (0 ≤ q → q = a - totCapsule r)
  | [], p, a, hB, h0, h1, _ => by
    refine ⟨a, LoopK.Ev.succ ?_, by omega, fun _ => by simp [totCapsule]⟩
    simp only [List.append_nil, laws_szCapsuleS.l0, at_stop, if_false]
    exact Ev.now _
  | x :: r, p, a, hB, h0, h1, hx => by
    have hx0 : x.f1.size ≤ 140737488351232 := hx x (by simp)
    have e1 := at_w p x r hB
    have tn := totCapsule_nonneg r
    obtain ⟨t, ht, ht1⟩ := szCapsule_some x a ⟨h0, h1⟩ hx0
    by_cases hn : t < 0
    · refine ⟨-1, LoopK.Ev.succ ?_, by omega, fun h => by omega⟩
      simp only [laws_szCapsuleS.l0, at_lt, at_nn, if_true, rd_T137, at_getD, ht, Option.bind_some, hn]
      exact Ev.now _
    · have ht2 := ht1 (by omega)
      obtain ⟨q, hq, q2, q3⟩ := szCapsuleS_loop r (p ++ [x]) t (by simpa using hB) (by omega) (by omega) (fun y hy => hx y (by simp [hy]))
      rw [← at_snoc, len_snoc] at hq
      refine ⟨q, LoopK.Ev.succ ?_, q2, fun h => ?_⟩
      · simp only [laws_szCapsuleS.l0, at_lt, at_nn, if_true, rd_T137, at_getD, ht, Option.bind_some, hn, if_false, e1]
        exact hq
      · rw [q3 h]
        simp only [totCapsule]
        omega
theorem szCapsuleS_ev (l : List S137) (a : Int) (ha : 0 ≤ a ∧ a ≤ 1048576) (h : l.length ≤ 140737488351232) (hx : ∀ x, x ∈ l → x.f1.size ≤ 140737488351232) :
    ∃ r, Ev (fun k => laws_szCapsuleS.f k l a) r ∧ -1 ≤ r ∧ (0 ≤ r → r = a - l.length - totCapsule l) := by
  unfold laws_szCapsuleS.f
  have e : wrap64 (a - (l.length : Int)) = a - (l.length : Int) := w64 _ (by omega)
  simp only [e]
  by_cases hn : a - (l.length : Int) < 0
  · simp only [hn, if_true]
    exact ⟨-1, Ev.now _, by omega, fun h => by omega⟩
  · simp only [hn, if_false]
    obtain ⟨q, hq, q2, q3⟩ := szCapsuleS_loop l [] (a - l.length) (by simp; omega) (by omega) (by omega) hx
    exact ⟨q, by simpa using hq, q2, q3⟩

/-- So many bytes of a number, the highest one first. -/
def be : Int → Nat → List Int
  | _, 0 => []
  | n, m + 1 => be (n / 256) m ++ [n % 256]
theorem be_length : ∀ (m : Nat) (n : Int), (be n m).length = m
  | 0, _ => rfl
  | m + 1, n => by simp [be, be_length m]
theorem pow256 (m : Nat) : (0 : Int) < 256 ^ m := Int.pow_pos (by decide)
theorem be_cons : ∀ (m : Nat) (n : Int), be n (m + 1) = (n / 256 ^ m % 256) :: be n m
  | 0, n => by simp [be]
  | m + 1, n => by
    have e : n / 256 / 256 ^ m = n / 256 ^ (m + 1) := by
      rw [Int.ediv_ediv_of_nonneg (by decide), Int.pow_succ, Int.mul_comm]
    rw [be, be_cons m (n / 256), e]
    simp [be]
theorem be_mod : ∀ (m : Nat) (n q : Int), be (n + 256 ^ m * q) m = be n m
  | 0, _, _ => rfl
  | m + 1, n, q => by
    have e1 : n + 256 ^ (m + 1) * q = n + 256 * (256 ^ m * q) := by rw [Int.pow_succ, Int.mul_comm (256 ^ m) 256, Int.mul_assoc]
    have e2 : (n + 256 * (256 ^ m * q)) / 256 = n / 256 + 256 ^ m * q := by omega
    have e3 : (n + 256 * (256 ^ m * q)) % 256 = n % 256 := by omega
    rw [be, e1, e2, e3, be_mod m]
    rfl
theorem strOfNums_size (l : List Int) : (strOfNums l).size = l.length := by simp [strOfNums, ByteArray.size]
theorem strOfNums_toList (l : List Int) : (strOfNums l).toList = l.map fun n => UInt8.ofNat n.toNat := by
  rw [ByteArray.toList_eq]
  simp [strOfNums]
theorem strOfNums_append (a b : List Int) : strOfNums a ++ strOfNums b = strOfNums (a ++ b) := by
  apply ByteArray.ext
  simp [strOfNums]
theorem shr8 (x : Int) (i : Nat) (hi : 8 * i ≤ 9223372036854775807) (hx : 0 ≤ x ∧ x < 18446744073709551616) : shr .u64 x (8 * (i : Int)) = x / 256 ^ i ∧ shr .i64 x (8 * (i : Int)) = x / 256 ^ i := by
  have hp : (256 : Int) ^ i = 2 ^ (8 * i) := by rw [Int.pow_mul]; rfl
  have e : (8 * (i : Int)).toNat = 8 * i := by omega
  have key : x / 2 ^ min (8 * i) 64 = x / 256 ^ i := by
    rcases Nat.lt_or_ge (8 * i) 64 with h | h
    · rw [hp, Nat.min_eq_left (by omega)]
    · rw [Nat.min_eq_right h, hp]
      have h1 : (2 : Int) ^ 64 ≤ 2 ^ (8 * i) := by exact_mod_cast Nat.pow_le_pow_right (by decide) h
      rw [Int.ediv_eq_zero_of_lt hx.1 (by omega), Int.ediv_eq_zero_of_lt hx.1 (by omega)]
  unfold shr
  rw [e]
  exact ⟨key, key⟩
theorem l1Fixed_loop (x : Int) (hx : 0 ≤ x ∧ x < 18446744073709551616) : ∀ (m : Nat) (out : List Int), m ≤ 1000 → out.length + m ≤ 100000 → Ev (fun k => spec_l1Fixed.l0 k x out ((m : Int) - 1)) (strOfNums (out ++ be x m))
  | 0, out, _, _ => by
    refine LoopK.Ev.succ ?_
    have c : ¬ (((0 : Nat) : Int) - 1 ≥ 0) := by omega
    simp only [spec_l1Fixed.l0, c, if_false, be, List.append_nil]
    exact Ev.now _
  | m + 1, out, hm, ho => by
    refine LoopK.Ev.succ ?_
    have e0 : ((m + 1 : Nat) : Int) - 1 = (m : Int) := by omega
    have c : (m : Int) ≥ 0 := by omega
    have w0 : wrap64 (8 * (m : Int)) = 8 * (m : Int) := w64 _ (by omega)
    have w1 : IntKind.u64.wrap (8 * (m : Int)) = 8 * (m : Int) := by
      simp [IntKind.wrap, IntKind.bits, IntKind.signed]
      omega
    have c1 : 0 ≤ 8 * (m : Int) := by omega
    have c2 : out.length < 140737488355328 := by omega
    have w2 : wrap64 ((m : Int) - 1) = (m : Int) - 1 := w64 _ (by omega)
    rw [e0]
    simp only [spec_l1Fixed.l0, c, if_true, w0, w1, c1, c2, w2, (shr8 x m (by omega) hx).2]
    refine LoopK.Ev.to (l1Fixed_loop x hx m _ (by omega) (by simp; omega)) ?_
    rw [be_cons, List.append_assoc]
    rfl
theorem l1Fixed_ev (x : Int) (hx : 0 ≤ x ∧ x < 18446744073709551616) (m : Nat) (hm : m ≤ 1000) : Ev (fun k => spec_l1Fixed.f k x (m : Int)) (strOfNums (be x m)) := by
  unfold spec_l1Fixed.f
  have w : wrap64 ((m : Int) - 1) = (m : Int) - 1 := w64 _ (by omega)
  simp only [w]
  simpa using l1Fixed_loop x hx m [] hm (by simp; omega)
theorem bigEndian_loop : ∀ (m : Nat) (x : Int) (tail : List Int), m ≤ 1000 → tail.length + m ≤ 100000 → Ev (fun k => impl_bigEndian.l0 k x (List.replicate m 0 ++ tail) ((m : Int) - 1)) (strOfNums (be x m ++ tail))
  | 0, x, tail, _, _ => by
    refine LoopK.Ev.succ ?_
    have c : ¬ (((0 : Nat) : Int) - 1 ≥ 0) := by omega
    simp only [impl_bigEndian.l0, c, if_false, be, List.replicate_zero, List.nil_append]
    exact Ev.now _
  | m + 1, x, tail, hm, ht => by
    refine LoopK.Ev.succ ?_
    have e0 : ((m + 1 : Nat) : Int) - 1 = (m : Int) := by omega
    have c : (m : Int) ≥ 0 := by omega
    have c1 : 0 ≤ (m : Int) := by omega
    have c2 : (m : Int) < ((List.replicate (m + 1) (0 : Int) ++ tail).length : Int) := by
      rw [List.length_append, List.length_replicate]
      omega
    have w2 : wrap64 ((m : Int) - 1) = (m : Int) - 1 := w64 _ (by omega)
    have e1 : (List.replicate (m + 1) (0 : Int) ++ tail).set (m : Int).toNat (x % 256) = List.replicate m 0 ++ (x % 256 :: tail) := by
      rw [List.replicate_succ', List.append_assoc]
      have : (m : Int).toNat = (List.replicate m (0 : Int)).length := by simp
      rw [this, List.set_append_right _ _ (Nat.le_refl _)]
      simp
    rw [e0]
    simp only [impl_bigEndian.l0, c, if_true, c1, c2, w2, e1]
    refine LoopK.Ev.to (bigEndian_loop m (x / 256) (x % 256 :: tail) (by omega) (by rw [List.length_cons]; omega)) ?_
    simp [be]
theorem bigEndian_ev (x : Int) (m : Nat) (hm : m ≤ 1000) : Ev (fun k => impl_bigEndian.f k x (m : Int)) (strOfNums (be x m)) := by
  unfold impl_bigEndian.f
  have c1 : 0 ≤ (m : Int) := by omega
  have c2 : (m : Int).toNat = m := by omega
  have c3 : m ≤ 281474976710656 := by omega
  have w : wrap64 ((m : Int) - 1) = (m : Int) - 1 := w64 _ (by omega)
  simp only [c1, if_true, c2, c3, w]
  simpa using bigEndian_loop m x [] hm (by simp; omega)

theorem shr8s (x : Int) (i : Nat) (hi : i < 8) : shr .i64 x (8 * (i : Int)) = x / 256 ^ i := by
  have hp : (256 : Int) ^ i = 2 ^ (8 * i) := by rw [Int.pow_mul]; rfl
  have e : (8 * (i : Int)).toNat = 8 * i := by omega
  unfold shr
  rw [e, hp, Nat.min_eq_left (by simp [IntKind.bits]; omega)]
theorem l1Fixed_loop_s (x : Int) : ∀ (m : Nat) (out : List Int), m ≤ 8 → out.length + m ≤ 100000 → Ev (fun k => spec_l1Fixed.l0 k x out ((m : Int) - 1)) (strOfNums (out ++ be x m))
  | 0, out, _, _ => by
    refine LoopK.Ev.succ ?_
    have c : ¬ (((0 : Nat) : Int) - 1 ≥ 0) := by omega
    simp only [spec_l1Fixed.l0, c, if_false, be, List.append_nil]
    exact Ev.now _
  | m + 1, out, hm, ho => by
    refine LoopK.Ev.succ ?_
    have e0 : ((m + 1 : Nat) : Int) - 1 = (m : Int) := by omega
    have c : (m : Int) ≥ 0 := by omega
    have w0 : wrap64 (8 * (m : Int)) = 8 * (m : Int) := w64 _ (by omega)
    have w1 : IntKind.u64.wrap (8 * (m : Int)) = 8 * (m : Int) := by
      simp [IntKind.wrap, IntKind.bits, IntKind.signed]
      omega
    have c1 : 0 ≤ 8 * (m : Int) := by omega
    have c2 : out.length < 140737488355328 := by omega
    have w2 : wrap64 ((m : Int) - 1) = (m : Int) - 1 := w64 _ (by omega)
    rw [e0]
    simp only [spec_l1Fixed.l0, c, if_true, w0, w1, c1, c2, w2, shr8s x m (by omega)]
    refine LoopK.Ev.to (l1Fixed_loop_s x m _ (by omega) (by simp; omega)) ?_
    rw [be_cons, List.append_assoc]
    rfl
theorem l1Fixed_any (x : Int) (m : Nat) (hm : m ≤ 8) : Ev (fun k => spec_l1Fixed.f k x (m : Int)) (strOfNums (be x m)) := by
  unfold spec_l1Fixed.f
  have w : wrap64 ((m : Int) - 1) = (m : Int) - 1 := w64 _ (by omega)
  simp only [w]
  simpa using l1Fixed_loop_s x m [] hm (by simp; omega)
theorem be_same (x y : Int) (m : Nat) (hm : m ≤ 8) (h : x % 18446744073709551616 = y % 18446744073709551616) : be x m = be y m := by
  have e : x = y + 18446744073709551616 * (x / 18446744073709551616 - y / 18446744073709551616) := by omega
  have hp : (18446744073709551616 : Int) = 256 ^ m * 256 ^ (8 - m) := by
    rw [← Int.pow_add, Nat.add_sub_cancel' hm]
    decide
  rw [e, hp, Int.mul_assoc, be_mod]
theorem wrap_mod (x : Int) : (IntKind.i64.wrap x) % 18446744073709551616 = x % 18446744073709551616 ∧ (IntKind.u64.wrap x) % 18446744073709551616 = x % 18446744073709551616 := by
  rw [IntKind.wrap_i64]
  rw [IntKind.wrap_u64]
  omega
theorem or_same (x x' y y' : Int) (hx : BitVec.ofInt 64 x = BitVec.ofInt 64 x') (hy : BitVec.ofInt 64 y = BitVec.ofInt 64 y') : (Go.bits .or .i64 x y) % 18446744073709551616 = (Go.bits .or .u64 x' y') % 18446744073709551616 := by
  have e1 : Go.bits .or .i64 x y = IntKind.i64.wrap ((BitVec.ofInt 64 x ||| BitVec.ofInt 64 y).toNat : Int) := rfl
  have e2 : Go.bits .or .u64 x' y' = IntKind.u64.wrap ((BitVec.ofInt 64 x' ||| BitVec.ofInt 64 y').toNat : Int) := rfl
  rw [e1, e2, (wrap_mod _).1, (wrap_mod _).2, hx, hy]
theorem ofInt_u64 (x : Int) : BitVec.ofInt 64 x = BitVec.ofInt 64 (IntKind.u64.wrap x) := by
  apply BitVec.eq_of_toInt_eq
  rw [BitVec.toInt_ofInt, BitVec.toInt_ofInt, IntKind.wrap_u64]
  exact (Int.emod_bmod x 18446744073709551616).symm
theorem or_zero (x : Int) : (Go.bits .or .u64 (IntKind.u64.wrap x) 0) % 18446744073709551616 = x % 18446744073709551616 := by
  have e2 : Go.bits .or .u64 (IntKind.u64.wrap x) 0 = IntKind.u64.wrap ((BitVec.ofInt 64 (IntKind.u64.wrap x) ||| BitVec.ofInt 64 0).toNat : Int) := rfl
  have e3 : BitVec.ofInt 64 (IntKind.u64.wrap x) ||| BitVec.ofInt 64 0 = BitVec.ofInt 64 (IntKind.u64.wrap x) := by simp
  rw [e2, (wrap_mod _).2, e3, ← ofInt_u64]
  rw [BitVec.toNat_ofInt]
  omega
/-- How many bytes a number takes. -/
def vsize (n : Int) : Nat := if n < 64 then 1 else if n < 16384 then 2 else if n < 1073741824 then 4 else 8
/-- The bytes of a number of that kind. -/
def vbytes (n : Int) : ByteArray := strOfNums (be (Go.bits .or .u64 (IntKind.u64.wrap n) (shl .u64 (vfirst (vsize n)) (8 * (vsize n : Int) - 2))) (vsize n))
theorem vsize_in (n : Int) : 1 ≤ vsize n ∧ vsize n ≤ 8 := by
  unfold vsize
  split
  · omega
  · split
    · omega
    · split <;> omega
theorem vbytes_size (n : Int) : (vbytes n).size = vsize n := by
  unfold vbytes
  rw [strOfNums_size, be_length]
theorem varintSize_eq (n : Int) : impl_varintSize.f n = some ((vsize n : Nat) : Int) := by
  unfold impl_varintSize.f vsize
  split
  · rfl
  · split
    · rfl
    · split <;> rfl
theorem l1Size_eq (n : Int) : spec_l1Size.f n = some ((vsize n : Nat) : Int) := by
  unfold spec_l1Size.f vsize
  split
  · rfl
  · split
    · rfl
    · split <;> rfl
theorem varint_ev (n : Int) : Ev (fun k => impl_varint.f k n) (vbytes n) := by
  unfold impl_varint.f
  simp only [varintSize_eq, Option.bind_some]
  exact bigEndian_ev _ _ (by have := vsize_in n; omega)
theorem l1Var_ev (n : Int) : Ev (fun k => spec_l1Var.f k n) (vbytes n) := by
  unfold spec_l1Var.f
  simp only [l1Size_eq, Option.bind_some]
  have hs := vbytes_size n
  have hv : vsize n = 1 ∨ vsize n = 2 ∨ vsize n = 4 ∨ vsize n = 8 := by
    unfold vsize
    split
    · omega
    · split
      · omega
      · split <;> omega
  have fin : ∀ (x : Int) (m : Nat) (h : vsize n = m), m ≤ 8 → x % 18446744073709551616 = (Go.bits .or .u64 (IntKind.u64.wrap n) (shl .u64 (vfirst (m : Int)) (8 * (m : Int) - 2))) % 18446744073709551616 → Ev (fun k => (spec_l1Fixed.f k x (m : Int)).bind fun t => some t) (vbytes n) := by
    intro x m h hm hx
    refine LoopK.Ev.bind_ (l1Fixed_any x m hm) ?_
    unfold vbytes
    rw [h, be_same _ _ m hm hx]
    exact Ev.now _
  rcases hv with h | h | h | h <;> rw [h]
  · simpa using fin n 1 h (by omega) (or_zero n).symm
  · simpa using fin (Go.bits .or .i64 n 16384) 2 h (by omega) (or_same _ _ _ _ (ofInt_u64 n) rfl)
  · simpa using fin (Go.bits .or .i64 n 2147483648) 4 h (by omega) (or_same _ _ _ _ (ofInt_u64 n) rfl)
  · simpa using fin (Go.bits .or .i64 n (-4611686018427387904)) 8 h (by omega) (or_same _ _ _ _ (ofInt_u64 n) rfl)

theorem l1In_eq (a b c : Int) : spec_l1In.f a b c = some (decide (b ≤ a ∧ a ≤ c)) := by
  unfold spec_l1In.f
  by_cases h : b ≤ a
  · rw [if_pos h]; simp [h]
  · rw [if_neg h]; simp [h]
theorem in_eq (a b c : Int) : impl_in.f a b c = some (decide (b ≤ a ∧ a ≤ c)) := l1In_eq a b c
theorem and_ite (p q : Prop) [Decidable p] [Decidable q] : (if p then some (decide q) else some false) = some (decide (p ∧ q)) := by
  by_cases h : p <;> simp [h]

/-- Are capsules right? -/
def capsGood (l : List S139) : Bool := decide ((l.length : Int) ≤ 30) && !(l.any fun c => !capOk c)
theorem capsKnown_eq (a : Int) : spec_l1Known.f a = some (decide (0 ≤ a ∧ a ≤ 4611686018427387903)) := by
  unfold spec_l1Known.f
  simp only [l1In_eq, Option.bind_some]
theorem capsulesOk_eq (l : List S139) : impl_capsulesOk.f l = some (capsGood l) := rfl
theorem l16Good_ev (l : List S139) (hl : l.length ≤ 4611686018427387904) : Ev (fun k => spec_l16Good.f k l) (capsGood l) := by
  have key := firstEv (fun k xs i => spec_l16Good.l0 k l xs (xs.length : Int) i) (fun c => !capOk c) (fun o : Option S139 => decide ((l.length : Int) ≤ 30) && !o.isSome) 4611686018427387904
    (fun xs => by
      refine LoopK.Ev.succ ?_
      simp only [spec_l16Good.l0, at_stop, if_false, Option.isSome_none, Bool.not_false, Bool.and_true]
      exact Ev.now _)
    (fun p x r hB hg => by
      refine LoopK.Ev.succ ?_
      simp only [spec_l16Good.l0, at_lt, at_nn, if_true, rd_T139, at_getD, capsKnown_eq, Option.bind_some, decide_eq_true_eq, Option.isSome_some, Bool.not_true, Bool.and_false]
      simp only [capOk, Bool.not_and, Bool.or_eq_true, Bool.not_eq_true', decide_eq_false_iff_not] at hg
      by_cases h1 : 0 ≤ x.f0 ∧ x.f0 ≤ 4611686018427387903
      · have h2 : (x.f1.size : Int) > 200 := by
          rcases hg with h | h
          · exact absurd h1 h
          · omega
        simp only [h1, and_self, if_true, h2]
        exact Ev.now _
      · simp only [h1, if_false]
        exact Ev.now _)
    (fun p x r b hB hg ih => by
      refine LoopK.Ev.succ ?_
      have e1 := at_w p x r hB
      simp only [capOk, Bool.not_eq_false', Bool.and_eq_true, decide_eq_true_eq] at hg
      have h2 : ¬ ((x.f1.size : Int) > 200) := by omega
      simp only [spec_l16Good.l0, at_lt, at_nn, if_true, rd_T139, at_getD, capsKnown_eq, Option.bind_some, decide_eq_true_eq, hg.1, and_self, h2, if_false, e1]
      exact ih) l [] (by simpa using hl)
  unfold spec_l16Good.f capsGood
  rw [find_any] at key
  simpa using key
theorem capsGood_in (l : List S139) (h : capsGood l = true) : l.length ≤ 30 ∧ ∀ x, x ∈ l → x.f1.size ≤ 200 := by
  simp only [capsGood, Bool.and_eq_true, decide_eq_true_eq, Bool.not_eq_true', List.any_eq_false] at h
  refine ⟨by omega, fun x hx => ?_⟩
  have h2 := h.2 x hx
  simp only [capOk, Bool.not_eq_true', Bool.and_eq_false_iff, decide_eq_false_iff_not, not_or, Classical.not_not] at h2
  omega

/-- The capsules' bytes. -/
def capsF : List S139 → ByteArray → ByteArray
  | [], s => s
  | x :: r, s => capsF r (s ++ ((vbytes x.f0 ++ vbytes (x.f1.size : Int)) ++ x.f1))
theorem l16Bytes_loop : ∀ (r p : List S139) (s : ByteArray), (p ++ r).length ≤ 30 → (∀ x, x ∈ r → x.f1.size ≤ 200) → s.size + 1000 * r.length ≤ 1000000 →
    Ev (fun k => spec_l16Bytes.l0 k s (p ++ r) ((p ++ r).length : Int) (p.length : Int)) (capsF r s)
  | [], p, s, _, _, _ => by
    refine LoopK.Ev.succ ?_
    simp only [spec_l16Bytes.l0, List.append_nil, at_stop, if_false]
    exact Ev.now _
  | x :: r, p, s, hB, hx, hs => by
    refine LoopK.Ev.succ ?_
    have e1 := at_w p x r (by omega)
    have hx0 := hx x (by simp)
    have k1 := vbytes_size x.f0
    have k2 := vbytes_size (x.f1.size : Int)
    have k3 := vsize_in x.f0
    have k4 := vsize_in (x.f1.size : Int)
    rw [List.length_cons] at hs
    have sz : ((vbytes x.f0 ++ vbytes (x.f1.size : Int)) ++ x.f1).size ≤ 300 := by rw [ByteArray.size_append, ByteArray.size_append]; omega
    have c1 : (vbytes x.f0).size + (vbytes (x.f1.size : Int)).size ≤ 9223372036854775807 := by omega
    have c2 : (vbytes x.f0 ++ vbytes (x.f1.size : Int)).size + x.f1.size ≤ 9223372036854775807 := by rw [ByteArray.size_append]; omega
    have c3 : s.size + ((vbytes x.f0 ++ vbytes (x.f1.size : Int)) ++ x.f1).size ≤ 9223372036854775807 := by omega
    simp only [spec_l16Bytes.l0, at_lt, at_nn, if_true, rd_T139, at_getD, e1]
    refine LoopK.Ev.bind_ (l1Var_ev _) ?_
    refine LoopK.Ev.bind_ (l1Var_ev _) ?_
    simp only [c1, c2, c3, if_true]
    have ih := l16Bytes_loop r (p ++ [x]) (s ++ ((vbytes x.f0 ++ vbytes (x.f1.size : Int)) ++ x.f1)) (by simpa using hB) (fun y hy => hx y (by simp [hy])) (by rw [ByteArray.size_append]; omega)
    rw [← at_snoc, len_snoc p x] at ih
    exact ih
theorem capsBytes_loop : ∀ (r p : List S139) (s : ByteArray), (p ++ r).length ≤ 30 → (∀ x, x ∈ r → x.f1.size ≤ 200) → s.size + 1000 * r.length ≤ 1000000 →
    Ev (fun k => impl_CapsulesBytes.l0 k s (p ++ r) ((p ++ r).length : Int) (p.length : Int)) (capsF r s, true)
  | [], p, s, _, _, _ => by
    refine LoopK.Ev.succ ?_
    simp only [impl_CapsulesBytes.l0, List.append_nil, at_stop, if_false]
    exact Ev.now _
  | x :: r, p, s, hB, hx, hs => by
    refine LoopK.Ev.succ ?_
    have e1 := at_w p x r (by omega)
    have hx0 := hx x (by simp)
    have k1 := vbytes_size x.f0
    have k2 := vbytes_size (x.f1.size : Int)
    have k3 := vsize_in x.f0
    have k4 := vsize_in (x.f1.size : Int)
    rw [List.length_cons] at hs
    have sz : ((vbytes x.f0 ++ vbytes (x.f1.size : Int)) ++ x.f1).size ≤ 300 := by rw [ByteArray.size_append, ByteArray.size_append]; omega
    have ea : vbytes x.f0 ++ (vbytes (x.f1.size : Int) ++ x.f1) = (vbytes x.f0 ++ vbytes (x.f1.size : Int)) ++ x.f1 := ByteArray.append_assoc.symm
    have c0 : (vbytes (x.f1.size : Int)).size + x.f1.size ≤ 9223372036854775807 := by omega
    have c1 : (vbytes x.f0).size + (vbytes (x.f1.size : Int) ++ x.f1).size ≤ 9223372036854775807 := by rw [ByteArray.size_append]; omega
    have c3 : s.size + ((vbytes x.f0 ++ vbytes (x.f1.size : Int)) ++ x.f1).size ≤ 9223372036854775807 := by omega
    simp only [impl_CapsulesBytes.l0, at_lt, at_nn, if_true, rd_T139, at_getD, e1]
    refine LoopK.Ev.bind_ (varint_ev _) ?_
    refine LoopK.Ev.bind_ (a := vbytes (x.f1.size : Int) ++ x.f1) ?_ ?_
    · unfold impl_counted.f
      refine LoopK.Ev.bind_ (varint_ev _) ?_
      simp only [c0, if_true]
      exact Ev.now _
    simp only [c1, ea, c3, if_true]
    have ih := capsBytes_loop r (p ++ [x]) (s ++ ((vbytes x.f0 ++ vbytes (x.f1.size : Int)) ++ x.f1)) (by simpa using hB) (fun y hy => hx y (by simp [hy])) (by rw [ByteArray.size_append]; omega)
    rw [← at_snoc, len_snoc p x] at ih
    exact ih
theorem capsules_ev (l : List S139) (hl : l.length ≤ 4611686018427387904) : ∃ v, Ev (fun k => spec_CapsulesBytes.f k l) v ∧ Ev (fun k => impl_CapsulesBytes.f k l) v := by
  unfold spec_CapsulesBytes.f impl_CapsulesBytes.f
  simp only [capsulesOk_eq, Option.bind_some]
  cases hg : capsGood l with
  | false =>
    refine ⟨((⟨#[]⟩ : ByteArray), false), LoopK.Ev.bind_ (l16Good_ev l hl) ?_, ?_⟩
    · simp only [hg, Bool.false_eq_true, if_false]
      exact Ev.now _
    · simp only [Bool.false_eq_true, if_false]
      exact Ev.now _
  | true =>
    obtain ⟨h1, h2⟩ := capsGood_in l hg
    have z : (⟨#[]⟩ : ByteArray).size = 0 := rfl
    refine ⟨(capsF l (⟨#[]⟩ : ByteArray), true), LoopK.Ev.bind_ (l16Good_ev l hl) ?_, ?_⟩
    · simp only [hg, if_true]
      refine LoopK.Ev.bind_ (a := capsF l (⟨#[]⟩ : ByteArray)) ?_ (Ev.now _)
      unfold spec_l16Bytes.f
      simpa using l16Bytes_loop l [] (⟨#[]⟩ : ByteArray) (by simpa using h1) h2 (by rw [z]; omega)
    · simp only [if_true]
      simpa using capsBytes_loop l [] (⟨#[]⟩ : ByteArray) (by simpa using h1) h2 (by rw [z]; omega)
theorem FnExactCapsulesBytes : SFnExactCapsulesBytes.Pure := by
  intro l hl
  refine Ev.rounds ?_
  unfold laws_FnExactCapsulesBytes.f
  have hx : ∀ x, x ∈ l → x.f1.size ≤ 140737488351232 := fun x h => (hl.2.2 x h).2
  obtain ⟨r, hr, hr1, hr2⟩ := szCapsuleS_ev l 1048576 (by omega) (by omega) hx
  refine LoopK.Ev.bind_ hr ?_
  by_cases h0 : r < 0
  · simp only [h0, if_true]
    exact Ev.now _
  · simp only [h0, if_false]
    have tn := totCapsule_nonneg l
    have hl2 : l.length ≤ 1048576 := by have := hr2 (by omega); omega
    have hto := toCapsuleS_ev l hl2
    have hm : (l.map cvCapsule).length ≤ 4611686018427387904 := by rw [List.length_map]; omega
    obtain ⟨v, hv1, hv2⟩ := capsules_ev (l.map cvCapsule) hm
    refine LoopK.Ev.bind_ hto ?_
    refine LoopK.Ev.bind_ hv1 ?_
    refine LoopK.Ev.bind_ hto ?_
    refine LoopK.Ev.bind_ hv2 ?_
    simp only [if_true, bne_self_eq_false]
    refine LoopK.Ev.succ ?_
    simp only [laws_FnExactCapsulesBytes.j0, Bool.false_eq_true, if_false]
    refine LoopK.Ev.bind_ hto ?_
    refine LoopK.Ev.bind_ (eqCapsuleS_ev _ hm) ?_
    simp only [if_true]
    exact Ev.now _

end Go.Proofs.Ythkmjfapljmmpaa.Pure
