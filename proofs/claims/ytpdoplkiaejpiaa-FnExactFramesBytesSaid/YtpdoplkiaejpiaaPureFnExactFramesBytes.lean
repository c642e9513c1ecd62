/- The pure statement of the law FnExactFramesBytes: the program's function and the reference answer alike. -/
import Derived.Test.YtpdoplkiaejpiaaSFnExactFramesBytes
import Derived.Test.YtpdoplkiaejpiaaLoopK
namespace Go.Proofs.Ytpdoplkiaejpiaa.Pure
open Go.RowKit Go.Proofs.Ytpdoplkiaejpiaa.PFnExactFramesBytes Go.Proofs.YtpdoplkiaejpiaaW.PrintWords Go.Proofs.YtpdoplkiaejpiaaW.PrintLast Go.Proofs.Ytpdoplkiaejpiaa.SFnExactFramesBytes
set_option linter.unusedVariables false
set_option linter.unusedSimpArgs false

open Go.Proofs.Ytpdoplkiaejpiaa.LoopK (copyEv sameEv markEv heldEv foldEv mk mk_length at_lt at_lt' at_nn at_nlt at_stop at_getD at_set at_set2 at_snoc len_snoc at_w w64 firstEv find_any chk last_or at_prev at_prev_lt at_prev_nn at_prev_pos at_prev_w pairEv)

/-- The copy of an element. -/
def cvRange (x : S99) : S92 := ⟨x.f0, x.f1⟩

theorem toRangeS_ev (l : List S99) (h : l.length ≤ 1048576) : Ev (fun k => laws_toRangeS.f k l) (l.map cvRange) := by
  have key := copyEv (fun k xs ys i => laws_toRangeS.l0 k xs ys i) cvRange z92 1048576
    (fun xs ys => by
      refine LoopK.Ev.succ ?_
      simp only [laws_toRangeS.l0, at_stop, if_false]
      exact Ev.now _)
    (fun p x r q y s res hq hB hs ih => by
      refine LoopK.Ev.succ ?_
      have e1 := at_w p x r (by omega)
      have e2 := at_lt' p q y s hq
      have e3 : (q ++ y :: s).set (p.length : Int).toNat (cvRange x) = q ++ cvRange x :: s := at_set2 p q y _ s hq
      simp only [cvRange] at e3 ih
      simp only [laws_toRangeS.l0, at_lt, at_nn, if_true, laws_toRange.f, Option.bind_some, rd_T99, at_getD, e1, e2, e3]
      exact ih) l [] (by simpa using h)
  unfold laws_toRangeS.f
  have c1 : 0 ≤ (l.length : Int) := by omega
  have c2 : (l.length : Int).toNat = l.length := by omega
  simp only [c1, if_true, c2]
  have c3 : l.length ≤ 17592186044416 := by omega
  simp only [c3, if_true]
  simpa using key

theorem eqRange_self (x : S92) : laws_eqRange.f x.f0 x.f1 x.f0 x.f1 = some true := by
  unfold laws_eqRange.f
  simp
theorem eqRangeS_ev (l : List S92) (h : l.length ≤ 4611686018427387904) : Ev (fun k => laws_eqRangeS.f k l l) true := by
  have key := sameEv (fun k xs ys i => laws_eqRangeS.l0 k xs ys i) 4611686018427387904
    (fun xs ys => by
      refine LoopK.Ev.succ ?_
      simp only [laws_eqRangeS.l0, at_stop, if_false]
      exact Ev.now _)
    (fun p x r hB ih => by
      refine LoopK.Ev.succ ?_
      have e1 := at_w p x r hB
      simp only [laws_eqRangeS.l0, at_lt, at_nn, if_true, eqRange_self, Option.bind_some, rd_T92, at_getD, e1]
      exact ih) l [] (by simpa using h)
  unfold laws_eqRangeS.f
  simp only [if_true]
  simpa using key

/-- So many bytes of a number, the highest one first. -/
def be : Int → Nat → List Int
  | _, 0 => []
  | n, m + 1 => be (n / 256) m ++ [n % 256]
theorem be_length : ∀ (m : Nat) (n : Int), (be n m).length = m
  | 0, _ => rfl
  | m + 1, n => by simp [be, be_length m]
theorem pow256 (m : Nat) : (0 : Int) < 256 ^ m := Int.pow_pos (by decide)
theorem be_cons : ∀ (m : Nat) (n : Int), be n (m + 1) = (n / 256 ^ m % 256) :: be n m
  | 0, n => by simp [be]
  | m + 1, n => by
    have e : n / 256 / 256 ^ m = n / 256 ^ (m + 1) := by
      rw [Int.ediv_ediv_of_nonneg (by decide), Int.pow_succ, Int.mul_comm]
    rw [be, be_cons m (n / 256), e]
    simp [be]
theorem be_mod : ∀ (m : Nat) (n q : Int), be (n + 256 ^ m * q) m = be n m
  | 0, _, _ => rfl
  | m + 1, n, q => by
    have e1 : n + 256 ^ (m + 1) * q = n + 256 * (256 ^ m * q) := by rw [Int.pow_succ, Int.mul_comm (256 ^ m) 256, Int.mul_assoc]
    have e2 : (n + 256 * (256 ^ m * q)) / 256 = n / 256 + 256 ^ m * q := by omega
    have e3 : (n + 256 * (256 ^ m * q)) % 256 = n % 256 := by omega
    rw [be, e1, e2, e3, be_mod m]
    rfl
theorem strOfNums_size (l : List Int) : (strOfNums l).size = l.length := by simp [strOfNums, ByteArray.size]
theorem strOfNums_toList (l : List Int) : (strOfNums l).toList = l.map fun n => UInt8.ofNat n.toNat := by
  rw [ByteArray.toList_eq]
  simp [strOfNums]
theorem strOfNums_append (a b : List Int) : strOfNums a ++ strOfNums b = strOfNums (a ++ b) := by
  apply ByteArray.ext
  simp [strOfNums]
theorem shr8 (x : Int) (i : Nat) (hi : 8 * i ≤ 9223372036854775807) (hx : 0 ≤ x ∧ x < 18446744073709551616) : shr .u64 x (8 * (i : Int)) = x / 256 ^ i ∧ shr .i64 x (8 * (i : Int)) = x / 256 ^ i := by
  have hp : (256 : Int) ^ i = 2 ^ (8 * i) := by rw [Int.pow_mul]; rfl
  have e : (8 * (i : Int)).toNat = 8 * i := by omega
  have key : x / 2 ^ min (8 * i) 64 = x / 256 ^ i := by
    rcases Nat.lt_or_ge (8 * i) 64 with h | h
    · rw [hp, Nat.min_eq_left (by omega)]
    · rw [Nat.min_eq_right h, hp]
      have h1 : (2 : Int) ^ 64 ≤ 2 ^ (8 * i) := by exact_mod_cast Nat.pow_le_pow_right (by decide) h
      rw [Int.ediv_eq_zero_of_lt hx.1 (by omega), Int.ediv_eq_zero_of_lt hx.1 (by omega)]
  unfold shr
  rw [e]
  exact ⟨key, key⟩
theorem l1Fixed_loop (x : Int) (hx : 0 ≤ x ∧ x < 18446744073709551616) : ∀ (m : Nat) (out : List Int), m ≤ 1000 → out.length + m ≤ 100000 → Ev (fun k => spec_l1Fixed.l0 k x out ((m : Int) - 1)) (strOfNums (out ++ be x m))
  | 0, out, _, _ => by
    refine LoopK.Ev.succ ?_
    have c : ¬ (((0 : Nat) : Int) - 1 ≥ 0) := by omega
    simp only [spec_l1Fixed.l0, c, if_false, be, List.append_nil]
    exact Ev.now _
  | m + 1, out, hm, ho => by
    refine LoopK.Ev.succ ?_
    have e0 : ((m + 1 : Nat) : Int) - 1 = (m : Int) := by omega
    have c : (m : Int) ≥ 0 := by omega
    have w0 : wrap64 (8 * (m : Int)) = 8 * (m : Int) := w64 _ (by omega)
    have w1 : IntKind.u64.wrap (8 * (m : Int)) = 8 * (m : Int) := by
      simp [IntKind.wrap, IntKind.bits, IntKind.signed]
      omega
    have c1 : 0 ≤ 8 * (m : Int) := by omega
    have c2 : out.length < 140737488355328 := by omega
    have w2 : wrap64 ((m : Int) - 1) = (m : Int) - 1 := w64 _ (by omega)
    rw [e0]
    simp only [spec_l1Fixed.l0, c, if_true, w0, w1, c1, c2, w2, (shr8 x m (by omega) hx).2]
    refine LoopK.Ev.to (l1Fixed_loop x hx m _ (by omega) (by simp; omega)) ?_
    rw [be_cons, List.append_assoc]
    rfl
theorem l1Fixed_ev (x : Int) (hx : 0 ≤ x ∧ x < 18446744073709551616) (m : Nat) (hm : m ≤ 1000) : Ev (fun k => spec_l1Fixed.f k x (m : Int)) (strOfNums (be x m)) := by
  unfold spec_l1Fixed.f
  have w : wrap64 ((m : Int) - 1) = (m : Int) - 1 := w64 _ (by omega)
  simp only [w]
  simpa using l1Fixed_loop x hx m [] hm (by simp; omega)
theorem bigEndian_loop : ∀ (m : Nat) (x : Int) (tail : List Int), m ≤ 1000 → tail.length + m ≤ 100000 → Ev (fun k => impl_bigEndian.l0 k x (List.replicate m 0 ++ tail) ((m : Int) - 1)) (strOfNums (be x m ++ tail))
  | 0, x, tail, _, _ => by
    refine LoopK.Ev.succ ?_
    have c : ¬ (((0 : Nat) : Int) - 1 ≥ 0) := by omega
    simp only [impl_bigEndian.l0, c, if_false, be, List.replicate_zero, List.nil_append]
    exact Ev.now _
  | m + 1, x, tail, hm, ht => by
    refine LoopK.Ev.succ ?_
    have e0 : ((m + 1 : Nat) : Int) - 1 = (m : Int) := by omega
    have c : (m : Int) ≥ 0 := by omega
    have c1 : 0 ≤ (m : Int) := by omega
    have c2 : (m : Int) < ((List.replicate (m + 1) (0 : Int) ++ tail).length : Int) := by
      rw [List.length_append, List.length_replicate]
      omega
    have w2 : wrap64 ((m : Int) - 1) = (m : Int) - 1 := w64 _ (by omega)
    have e1 : (List.replicate (m + 1) (0 : Int) ++ tail).set (m : Int).toNat (x % 256) = List.replicate m 0 ++ (x % 256 :: tail) := by
      rw [List.replicate_succ', List.append_assoc]
      have : (m : Int).toNat = (List.replicate m (0 : Int)).length := by simp
      rw [this, List.set_append_right _ _ (Nat.le_refl _)]
      simp
    rw [e0]
    simp only [impl_bigEndian.l0, c, if_true, c1, c2, w2, e1]
    refine LoopK.Ev.to (bigEndian_loop m (x / 256) (x % 256 :: tail) (by omega) (by rw [List.length_cons]; omega)) ?_
    simp [be]
theorem bigEndian_ev (x : Int) (m : Nat) (hm : m ≤ 1000) : Ev (fun k => impl_bigEndian.f k x (m : Int)) (strOfNums (be x m)) := by
  unfold impl_bigEndian.f
  have c1 : 0 ≤ (m : Int) := by omega
  have c2 : (m : Int).toNat = m := by omega
  have c3 : m ≤ 281474976710656 := by omega
  have w : wrap64 ((m : Int) - 1) = (m : Int) - 1 := w64 _ (by omega)
  simp only [c1, if_true, c2, c3, w]
  simpa using bigEndian_loop m x [] hm (by simp; omega)

theorem shr8s (x : Int) (i : Nat) (hi : i < 8) : shr .i64 x (8 * (i : Int)) = x / 256 ^ i := by
  have hp : (256 : Int) ^ i = 2 ^ (8 * i) := by rw [Int.pow_mul]; rfl
  have e : (8 * (i : Int)).toNat = 8 * i := by omega
  unfold shr
  rw [e, hp, Nat.min_eq_left (by simp [IntKind.bits]; omega)]
theorem l1Fixed_loop_s (x : Int) : ∀ (m : Nat) (out : List Int), m ≤ 8 → out.length + m ≤ 100000 → Ev (fun k => spec_l1Fixed.l0 k x out ((m : Int) - 1)) (strOfNums (out ++ be x m))
  | 0, out, _, _ => by
    refine LoopK.Ev.succ ?_
    have c : ¬ (((0 : Nat) : Int) - 1 ≥ 0) := by omega
    simp only [spec_l1Fixed.l0, c, if_false, be, List.append_nil]
    exact Ev.now _
  | m + 1, out, hm, ho => by
    refine LoopK.Ev.succ ?_
    have e0 : ((m + 1 : Nat) : Int) - 1 = (m : Int) := by omega
    have c : (m : Int) ≥ 0 := by omega
    have w0 : wrap64 (8 * (m : Int)) = 8 * (m : Int) := w64 _ (by omega)
    have w1 : IntKind.u64.wrap (8 * (m : Int)) = 8 * (m : Int) := by
      simp [IntKind.wrap, IntKind.bits, IntKind.signed]
      omega
    have c1 : 0 ≤ 8 * (m : Int) := by omega
    have c2 : out.length < 140737488355328 := by omega
    have w2 : wrap64 ((m : Int) - 1) = (m : Int) - 1 := w64 _ (by omega)
    rw [e0]
    simp only [spec_l1Fixed.l0, c, if_true, w0, w1, c1, c2, w2, shr8s x m (by omega)]
    refine LoopK.Ev.to (l1Fixed_loop_s x m _ (by omega) (by simp; omega)) ?_
    rw [be_cons, List.append_assoc]
    rfl
theorem l1Fixed_any (x : Int) (m : Nat) (hm : m ≤ 8) : Ev (fun k => spec_l1Fixed.f k x (m : Int)) (strOfNums (be x m)) := by
  unfold spec_l1Fixed.f
  have w : wrap64 ((m : Int) - 1) = (m : Int) - 1 := w64 _ (by omega)
  simp only [w]
  simpa using l1Fixed_loop_s x m [] hm (by simp; omega)
theorem be_same (x y : Int) (m : Nat) (hm : m ≤ 8) (h : x % 18446744073709551616 = y % 18446744073709551616) : be x m = be y m := by
  have e : x = y + 18446744073709551616 * (x / 18446744073709551616 - y / 18446744073709551616) := by omega
  have hp : (18446744073709551616 : Int) = 256 ^ m * 256 ^ (8 - m) := by
    rw [← Int.pow_add, Nat.add_sub_cancel' hm]
    decide
  rw [e, hp, Int.mul_assoc, be_mod]
theorem wrap_mod (x : Int) : (IntKind.i64.wrap x) % 18446744073709551616 = x % 18446744073709551616 ∧ (IntKind.u64.wrap x) % 18446744073709551616 = x % 18446744073709551616 := by
  rw [IntKind.wrap_i64]
  rw [IntKind.wrap_u64]
  omega
theorem or_same (x x' y y' : Int) (hx : BitVec.ofInt 64 x = BitVec.ofInt 64 x') (hy : BitVec.ofInt 64 y = BitVec.ofInt 64 y') : (Go.bits .or .i64 x y) % 18446744073709551616 = (Go.bits .or .u64 x' y') % 18446744073709551616 := by
  have e1 : Go.bits .or .i64 x y = IntKind.i64.wrap ((BitVec.ofInt 64 x ||| BitVec.ofInt 64 y).toNat : Int) := rfl
  have e2 : Go.bits .or .u64 x' y' = IntKind.u64.wrap ((BitVec.ofInt 64 x' ||| BitVec.ofInt 64 y').toNat : Int) := rfl
  rw [e1, e2, (wrap_mod _).1, (wrap_mod _).2, hx, hy]
theorem ofInt_u64 (x : Int) : BitVec.ofInt 64 x = BitVec.ofInt 64 (IntKind.u64.wrap x) := by
  apply BitVec.eq_of_toInt_eq
  rw [BitVec.toInt_ofInt, BitVec.toInt_ofInt, IntKind.wrap_u64]
  exact (Int.emod_bmod x 18446744073709551616).symm
theorem or_zero (x : Int) : (Go.bits .or .u64 (IntKind.u64.wrap x) 0) % 18446744073709551616 = x % 18446744073709551616 := by
  have e2 : Go.bits .or .u64 (IntKind.u64.wrap x) 0 = IntKind.u64.wrap ((BitVec.ofInt 64 (IntKind.u64.wrap x) ||| BitVec.ofInt 64 0).toNat : Int) := rfl
  have e3 : BitVec.ofInt 64 (IntKind.u64.wrap x) ||| BitVec.ofInt 64 0 = BitVec.ofInt 64 (IntKind.u64.wrap x) := by simp
  rw [e2, (wrap_mod _).2, e3, ← ofInt_u64]
  rw [BitVec.toNat_ofInt]
  omega
/-- How many bytes a number takes. -/
def vsize (n : Int) : Nat := if n < 64 then 1 else if n < 16384 then 2 else if n < 1073741824 then 4 else 8
/-- The bytes of a number of that kind. -/
def vbytes (n : Int) : ByteArray := strOfNums (be (Go.bits .or .u64 (IntKind.u64.wrap n) (shl .u64 (vfirst (vsize n)) (8 * (vsize n : Int) - 2))) (vsize n))
theorem vsize_in (n : Int) : 1 ≤ vsize n ∧ vsize n ≤ 8 := by
  unfold vsize
  split
  · omega
  · split
    · omega
    · split <;> omega
theorem vbytes_size (n : Int) : (vbytes n).size = vsize n := by
  unfold vbytes
  rw [strOfNums_size, be_length]
theorem varintSize_eq (n : Int) : impl_varintSize.f n = some ((vsize n : Nat) : Int) := by
  unfold impl_varintSize.f vsize
  split
  · rfl
  · split
    · rfl
    · split <;> rfl
theorem l1Size_eq (n : Int) : spec_l1Size.f n = some ((vsize n : Nat) : Int) := by
  unfold spec_l1Size.f vsize
  split
  · rfl
  · split
    · rfl
    · split <;> rfl
theorem varint_ev (n : Int) : Ev (fun k => impl_varint.f k n) (vbytes n) := by
  unfold impl_varint.f
  simp only [varintSize_eq, Option.bind_some]
  exact bigEndian_ev _ _ (by have := vsize_in n; omega)
theorem l1Var_ev (n : Int) : Ev (fun k => spec_l1Var.f k n) (vbytes n) := by
  unfold spec_l1Var.f
  simp only [l1Size_eq, Option.bind_some]
  have hs := vbytes_size n
  have hv : vsize n = 1 ∨ vsize n = 2 ∨ vsize n = 4 ∨ vsize n = 8 := by
    unfold vsize
    split
    · omega
    · split
      · omega
      · split <;> omega
  have fin : ∀ (x : Int) (m : Nat) (h : vsize n = m), m ≤ 8 → x % 18446744073709551616 = (Go.bits .or .u64 (IntKind.u64.wrap n) (shl .u64 (vfirst (m : Int)) (8 * (m : Int) - 2))) % 18446744073709551616 → Ev (fun k => (spec_l1Fixed.f k x (m : Int)).bind fun t => some t) (vbytes n) := by
    intro x m h hm hx
    refine LoopK.Ev.bind_ (l1Fixed_any x m hm) ?_
    unfold vbytes
    rw [h, be_same _ _ m hm hx]
    exact Ev.now _
  rcases hv with h | h | h | h <;> rw [h]
  · simpa using fin n 1 h (by omega) (or_zero n).symm
  · simpa using fin (Go.bits .or .i64 n 16384) 2 h (by omega) (or_same _ _ _ _ (ofInt_u64 n) rfl)
  · simpa using fin (Go.bits .or .i64 n 2147483648) 4 h (by omega) (or_same _ _ _ _ (ofInt_u64 n) rfl)
  · simpa using fin (Go.bits .or .i64 n (-4611686018427387904)) 8 h (by omega) (or_same _ _ _ _ (ofInt_u64 n) rfl)

theorem l1In_eq (a b c : Int) : spec_l1In.f a b c = some (decide (b ≤ a ∧ a ≤ c)) := by
  unfold spec_l1In.f
  by_cases h : b ≤ a
  · rw [if_pos h]; simp [h]
  · rw [if_neg h]; simp [h]
theorem in_eq (a b c : Int) : impl_in.f a b c = some (decide (b ≤ a ∧ a ≤ c)) := l1In_eq a b c
theorem and_ite (p q : Prop) [Decidable p] [Decidable q] : (if p then some (decide q) else some false) = some (decide (p ∧ q)) := by
  by_cases h : p <;> simp [h]

/-- Is a range right, and does it fall behind the one before it? -/
def rgGood (o : Option S92) (x : S92) : Bool :=
  decide ((0 ≤ x.f0 ∧ x.f0 ≤ x.f1) ∧ x.f1 ≤ 4611686018427387903) && (match o with | none => true | some q => decide (x.f1 + 2 ≤ q.f0))
def rgInv (x : S92) : Prop := 0 ≤ x.f0 ∧ x.f0 ≤ 4611686018427387903
theorem rg_inv (o : Option S92) (x : S92) (h : rgGood o x = true) : rgInv x := by
  simp only [rgGood, Bool.and_eq_true, decide_eq_true_eq] at h
  unfold rgInv
  omega
theorem l1Known_eq (a : Int) : spec_l1Known.f a = some (decide (0 ≤ a ∧ a ≤ 4611686018427387903)) := by
  unfold spec_l1Known.f
  simp only [l1In_eq, Option.bind_some]
theorem isVarint_eq (a : Int) : impl_isVarint.f a = some (decide (0 ≤ a ∧ a ≤ 4611686018427387903)) := by
  unfold impl_isVarint.f
  simp only [in_eq, Option.bind_some]
theorem l1Ranges_ev (l : List S92) (hl : l.length ≤ 4611686018427387904) : Ev (fun k => spec_l1Ranges.f k l) (chk rgGood none l && decide (1 ≤ l.length ∧ l.length ≤ 20)) := by
  have key := pairEv (fun k xs i => spec_l1Ranges.l0 k xs xs (xs.length : Int) i) rgGood rgInv (fun xs => decide (1 ≤ xs.length ∧ xs.length ≤ 20)) 4611686018427387904
    (fun xs => by
      refine LoopK.Ev.succ ?_
      simp only [spec_l1Ranges.l0, at_stop, if_false, l1In_eq, Option.bind_some]
      refine LoopK.Ev.to (Ev.now _) ?_
      rw [decide_eq_decide]
      omega)
    rg_inv
    (fun p x r hB hI hg => by
      refine LoopK.Ev.succ ?_
      simp only [spec_l1Ranges.l0, at_lt, at_nn, if_true, rd_T92, at_getD, l1In_eq, l1Known_eq, Option.bind_some, decide_eq_true_eq]
      by_cases h1 : 0 ≤ x.f0 ∧ x.f0 ≤ x.f1
      · simp only [h1, and_self, if_true]
        by_cases h2 : 0 ≤ x.f1 ∧ x.f1 ≤ 4611686018427387903
        · simp only [h2, and_self, if_true]
          rcases last_or p with rfl | ⟨p0, q, rfl⟩
          · exfalso
            simp [rgGood, h1, h2] at hg
          · have hq := hI q (by simp)
            unfold rgInv at hq
            have e2 : wrap64 (q.f0 - 2) = q.f0 - 2 := w64 _ (by omega)
            have hlt : x.f1 > q.f0 - 2 := by
              simp [rgGood, h1, h2] at hg
              omega
            have c0 := at_prev_w p0 q x r hB
            simp only [at_prev_pos, if_true, c0, at_prev_nn, at_prev_lt, at_prev, e2, hlt]
            (first | exact Ev.now _ | (refine LoopK.Ev.succ ?_; simp only [spec_l1Ranges.j1, decide_true, if_true]; exact Ev.now _))
        · simp only [h2, if_false]
          (first | exact Ev.now _ | (refine LoopK.Ev.succ ?_; simp only [spec_l1Ranges.j1, decide_true, if_true]; exact Ev.now _))
      · simp only [h1, if_false]
        (first | exact Ev.now _ | (refine LoopK.Ev.succ ?_; simp only [spec_l1Ranges.j1, decide_true, if_true]; exact Ev.now _)))
    (fun p x r b hB hI hg hn => by
      refine LoopK.Ev.succ ?_
      have hx : (0 ≤ x.f0 ∧ x.f0 ≤ x.f1) ∧ x.f1 ≤ 4611686018427387903 := by
        simp only [rgGood, Bool.and_eq_true, decide_eq_true_eq] at hg
        exact hg.1
      have h2 : 0 ≤ x.f1 ∧ x.f1 ≤ 4611686018427387903 := by omega
      have e1 := at_w p x r hB
      simp only [spec_l1Ranges.l0, at_lt, at_nn, if_true, rd_T92, at_getD, l1In_eq, l1Known_eq, Option.bind_some, decide_eq_true_eq, hx.1, h2, and_self, e1]
      rcases last_or p with rfl | ⟨p0, q, rfl⟩
      · have c9 : ¬ ((([] : List S92).length : Int) > 0) := by simp
        simp only [c9, if_false]
        refine LoopK.Ev.succ ?_
        simp only [spec_l1Ranges.j1, Bool.false_eq_true, if_false]
        have e1' := e1
        simp only [e1']
        exact hn
      · have hq := hI q (by simp)
        unfold rgInv at hq
        have e2 : wrap64 (q.f0 - 2) = q.f0 - 2 := w64 _ (by omega)
        have hlt : ¬ (x.f1 > q.f0 - 2) := by
          simp [rgGood, hx, h2] at hg
          omega
        have c0 := at_prev_w p0 q x r hB
        simp only [at_prev_pos, if_true, c0, at_prev_nn, at_prev_lt, at_prev, e2, hlt, decide_false, if_false]
        refine LoopK.Ev.succ ?_
        simp only [spec_l1Ranges.j1, Bool.false_eq_true, if_false, e1]
        exact hn) l [] (by simpa using hl) (by simp)
  unfold spec_l1Ranges.f
  simpa using key
theorem rangesOk_ev (l : List S92) (hl : l.length ≤ 4611686018427387904) : Ev (fun k => impl_rangesOk.f k l) (chk rgGood none l) := by
  have key := pairEv (fun k xs i => impl_rangesOk.l0 k xs xs (xs.length : Int) i) rgGood rgInv (fun _ => true) 4611686018427387904
    (fun xs => by
      refine LoopK.Ev.succ ?_
      simp only [impl_rangesOk.l0, at_stop, if_false]
      exact Ev.now _)
    rg_inv
    (fun p x r hB hI hg => by
      refine LoopK.Ev.succ ?_
      simp only [impl_rangesOk.l0, at_lt, at_nn, if_true, rd_T92, at_getD, isVarint_eq, Option.bind_some, decide_eq_true_eq]
      by_cases h1 : 0 ≤ x.f0 ∧ x.f0 ≤ 4611686018427387903
      · simp only [h1, and_self, if_true]
        by_cases h2 : 0 ≤ x.f1 ∧ x.f1 ≤ 4611686018427387903
        · simp only [h2, and_self, if_true]
          by_cases h3 : x.f0 > x.f1
          · simp only [h3, if_true]
            (first | exact Ev.now _ | (refine LoopK.Ev.succ ?_; simp only [impl_rangesOk.j1, decide_true, if_true]; exact Ev.now _))
          · simp only [h3, if_false]
            rcases last_or p with rfl | ⟨p0, q, rfl⟩
            · exfalso
              simp [rgGood, h1, h2] at hg
              omega
            · have hq := hI q (by simp)
              unfold rgInv at hq
              have e2 : wrap64 (x.f1 + 2) = x.f1 + 2 := w64 _ (by omega)
              have hlt : q.f0 < x.f1 + 2 := by
                have h4 : x.f0 ≤ x.f1 := by omega
                simp [rgGood, h1, h2, h4] at hg
                omega
              have c0 := at_prev_w p0 q x r hB
              simp only [at_prev_pos, if_true, c0, at_prev_nn, at_prev_lt, at_prev, e2, hlt]
              (first | exact Ev.now _ | (refine LoopK.Ev.succ ?_; simp only [impl_rangesOk.j1, decide_true, if_true]; exact Ev.now _))
        · simp only [h2, if_false]
          (first | exact Ev.now _ | (refine LoopK.Ev.succ ?_; simp only [impl_rangesOk.j1, decide_true, if_true]; exact Ev.now _))
      · simp only [h1, if_false]
        (first | exact Ev.now _ | (refine LoopK.Ev.succ ?_; simp only [impl_rangesOk.j1, decide_true, if_true]; exact Ev.now _)))
    (fun p x r b hB hI hg hn => by
      refine LoopK.Ev.succ ?_
      have hx : (0 ≤ x.f0 ∧ x.f0 ≤ x.f1) ∧ x.f1 ≤ 4611686018427387903 := by
        simp only [rgGood, Bool.and_eq_true, decide_eq_true_eq] at hg
        exact hg.1
      have h1 : 0 ≤ x.f0 ∧ x.f0 ≤ 4611686018427387903 := by omega
      have h2 : 0 ≤ x.f1 ∧ x.f1 ≤ 4611686018427387903 := by omega
      have h3 : ¬ (x.f0 > x.f1) := by omega
      have e1 := at_w p x r hB
      simp only [impl_rangesOk.l0, at_lt, at_nn, if_true, rd_T92, at_getD, isVarint_eq, Option.bind_some, decide_eq_true_eq, h1, h2, and_self, h3, if_false, e1]
      rcases last_or p with rfl | ⟨p0, q, rfl⟩
      · have c9 : ¬ ((([] : List S92).length : Int) > 0) := by simp
        simp only [c9, if_false]
        refine LoopK.Ev.succ ?_
        simp only [impl_rangesOk.j1, Bool.false_eq_true, if_false]
        have e1' := e1
        simp only [e1']
        exact hn
      · have hq := hI q (by simp)
        unfold rgInv at hq
        have e2 : wrap64 (x.f1 + 2) = x.f1 + 2 := w64 _ (by omega)
        have hlt : ¬ (q.f0 < x.f1 + 2) := by
          simp [rgGood, hx, h2] at hg
          omega
        have c0 := at_prev_w p0 q x r hB
        simp only [at_prev_pos, if_true, c0, at_prev_nn, at_prev_lt, at_prev, e2, hlt, decide_false, if_false]
        refine LoopK.Ev.succ ?_
        simp only [impl_rangesOk.j1, Bool.false_eq_true, if_false, e1]
        exact hn) l [] (by simpa using hl) (by simp)
  unfold impl_rangesOk.f
  simpa using key

open Go.Proofs.Ytpdoplkiaejpiaa.FrK
theorem isEmpty_size (b : ByteArray) : b.toList.isEmpty = decide (b.size = 0) := by
  have hl : b.data.toList.length = b.size := by simp
  rw [ByteArray.toList_eq]
  by_cases h : b.size = 0
  · rw [List.eq_nil_of_length_eq_zero (hl.trans h), decide_eq_true h]
    rfl
  · rw [decide_eq_false h]
    cases hq : b.data.toList with
    | nil => exact absurd (by rw [← hl, hq]; rfl) h
    | cons x r => rfl
/-- The reference's shapes. -/
def shp (kd : Int) : Int × Int × Int :=
  if kd = 0 ∨ kd = 1 then (0, 0, 0) else if kd = 16 ∨ kd = 2 then (1, 0, 0) else if kd = 17 ∨ kd = 5 then (2, 0, 0) else if kd = 4 then (3, 0, 0)
  else if kd = 28 ∨ kd = 8 then (2, 0, 200) else if kd = 6 then (1, 0, 200) else if kd = 7 then (0, 1, 200) else if kd = 24 then (3, 1, 20)
  else if kd = 26 ∨ kd = 27 then (0, 8, 8) else if kd = 48 then (0, 0, 200) else (-1, 0, 0)
/-- The kinds. -/
theorem kinds (kd : Int) : kd = 0 ∨ kd = 1 ∨ kd = 2 ∨ kd = 4 ∨ kd = 5 ∨ kd = 6 ∨ kd = 7 ∨ kd = 8 ∨ kd = 16 ∨ kd = 17 ∨ kd = 24 ∨ kd = 26 ∨ kd = 27 ∨ kd = 28 ∨ kd = 48 ∨ (kd ≠ 0 ∧ kd ≠ 1 ∧ kd ≠ 2 ∧ kd ≠ 4 ∧ kd ≠ 5 ∧ kd ≠ 6 ∧ kd ≠ 7 ∧ kd ≠ 8 ∧ kd ≠ 16 ∧ kd ≠ 17 ∧ kd ≠ 24 ∧ kd ≠ 26 ∧ kd ≠ 27 ∧ kd ≠ 28 ∧ kd ≠ 48) := by omega
theorem l1Shape_ev (kd : Int) : Ev (fun k => spec_l1Shape.f k kd) (shp kd) := by
  refine ⟨9, fun k hk => ?_⟩
  obtain ⟨n, rfl⟩ : ∃ n, k = n + 9 := ⟨k - 9, by omega⟩
  rcases kinds kd with rfl | rfl | rfl | rfl | rfl | rfl | rfl | rfl | rfl | rfl | rfl | rfl | rfl | rfl | rfl | ⟨h0, h1, h2, h4, h5, h6, h7, h8, h16, h17, h24, h26, h27, h28, h48⟩
  all_goals first
    | rfl
    | simp [spec_l1Shape.f, spec_l1Shape.j0, spec_l1Shape.j1, spec_l1Shape.j2, spec_l1Shape.j3, spec_l1Shape.j4, shp, h0, h1, h2, h4, h5, h6, h7, h8, h16, h17, h24, h26, h27, h28, h48]
/-- Ranges that are right, and fall. -/
def rgsOk (rs : List S92) : Bool := chk rgGood none rs
/-- A right frame, as the reference has it. -/
def fGood (kd fa fb fc : Int) (fin : Bool) (dat : ByteArray) (rs : List S92) : Bool :=
  !sHead kd fa fb fc fin dat (shp kd).1 (shp kd).2.1 (shp kd).2.2 && (!sNums fa fb fc (shp kd).1 && ((if kd = 2 then rgsOk rs && decide (1 ≤ rs.length ∧ rs.length ≤ 20) else decide (rs.length = 0)) && sTail kd fa fb fc dat))
theorem specGood_ev (kd fa fb fc : Int) (fin : Bool) (dat : ByteArray) (rs : List S92) (hl : rs.length ≤ 4611686018427387904) : Ev (fun k => spec_GoodFrame.f k kd fa fb fc fin dat rs) (fGood kd fa fb fc fin dat rs) := by
  unfold spec_GoodFrame.f fGood
  refine LoopK.Ev.bind_ (l1Shape_ev kd) ?_
  cases h1 : sHead kd fa fb fc fin dat (shp kd).1 (shp kd).2.1 (shp kd).2.2 with
  | true => simpa [h1] using Ev.now false
  | false =>
    simp only [h1, Bool.false_eq_true, if_false, Bool.not_false, Bool.true_and]
    cases h2 : sNums fa fb fc (shp kd).1 with
    | true => simpa [h2] using Ev.now false
    | false =>
      simp only [h2, Bool.false_eq_true, if_false, Bool.not_false, Bool.true_and]
      unfold sRng
      by_cases k2 : kd = 2
      · simp only [k2, if_true]
        by_cases h0 : 0 < rs.length
        · simp only [h0, if_true]
          refine LoopK.Ev.bind_ (LoopK.Ev.bind_ (l1Ranges_ev rs hl) (Ev.now _)) ?_
          unfold rgsOk
          cases (chk rgGood none rs && decide (1 ≤ rs.length ∧ rs.length ≤ 20)) <;> simpa using Ev.now _
        · have e : rs.length = 0 := by omega
          simp only [h0, if_false, Option.bind_some, if_true]
          refine LoopK.Ev.to (Ev.now _) ?_
          simp [e]
      · simp only [k2, if_false, Option.bind_some, decide_eq_true_eq]
        by_cases h0 : 0 < rs.length
        · have e : ¬ rs.length = 0 := by omega
          simp only [h0, if_true, e, decide_false, Bool.false_and]
          exact Ev.now _
        · have e : rs.length = 0 := by omega
          simp only [h0, if_false, e, decide_true, Bool.true_and]
          exact Ev.now _
/-- A right frame, as the program has it. -/
def fGood2 (kd fa fb fc : Int) (fin : Bool) (dat : ByteArray) (rs : List S92) : Bool :=
  namedB kd fa fb fc fin dat rs.length &&
  (if kd = 2 then decide (1 ≤ (rs.length : Int) ∧ (rs.length : Int) ≤ 20) && rgsOk rs
  else if kd = 6 then isVr (wrap64 (fa + (dat.size : Int)))
  else if kd = 7 then !dat.toList.isEmpty
  else if kd = 8 then isVr (wrap64 (fb + (dat.size : Int)))
  else if kd = 24 then decide (fb ≤ fa) && (decide (1 ≤ (dat.size : Int) ∧ (dat.size : Int) ≤ 20) && decide (fc ≤ 255))
  else if kd = 26 ∨ kd = 27 then (dat.size : Int) == 8
  else true)
theorem bind_if (x : Bool) (b : Option Bool) : ((some x).bind fun y => if y = true then b else some false) = if x = true then b else some false := rfl
theorem implGood_ev (kd fa fb fc : Int) (fin : Bool) (dat : ByteArray) (rs : List S92) (hk : -9223372036854775808 ≤ kd ∧ kd ≤ 9223372036854775807) (hl : rs.length ≤ 4611686018427387904) : Ev (fun k => impl_GoodFrame.f k kd fa fb fc fin dat rs) (fGood2 kd fa fb fc fin dat rs) := by
  unfold impl_GoodFrame.f fGood2 impl_Frame_named.f
  simp only [hk, and_self, if_true, Option.bind_some]
  cases hn : namedB kd fa fb fc fin dat rs.length with
  | false => simpa using Ev.now false
  | true =>
    simp only [if_true, Bool.true_and]
    unfold goodTail
    simp only [in_eq, isVarint_eq, Option.bind_some]
    by_cases k2 : kd = 2
    · simp only [k2, if_true]
      by_cases h1 : 1 ≤ (rs.length : Int) ∧ (rs.length : Int) ≤ 20
      · simp only [h1, and_self, decide_true, if_true, Bool.true_and]
        exact rangesOk_ev rs hl
      · simp only [h1, decide_false, Bool.false_eq_true, if_false, Bool.false_and]
        exact Ev.now _
    simp only [k2, if_false]
    by_cases k6 : kd = 6
    · simp only [k6, if_true]
      exact Ev.now _
    simp only [k6, if_false]
    by_cases k7 : kd = 7
    · simp only [k7, if_true]
      exact Ev.now _
    simp only [k7, if_false]
    by_cases k8 : kd = 8
    · simp only [k8, if_true]
      exact Ev.now _
    simp only [k8, if_false]
    by_cases k24 : kd = 24
    · simp only [k24, if_true]
      by_cases h1 : fb ≤ fa
      · by_cases h2 : 1 ≤ (dat.size : Int) ∧ (dat.size : Int) ≤ 20
        · simp only [h1, h2, and_self, decide_true, if_true, Bool.true_and]
          exact Ev.now _
        · simp only [h1, h2, decide_false, decide_true, Bool.false_eq_true, if_false, if_true, Bool.false_and, Bool.true_and]
          exact Ev.now _
      · simp only [h1, decide_false, if_false, Bool.false_and]
        exact Ev.now _
    simp only [k24, if_false]
    by_cases k26 : kd = 26 ∨ kd = 27
    · simp only [k26, if_true]
      exact Ev.now _
    simp only [k26, if_false]
    exact Ev.now _
theorem w64v (x : Int) (n : Nat) (h1 : 0 ≤ x ∧ x ≤ 4611686018427387903) (h2 : (n : Int) ≤ 200) : wrap64 (x + (n : Int)) = x + (n : Int) := by unfold wrap64; omega
theorem w64m (n : Nat) (h2 : (n : Int) ≤ 200) : wrap64 (4611686018427387903 - (n : Int)) = 4611686018427387903 - (n : Int) := by unfold wrap64; omega
theorem good_same (kd fa fb fc : Int) (fin : Bool) (dat : ByteArray) (rs : List S92) : fGood kd fa fb fc fin dat rs = fGood2 kd fa fb fc fin dat rs := by
  rw [Bool.eq_iff_iff]
  unfold fGood fGood2 sHead sNums sTail namedB namedHead numOk inB isVr
  rw [isEmpty_size]
  have hz : dat.size = 0 ↔ (dat.size : Int) = 0 := by omega
  have hzr : rs.length = 0 ↔ (rs.length : Int) = 0 := by omega
  have hzr2 : (1 ≤ rs.length ∧ rs.length ≤ 20) ↔ (1 ≤ (rs.length : Int) ∧ (rs.length : Int) ≤ 20) := by omega
  have hr0 : 0 ≤ (rs.length : Int) := by omega
  have hd0 : 0 ≤ (dat.size : Int) := by omega
  generalize rgsOk rs = g
  have wa : 0 ≤ fa ∧ fa ≤ 4611686018427387903 → (dat.size : Int) ≤ 200 → wrap64 (fa + (dat.size : Int)) = fa + (dat.size : Int) := fun h h2 => w64v _ _ h h2
  have wb : 0 ≤ fb ∧ fb ≤ 4611686018427387903 → (dat.size : Int) ≤ 200 → wrap64 (fb + (dat.size : Int)) = fb + (dat.size : Int) := fun h h2 => w64v _ _ h h2
  have wm : (dat.size : Int) ≤ 200 → wrap64 (4611686018427387903 - (dat.size : Int)) = 4611686018427387903 - (dat.size : Int) := fun h2 => w64m _ h2
  simp only [hz, hzr, hzr2]
  clear hz hzr hzr2
  generalize (dat.size : Int) = n at *
  generalize (rs.length : Int) = m at *
  generalize wrap64 (fa + n) = x at *
  generalize wrap64 (fb + n) = y at *
  generalize wrap64 (4611686018427387903 - n) = z at *
  rcases kinds kd with rfl | rfl | rfl | rfl | rfl | rfl | rfl | rfl | rfl | rfl | rfl | rfl | rfl | rfl | rfl | ⟨h0, h1, h2, h4, h5, h6, h7, h8, h16, h17, h24, h26, h27, h28, h48⟩
  all_goals (
    (try simp only [shp, shapeOk, shapeN, shapeD, h0, h1, h2, h4, h5, h6, h7, h8, h16, h17, h24, h26, h27, h28, h48]); (try simp [shp, shapeOk, shapeN, shapeD])
    (try (first | omega | (cases fin <;> cases g <;> simp <;> omega) | (cases fin <;> cases g <;> (try simp) <;> omega))))

theorem hcat_ok (a b : ByteArray) (h : a.size + b.size ≤ 9223372036854775807) : hcat a b = some (a ++ b) := by
  unfold hcat
  rw [if_pos h]
/-- What stands behind an ack's first range. -/
noncomputable def ackRest (rs : List S92) : Nat → Int → ByteArray → ByteArray
  | 0, _, o => o
  | n + 1, i, o => ackRest rs n (i + 1) (o ++ (vbytes (wrap64 (wrap64 ((rd_T92 rs i).f0 - (rd_T92 rs (i + 1)).f1) - 2)) ++ vbytes (wrap64 ((rd_T92 rs (i + 1)).f1 - (rd_T92 rs (i + 1)).f0))))
theorem vb8 (n : Int) : (vbytes n).size ≤ 8 := by rw [vbytes_size]; have := vsize_in n; omega
theorem ackRest_pre (rs : List S92) (a : ByteArray) : ∀ n i o, ackRest rs n i (a ++ o) = a ++ ackRest rs n i o
  | 0, _, _ => rfl
  | n + 1, i, o => by
    unfold ackRest
    rw [ByteArray.append_assoc, ackRest_pre rs a n]
theorem ackRest_size (rs : List S92) : ∀ n i o, (ackRest rs n i o).size ≤ o.size + 16 * n
  | 0, _, _ => by unfold ackRest; omega
  | n + 1, i, o => by
    unfold ackRest
    refine Nat.le_trans (ackRest_size rs n _ _) ?_
    rw [ByteArray.size_append, ByteArray.size_append]
    have h1 := vb8 (wrap64 (wrap64 ((rd_T92 rs i).f0 - (rd_T92 rs (i + 1)).f1) - 2))
    have h2 := vb8 (wrap64 ((rd_T92 rs (i + 1)).f1 - (rd_T92 rs (i + 1)).f0))
    omega
theorem ackLoop_ev (rs : List S92) : ∀ n i o, o.size + 16 * n ≤ 1000000 → Ev (fun k => ackLoop k rs n i o) (ackRest rs n i o)
  | 0, _, _, _ => Ev.now _
  | n + 1, i, o, h => by
    unfold ackLoop ackRest
    refine LoopK.Ev.bind_ (varint_ev _) ?_
    refine LoopK.Ev.bind_ (varint_ev _) ?_
    have h1 := vb8 (wrap64 (wrap64 ((rd_T92 rs i).f0 - (rd_T92 rs (i + 1)).f1) - 2))
    have h2 := vb8 (wrap64 ((rd_T92 rs (i + 1)).f1 - (rd_T92 rs (i + 1)).f0))
    rw [hcat_ok _ _ (by omega)]
    simp only [Option.bind_some]
    rw [hcat_ok _ _ (by rw [ByteArray.size_append]; omega)]
    simp only [Option.bind_some]
    exact ackLoop_ev rs n _ _ (by rw [ByteArray.size_append, ByteArray.size_append]; omega)
theorem sAckLoop_ev (rs : List S92) : ∀ n i o, 0 ≤ i → o.size + 16 * n ≤ 1000000 → Ev (fun k => sAckLoop k rs n (i + 1) o) (ackRest rs n i o)
  | 0, _, _, _, _ => Ev.now _
  | n + 1, i, o, hi, h => by
    unfold sAckLoop ackRest
    have e1 : i + 1 - 1 = i := by omega
    have e2 : 0 < i + 1 := by omega
    simp only [e1, e2, if_true]
    refine LoopK.Ev.bind_ (l1Var_ev _) ?_
    refine LoopK.Ev.bind_ (l1Var_ev _) ?_
    have h1 := vb8 (wrap64 (wrap64 ((rd_T92 rs i).f0 - (rd_T92 rs (i + 1)).f1) - 2))
    have h2 := vb8 (wrap64 ((rd_T92 rs (i + 1)).f1 - (rd_T92 rs (i + 1)).f0))
    rw [hcat_ok _ _ (by omega)]
    simp only [Option.bind_some]
    rw [hcat_ok _ _ (by rw [ByteArray.size_append]; omega)]
    simp only [Option.bind_some]
    exact sAckLoop_ev rs n _ _ (by omega) (by rw [ByteArray.size_append, ByteArray.size_append]; omega)
/-- An ack's head. -/
noncomputable def ackHd (fa : Int) (rs : List S92) : ByteArray :=
  vbytes (rd_T92 rs 0).f1 ++ vbytes fa ++ vbytes (wrap64 ((rs.length : Int) - 1)) ++ vbytes (wrap64 ((rd_T92 rs 0).f1 - (rd_T92 rs 0).f0))
theorem ackHd_size (fa : Int) (rs : List S92) : (ackHd fa rs).size ≤ 32 := by
  unfold ackHd
  rw [ByteArray.size_append, ByteArray.size_append, ByteArray.size_append]
  have h1 := vb8 (rd_T92 rs 0).f1
  have h2 := vb8 fa
  have h3 := vb8 (wrap64 ((rs.length : Int) - 1))
  have h4 := vb8 (wrap64 ((rd_T92 rs 0).f1 - (rd_T92 rs 0).f0))
  omega
theorem ackHead_ev (fa : Int) (rs : List S92) : Ev (fun k => ackHead k fa rs) (ackHd fa rs) := by
  unfold ackHead ackHd
  have h1 := vb8 (rd_T92 rs 0).f1
  have h2 := vb8 fa
  have h3 := vb8 (wrap64 ((rs.length : Int) - 1))
  have h4 := vb8 (wrap64 ((rd_T92 rs 0).f1 - (rd_T92 rs 0).f0))
  refine LoopK.Ev.bind_ (varint_ev _) ?_
  refine LoopK.Ev.bind_ (varint_ev _) ?_
  refine LoopK.Ev.bind_ (varint_ev _) ?_
  refine LoopK.Ev.bind_ (varint_ev _) ?_
  rw [hcat_ok _ _ (by omega)]
  simp only [Option.bind_some]
  rw [hcat_ok _ _ (by rw [ByteArray.size_append]; omega)]
  simp only [Option.bind_some]
  rw [hcat_ok _ _ (by rw [ByteArray.size_append, ByteArray.size_append]; omega)]
  exact Ev.now _
theorem sAckHead_ev (fa : Int) (rs : List S92) (s : ByteArray) (hs : s.size ≤ 1000) : Ev (fun k => sAckHead k fa rs s) (s ++ ackHd fa rs) := by
  unfold sAckHead
  have h5 := ackHd_size fa rs
  unfold ackHd at h5 ⊢
  have h1 := vb8 (rd_T92 rs 0).f1
  have h2 := vb8 fa
  have h3 := vb8 (wrap64 ((rs.length : Int) - 1))
  have h4 := vb8 (wrap64 ((rd_T92 rs 0).f1 - (rd_T92 rs 0).f0))
  refine LoopK.Ev.bind_ (l1Var_ev _) ?_
  refine LoopK.Ev.bind_ (l1Var_ev _) ?_
  refine LoopK.Ev.bind_ (l1Var_ev _) ?_
  refine LoopK.Ev.bind_ (l1Var_ev _) ?_
  rw [hcat_ok _ _ (by omega)]
  simp only [Option.bind_some]
  rw [hcat_ok _ _ (by rw [ByteArray.size_append]; omega)]
  simp only [Option.bind_some]
  rw [hcat_ok _ _ (by rw [ByteArray.size_append, ByteArray.size_append]; omega)]
  simp only [Option.bind_some]
  rw [hcat_ok _ _ (by omega)]
  exact Ev.now _
theorem ack_ev (fa : Int) (rs : List S92) (h : 1 ≤ rs.length ∧ rs.length ≤ 20) : Ev (fun k => impl_Frame_ackBytes.f k fa rs) (ackRest rs (rs.length - 1) 0 (ackHd fa rs)) := by
  unfold impl_Frame_ackBytes.f
  have c : 0 < rs.length ∧ rs.length ≤ 9223372036854775807 := by omega
  simp only [c, and_self, if_true]
  have := ackHd_size fa rs
  exact LoopK.Ev.bind_ (ackHead_ev fa rs) (ackLoop_ev rs _ _ _ (by omega))
theorem sAck_ev (fa : Int) (rs : List S92) (s : ByteArray) (hs : s.size ≤ 1000) (h : 1 ≤ rs.length ∧ rs.length ≤ 20) : Ev (fun k => sAck k fa rs s) (s ++ ackRest rs (rs.length - 1) 0 (ackHd fa rs)) := by
  unfold sAck
  have c : 0 < rs.length ∧ rs.length ≤ 4611686018427387904 := by omega
  simp only [c, and_self, if_true]
  have h1 := ackHd_size fa rs
  refine LoopK.Ev.bind_ (sAckHead_ev fa rs s hs) ?_
  rw [← ackRest_pre]
  obtain ⟨m, hm⟩ : ∃ m, rs.length = m + 1 := ⟨rs.length - 1, by omega⟩
  have e : rs.length - 1 = m := by omega
  rw [e]
  have key := sAckLoop_ev rs m 0 (s ++ ackHd fa rs) (by omega) (by rw [ByteArray.size_append]; omega)
  have e2 : ∀ k, sAckLoop k rs rs.length 0 (s ++ ackHd fa rs) = sAckLoop k rs m (0 + 1) (s ++ ackHd fa rs) := fun k => by
    rw [hm]
    conv => lhs; unfold sAckLoop
    rw [if_neg (by omega)]
  simp only [e2]
  exact key
/-- One byte of a number. -/
noncomputable def be1 (x : Int) : ByteArray := strOfNums (be x 1)
theorem be1_size (x : Int) : (be1 x).size = 1 := by unfold be1; rw [strOfNums_size, be_length]
theorem be1_impl (x : Int) : Ev (fun k => impl_bigEndian.f k (IntKind.u64.wrap x) 1) (be1 x) := by
  have h := bigEndian_ev (IntKind.u64.wrap x) 1 (by omega)
  unfold be1
  rw [← be_same (IntKind.u64.wrap x) x 1 (by omega) (wrap_mod x).2]
  exact h
theorem be1_spec (x : Int) : Ev (fun k => spec_l1Fixed.f k x 1) (be1 x) := l1Fixed_any x 1 (by omega)
/-- A stream's offset. -/
noncomputable def offB (fb : Int) : ByteArray := if fb = 0 then (⟨#[]⟩ : ByteArray) else vbytes fb
theorem offB_size (fb : Int) : (offB fb).size ≤ 8 := by
  unfold offB
  split
  · exact Nat.zero_le _
  · exact vb8 fb
/-- A frame's bytes. -/
noncomputable def fBytes (kd fa fb fc : Int) (fin : Bool) (dat : ByteArray) (rs : List S92) : ByteArray :=
  if kd = 2 then vbytes kd ++ ackRest rs (rs.length - 1) 0 (ackHd fa rs)
  else if kd = 16 then vbytes kd ++ vbytes fa
  else if kd = 17 ∨ kd = 5 then vbytes kd ++ vbytes fa ++ vbytes fb
  else if kd = 4 then vbytes kd ++ vbytes fa ++ vbytes fb ++ vbytes fc
  else if kd = 28 then vbytes kd ++ vbytes fa ++ vbytes fb ++ (vbytes (dat.size : Int) ++ dat)
  else if kd = 6 then vbytes kd ++ vbytes fa ++ (vbytes (dat.size : Int) ++ dat)
  else if kd = 7 then vbytes kd ++ (vbytes (dat.size : Int) ++ dat)
  else if kd = 8 then vbytes (streamKind fb fin) ++ vbytes fa ++ offB fb ++ (vbytes (dat.size : Int) ++ dat)
  else if kd = 24 then vbytes kd ++ vbytes fa ++ vbytes fb ++ be1 (dat.size : Int) ++ dat ++ be1 fc
  else if kd = 26 ∨ kd = 27 then vbytes kd ++ dat
  else if kd = 48 then vbytes 49 ++ (vbytes (dat.size : Int) ++ dat)
  else vbytes kd
theorem counted_ev (dat : ByteArray) (h : dat.size ≤ 200) : Ev (fun k => impl_counted.f k dat) (vbytes (dat.size : Int) ++ dat) := by
  unfold impl_counted.f
  refine LoopK.Ev.bind_ (varint_ev _) ?_
  have := vb8 (dat.size : Int)
  have c : (vbytes (dat.size : Int)).size + dat.size ≤ 9223372036854775807 := by omega
  simp only [c, if_true]
  exact Ev.now _
theorem byV_ev (n : Int) (o : ByteArray) (h : o.size ≤ 1000000) : Ev (fun k => byV k n o) (o ++ vbytes n) := by
  unfold byV
  refine LoopK.Ev.bind_ (varint_ev _) ?_
  rw [hcat_ok _ _ (by have := vb8 n; omega)]
  exact Ev.now _
theorem sV_ev (n : Int) (o : ByteArray) (h : o.size ≤ 1000000) : Ev (fun k => sV k n o) (o ++ vbytes n) := by
  unfold sV
  refine LoopK.Ev.bind_ (l1Var_ev _) ?_
  rw [hcat_ok _ _ (by have := vb8 n; omega)]
  exact Ev.now _
theorem byC_ev (dat o : ByteArray) (h : o.size ≤ 1000000) (hd : dat.size ≤ 200) : Ev (fun k => byC k dat o) (o ++ (vbytes (dat.size : Int) ++ dat)) := by
  unfold byC
  refine LoopK.Ev.bind_ (counted_ev dat hd) ?_
  rw [hcat_ok _ _ (by rw [ByteArray.size_append]; have := vb8 (dat.size : Int); omega)]
  exact Ev.now _
theorem hcat_ev (a b : ByteArray) (h : a.size + b.size ≤ 9223372036854775807) : Ev (fun _ => hcat a b) (a ++ b) := by
  rw [hcat_ok a b h]
  exact Ev.now _
theorem implBytes_ev (kd fa fb fc : Int) (fin : Bool) (dat : ByteArray) (rs : List S92) (hd : dat.size ≤ 200) (hr : kd = 2 → 1 ≤ rs.length ∧ rs.length ≤ 20) : Ev (fun k => impl_Frame_bytes.f k kd fa fb fc fin dat rs) (fBytes kd fa fb fc fin dat rs) := by
  unfold impl_Frame_bytes.f fBytes
  refine LoopK.Ev.bind_ (varint_ev _) ?_
  have v0 := vb8 kd
  have v1 := vb8 fa
  have v2 := vb8 fb
  have v3 := vb8 fc
  have v4 := vb8 (dat.size : Int)
  have v5 := vb8 49
  have v6 := vb8 (streamKind fb fin)
  have v7 := offB_size fb
  have v8 := be1_size (dat.size : Int)
  have v9 := be1_size fc
  unfold bytesTail
  rcases kinds kd with rfl | rfl | rfl | rfl | rfl | rfl | rfl | rfl | rfl | rfl | rfl | rfl | rfl | rfl | rfl | ⟨h0, h1, h2, h4, h5, h6, h7, h8, h16, h17, h24, h26, h27, h28, h48⟩
  · exact Ev.now _
  · exact Ev.now _
  · have hr' := hr rfl
    have h1 := ackHd_size fa rs
    have h2 := ackRest_size rs (rs.length - 1) 0 (ackHd fa rs)
    exact LoopK.Ev.bind_ (ack_ev fa rs hr') (hcat_ev _ _ (by omega))
  · exact LoopK.Ev.bind_ (byV_ev _ _ (by omega)) (LoopK.Ev.bind_ (byV_ev _ _ (by rw [ByteArray.size_append]; omega)) (byV_ev _ _ (by rw [ByteArray.size_append, ByteArray.size_append]; omega)))
  · exact LoopK.Ev.bind_ (byV_ev _ _ (by omega)) (byV_ev _ _ (by rw [ByteArray.size_append]; omega))
  · exact LoopK.Ev.bind_ (byV_ev _ _ (by omega)) (byC_ev _ _ (by rw [ByteArray.size_append]; omega) hd)
  · exact byC_ev _ _ (by omega) hd
  · show Ev (fun k => impl_Frame_streamBytes.f k fa fb fin dat) _
    unfold impl_Frame_streamBytes.f
    refine LoopK.Ev.bind_ (a := offB fb) ?_ ?_
    · unfold offB
      by_cases hf : fb = 0
      · simp only [hf, if_true]; exact Ev.now _
      · simp only [hf, if_false]; exact varint_ev _
    refine LoopK.Ev.bind_ (varint_ev _) ?_
    refine LoopK.Ev.bind_ (varint_ev _) ?_
    refine LoopK.Ev.bind_ (counted_ev dat hd) ?_
    rw [hcat_ok _ _ (by omega)]
    simp only [Option.bind_some]
    rw [hcat_ok _ _ (by rw [ByteArray.size_append]; omega)]
    simp only [Option.bind_some]
    exact hcat_ev _ _ (by simp only [ByteArray.size_append]; omega)
  · exact byV_ev _ _ (by omega)
  · exact LoopK.Ev.bind_ (byV_ev _ _ (by omega)) (byV_ev _ _ (by rw [ByteArray.size_append]; omega))
  · refine LoopK.Ev.bind_ (byV_ev _ _ (by omega)) (LoopK.Ev.bind_ (byV_ev _ _ (by rw [ByteArray.size_append]; omega)) (LoopK.Ev.bind_ (be1_impl _) ?_))
    refine LoopK.Ev.bind_ (hcat_ev _ _ (by simp only [ByteArray.size_append]; omega)) ?_
    refine LoopK.Ev.bind_ (hcat_ev _ _ (by simp only [ByteArray.size_append]; omega)) ?_
    exact LoopK.Ev.bind_ (be1_impl _) (hcat_ev _ _ (by simp only [ByteArray.size_append]; omega))
  · exact hcat_ev _ _ (by omega)
  · exact hcat_ev _ _ (by omega)
  · exact LoopK.Ev.bind_ (byV_ev _ _ (by omega)) (LoopK.Ev.bind_ (byV_ev _ _ (by rw [ByteArray.size_append]; omega)) (byC_ev _ _ (by simp only [ByteArray.size_append]; omega) hd))
  · exact LoopK.Ev.bind_ (varint_ev _) (byC_ev _ _ (by omega) hd)
  · simp only [h2, h4, h5, h17, h16, h6, h7, h8, h24, h26, h27, h28, h48, or_self, if_false]
    exact Ev.now _
theorem specBytes_ev (kd fa fb fc : Int) (fin : Bool) (dat : ByteArray) (rs : List S92) (hd : dat.size ≤ 200) (hr : kd = 2 → 1 ≤ rs.length ∧ rs.length ≤ 20) : Ev (fun k => spec_l1Bytes.f k kd fa fb fc fin dat rs) (fBytes kd fa fb fc fin dat rs) := by
  unfold spec_l1Bytes.f fBytes
  have v0 := vb8 kd
  have v1 := vb8 fa
  have v2 := vb8 fb
  have v3 := vb8 fc
  have v4 := vb8 (dat.size : Int)
  have v5 := vb8 49
  have v6 := vb8 (streamKind fb fin)
  have v7 := offB_size fb
  have v8 := be1_size (dat.size : Int)
  have v9 := be1_size fc
  refine LoopK.Ev.bind_ (l1Var_ev _) ?_
  refine LoopK.Ev.bind_ (l1Var_ev _) ?_
  refine LoopK.Ev.bind_ (hcat_ev _ _ (by omega)) ?_
  unfold sTailB
  rcases kinds kd with rfl | rfl | rfl | rfl | rfl | rfl | rfl | rfl | rfl | rfl | rfl | rfl | rfl | rfl | rfl | ⟨h0, h1, h2, h4, h5, h6, h7, h8, h16, h17, h24, h26, h27, h28, h48⟩
  · exact Ev.now _
  · exact Ev.now _
  · exact sAck_ev fa rs _ (by omega) (hr rfl)
  · exact LoopK.Ev.bind_ (sV_ev _ _ (by omega)) (LoopK.Ev.bind_ (sV_ev _ _ (by rw [ByteArray.size_append]; omega)) (sV_ev _ _ (by rw [ByteArray.size_append, ByteArray.size_append]; omega)))
  · exact LoopK.Ev.bind_ (sV_ev _ _ (by omega)) (sV_ev _ _ (by rw [ByteArray.size_append]; omega))
  · exact LoopK.Ev.bind_ (sV_ev _ _ (by omega)) (hcat_ev _ _ (by simp only [ByteArray.size_append]; omega))
  · exact hcat_ev _ _ (by simp only [ByteArray.size_append]; omega)
  · show Ev (fun k => sStream k fa fb fin _) _
    unfold sStream
    refine LoopK.Ev.bind_ (a := offB fb) ?_ ?_
    · unfold offB
      by_cases hf : fb = 0
      · simp only [hf, if_true]; exact Ev.now _
      · simp only [hf, if_false]; exact l1Var_ev _
    refine LoopK.Ev.bind_ (l1Var_ev _) ?_
    refine LoopK.Ev.bind_ (l1Var_ev _) ?_
    rw [hcat_ok _ _ (by omega)]
    simp only [Option.bind_some]
    rw [hcat_ok _ _ (by rw [ByteArray.size_append]; omega)]
    simp only [Option.bind_some]
    exact hcat_ev _ _ (by simp only [ByteArray.size_append]; omega)
  · exact sV_ev _ _ (by omega)
  · exact LoopK.Ev.bind_ (sV_ev _ _ (by omega)) (sV_ev _ _ (by rw [ByteArray.size_append]; omega))
  · refine LoopK.Ev.bind_ (sV_ev _ _ (by omega)) (LoopK.Ev.bind_ (sV_ev _ _ (by rw [ByteArray.size_append]; omega)) (LoopK.Ev.bind_ (be1_spec _) ?_))
    refine LoopK.Ev.bind_ (hcat_ev _ _ (by simp only [ByteArray.size_append]; omega)) ?_
    refine LoopK.Ev.bind_ (hcat_ev _ _ (by simp only [ByteArray.size_append]; omega)) ?_
    exact LoopK.Ev.bind_ (be1_spec _) (hcat_ev _ _ (by simp only [ByteArray.size_append]; omega))
  · exact hcat_ev _ _ (by omega)
  · exact hcat_ev _ _ (by omega)
  · exact LoopK.Ev.bind_ (sV_ev _ _ (by omega)) (LoopK.Ev.bind_ (sV_ev _ _ (by rw [ByteArray.size_append]; omega)) (hcat_ev _ _ (by simp only [ByteArray.size_append]; omega)))
  · exact LoopK.Ev.bind_ (l1Var_ev _) (hcat_ev _ _ (by simp only [ByteArray.size_append]; omega))
  · simp only [h2, h4, h5, h17, h16, h6, h7, h8, h24, h26, h27, h28, h48, or_self, if_false]
    exact Ev.now _
theorem fGood_in (kd fa fb fc : Int) (fin : Bool) (dat : ByteArray) (rs : List S92) (h : fGood2 kd fa fb fc fin dat rs = true) : dat.size ≤ 200 ∧ (kd = 2 → 1 ≤ rs.length ∧ rs.length ≤ 20) := by
  unfold fGood2 namedB namedHead at h
  simp only [Bool.and_eq_true, Bool.not_eq_true', decide_eq_false_iff_not] at h
  refine ⟨by have := h.1.1.2.1; omega, fun k => ?_⟩
  have h2 := h.2
  simp only [k, if_true, Bool.and_eq_true, decide_eq_true_eq] at h2
  omega

theorem fBytes_size (kd fa fb fc : Int) (fin : Bool) (dat : ByteArray) (rs : List S92) (hd : dat.size ≤ 200) (hr : kd = 2 → 1 ≤ rs.length ∧ rs.length ≤ 20) : (fBytes kd fa fb fc fin dat rs).size ≤ 400 := by
  unfold fBytes
  have v0 := vb8 kd
  have v1 := vb8 fa
  have v2 := vb8 fb
  have v3 := vb8 fc
  have v4 := vb8 (dat.size : Int)
  have v5 := vb8 49
  have v6 := vb8 (streamKind fb fin)
  have v7 := offB_size fb
  have v8 := be1_size (dat.size : Int)
  have v9 := be1_size fc
  have h1 := ackHd_size fa rs
  have h2 := ackRest_size rs (rs.length - 1) 0 (ackHd fa rs)
  by_cases k2 : kd = 2
  · have hr' := hr k2
    simp only [k2, if_true, ByteArray.size_append]
    rw [k2] at v0
    omega
  simp only [k2, if_false]
  repeat' split
  all_goals ((try simp only [ByteArray.size_append]); omega)
/-- A frame that is right. -/
def fOk (x : S30) : Bool := fGood2 x.f0 x.f1 x.f2 x.f3 x.f4 x.f5 x.f6
noncomputable def fB (x : S30) : ByteArray := fBytes x.f0 x.f1 x.f2 x.f3 x.f4 x.f5 x.f6
/-- What can be read of a frame. -/
def fIn (x : S30) : Prop := (-9223372036854775808 ≤ x.f0 ∧ x.f0 ≤ 9223372036854775807) ∧ x.f6.length ≤ 1048576
noncomputable def framesF : List S30 → ByteArray → ByteArray
  | [], o => o
  | x :: r, o => framesF r (o ++ fB x)
def endF (o : ByteArray) : ByteArray × Bool := if 1500 < (o.size : Int) then ((⟨#[]⟩ : ByteArray), false) else (o, true)
theorem end_ev (o : ByteArray) : Ev (fun _ : Nat => if 1500 < (o.size : Int) then some ((⟨#[]⟩ : ByteArray), false) else some (o, true)) (endF o) := by
  unfold endF
  by_cases h : 1500 < (o.size : Int)
  · simp only [h, if_true]; exact Ev.now _
  · simp only [h, if_false]; exact Ev.now _
theorem fB_size (x : S30) (h : fOk x = true) : (fB x).size ≤ 400 := by
  obtain ⟨h1, h2⟩ := fGood_in _ _ _ _ _ _ _ h
  exact fBytes_size _ _ _ _ _ _ _ h1 h2
theorem specFs_ev : ∀ (r p : List S30) (o : ByteArray), (∀ x, x ∈ r → fIn x) → o.size + 400 * r.length ≤ 1000000 →
    Ev (fun k => specFs k (p ++ r) r.length (p.length : Int) o) (if r.all fOk = true then endF (framesF r o) else ((⟨#[]⟩ : ByteArray), false))
  | [], p, o, _, _ => by
    simp only [specFs, List.length_nil, List.all_nil, if_true, framesF]
    exact end_ev o
  | x :: r, p, o, hx, ho => by
    have hx0 := hx x (by simp)
    have hg := specGood_ev x.f0 x.f1 x.f2 x.f3 x.f4 x.f5 x.f6 (by have := hx0.2; omega)
    rw [good_same] at hg
    simp only [specFs, List.length_cons, rd_T30, at_getD]
    refine LoopK.Ev.bind_ hg ?_
    rw [List.length_cons] at ho
    cases hq : fOk x with
    | false =>
      have hq' : fGood2 x.f0 x.f1 x.f2 x.f3 x.f4 x.f5 x.f6 = false := hq
      simp only [hq', List.all_cons, hq, Bool.false_and, Bool.false_eq_true, if_false]
      exact Ev.now _
    | true =>
      have hq' : fGood2 x.f0 x.f1 x.f2 x.f3 x.f4 x.f5 x.f6 = true := hq
      have hz := fB_size x hq
      obtain ⟨i1, i2⟩ := fGood_in _ _ _ _ _ _ _ hq'
      simp only [hq', List.all_cons, hq, Bool.true_and, if_true, framesF]
      refine LoopK.Ev.bind_ (specBytes_ev x.f0 x.f1 x.f2 x.f3 x.f4 x.f5 x.f6 i1 i2) ?_
      rw [show fBytes x.f0 x.f1 x.f2 x.f3 x.f4 x.f5 x.f6 = fB x from rfl, hcat_ok o (fB x) (by omega)]
      simp only [Option.bind_some]
      have ih := specFs_ev r (p ++ [x]) (o ++ fB x) (fun y hy => hx y (by simp [hy])) (by rw [ByteArray.size_append]; omega)
      rw [← at_snoc, len_snoc] at ih
      exact ih
theorem implFs_ev : ∀ (r p : List S30) (o : ByteArray), (∀ x, x ∈ r → fOk x = true) → o.size + 400 * r.length ≤ 1000000 →
    Ev (fun k => implFs k (p ++ r) r.length (p.length : Int) o) (endF (framesF r o))
  | [], p, o, _, _ => by
    simp only [implFs, List.length_nil, framesF]
    exact end_ev o
  | x :: r, p, o, hx, ho => by
    have hq := hx x (by simp)
    have hq' : fGood2 x.f0 x.f1 x.f2 x.f3 x.f4 x.f5 x.f6 = true := hq
    have hz := fB_size x hq
    obtain ⟨i1, i2⟩ := fGood_in _ _ _ _ _ _ _ hq'
    rw [List.length_cons] at ho
    simp only [implFs, List.length_cons, rd_T30, at_getD, framesF]
    refine LoopK.Ev.bind_ (implBytes_ev x.f0 x.f1 x.f2 x.f3 x.f4 x.f5 x.f6 i1 i2) ?_
    rw [show fBytes x.f0 x.f1 x.f2 x.f3 x.f4 x.f5 x.f6 = fB x from rfl, hcat_ok o (fB x) (by omega)]
    simp only [Option.bind_some]
    have ih := implFs_ev r (p ++ [x]) (o ++ fB x) (fun y hy => hx y (by simp [hy])) (by rw [ByteArray.size_append]; omega)
    rw [← at_snoc, len_snoc] at ih
    exact ih
theorem goods_ev : ∀ (l : List S30), (∀ x, x ∈ l → fIn x) → ∃ K, ∀ k, K ≤ k → ∀ x, x ∈ l → goodOf k x = some (fOk x)
  | [], _ => ⟨0, fun _ _ x hx => by cases hx⟩
  | y :: r, h => by
    obtain ⟨K1, h1⟩ := goods_ev r (fun x hx => h x (by simp [hx]))
    have hy := h y (by simp)
    obtain ⟨K2, h2⟩ := implGood_ev y.f0 y.f1 y.f2 y.f3 y.f4 y.f5 y.f6 hy.1 (by have := hy.2; omega)
    refine ⟨K1 + K2, fun k hk x hx => ?_⟩
    rcases List.mem_cons.1 hx with rfl | hx
    · exact h2 k (by omega)
    · exact h1 k (by omega) x hx
theorem implFrames_ev (l : List S30) (hl : l.length ≤ 1048576) (h : ∀ x, x ∈ l → fIn x) : Ev (fun k => impl_FramesBytes.f k l) (if 40 < (l.length : Int) then ((⟨#[]⟩ : ByteArray), false) else if l.all fOk = true then endF (framesF l (⟨#[]⟩ : ByteArray)) else ((⟨#[]⟩ : ByteArray), false)) := by
  have c : (l.length : Int) ≤ 4611686018427387904 := by omega
  by_cases h40 : 40 < (l.length : Int)
  · unfold impl_FramesBytes.f
    simp only [c, h40, if_true]
    exact Ev.now _
  · simp only [h40, if_false]
    obtain ⟨K, hK⟩ := goods_ev l h
    have e1 : ∀ k, K ≤ k → (l.all fun x => (goodOf k x).isSome) = true := fun k hk => List.all_eq_true.2 (fun x hx => by rw [hK k hk x hx]; rfl)
    have e2 : ∀ k, K ≤ k → l.any (badOf k) = !(l.all fOk) := fun k hk => by
      rw [Bool.eq_iff_iff]
      simp only [List.any_eq_true, Bool.not_eq_true', List.all_eq_false]
      constructor
      · rintro ⟨x, hx, hb⟩
        refine ⟨x, hx, ?_⟩
        unfold badOf at hb
        rw [hK k hk x hx] at hb
        simpa using hb
      · rintro ⟨x, hx, hb⟩
        refine ⟨x, hx, ?_⟩
        unfold badOf
        rw [hK k hk x hx]
        simpa using hb
    cases ha : l.all fOk with
    | false =>
      refine ⟨K, fun k hk => ?_⟩
      unfold impl_FramesBytes.f
      simp only [c, h40, if_true, if_false, e1 k hk, e2 k hk, ha, Bool.not_false, Bool.false_eq_true]
    | true =>
      have z : (⟨#[]⟩ : ByteArray).size = 0 := rfl
      obtain ⟨K2, h2⟩ := implFs_ev l [] (⟨#[]⟩ : ByteArray) (fun x hx => List.all_eq_true.1 ha x hx) (by rw [z]; omega)
      refine ⟨K + K2, fun k hk => ?_⟩
      unfold impl_FramesBytes.f
      simp only [c, h40, if_true, if_false, e1 k (by omega), e2 k (by omega), ha, Bool.not_true, Bool.false_eq_true]
      exact h2 k (by omega)
theorem specFrames_ev (l : List S30) (hl : l.length ≤ 1048576) (h : ∀ x, x ∈ l → fIn x) : Ev (fun k => spec_FramesBytes.f k l) (if 40 < (l.length : Int) then ((⟨#[]⟩ : ByteArray), false) else if l.all fOk = true then endF (framesF l (⟨#[]⟩ : ByteArray)) else ((⟨#[]⟩ : ByteArray), false)) := by
  have c : (l.length : Int) ≤ 4611686018427387904 := by omega
  unfold spec_FramesBytes.f
  by_cases h40 : 40 < (l.length : Int)
  · simp only [c, h40, if_true]
    exact Ev.now _
  · simp only [c, h40, if_true, if_false]
    have z : (⟨#[]⟩ : ByteArray).size = 0 := rfl
    exact specFs_ev l [] (⟨#[]⟩ : ByteArray) h (by rw [z]; omega)
/-! ### sizes, copies, alike -/
def totFr : List S24 → Int
  | [] => 0
  | x :: r => (x.f5.size : Int) + (x.f6.length : Int) + totFr r
theorem totFr_nonneg : ∀ l, 0 ≤ totFr l
  | [] => by simp [totFr]
  | x :: r => by
    have := totFr_nonneg r
    simp only [totFr]
    omega
def FOk (x : S24) : Prop := x.f5.size ≤ 140737488351232 ∧ x.f6.length ≤ 140737488351232
theorem szFrame_ev (x : S24) (a : Int) (ha : 0 ≤ a ∧ a ≤ 1048576) (hx : FOk x) : ∃ r, laws_szFrame.f x.f0 x.f1 x.f2 x.f3 x.f4 x.f5 x.f6 a = some r ∧ -1 ≤ r ∧ (0 ≤ r → r = a - ((x.f5.size : Int) + (x.f6.length : Int))) := by
  obtain ⟨h1, h2⟩ := hx
  unfold laws_szFrame.f laws_szRangeS.f
  have e : wrap64 (a - (x.f5.size : Int)) = a - (x.f5.size : Int) := w64 _ (by omega)
  simp only [e]
  by_cases hn : a - (x.f5.size : Int) < 0
  · exact ⟨-1, by simp only [hn, if_true], by omega, fun h => by omega⟩
  · have e2 : wrap64 (a - (x.f5.size : Int) - (x.f6.length : Int)) = a - (x.f5.size : Int) - (x.f6.length : Int) := w64 _ (by omega)
    simp only [hn, if_false, e2]
    by_cases hq0 : a - (x.f5.size : Int) - (x.f6.length : Int) < 0
    · exact ⟨-1, by simp only [hq0, if_true, Option.bind_some, show (-1 : Int) < 0 by omega], by omega, fun h => by omega⟩
    · exact ⟨a - (x.f5.size : Int) - (x.f6.length : Int), by simp only [hq0, if_false, Option.bind_some], by omega, fun h => by omega⟩
theorem szFrameS_loop : ∀ (r p : List S24) (a : Int), (p ++ r).length ≤ 4611686018427387904 → 0 ≤ a → a ≤ 1048576 → (∀ x, x ∈ r → FOk x) →
    ∃ q, Ev (fun k => laws_szFrameS.l0 k (p ++ r) a (p.length : Int)) q ∧ -1 ≤ q ∧ (0 ≤ q → q = a - totFr r)
  | [], p, a, hB, h0, h1, _ => by
    refine ⟨a, LoopK.Ev.succ ?_, by omega, fun _ => by simp [totFr]⟩
    simp only [List.append_nil, laws_szFrameS.l0, at_stop, if_false]
    exact Ev.now _
  | x :: r, p, a, hB, h0, h1, hx => by
    have e1 := at_w p x r hB
    have tn := totFr_nonneg r
    obtain ⟨t, ht, ht0, ht1⟩ := szFrame_ev x a ⟨h0, h1⟩ (hx x (by simp))
    by_cases hn : t < 0
    · refine ⟨-1, LoopK.Ev.succ ?_, by omega, fun h => by omega⟩
      simp only [laws_szFrameS.l0, at_lt, at_nn, if_true, rd_T24, at_getD, ht, Option.bind_some, hn]
      exact Ev.now _
    · have ht2 := ht1 (by omega)
      obtain ⟨q, hq, q2, q3⟩ := szFrameS_loop r (p ++ [x]) t (by simpa using hB) (by omega) (by omega) (fun y hy => hx y (by simp [hy]))
      rw [← at_snoc, len_snoc] at hq
      refine ⟨q, LoopK.Ev.succ ?_, q2, fun h => ?_⟩
      · simp only [laws_szFrameS.l0, at_lt, at_nn, if_true, rd_T24, at_getD, ht, Option.bind_some, hn, if_false, e1]
        exact hq
      · rw [q3 h]
        simp only [totFr]
        omega
theorem szFrameS_ev (l : List S24) (h : l.length ≤ 140737488351232) (hx : ∀ x, x ∈ l → FOk x) :
    ∃ r, Ev (fun k => laws_szFrameS.f k l 1048576) r ∧ (0 ≤ r → l.length + totFr l ≤ 1048576) := by
  unfold laws_szFrameS.f
  have e : wrap64 (1048576 - (l.length : Int)) = 1048576 - (l.length : Int) := w64 _ (by omega)
  simp only [e]
  by_cases hn : 1048576 - (l.length : Int) < 0
  · simp only [hn, if_true]
    exact ⟨-1, Ev.now _, fun h => by omega⟩
  · simp only [hn, if_false]
    obtain ⟨q, hq, q2, q3⟩ := szFrameS_loop l [] (1048576 - l.length) (by simp; omega) (by omega) (by omega) hx
    simp only [List.nil_append, List.length_nil, Int.natCast_zero] at hq
    exact ⟨q, hq, fun h => by have := q3 h; omega⟩
def cvFr (x : S24) : S30 := ⟨x.f0, x.f1, x.f2, x.f3, x.f4, x.f5, x.f6.map cvRange⟩
theorem totFr_mem : ∀ (l : List S24) (x : S24), x ∈ l → (x.f6.length : Int) ≤ totFr l
  | [], x, h => by cases h
  | y :: r, x, h => by
    have := totFr_nonneg r
    rcases List.mem_cons.1 h with rfl | h
    · simp only [totFr]; omega
    · have := totFr_mem r x h
      simp only [totFr]; omega
theorem toFrameS_loop : ∀ (r p : List S24), (p ++ r).length ≤ 1048576 → (∀ x, x ∈ r → x.f6.length ≤ 1048576) →
    Ev (fun k => laws_toFrameS.l0 k (p ++ r) (p.map cvFr ++ List.replicate r.length z30) (p.length : Int)) ((p ++ r).map cvFr)
  | [], p, _, _ => by
    refine LoopK.Ev.succ ?_
    simp only [List.append_nil, laws_toFrameS.l0, at_stop, if_false, List.length_nil, List.replicate_zero]
    exact Ev.now _
  | x :: r, p, hB, hx => by
    have ih := toFrameS_loop r (p ++ [x]) (by simpa using hB) (fun y hy => hx y (by simp [hy]))
    rw [← at_snoc, len_snoc] at ih
    have e0 : (p ++ [x]).map cvFr ++ List.replicate r.length z30 = p.map cvFr ++ cvFr x :: List.replicate r.length z30 := by simp
    rw [e0] at ih
    refine LoopK.Ev.succ ?_
    have e1 := at_w p x r (by omega)
    have e2 := at_lt' p (p.map cvFr) z30 (List.replicate r.length z30) (by simp)
    have e3 : (p.map cvFr ++ z30 :: List.replicate r.length z30).set (p.length : Int).toNat (cvFr x) = p.map cvFr ++ cvFr x :: List.replicate r.length z30 := at_set2 p (p.map cvFr) z30 (cvFr x) (List.replicate r.length z30) (by simp)
    rw [List.length_cons, List.replicate_succ]
    simp only [laws_toFrameS.l0, at_lt, at_nn, if_true, laws_toFrame.f, Option.bind_some, rd_T24, at_getD, Option.bind_assoc]
    refine LoopK.Ev.bind_ (toRangeS_ev x.f6 (hx x (by simp))) ?_
    simp only [cvFr] at e2 e3 ih
    simp only [Option.bind_some, e2, if_true, e1, cvFr, e3]
    exact ih
theorem toFrameS_ev (l : List S24) (h : l.length ≤ 1048576) (hx : ∀ x, x ∈ l → x.f6.length ≤ 1048576) : Ev (fun k => laws_toFrameS.f k l) (l.map cvFr) := by
  have key := toFrameS_loop l [] (by simpa using h) hx
  unfold laws_toFrameS.f
  have c1 : 0 ≤ (l.length : Int) := by omega
  have c2 : (l.length : Int).toNat = l.length := by omega
  simp only [c1, if_true, c2]
  have c3 : l.length ≤ 3518437208883 := by omega
  simp only [c3, if_true]
  simp only [List.nil_append, List.map_nil, List.length_nil, Int.natCast_zero] at key
  exact key
theorem eqFrame_ev (x : S30) (h : x.f6.length ≤ 4611686018427387904) : Ev (fun k => laws_eqFrame.f k x.f0 x.f1 x.f2 x.f3 x.f4 x.f5 x.f6 x.f0 x.f1 x.f2 x.f3 x.f4 x.f5 x.f6) true := by
  unfold laws_eqFrame.f
  simp only [if_true, bne_self_eq_false, Bool.false_eq_true, if_false]
  refine LoopK.Ev.bind_ (eqRangeS_ev x.f6 h) ?_
  simp only [if_true]
  exact Ev.now _
theorem eqFrameS_loop : ∀ (r p : List S30), (p ++ r).length ≤ 4611686018427387904 → (∀ x, x ∈ r → x.f6.length ≤ 4611686018427387904) →
    Ev (fun k => laws_eqFrameS.l0 k (p ++ r) (p ++ r) (p.length : Int)) true
  | [], p, _, _ => by
    refine LoopK.Ev.succ ?_
    simp only [List.append_nil, laws_eqFrameS.l0, at_stop, if_false]
    exact Ev.now _
  | x :: r, p, hB, hx => by
    have ih := eqFrameS_loop r (p ++ [x]) (by simpa using hB) (fun y hy => hx y (by simp [hy]))
    rw [← at_snoc, len_snoc] at ih
    refine LoopK.Ev.succ ?_
    have e1 := at_w p x r hB
    simp only [laws_eqFrameS.l0, at_lt, at_nn, if_true, rd_T30, at_getD, e1]
    refine LoopK.Ev.bind_ (eqFrame_ev x (hx x (by simp))) ?_
    simp only [if_true]
    exact ih
theorem eqFrameS_ev (l : List S30) (h : l.length ≤ 4611686018427387904) (hx : ∀ x, x ∈ l → x.f6.length ≤ 4611686018427387904) : Ev (fun k => laws_eqFrameS.f k l l) true := by
  unfold laws_eqFrameS.f
  simp only [if_true]
  have key := eqFrameS_loop l [] (by simpa using h) hx
  simpa using key

theorem FnExactFramesBytes : SFnExactFramesBytes.Pure := by
  intro l hl
  refine Ev.rounds ?_
  unfold laws_FnExactFramesBytes.f
  have hx : ∀ x, x ∈ l → FOk x := fun x h => ⟨(hl.2.2 x h).2.2.2.2.2.1, by have := (hl.2.2 x h).2.2.2.2.2.2.1; omega⟩
  obtain ⟨r, hr, hr1⟩ := szFrameS_ev l (by have := hl.1; omega) hx
  refine LoopK.Ev.bind_ hr ?_
  by_cases h0 : r < 0
  · simp only [h0, if_true]
    exact Ev.now _
  · simp only [h0, if_false]
    have b1 := hr1 (by omega)
    have tn := totFr_nonneg l
    have hb : l.length ≤ 1048576 := by omega
    have hs1 : ∀ x, x ∈ l → x.f6.length ≤ 1048576 := fun x h => by have := totFr_mem l x h; omega
    have hto := toFrameS_ev l hb hs1
    have hm : (l.map cvFr).length ≤ 1048576 := by rw [List.length_map]; exact hb
    have hin : ∀ x, x ∈ l.map cvFr → fIn x := fun x h => by
      obtain ⟨y, hy, rfl⟩ := List.mem_map.1 h
      exact ⟨(hl.2.2 y hy).1, by show (y.f6.map cvRange).length ≤ _; rw [List.length_map]; exact hs1 y hy⟩
    refine LoopK.Ev.bind_ hto ?_
    refine LoopK.Ev.bind_ (specFrames_ev _ hm hin) ?_
    refine LoopK.Ev.bind_ hto ?_
    refine LoopK.Ev.bind_ (implFrames_ev _ hm hin) ?_
    simp only [if_true, bne_self_eq_false]
    refine LoopK.Ev.succ ?_
    simp only [laws_FnExactFramesBytes.j0, Bool.false_eq_true, if_false]
    refine LoopK.Ev.bind_ hto ?_
    refine LoopK.Ev.bind_ (eqFrameS_ev _ (by omega) (fun x h => by have := (hin x h).2; omega)) ?_
    simp only [if_true]
    exact Ev.now _

end Go.Proofs.Ytpdoplkiaejpiaa.Pure
