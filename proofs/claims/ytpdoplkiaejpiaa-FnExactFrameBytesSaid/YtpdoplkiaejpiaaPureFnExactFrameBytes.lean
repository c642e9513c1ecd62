/- The pure statement of the law FnExactFrameBytes: the program's function and the reference answer alike. -/
import Derived.Test.YtpdoplkiaejpiaaSFnExactFrameBytes
import Derived.Test.YtpdoplkiaejpiaaLoopK
namespace Go.Proofs.Ytpdoplkiaejpiaa.Pure
open Go.RowKit Go.Proofs.Ytpdoplkiaejpiaa.PFnExactFrameBytes Go.Proofs.YtpdoplkiaejpiaaW.PrintWords Go.Proofs.YtpdoplkiaejpiaaW.PrintLast Go.Proofs.Ytpdoplkiaejpiaa.SFnExactFrameBytes
set_option linter.unusedVariables false
set_option linter.unusedSimpArgs false

open Go.Proofs.Ytpdoplkiaejpiaa.LoopK (copyEv sameEv markEv heldEv foldEv mk mk_length at_lt at_lt' at_nn at_nlt at_stop at_getD at_set at_set2 at_snoc len_snoc at_w w64 firstEv find_any chk last_or at_prev at_prev_lt at_prev_nn at_prev_pos at_prev_w pairEv)

/-- The copy of an element. -/
def cvRange (x : S99) : S92 := ⟨x.f0, x.f1⟩

theorem toRangeS_ev (l : List S99) (h : l.length ≤ 1048576) : Ev (fun k => laws_toRangeS.f k l) (l.map cvRange) := by
  have key := copyEv (fun k xs ys i => laws_toRangeS.l0 k xs ys i) cvRange z92 1048576
    (fun xs ys => by
      refine LoopK.Ev.succ ?_
      simp only [laws_toRangeS.l0, at_stop, if_false]
      exact Ev.now _)
    (fun p x r q y s res hq hB hs ih => by
      refine LoopK.Ev.succ ?_
      have e1 := at_w p x r (by omega)
      have e2 := at_lt' p q y s hq
      have e3 : (q ++ y :: s).set (p.length : Int).toNat (cvRange x) = q ++ cvRange x :: s := at_set2 p q y _ s hq
      simp only [cvRange] at e3 ih
      simp only [laws_toRangeS.l0, at_lt, at_nn, if_true, laws_toRange.f, Option.bind_some, rd_T99, at_getD, e1, e2, e3]
      exact ih) l [] (by simpa using h)
  unfold laws_toRangeS.f
  have c1 : 0 ≤ (l.length : Int) := by omega
  have c2 : (l.length : Int).toNat = l.length := by omega
  simp only [c1, if_true, c2]
  have c3 : l.length ≤ 17592186044416 := by omega
  simp only [c3, if_true]
  simpa using key

theorem eqRange_self (x : S92) : laws_eqRange.f x.f0 x.f1 x.f0 x.f1 = some true := by
  unfold laws_eqRange.f
  simp
theorem eqRangeS_ev (l : List S92) (h : l.length ≤ 4611686018427387904) : Ev (fun k => laws_eqRangeS.f k l l) true := by
  have key := sameEv (fun k xs ys i => laws_eqRangeS.l0 k xs ys i) 4611686018427387904
    (fun xs ys => by
      refine LoopK.Ev.succ ?_
      simp only [laws_eqRangeS.l0, at_stop, if_false]
      exact Ev.now _)
    (fun p x r hB ih => by
      refine LoopK.Ev.succ ?_
      have e1 := at_w p x r hB
      simp only [laws_eqRangeS.l0, at_lt, at_nn, if_true, eqRange_self, Option.bind_some, rd_T92, at_getD, e1]
      exact ih) l [] (by simpa using h)
  unfold laws_eqRangeS.f
  simp only [if_true]
  simpa using key

/-- So many bytes of a number, the highest one first. -/
def be : Int → Nat → List Int
  | _, 0 => []
  | n, m + 1 => be (n / 256) m ++ [n % 256]
theorem be_length : ∀ (m : Nat) (n : Int), (be n m).length = m
  | 0, _ => rfl
  | m + 1, n => by simp [be, be_length m]
theorem pow256 (m : Nat) : (0 : Int) < 256 ^ m := Int.pow_pos (by decide)
theorem be_cons : ∀ (m : Nat) (n : Int), be n (m + 1) = (n / 256 ^ m % 256) :: be n m
  | 0, n => by simp [be]
  | m + 1, n => by
    have e : n / 256 / 256 ^ m = n / 256 ^ (m + 1) := by
      rw [Int.ediv_ediv_of_nonneg (by decide), Int.pow_succ, Int.mul_comm]
    rw [be, be_cons m (n / 256), e]
    simp [be]
theorem be_mod : ∀ (m : Nat) (n q : Int), be (n + 256 ^ m * q) m = be n m
  | 0, _, _ => rfl
  | m + 1, n, q => by
    have e1 : n + 256 ^ (m + 1) * q = n + 256 * (256 ^ m * q) := by rw [Int.pow_succ, Int.mul_comm (256 ^ m) 256, Int.mul_assoc]
    have e2 : (n + 256 * (256 ^ m * q)) / 256 = n / 256 + 256 ^ m * q := by omega
    have e3 : (n + 256 * (256 ^ m * q)) % 256 = n % 256 := by omega
    rw [be, e1, e2, e3, be_mod m]
    rfl
theorem strOfNums_size (l : List Int) : (strOfNums l).size = l.length := by simp [strOfNums, ByteArray.size]
theorem strOfNums_toList (l : List Int) : (strOfNums l).toList = l.map fun n => UInt8.ofNat n.toNat := by
  rw [ByteArray.toList_eq]
  simp [strOfNums]
theorem strOfNums_append (a b : List Int) : strOfNums a ++ strOfNums b = strOfNums (a ++ b) := by
  apply ByteArray.ext
  simp [strOfNums]
theorem shr8 (x : Int) (i : Nat) (hi : 8 * i ≤ 9223372036854775807) (hx : 0 ≤ x ∧ x < 18446744073709551616) : shr .u64 x (8 * (i : Int)) = x / 256 ^ i ∧ shr .i64 x (8 * (i : Int)) = x / 256 ^ i := by
  have hp : (256 : Int) ^ i = 2 ^ (8 * i) := by rw [Int.pow_mul]; rfl
  have e : (8 * (i : Int)).toNat = 8 * i := by omega
  have key : x / 2 ^ min (8 * i) 64 = x / 256 ^ i := by
    rcases Nat.lt_or_ge (8 * i) 64 with h | h
    · rw [hp, Nat.min_eq_left (by omega)]
    · rw [Nat.min_eq_right h, hp]
      have h1 : (2 : Int) ^ 64 ≤ 2 ^ (8 * i) := by exact_mod_cast Nat.pow_le_pow_right (by decide) h
      rw [Int.ediv_eq_zero_of_lt hx.1 (by omega), Int.ediv_eq_zero_of_lt hx.1 (by omega)]
  unfold shr
  rw [e]
  exact ⟨key, key⟩
theorem l1Fixed_loop (x : Int) (hx : 0 ≤ x ∧ x < 18446744073709551616) : ∀ (m : Nat) (out : List Int), m ≤ 1000 → out.length + m ≤ 100000 → Ev (fun k => spec_l1Fixed.l0 k x out ((m : Int) - 1)) (strOfNums (out ++ be x m))
  | 0, out, _, _ => by
    refine LoopK.Ev.succ ?_
    have c : ¬ (((0 : Nat) : Int) - 1 ≥ 0) := by omega
    simp only [spec_l1Fixed.l0, c, if_false, be, List.append_nil]
    exact Ev.now _
  | m + 1, out, hm, ho => by
    refine LoopK.Ev.succ ?_
    have e0 : ((m + 1 : Nat) : Int) - 1 = (m : Int) := by omega
    have c : (m : Int) ≥ 0 := by omega
    have w0 : wrap64 (8 * (m : Int)) = 8 * (m : Int) := w64 _ (by omega)
    have w1 : IntKind.u64.wrap (8 * (m : Int)) = 8 * (m : Int) := by
      simp [IntKind.wrap, IntKind.bits, IntKind.signed]
      omega
    have c1 : 0 ≤ 8 * (m : Int) := by omega
    have c2 : out.length < 140737488355328 := by omega
    have w2 : wrap64 ((m : Int) - 1) = (m : Int) - 1 := w64 _ (by omega)
    rw [e0]
    simp only [spec_l1Fixed.l0, c, if_true, w0, w1, c1, c2, w2, (shr8 x m (by omega) hx).2]
    refine LoopK.Ev.to (l1Fixed_loop x hx m _ (by omega) (by simp; omega)) ?_
    rw [be_cons, List.append_assoc]
    rfl
theorem l1Fixed_ev (x : Int) (hx : 0 ≤ x ∧ x < 18446744073709551616) (m : Nat) (hm : m ≤ 1000) : Ev (fun k => spec_l1Fixed.f k x (m : Int)) (strOfNums (be x m)) := by
  unfold spec_l1Fixed.f
  have w : wrap64 ((m : Int) - 1) = (m : Int) - 1 := w64 _ (by omega)
  simp only [w]
  simpa using l1Fixed_loop x hx m [] hm (by simp; omega)
theorem bigEndian_loop : ∀ (m : Nat) (x : Int) (tail : List Int), m ≤ 1000 → tail.length + m ≤ 100000 → Ev (fun k => impl_bigEndian.l0 k x (List.replicate m 0 ++ tail) ((m : Int) - 1)) (strOfNums (be x m ++ tail))
  | 0, x, tail, _, _ => by
    refine LoopK.Ev.succ ?_
    have c : ¬ (((0 : Nat) : Int) - 1 ≥ 0) := by omega
    simp only [impl_bigEndian.l0, c, if_false, be, List.replicate_zero, List.nil_append]
    exact Ev.now _
  | m + 1, x, tail, hm, ht => by
    refine LoopK.Ev.succ ?_
    have e0 : ((m + 1 : Nat) : Int) - 1 = (m : Int) := by omega
    have c : (m : Int) ≥ 0 := by omega
    have c1 : 0 ≤ (m : Int) := by omega
    have c2 : (m : Int) < ((List.replicate (m + 1) (0 : Int) ++ tail).length : Int) := by
      rw [List.length_append, List.length_replicate]
      omega
    have w2 : wrap64 ((m : Int) - 1) = (m : Int) - 1 := w64 _ (by omega)
    have e1 : (List.replicate (m + 1) (0 : Int) ++ tail).set (m : Int).toNat (x % 256) = List.replicate m 0 ++ (x % 256 :: tail) := by
      rw [List.replicate_succ', List.append_assoc]
      have : (m : Int).toNat = (List.replicate m (0 : Int)).length := by simp
      rw [this, List.set_append_right _ _ (Nat.le_refl _)]
      simp
    rw [e0]
    simp only [impl_bigEndian.l0, c, if_true, c1, c2, w2, e1]
    refine LoopK.Ev.to (bigEndian_loop m (x / 256) (x % 256 :: tail) (by omega) (by rw [List.length_cons]; omega)) ?_
    simp [be]
theorem bigEndian_ev (x : Int) (m : Nat) (hm : m ≤ 1000) : Ev (fun k => impl_bigEndian.f k x (m : Int)) (strOfNums (be x m)) := by
  unfold impl_bigEndian.f
  have c1 : 0 ≤ (m : Int) := by omega
  have c2 : (m : Int).toNat = m := by omega
  have c3 : m ≤ 281474976710656 := by omega
  have w : wrap64 ((m : Int) - 1) = (m : Int) - 1 := w64 _ (by omega)
  simp only [c1, if_true, c2, c3, w]
  simpa using bigEndian_loop m x [] hm (by simp; omega)

theorem shr8s (x : Int) (i : Nat) (hi : i < 8) : shr .i64 x (8 * (i : Int)) = x / 256 ^ i := by
  have hp : (256 : Int) ^ i = 2 ^ (8 * i) := by rw [Int.pow_mul]; rfl
  have e : (8 * (i : Int)).toNat = 8 * i := by omega
  unfold shr
  rw [e, hp, Nat.min_eq_left (by simp [IntKind.bits]; omega)]
theorem l1Fixed_loop_s (x : Int) : ∀ (m : Nat) (out : List Int), m ≤ 8 → out.length + m ≤ 100000 → Ev (fun k => spec_l1Fixed.l0 k x out ((m : Int) - 1)) (strOfNums (out ++ be x m))
  | 0, out, _, _ => by
    refine LoopK.Ev.succ ?_
    have c : ¬ (((0 : Nat) : Int) - 1 ≥ 0) := by omega
    simp only [spec_l1Fixed.l0, c, if_false, be, List.append_nil]
    exact Ev.now _
  | m + 1, out, hm, ho => by
    refine LoopK.Ev.succ ?_
    have e0 : ((m + 1 : Nat) : Int) - 1 = (m : Int) := by omega
    have c : (m : Int) ≥ 0 := by omega
    have w0 : wrap64 (8 * (m : Int)) = 8 * (m : Int) := w64 _ (by omega)
    have w1 : IntKind.u64.wrap (8 * (m : Int)) = 8 * (m : Int) := by
      simp [IntKind.wrap, IntKind.bits, IntKind.signed]
      omega
    have c1 : 0 ≤ 8 * (m : Int) := by omega
    have c2 : out.length < 140737488355328 := by omega
    have w2 : wrap64 ((m : Int) - 1) = (m : Int) - 1 := w64 _ (by omega)
    rw [e0]
    simp only [spec_l1Fixed.l0, c, if_true, w0, w1, c1, c2, w2, shr8s x m (by omega)]
    refine LoopK.Ev.to (l1Fixed_loop_s x m _ (by omega) (by simp; omega)) ?_
    rw [be_cons, List.append_assoc]
    rfl
theorem l1Fixed_any (x : Int) (m : Nat) (hm : m ≤ 8) : Ev (fun k => spec_l1Fixed.f k x (m : Int)) (strOfNums (be x m)) := by
  unfold spec_l1Fixed.f
  have w : wrap64 ((m : Int) - 1) = (m : Int) - 1 := w64 _ (by omega)
  simp only [w]
  simpa using l1Fixed_loop_s x m [] hm (by simp; omega)
theorem be_same (x y : Int) (m : Nat) (hm : m ≤ 8) (h : x % 18446744073709551616 = y % 18446744073709551616) : be x m = be y m := by
  have e : x = y + 18446744073709551616 * (x / 18446744073709551616 - y / 18446744073709551616) := by omega
  have hp : (18446744073709551616 : Int) = 256 ^ m * 256 ^ (8 - m) := by
    rw [← Int.pow_add, Nat.add_sub_cancel' hm]
    decide
  rw [e, hp, Int.mul_assoc, be_mod]
theorem wrap_mod (x : Int) : (IntKind.i64.wrap x) % 18446744073709551616 = x % 18446744073709551616 ∧ (IntKind.u64.wrap x) % 18446744073709551616 = x % 18446744073709551616 := by
  rw [IntKind.wrap_i64]
  rw [IntKind.wrap_u64]
  omega
theorem or_same (x x' y y' : Int) (hx : BitVec.ofInt 64 x = BitVec.ofInt 64 x') (hy : BitVec.ofInt 64 y = BitVec.ofInt 64 y') : (Go.bits .or .i64 x y) % 18446744073709551616 = (Go.bits .or .u64 x' y') % 18446744073709551616 := by
  have e1 : Go.bits .or .i64 x y = IntKind.i64.wrap ((BitVec.ofInt 64 x ||| BitVec.ofInt 64 y).toNat : Int) := rfl
  have e2 : Go.bits .or .u64 x' y' = IntKind.u64.wrap ((BitVec.ofInt 64 x' ||| BitVec.ofInt 64 y').toNat : Int) := rfl
  rw [e1, e2, (wrap_mod _).1, (wrap_mod _).2, hx, hy]
theorem ofInt_u64 (x : Int) : BitVec.ofInt 64 x = BitVec.ofInt 64 (IntKind.u64.wrap x) := by
  apply BitVec.eq_of_toInt_eq
  rw [BitVec.toInt_ofInt, BitVec.toInt_ofInt, IntKind.wrap_u64]
  exact (Int.emod_bmod x 18446744073709551616).symm
theorem or_zero (x : Int) : (Go.bits .or .u64 (IntKind.u64.wrap x) 0) % 18446744073709551616 = x % 18446744073709551616 := by
  have e2 : Go.bits .or .u64 (IntKind.u64.wrap x) 0 = IntKind.u64.wrap ((BitVec.ofInt 64 (IntKind.u64.wrap x) ||| BitVec.ofInt 64 0).toNat : Int) := rfl
  have e3 : BitVec.ofInt 64 (IntKind.u64.wrap x) ||| BitVec.ofInt 64 0 = BitVec.ofInt 64 (IntKind.u64.wrap x) := by simp
  rw [e2, (wrap_mod _).2, e3, ← ofInt_u64]
  rw [BitVec.toNat_ofInt]
  omega
/-- How many bytes a number takes. -/
def vsize (n : Int) : Nat := if n < 64 then 1 else if n < 16384 then 2 else if n < 1073741824 then 4 else 8
/-- The bytes of a number of that kind. -/
def vbytes (n : Int) : ByteArray := strOfNums (be (Go.bits .or .u64 (IntKind.u64.wrap n) (shl .u64 (vfirst (vsize n)) (8 * (vsize n : Int) - 2))) (vsize n))
theorem vsize_in (n : Int) : 1 ≤ vsize n ∧ vsize n ≤ 8 := by
  unfold vsize
  split
  · omega
  · split
    · omega
    · split <;> omega
theorem vbytes_size (n : Int) : (vbytes n).size = vsize n := by
  unfold vbytes
  rw [strOfNums_size, be_length]
theorem varintSize_eq (n : Int) : impl_varintSize.f n = some ((vsize n : Nat) : Int) := by
  unfold impl_varintSize.f vsize
  split
  · rfl
  · split
    · rfl
    · split <;> rfl
theorem l1Size_eq (n : Int) : spec_l1Size.f n = some ((vsize n : Nat) : Int) := by
  unfold spec_l1Size.f vsize
  split
  · rfl
  · split
    · rfl
    · split <;> rfl
theorem varint_ev (n : Int) : Ev (fun k => impl_varint.f k n) (vbytes n) := by
  unfold impl_varint.f
  simp only [varintSize_eq, Option.bind_some]
  exact bigEndian_ev _ _ (by have := vsize_in n; omega)
theorem l1Var_ev (n : Int) : Ev (fun k => spec_l1Var.f k n) (vbytes n) := by
  unfold spec_l1Var.f
  simp only [l1Size_eq, Option.bind_some]
  have hs := vbytes_size n
  have hv : vsize n = 1 ∨ vsize n = 2 ∨ vsize n = 4 ∨ vsize n = 8 := by
    unfold vsize
    split
    · omega
    · split
      · omega
      · split <;> omega
  have fin : ∀ (x : Int) (m : Nat) (h : vsize n = m), m ≤ 8 → x % 18446744073709551616 = (Go.bits .or .u64 (IntKind.u64.wrap n) (shl .u64 (vfirst (m : Int)) (8 * (m : Int) - 2))) % 18446744073709551616 → Ev (fun k => (spec_l1Fixed.f k x (m : Int)).bind fun t => some t) (vbytes n) := by
    intro x m h hm hx
    refine LoopK.Ev.bind_ (l1Fixed_any x m hm) ?_
    unfold vbytes
    rw [h, be_same _ _ m hm hx]
    exact Ev.now _
  rcases hv with h | h | h | h <;> rw [h]
  · simpa using fin n 1 h (by omega) (or_zero n).symm
  · simpa using fin (Go.bits .or .i64 n 16384) 2 h (by omega) (or_same _ _ _ _ (ofInt_u64 n) rfl)
  · simpa using fin (Go.bits .or .i64 n 2147483648) 4 h (by omega) (or_same _ _ _ _ (ofInt_u64 n) rfl)
  · simpa using fin (Go.bits .or .i64 n (-4611686018427387904)) 8 h (by omega) (or_same _ _ _ _ (ofInt_u64 n) rfl)

theorem l1In_eq (a b c : Int) : spec_l1In.f a b c = some (decide (b ≤ a ∧ a ≤ c)) := by
  unfold spec_l1In.f
  by_cases h : b ≤ a
  · rw [if_pos h]; simp [h]
  · rw [if_neg h]; simp [h]
theorem in_eq (a b c : Int) : impl_in.f a b c = some (decide (b ≤ a ∧ a ≤ c)) := l1In_eq a b c
theorem and_ite (p q : Prop) [Decidable p] [Decidable q] : (if p then some (decide q) else some false) = some (decide (p ∧ q)) := by
  by_cases h : p <;> simp [h]

/-- Is a range right, and does it fall behind the one before it? -/
def rgGood (o : Option S92) (x : S92) : Bool :=
  decide ((0 ≤ x.f0 ∧ x.f0 ≤ x.f1) ∧ x.f1 ≤ 4611686018427387903) && (match o with | none => true | some q => decide (x.f1 + 2 ≤ q.f0))
def rgInv (x : S92) : Prop := 0 ≤ x.f0 ∧ x.f0 ≤ 4611686018427387903
theorem rg_inv (o : Option S92) (x : S92) (h : rgGood o x = true) : rgInv x := by
  simp only [rgGood, Bool.and_eq_true, decide_eq_true_eq] at h
  unfold rgInv
  omega
theorem l1Known_eq (a : Int) : spec_l1Known.f a = some (decide (0 ≤ a ∧ a ≤ 4611686018427387903)) := by
  unfold spec_l1Known.f
  simp only [l1In_eq, Option.bind_some]
theorem isVarint_eq (a : Int) : impl_isVarint.f a = some (decide (0 ≤ a ∧ a ≤ 4611686018427387903)) := by
  unfold impl_isVarint.f
  simp only [in_eq, Option.bind_some]
theorem l1Ranges_ev (l : List S92) (hl : l.length ≤ 4611686018427387904) : Ev (fun k => spec_l1Ranges.f k l) (chk rgGood none l && decide (1 ≤ l.length ∧ l.length ≤ 20)) := by
  have key := pairEv (fun k xs i => spec_l1Ranges.l0 k xs xs (xs.length : Int) i) rgGood rgInv (fun xs => decide (1 ≤ xs.length ∧ xs.length ≤ 20)) 4611686018427387904
    (fun xs => by
      refine LoopK.Ev.succ ?_
      simp only [spec_l1Ranges.l0, at_stop, if_false, l1In_eq, Option.bind_some]
      refine LoopK.Ev.to (Ev.now _) ?_
      rw [decide_eq_decide]
      omega)
    rg_inv
    (fun p x r hB hI hg => by
      refine LoopK.Ev.succ ?_
      simp only [spec_l1Ranges.l0, at_lt, at_nn, if_true, rd_T92, at_getD, l1In_eq, l1Known_eq, Option.bind_some, decide_eq_true_eq]
      by_cases h1 : 0 ≤ x.f0 ∧ x.f0 ≤ x.f1
      · simp only [h1, and_self, if_true]
        by_cases h2 : 0 ≤ x.f1 ∧ x.f1 ≤ 4611686018427387903
        · simp only [h2, and_self, if_true]
          rcases last_or p with rfl | ⟨p0, q, rfl⟩
          · exfalso
            simp [rgGood, h1, h2] at hg
          · have hq := hI q (by simp)
            unfold rgInv at hq
            have e2 : wrap64 (q.f0 - 2) = q.f0 - 2 := w64 _ (by omega)
            have hlt : x.f1 > q.f0 - 2 := by
              simp [rgGood, h1, h2] at hg
              omega
            have c0 := at_prev_w p0 q x r hB
            simp only [at_prev_pos, if_true, c0, at_prev_nn, at_prev_lt, at_prev, e2, hlt]
            (first | exact Ev.now _ | (refine LoopK.Ev.succ ?_; simp only [spec_l1Ranges.j1, decide_true, if_true]; exact Ev.now _))
        · simp only [h2, if_false]
          (first | exact Ev.now _ | (refine LoopK.Ev.succ ?_; simp only [spec_l1Ranges.j1, decide_true, if_true]; exact Ev.now _))
      · simp only [h1, if_false]
        (first | exact Ev.now _ | (refine LoopK.Ev.succ ?_; simp only [spec_l1Ranges.j1, decide_true, if_true]; exact Ev.now _)))
    (fun p x r b hB hI hg hn => by
      refine LoopK.Ev.succ ?_
      have hx : (0 ≤ x.f0 ∧ x.f0 ≤ x.f1) ∧ x.f1 ≤ 4611686018427387903 := by
        simp only [rgGood, Bool.and_eq_true, decide_eq_true_eq] at hg
        exact hg.1
      have h2 : 0 ≤ x.f1 ∧ x.f1 ≤ 4611686018427387903 := by omega
      have e1 := at_w p x r hB
      simp only [spec_l1Ranges.l0, at_lt, at_nn, if_true, rd_T92, at_getD, l1In_eq, l1Known_eq, Option.bind_some, decide_eq_true_eq, hx.1, h2, and_self, e1]
      rcases last_or p with rfl | ⟨p0, q, rfl⟩
      · have c9 : ¬ ((([] : List S92).length : Int) > 0) := by simp
        simp only [c9, if_false]
        refine LoopK.Ev.succ ?_
        simp only [spec_l1Ranges.j1, Bool.false_eq_true, if_false]
        have e1' := e1
        simp only [e1']
        exact hn
      · have hq := hI q (by simp)
        unfold rgInv at hq
        have e2 : wrap64 (q.f0 - 2) = q.f0 - 2 := w64 _ (by omega)
        have hlt : ¬ (x.f1 > q.f0 - 2) := by
          simp [rgGood, hx, h2] at hg
          omega
        have c0 := at_prev_w p0 q x r hB
        simp only [at_prev_pos, if_true, c0, at_prev_nn, at_prev_lt, at_prev, e2, hlt, decide_false, if_false]
        refine LoopK.Ev.succ ?_
        simp only [spec_l1Ranges.j1, Bool.false_eq_true, if_false, e1]
        exact hn) l [] (by simpa using hl) (by simp)
  unfold spec_l1Ranges.f
  simpa using key
theorem rangesOk_ev (l : List S92) (hl : l.length ≤ 4611686018427387904) : Ev (fun k => impl_rangesOk.f k l) (chk rgGood none l) := by
  have key := pairEv (fun k xs i => impl_rangesOk.l0 k xs xs (xs.length : Int) i) rgGood rgInv (fun _ => true) 4611686018427387904
    (fun xs => by
      refine LoopK.Ev.succ ?_
      simp only [impl_rangesOk.l0, at_stop, if_false]
      exact Ev.now _)
    rg_inv
    (fun p x r hB hI hg => by
      refine LoopK.Ev.succ ?_
      simp only [impl_rangesOk.l0, at_lt, at_nn, if_true, rd_T92, at_getD, isVarint_eq, Option.bind_some, decide_eq_true_eq]
      by_cases h1 : 0 ≤ x.f0 ∧ x.f0 ≤ 4611686018427387903
      · simp only [h1, and_self, if_true]
        by_cases h2 : 0 ≤ x.f1 ∧ x.f1 ≤ 4611686018427387903
        · simp only [h2, and_self, if_true]
          by_cases h3 : x.f0 > x.f1
          · simp only [h3, if_true]
            (first | exact Ev.now _ | (refine LoopK.Ev.succ ?_; simp only [impl_rangesOk.j1, decide_true, if_true]; exact Ev.now _))
          · simp only [h3, if_false]
            rcases last_or p with rfl | ⟨p0, q, rfl⟩
            · exfalso
              simp [rgGood, h1, h2] at hg
              omega
            · have hq := hI q (by simp)
              unfold rgInv at hq
              have e2 : wrap64 (x.f1 + 2) = x.f1 + 2 := w64 _ (by omega)
              have hlt : q.f0 < x.f1 + 2 := by
                have h4 : x.f0 ≤ x.f1 := by omega
                simp [rgGood, h1, h2, h4] at hg
                omega
              have c0 := at_prev_w p0 q x r hB
              simp only [at_prev_pos, if_true, c0, at_prev_nn, at_prev_lt, at_prev, e2, hlt]
              (first | exact Ev.now _ | (refine LoopK.Ev.succ ?_; simp only [impl_rangesOk.j1, decide_true, if_true]; exact Ev.now _))
        · simp only [h2, if_false]
          (first | exact Ev.now _ | (refine LoopK.Ev.succ ?_; simp only [impl_rangesOk.j1, decide_true, if_true]; exact Ev.now _))
      · simp only [h1, if_false]
        (first | exact Ev.now _ | (refine LoopK.Ev.succ ?_; simp only [impl_rangesOk.j1, decide_true, if_true]; exact Ev.now _)))
    (fun p x r b hB hI hg hn => by
      refine LoopK.Ev.succ ?_
      have hx : (0 ≤ x.f0 ∧ x.f0 ≤ x.f1) ∧ x.f1 ≤ 4611686018427387903 := by
        simp only [rgGood, Bool.and_eq_true, decide_eq_true_eq] at hg
        exact hg.1
      have h1 : 0 ≤ x.f0 ∧ x.f0 ≤ 4611686018427387903 := by omega
      have h2 : 0 ≤ x.f1 ∧ x.f1 ≤ 4611686018427387903 := by omega
      have h3 : ¬ (x.f0 > x.f1) := by omega
      have e1 := at_w p x r hB
      simp only [impl_rangesOk.l0, at_lt, at_nn, if_true, rd_T92, at_getD, isVarint_eq, Option.bind_some, decide_eq_true_eq, h1, h2, and_self, h3, if_false, e1]
      rcases last_or p with rfl | ⟨p0, q, rfl⟩
      · have c9 : ¬ ((([] : List S92).length : Int) > 0) := by simp
        simp only [c9, if_false]
        refine LoopK.Ev.succ ?_
        simp only [impl_rangesOk.j1, Bool.false_eq_true, if_false]
        have e1' := e1
        simp only [e1']
        exact hn
      · have hq := hI q (by simp)
        unfold rgInv at hq
        have e2 : wrap64 (x.f1 + 2) = x.f1 + 2 := w64 _ (by omega)
        have hlt : ¬ (q.f0 < x.f1 + 2) := by
          simp [rgGood, hx, h2] at hg
          omega
        have c0 := at_prev_w p0 q x r hB
        simp only [at_prev_pos, if_true, c0, at_prev_nn, at_prev_lt, at_prev, e2, hlt, decide_false, if_false]
        refine LoopK.Ev.succ ?_
        simp only [impl_rangesOk.j1, Bool.false_eq_true, if_false, e1]
        exact hn) l [] (by simpa using hl) (by simp)
  unfold impl_rangesOk.f
  simpa using key

open Go.Proofs.Ytpdoplkiaejpiaa.FrK
theorem isEmpty_size (b : ByteArray) : b.toList.isEmpty = decide (b.size = 0) := by
  have hl : b.data.toList.length = b.size := by simp
  rw [ByteArray.toList_eq]
  by_cases h : b.size = 0
  · rw [List.eq_nil_of_length_eq_zero (hl.trans h), decide_eq_true h]
    rfl
  · rw [decide_eq_false h]
    cases hq : b.data.toList with
    | nil => exact absurd (by rw [← hl, hq]; rfl) h
    | cons x r => rfl
/-- The reference's shapes. -/
def shp (kd : Int) : Int × Int × Int :=
  if kd = 0 ∨ kd = 1 then (0, 0, 0) else if kd = 16 ∨ kd = 2 then (1, 0, 0) else if kd = 17 ∨ kd = 5 then (2, 0, 0) else if kd = 4 then (3, 0, 0)
  else if kd = 28 ∨ kd = 8 then (2, 0, 200) else if kd = 6 then (1, 0, 200) else if kd = 7 then (0, 1, 200) else if kd = 24 then (3, 1, 20)
  else if kd = 26 ∨ kd = 27 then (0, 8, 8) else if kd = 48 then (0, 0, 200) else (-1, 0, 0)
/-- The kinds. -/
theorem kinds (kd : Int) : kd = 0 ∨ kd = 1 ∨ kd = 2 ∨ kd = 4 ∨ kd = 5 ∨ kd = 6 ∨ kd = 7 ∨ kd = 8 ∨ kd = 16 ∨ kd = 17 ∨ kd = 24 ∨ kd = 26 ∨ kd = 27 ∨ kd = 28 ∨ kd = 48 ∨ (kd ≠ 0 ∧ kd ≠ 1 ∧ kd ≠ 2 ∧ kd ≠ 4 ∧ kd ≠ 5 ∧ kd ≠ 6 ∧ kd ≠ 7 ∧ kd ≠ 8 ∧ kd ≠ 16 ∧ kd ≠ 17 ∧ kd ≠ 24 ∧ kd ≠ 26 ∧ kd ≠ 27 ∧ kd ≠ 28 ∧ kd ≠ 48) := by omega
theorem l1Shape_ev (kd : Int) : Ev (fun k => spec_l1Shape.f k kd) (shp kd) := by
  refine ⟨9, fun k hk => ?_⟩
  obtain ⟨n, rfl⟩ : ∃ n, k = n + 9 := ⟨k - 9, by omega⟩
  rcases kinds kd with rfl | rfl | rfl | rfl | rfl | rfl | rfl | rfl | rfl | rfl | rfl | rfl | rfl | rfl | rfl | ⟨h0, h1, h2, h4, h5, h6, h7, h8, h16, h17, h24, h26, h27, h28, h48⟩
  all_goals first
    | rfl
    | simp [spec_l1Shape.f, spec_l1Shape.j0, spec_l1Shape.j1, spec_l1Shape.j2, spec_l1Shape.j3, spec_l1Shape.j4, shp, h0, h1, h2, h4, h5, h6, h7, h8, h16, h17, h24, h26, h27, h28, h48]
/-- Ranges that are right, and fall. -/
def rgsOk (rs : List S92) : Bool := chk rgGood none rs
/-- A right frame, as the reference has it. -/
def fGood (kd fa fb fc : Int) (fin : Bool) (dat : ByteArray) (rs : List S92) : Bool :=
  !sHead kd fa fb fc fin dat (shp kd).1 (shp kd).2.1 (shp kd).2.2 && (!sNums fa fb fc (shp kd).1 && ((if kd = 2 then rgsOk rs && decide (1 ≤ rs.length ∧ rs.length ≤ 20) else decide (rs.length = 0)) && sTail kd fa fb fc dat))
theorem specGood_ev (kd fa fb fc : Int) (fin : Bool) (dat : ByteArray) (rs : List S92) (hl : rs.length ≤ 4611686018427387904) : Ev (fun k => spec_GoodFrame.f k kd fa fb fc fin dat rs) (fGood kd fa fb fc fin dat rs) := by
  unfold spec_GoodFrame.f fGood
  refine LoopK.Ev.bind_ (l1Shape_ev kd) ?_
  cases h1 : sHead kd fa fb fc fin dat (shp kd).1 (shp kd).2.1 (shp kd).2.2 with
  | true => simpa [h1] using Ev.now false
  | false =>
    simp only [h1, Bool.false_eq_true, if_false, Bool.not_false, Bool.true_and]
    cases h2 : sNums fa fb fc (shp kd).1 with
    | true => simpa [h2] using Ev.now false
    | false =>
      simp only [h2, Bool.false_eq_true, if_false, Bool.not_false, Bool.true_and]
      unfold sRng
      by_cases k2 : kd = 2
      · simp only [k2, if_true]
        by_cases h0 : 0 < rs.length
        · simp only [h0, if_true]
          refine LoopK.Ev.bind_ (LoopK.Ev.bind_ (l1Ranges_ev rs hl) (Ev.now _)) ?_
          unfold rgsOk
          cases (chk rgGood none rs && decide (1 ≤ rs.length ∧ rs.length ≤ 20)) <;> simpa using Ev.now _
        · have e : rs.length = 0 := by omega
          simp only [h0, if_false, Option.bind_some, if_true]
          refine LoopK.Ev.to (Ev.now _) ?_
          simp [e]
      · simp only [k2, if_false, Option.bind_some, decide_eq_true_eq]
        by_cases h0 : 0 < rs.length
        · have e : ¬ rs.length = 0 := by omega
          simp only [h0, if_true, e, decide_false, Bool.false_and]
          exact Ev.now _
        · have e : rs.length = 0 := by omega
          simp only [h0, if_false, e, decide_true, Bool.true_and]
          exact Ev.now _
/-- A right frame, as the program has it. -/
def fGood2 (kd fa fb fc : Int) (fin : Bool) (dat : ByteArray) (rs : List S92) : Bool :=
  namedB kd fa fb fc fin dat rs.length &&
  (if kd = 2 then decide (1 ≤ (rs.length : Int) ∧ (rs.length : Int) ≤ 20) && rgsOk rs
  else if kd = 6 then isVr (wrap64 (fa + (dat.size : Int)))
  else if kd = 7 then !dat.toList.isEmpty
  else if kd = 8 then isVr (wrap64 (fb + (dat.size : Int)))
  else if kd = 24 then decide (fb ≤ fa) && (decide (1 ≤ (dat.size : Int) ∧ (dat.size : Int) ≤ 20) && decide (fc ≤ 255))
  else if kd = 26 ∨ kd = 27 then (dat.size : Int) == 8
  else true)
theorem bind_if (x : Bool) (b : Option Bool) : ((some x).bind fun y => if y = true then b else some false) = if x = true then b else some false := rfl
theorem implGood_ev (kd fa fb fc : Int) (fin : Bool) (dat : ByteArray) (rs : List S92) (hk : -9223372036854775808 ≤ kd ∧ kd ≤ 9223372036854775807) (hl : rs.length ≤ 4611686018427387904) : Ev (fun k => impl_GoodFrame.f k kd fa fb fc fin dat rs) (fGood2 kd fa fb fc fin dat rs) := by
  unfold impl_GoodFrame.f fGood2 impl_Frame_named.f
  simp only [hk, and_self, if_true, Option.bind_some]
  cases hn : namedB kd fa fb fc fin dat rs.length with
  | false => simpa using Ev.now false
  | true =>
    simp only [if_true, Bool.true_and]
    unfold goodTail
    simp only [in_eq, isVarint_eq, Option.bind_some]
    by_cases k2 : kd = 2
    · simp only [k2, if_true]
      by_cases h1 : 1 ≤ (rs.length : Int) ∧ (rs.length : Int) ≤ 20
      · simp only [h1, and_self, decide_true, if_true, Bool.true_and]
        exact rangesOk_ev rs hl
      · simp only [h1, decide_false, Bool.false_eq_true, if_false, Bool.false_and]
        exact Ev.now _
    simp only [k2, if_false]
    by_cases k6 : kd = 6
    · simp only [k6, if_true]
      exact Ev.now _
    simp only [k6, if_false]
    by_cases k7 : kd = 7
    · simp only [k7, if_true]
      exact Ev.now _
    simp only [k7, if_false]
    by_cases k8 : kd = 8
    · simp only [k8, if_true]
      exact Ev.now _
    simp only [k8, if_false]
    by_cases k24 : kd = 24
    · simp only [k24, if_true]
      by_cases h1 : fb ≤ fa
      · by_cases h2 : 1 ≤ (dat.size : Int) ∧ (dat.size : Int) ≤ 20
        · simp only [h1, h2, and_self, decide_true, if_true, Bool.true_and]
          exact Ev.now _
        · simp only [h1, h2, decide_false, decide_true, Bool.false_eq_true, if_false, if_true, Bool.false_and, Bool.true_and]
          exact Ev.now _
      · simp only [h1, decide_false, if_false, Bool.false_and]
        exact Ev.now _
    simp only [k24, if_false]
    by_cases k26 : kd = 26 ∨ kd = 27
    · simp only [k26, if_true]
      exact Ev.now _
    simp only [k26, if_false]
    exact Ev.now _
theorem w64v (x : Int) (n : Nat) (h1 : 0 ≤ x ∧ x ≤ 4611686018427387903) (h2 : (n : Int) ≤ 200) : wrap64 (x + (n : Int)) = x + (n : Int) := by unfold wrap64; omega
theorem w64m (n : Nat) (h2 : (n : Int) ≤ 200) : wrap64 (4611686018427387903 - (n : Int)) = 4611686018427387903 - (n : Int) := by unfold wrap64; omega
theorem good_same (kd fa fb fc : Int) (fin : Bool) (dat : ByteArray) (rs : List S92) : fGood kd fa fb fc fin dat rs = fGood2 kd fa fb fc fin dat rs := by
  rw [Bool.eq_iff_iff]
  unfold fGood fGood2 sHead sNums sTail namedB namedHead numOk inB isVr
  rw [isEmpty_size]
  have hz : dat.size = 0 ↔ (dat.size : Int) = 0 := by omega
  have hzr : rs.length = 0 ↔ (rs.length : Int) = 0 := by omega
  have hzr2 : (1 ≤ rs.length ∧ rs.length ≤ 20) ↔ (1 ≤ (rs.length : Int) ∧ (rs.length : Int) ≤ 20) := by omega
  have hr0 : 0 ≤ (rs.length : Int) := by omega
  have hd0 : 0 ≤ (dat.size : Int) := by omega
  generalize rgsOk rs = g
  have wa : 0 ≤ fa ∧ fa ≤ 4611686018427387903 → (dat.size : Int) ≤ 200 → wrap64 (fa + (dat.size : Int)) = fa + (dat.size : Int) := fun h h2 => w64v _ _ h h2
  have wb : 0 ≤ fb ∧ fb ≤ 4611686018427387903 → (dat.size : Int) ≤ 200 → wrap64 (fb + (dat.size : Int)) = fb + (dat.size : Int) := fun h h2 => w64v _ _ h h2
  have wm : (dat.size : Int) ≤ 200 → wrap64 (4611686018427387903 - (dat.size : Int)) = 4611686018427387903 - (dat.size : Int) := fun h2 => w64m _ h2
  simp only [hz, hzr, hzr2]
  clear hz hzr hzr2
  generalize (dat.size : Int) = n at *
  generalize (rs.length : Int) = m at *
  generalize wrap64 (fa + n) = x at *
  generalize wrap64 (fb + n) = y at *
  generalize wrap64 (4611686018427387903 - n) = z at *
  rcases kinds kd with rfl | rfl | rfl | rfl | rfl | rfl | rfl | rfl | rfl | rfl | rfl | rfl | rfl | rfl | rfl | ⟨h0, h1, h2, h4, h5, h6, h7, h8, h16, h17, h24, h26, h27, h28, h48⟩
  all_goals (
    (try simp only [shp, shapeOk, shapeN, shapeD, h0, h1, h2, h4, h5, h6, h7, h8, h16, h17, h24, h26, h27, h28, h48]); (try simp [shp, shapeOk, shapeN, shapeD])
    (try (first | omega | (cases fin <;> cases g <;> simp <;> omega) | (cases fin <;> cases g <;> (try simp) <;> omega))))

theorem hcat_ok (a b : ByteArray) (h : a.size + b.size ≤ 9223372036854775807) : hcat a b = some (a ++ b) := by
  unfold hcat
  rw [if_pos h]
/-- What stands behind an ack's first range. -/
noncomputable def ackRest (rs : List S92) : Nat → Int → ByteArray → ByteArray
  | 0, _, o => o
  | n + 1, i, o => ackRest rs n (i + 1) (o ++ (vbytes (wrap64 (wrap64 ((rd_T92 rs i).f0 - (rd_T92 rs (i + 1)).f1) - 2)) ++ vbytes (wrap64 ((rd_T92 rs (i + 1)).f1 - (rd_T92 rs (i + 1)).f0))))
theorem vb8 (n : Int) : (vbytes n).size ≤ 8 := by rw [vbytes_size]; have := vsize_in n; omega
theorem ackRest_pre (rs : List S92) (a : ByteArray) : ∀ n i o, ackRest rs n i (a ++ o) = a ++ ackRest rs n i o
  | 0, _, _ => rfl
  | n + 1, i, o => by
    unfold ackRest
    rw [ByteArray.append_assoc, ackRest_pre rs a n]
theorem ackRest_size (rs : List S92) : ∀ n i o, (ackRest rs n i o).size ≤ o.size + 16 * n
  | 0, _, _ => by unfold ackRest; omega
  | n + 1, i, o => by
    unfold ackRest
    refine Nat.le_trans (ackRest_size rs n _ _) ?_
    rw [ByteArray.size_append, ByteArray.size_append]
    have h1 := vb8 (wrap64 (wrap64 ((rd_T92 rs i).f0 - (rd_T92 rs (i + 1)).f1) - 2))
    have h2 := vb8 (wrap64 ((rd_T92 rs (i + 1)).f1 - (rd_T92 rs (i + 1)).f0))
    omega
theorem ackLoop_ev (rs : List S92) : ∀ n i o, o.size + 16 * n ≤ 1000000 → Ev (fun k => ackLoop k rs n i o) (ackRest rs n i o)
  | 0, _, _, _ => Ev.now _
  | n + 1, i, o, h => by
    unfold ackLoop ackRest
    refine LoopK.Ev.bind_ (varint_ev _) ?_
    refine LoopK.Ev.bind_ (varint_ev _) ?_
    have h1 := vb8 (wrap64 (wrap64 ((rd_T92 rs i).f0 - (rd_T92 rs (i + 1)).f1) - 2))
    have h2 := vb8 (wrap64 ((rd_T92 rs (i + 1)).f1 - (rd_T92 rs (i + 1)).f0))
    rw [hcat_ok _ _ (by omega)]
    simp only [Option.bind_some]
    rw [hcat_ok _ _ (by rw [ByteArray.size_append]; omega)]
    simp only [Option.bind_some]
    exact ackLoop_ev rs n _ _ (by rw [ByteArray.size_append, ByteArray.size_append]; omega)
theorem sAckLoop_ev (rs : List S92) : ∀ n i o, 0 ≤ i → o.size + 16 * n ≤ 1000000 → Ev (fun k => sAckLoop k rs n (i + 1) o) (ackRest rs n i o)
  | 0, _, _, _, _ => Ev.now _
  | n + 1, i, o, hi, h => by
    unfold sAckLoop ackRest
    have e1 : i + 1 - 1 = i := by omega
    have e2 : 0 < i + 1 := by omega
    simp only [e1, e2, if_true]
    refine LoopK.Ev.bind_ (l1Var_ev _) ?_
    refine LoopK.Ev.bind_ (l1Var_ev _) ?_
    have h1 := vb8 (wrap64 (wrap64 ((rd_T92 rs i).f0 - (rd_T92 rs (i + 1)).f1) - 2))
    have h2 := vb8 (wrap64 ((rd_T92 rs (i + 1)).f1 - (rd_T92 rs (i + 1)).f0))
    rw [hcat_ok _ _ (by omega)]
    simp only [Option.bind_some]
    rw [hcat_ok _ _ (by rw [ByteArray.size_append]; omega)]
    simp only [Option.bind_some]
    exact sAckLoop_ev rs n _ _ (by omega) (by rw [ByteArray.size_append, ByteArray.size_append]; omega)
/-- An ack's head. -/
noncomputable def ackHd (fa : Int) (rs : List S92) : ByteArray :=
  vbytes (rd_T92 rs 0).f1 ++ vbytes fa ++ vbytes (wrap64 ((rs.length : Int) - 1)) ++ vbytes (wrap64 ((rd_T92 rs 0).f1 - (rd_T92 rs 0).f0))
theorem ackHd_size (fa : Int) (rs : List S92) : (ackHd fa rs).size ≤ 32 := by
  unfold ackHd
  rw [ByteArray.size_append, ByteArray.size_append, ByteArray.size_append]
  have h1 := vb8 (rd_T92 rs 0).f1
  have h2 := vb8 fa
  have h3 := vb8 (wrap64 ((rs.length : Int) - 1))
  have h4 := vb8 (wrap64 ((rd_T92 rs 0).f1 - (rd_T92 rs 0).f0))
  omega
theorem ackHead_ev (fa : Int) (rs : List S92) : Ev (fun k => ackHead k fa rs) (ackHd fa rs) := by
  unfold ackHead ackHd
  have h1 := vb8 (rd_T92 rs 0).f1
  have h2 := vb8 fa
  have h3 := vb8 (wrap64 ((rs.length : Int) - 1))
  have h4 := vb8 (wrap64 ((rd_T92 rs 0).f1 - (rd_T92 rs 0).f0))
  refine LoopK.Ev.bind_ (varint_ev _) ?_
  refine LoopK.Ev.bind_ (varint_ev _) ?_
  refine LoopK.Ev.bind_ (varint_ev _) ?_
  refine LoopK.Ev.bind_ (varint_ev _) ?_
  rw [hcat_ok _ _ (by omega)]
  simp only [Option.bind_some]
  rw [hcat_ok _ _ (by rw [ByteArray.size_append]; omega)]
  simp only [Option.bind_some]
  rw [hcat_ok _ _ (by rw [ByteArray.size_append, ByteArray.size_append]; omega)]
  exact Ev.now _
theorem sAckHead_ev (fa : Int) (rs : List S92) (s : ByteArray) (hs : s.size ≤ 1000) : Ev (fun k => sAckHead k fa rs s) (s ++ ackHd fa rs) := by
  unfold sAckHead
  have h5 := ackHd_size fa rs
  unfold ackHd at h5 ⊢
  have h1 := vb8 (rd_T92 rs 0).f1
  have h2 := vb8 fa
  have h3 := vb8 (wrap64 ((rs.length : Int) - 1))
  have h4 := vb8 (wrap64 ((rd_T92 rs 0).f1 - (rd_T92 rs 0).f0))
  refine LoopK.Ev.bind_ (l1Var_ev _) ?_
  refine LoopK.Ev.bind_ (l1Var_ev _) ?_
  refine LoopK.Ev.bind_ (l1Var_ev _) ?_
  refine LoopK.Ev.bind_ (l1Var_ev _) ?_
  rw [hcat_ok _ _ (by omega)]
  simp only [Option.bind_some]
  rw [hcat_ok _ _ (by rw [ByteArray.size_append]; omega)]
  simp only [Option.bind_some]
  rw [hcat_ok _ _ (by rw [ByteArray.size_append, ByteArray.size_append]; omega)]
  simp only [Option.bind_some]
  rw [hcat_ok _ _ (by omega)]
  exact Ev.now _
theorem ack_ev (fa : Int) (rs : List S92) (h : 1 ≤ rs.length ∧ rs.length ≤ 20) : Ev (fun k => impl_Frame_ackBytes.f k fa rs) (ackRest rs (rs.length - 1) 0 (ackHd fa rs)) := by
  unfold impl_Frame_ackBytes.f
  have c : 0 < rs.length ∧ rs.length ≤ 9223372036854775807 := by omega
  simp only [c, and_self, if_true]
  have := ackHd_size fa rs
  exact LoopK.Ev.bind_ (ackHead_ev fa rs) (ackLoop_ev rs _ _ _ (by omega))
theorem sAck_ev (fa : Int) (rs : List S92) (s : ByteArray) (hs : s.size ≤ 1000) (h : 1 ≤ rs.length ∧ rs.length ≤ 20) : Ev (fun k => sAck k fa rs s) (s ++ ackRest rs (rs.length - 1) 0 (ackHd fa rs)) := by
  unfold sAck
  have c : 0 < rs.length ∧ rs.length ≤ 4611686018427387904 := by omega
  simp only [c, and_self, if_true]
  have h1 := ackHd_size fa rs
  refine LoopK.Ev.bind_ (sAckHead_ev fa rs s hs) ?_
  rw [← ackRest_pre]
  obtain ⟨m, hm⟩ : ∃ m, rs.length = m + 1 := ⟨rs.length - 1, by omega⟩
  have e : rs.length - 1 = m := by omega
  rw [e]
  have key := sAckLoop_ev rs m 0 (s ++ ackHd fa rs) (by omega) (by rw [ByteArray.size_append]; omega)
  have e2 : ∀ k, sAckLoop k rs rs.length 0 (s ++ ackHd fa rs) = sAckLoop k rs m (0 + 1) (s ++ ackHd fa rs) := fun k => by
    rw [hm]
    conv => lhs; unfold sAckLoop
    rw [if_neg (by omega)]
  simp only [e2]
  exact key
/-- One byte of a number. -/
noncomputable def be1 (x : Int) : ByteArray := strOfNums (be x 1)
theorem be1_size (x : Int) : (be1 x).size = 1 := by unfold be1; rw [strOfNums_size, be_length]
theorem be1_impl (x : Int) : Ev (fun k => impl_bigEndian.f k (IntKind.u64.wrap x) 1) (be1 x) := by
  have h := bigEndian_ev (IntKind.u64.wrap x) 1 (by omega)
  unfold be1
  rw [← be_same (IntKind.u64.wrap x) x 1 (by omega) (wrap_mod x).2]
  exact h
theorem be1_spec (x : Int) : Ev (fun k => spec_l1Fixed.f k x 1) (be1 x) := l1Fixed_any x 1 (by omega)
/-- A stream's offset. -/
noncomputable def offB (fb : Int) : ByteArray := if fb = 0 then (⟨#[]⟩ : ByteArray) else vbytes fb
theorem offB_size (fb : Int) : (offB fb).size ≤ 8 := by
  unfold offB
  split
  · exact Nat.zero_le _
  · exact vb8 fb
/-- A frame's bytes. -/
noncomputable def fBytes (kd fa fb fc : Int) (fin : Bool) (dat : ByteArray) (rs : List S92) : ByteArray :=
  if kd = 2 then vbytes kd ++ ackRest rs (rs.length - 1) 0 (ackHd fa rs)
  else if kd = 16 then vbytes kd ++ vbytes fa
  else if kd = 17 ∨ kd = 5 then vbytes kd ++ vbytes fa ++ vbytes fb
  else if kd = 4 then vbytes kd ++ vbytes fa ++ vbytes fb ++ vbytes fc
  else if kd = 28 then vbytes kd ++ vbytes fa ++ vbytes fb ++ (vbytes (dat.size : Int) ++ dat)
  else if kd = 6 then vbytes kd ++ vbytes fa ++ (vbytes (dat.size : Int) ++ dat)
  else if kd = 7 then vbytes kd ++ (vbytes (dat.size : Int) ++ dat)
  else if kd = 8 then vbytes (streamKind fb fin) ++ vbytes fa ++ offB fb ++ (vbytes (dat.size : Int) ++ dat)
  else if kd = 24 then vbytes kd ++ vbytes fa ++ vbytes fb ++ be1 (dat.size : Int) ++ dat ++ be1 fc
  else if kd = 26 ∨ kd = 27 then vbytes kd ++ dat
  else if kd = 48 then vbytes 49 ++ (vbytes (dat.size : Int) ++ dat)
  else vbytes kd
theorem counted_ev (dat : ByteArray) (h : dat.size ≤ 200) : Ev (fun k => impl_counted.f k dat) (vbytes (dat.size : Int) ++ dat) := by
  unfold impl_counted.f
  refine LoopK.Ev.bind_ (varint_ev _) ?_
  have := vb8 (dat.size : Int)
  have c : (vbytes (dat.size : Int)).size + dat.size ≤ 9223372036854775807 := by omega
  simp only [c, if_true]
  exact Ev.now _
theorem byV_ev (n : Int) (o : ByteArray) (h : o.size ≤ 1000000) : Ev (fun k => byV k n o) (o ++ vbytes n) := by
  unfold byV
  refine LoopK.Ev.bind_ (varint_ev _) ?_
  rw [hcat_ok _ _ (by have := vb8 n; omega)]
  exact Ev.now _
theorem sV_ev (n : Int) (o : ByteArray) (h : o.size ≤ 1000000) : Ev (fun k => sV k n o) (o ++ vbytes n) := by
  unfold sV
  refine LoopK.Ev.bind_ (l1Var_ev _) ?_
  rw [hcat_ok _ _ (by have := vb8 n; omega)]
  exact Ev.now _
theorem byC_ev (dat o : ByteArray) (h : o.size ≤ 1000000) (hd : dat.size ≤ 200) : Ev (fun k => byC k dat o) (o ++ (vbytes (dat.size : Int) ++ dat)) := by
  unfold byC
  refine LoopK.Ev.bind_ (counted_ev dat hd) ?_
  rw [hcat_ok _ _ (by rw [ByteArray.size_append]; have := vb8 (dat.size : Int); omega)]
  exact Ev.now _
theorem hcat_ev (a b : ByteArray) (h : a.size + b.size ≤ 9223372036854775807) : Ev (fun _ => hcat a b) (a ++ b) := by
  rw [hcat_ok a b h]
  exact Ev.now _
theorem implBytes_ev (kd fa fb fc : Int) (fin : Bool) (dat : ByteArray) (rs : List S92) (hd : dat.size ≤ 200) (hr : kd = 2 → 1 ≤ rs.length ∧ rs.length ≤ 20) : Ev (fun k => impl_Frame_bytes.f k kd fa fb fc fin dat rs) (fBytes kd fa fb fc fin dat rs) := by
  unfold impl_Frame_bytes.f fBytes
  refine LoopK.Ev.bind_ (varint_ev _) ?_
  have v0 := vb8 kd
  have v1 := vb8 fa
  have v2 := vb8 fb
  have v3 := vb8 fc
  have v4 := vb8 (dat.size : Int)
  have v5 := vb8 49
  have v6 := vb8 (streamKind fb fin)
  have v7 := offB_size fb
  have v8 := be1_size (dat.size : Int)
  have v9 := be1_size fc
  unfold bytesTail
  rcases kinds kd with rfl | rfl | rfl | rfl | rfl | rfl | rfl | rfl | rfl | rfl | rfl | rfl | rfl | rfl | rfl | ⟨h0, h1, h2, h4, h5, h6, h7, h8, h16, h17, h24, h26, h27, h28, h48⟩
  · exact Ev.now _
  · exact Ev.now _
  · have hr' := hr rfl
    have h1 := ackHd_size fa rs
    have h2 := ackRest_size rs (rs.length - 1) 0 (ackHd fa rs)
    exact LoopK.Ev.bind_ (ack_ev fa rs hr') (hcat_ev _ _ (by omega))
  · exact LoopK.Ev.bind_ (byV_ev _ _ (by omega)) (LoopK.Ev.bind_ (byV_ev _ _ (by rw [ByteArray.size_append]; omega)) (byV_ev _ _ (by rw [ByteArray.size_append, ByteArray.size_append]; omega)))
  · exact LoopK.Ev.bind_ (byV_ev _ _ (by omega)) (byV_ev _ _ (by rw [ByteArray.size_append]; omega))
  · exact LoopK.Ev.bind_ (byV_ev _ _ (by omega)) (byC_ev _ _ (by rw [ByteArray.size_append]; omega) hd)
  · exact byC_ev _ _ (by omega) hd
  · show Ev (fun k => impl_Frame_streamBytes.f k fa fb fin dat) _
    unfold impl_Frame_streamBytes.f
    refine LoopK.Ev.bind_ (a := offB fb) ?_ ?_
    · unfold offB
      by_cases hf : fb = 0
      · simp only [hf, if_true]; exact Ev.now _
      · simp only [hf, if_false]; exact varint_ev _
    refine LoopK.Ev.bind_ (varint_ev _) ?_
    refine LoopK.Ev.bind_ (varint_ev _) ?_
    refine LoopK.Ev.bind_ (counted_ev dat hd) ?_
    rw [hcat_ok _ _ (by omega)]
    simp only [Option.bind_some]
    rw [hcat_ok _ _ (by rw [ByteArray.size_append]; omega)]
    simp only [Option.bind_some]
    exact hcat_ev _ _ (by simp only [ByteArray.size_append]; omega)
  · exact byV_ev _ _ (by omega)
  · exact LoopK.Ev.bind_ (byV_ev _ _ (by omega)) (byV_ev _ _ (by rw [ByteArray.size_append]; omega))
  · refine LoopK.Ev.bind_ (byV_ev _ _ (by omega)) (LoopK.Ev.bind_ (byV_ev _ _ (by rw [ByteArray.size_append]; omega)) (LoopK.Ev.bind_ (be1_impl _) ?_))
    refine LoopK.Ev.bind_ (hcat_ev _ _ (by simp only [ByteArray.size_append]; omega)) ?_
    refine LoopK.Ev.bind_ (hcat_ev _ _ (by simp only [ByteArray.size_append]; omega)) ?_
    exact LoopK.Ev.bind_ (be1_impl _) (hcat_ev _ _ (by simp only [ByteArray.size_append]; omega))
  · exact hcat_ev _ _ (by omega)
  · exact hcat_ev _ _ (by omega)
  · exact LoopK.Ev.bind_ (byV_ev _ _ (by omega)) (LoopK.Ev.bind_ (byV_ev _ _ (by rw [ByteArray.size_append]; omega)) (byC_ev _ _ (by simp only [ByteArray.size_append]; omega) hd))
  · exact LoopK.Ev.bind_ (varint_ev _) (byC_ev _ _ (by omega) hd)
  · simp only [h2, h4, h5, h17, h16, h6, h7, h8, h24, h26, h27, h28, h48, or_self, if_false]
    exact Ev.now _
theorem specBytes_ev (kd fa fb fc : Int) (fin : Bool) (dat : ByteArray) (rs : List S92) (hd : dat.size ≤ 200) (hr : kd = 2 → 1 ≤ rs.length ∧ rs.length ≤ 20) : Ev (fun k => spec_l1Bytes.f k kd fa fb fc fin dat rs) (fBytes kd fa fb fc fin dat rs) := by
  unfold spec_l1Bytes.f fBytes
  have v0 := vb8 kd
  have v1 := vb8 fa
  have v2 := vb8 fb
  have v3 := vb8 fc
  have v4 := vb8 (dat.size : Int)
  have v5 := vb8 49
  have v6 := vb8 (streamKind fb fin)
  have v7 := offB_size fb
  have v8 := be1_size (dat.size : Int)
  have v9 := be1_size fc
  refine LoopK.Ev.bind_ (l1Var_ev _) ?_
  refine LoopK.Ev.bind_ (l1Var_ev _) ?_
  refine LoopK.Ev.bind_ (hcat_ev _ _ (by omega)) ?_
  unfold sTailB
  rcases kinds kd with rfl | rfl | rfl | rfl | rfl | rfl | rfl | rfl | rfl | rfl | rfl | rfl | rfl | rfl | rfl | ⟨h0, h1, h2, h4, h5, h6, h7, h8, h16, h17, h24, h26, h27, h28, h48⟩
  · exact Ev.now _
  · exact Ev.now _
  · exact sAck_ev fa rs _ (by omega) (hr rfl)
  · exact LoopK.Ev.bind_ (sV_ev _ _ (by omega)) (LoopK.Ev.bind_ (sV_ev _ _ (by rw [ByteArray.size_append]; omega)) (sV_ev _ _ (by rw [ByteArray.size_append, ByteArray.size_append]; omega)))
  · exact LoopK.Ev.bind_ (sV_ev _ _ (by omega)) (sV_ev _ _ (by rw [ByteArray.size_append]; omega))
  · exact LoopK.Ev.bind_ (sV_ev _ _ (by omega)) (hcat_ev _ _ (by simp only [ByteArray.size_append]; omega))
  · exact hcat_ev _ _ (by simp only [ByteArray.size_append]; omega)
  · show Ev (fun k => sStream k fa fb fin _) _
    unfold sStream
    refine LoopK.Ev.bind_ (a := offB fb) ?_ ?_
    · unfold offB
      by_cases hf : fb = 0
      · simp only [hf, if_true]; exact Ev.now _
      · simp only [hf, if_false]; exact l1Var_ev _
    refine LoopK.Ev.bind_ (l1Var_ev _) ?_
    refine LoopK.Ev.bind_ (l1Var_ev _) ?_
    rw [hcat_ok _ _ (by omega)]
    simp only [Option.bind_some]
    rw [hcat_ok _ _ (by rw [ByteArray.size_append]; omega)]
    simp only [Option.bind_some]
    exact hcat_ev _ _ (by simp only [ByteArray.size_append]; omega)
  · exact sV_ev _ _ (by omega)
  · exact LoopK.Ev.bind_ (sV_ev _ _ (by omega)) (sV_ev _ _ (by rw [ByteArray.size_append]; omega))
  · refine LoopK.Ev.bind_ (sV_ev _ _ (by omega)) (LoopK.Ev.bind_ (sV_ev _ _ (by rw [ByteArray.size_append]; omega)) (LoopK.Ev.bind_ (be1_spec _) ?_))
    refine LoopK.Ev.bind_ (hcat_ev _ _ (by simp only [ByteArray.size_append]; omega)) ?_
    refine LoopK.Ev.bind_ (hcat_ev _ _ (by simp only [ByteArray.size_append]; omega)) ?_
    exact LoopK.Ev.bind_ (be1_spec _) (hcat_ev _ _ (by simp only [ByteArray.size_append]; omega))
  · exact hcat_ev _ _ (by omega)
  · exact hcat_ev _ _ (by omega)
  · exact LoopK.Ev.bind_ (sV_ev _ _ (by omega)) (LoopK.Ev.bind_ (sV_ev _ _ (by rw [ByteArray.size_append]; omega)) (hcat_ev _ _ (by simp only [ByteArray.size_append]; omega)))
  · exact LoopK.Ev.bind_ (l1Var_ev _) (hcat_ev _ _ (by simp only [ByteArray.size_append]; omega))
  · simp only [h2, h4, h5, h17, h16, h6, h7, h8, h24, h26, h27, h28, h48, or_self, if_false]
    exact Ev.now _
theorem fGood_in (kd fa fb fc : Int) (fin : Bool) (dat : ByteArray) (rs : List S92) (h : fGood2 kd fa fb fc fin dat rs = true) : dat.size ≤ 200 ∧ (kd = 2 → 1 ≤ rs.length ∧ rs.length ≤ 20) := by
  unfold fGood2 namedB namedHead at h
  simp only [Bool.and_eq_true, Bool.not_eq_true', decide_eq_false_iff_not] at h
  refine ⟨by have := h.1.1.2.1; omega, fun k => ?_⟩
  have h2 := h.2
  simp only [k, if_true, Bool.and_eq_true, decide_eq_true_eq] at h2
  omega

theorem FnExactFrameBytes : SFnExactFrameBytes.Pure := by
  intro kd fa fb fc fin dat l hkd hfa hfb hfc hdat hl
  refine Ev.rounds ?_
  unfold laws_FnExactFrameBytes.f laws_szFrame.f laws_szRangeS.f
  have e1 : wrap64 (1048576 - (dat.size : Int)) = 1048576 - (dat.size : Int) := by unfold wrap64; omega
  simp only [e1]
  by_cases h1 : 1048576 - (dat.size : Int) < 0
  · simp only [h1, if_true, Option.bind_some]
    exact Ev.now _
  simp only [h1, if_false]
  have e2 : wrap64 (1048576 - (dat.size : Int) - (l.length : Int)) = 1048576 - (dat.size : Int) - (l.length : Int) := by unfold wrap64; omega
  simp only [e2]
  by_cases h2 : 1048576 - (dat.size : Int) - (l.length : Int) < 0
  · simp only [h2, if_true, Option.bind_some]
    exact Ev.now _
  simp only [h2, if_false, Option.bind_some]
  have hl2 : l.length ≤ 1048576 := by omega
  have hto : Ev (fun k => laws_toFrame.f k kd fa fb fc fin dat l) (kd, fa, fb, fc, fin, dat, l.map cvRange) := by
    unfold laws_toFrame.f
    exact LoopK.Ev.bind_ (toRangeS_ev l hl2) (Ev.now _)
  have hm : (l.map cvRange).length ≤ 4611686018427387904 := by rw [List.length_map]; omega
  have heq : Ev (fun k => laws_eqFrame.f k kd fa fb fc fin dat (l.map cvRange) kd fa fb fc fin dat (l.map cvRange)) true := by
    unfold laws_eqFrame.f
    simp only [if_true, bne_self_eq_false, Bool.false_eq_true, if_false]
    refine LoopK.Ev.bind_ (eqRangeS_ev _ hm) ?_
    simp only [if_true]
    exact Ev.now _
  have both : ∃ v, Ev (fun k => spec_FrameBytes.f k kd fa fb fc fin dat (l.map cvRange)) v ∧ Ev (fun k => impl_FrameBytes.f k kd fa fb fc fin dat (l.map cvRange)) v := by
    unfold spec_FrameBytes.f impl_FrameBytes.f
    have hs := specGood_ev kd fa fb fc fin dat (l.map cvRange) hm
    have hi := implGood_ev kd fa fb fc fin dat (l.map cvRange) hkd hm
    rw [good_same] at hs
    cases hg : fGood2 kd fa fb fc fin dat (l.map cvRange) with
    | false =>
      rw [hg] at hs hi
      exact ⟨_, LoopK.Ev.bind_ hs (by simpa using Ev.now _), LoopK.Ev.bind_ hi (by simpa using Ev.now _)⟩
    | true =>
      rw [hg] at hs hi
      obtain ⟨hd, hr⟩ := fGood_in kd fa fb fc fin dat _ hg
      refine ⟨(fBytes kd fa fb fc fin dat (l.map cvRange), true), LoopK.Ev.bind_ hs ?_, LoopK.Ev.bind_ hi ?_⟩
      · simp only [if_true]
        exact LoopK.Ev.bind_ (specBytes_ev kd fa fb fc fin dat _ hd hr) (Ev.now _)
      · simp only [if_true]
        exact LoopK.Ev.bind_ (implBytes_ev kd fa fb fc fin dat _ hd hr) (Ev.now _)
  obtain ⟨v, hv1, hv2⟩ := both
  refine LoopK.Ev.bind_ hto ?_
  refine LoopK.Ev.bind_ hv1 ?_
  refine LoopK.Ev.bind_ hto ?_
  refine LoopK.Ev.bind_ hv2 ?_
  simp only [if_true, bne_self_eq_false]
  refine LoopK.Ev.succ ?_
  simp only [laws_FnExactFrameBytes.j0, Bool.false_eq_true, if_false]
  refine LoopK.Ev.bind_ hto ?_
  refine LoopK.Ev.bind_ heq ?_
  simp only [if_true]
  exact Ev.now _

end Go.Proofs.Ytpdoplkiaejpiaa.Pure
