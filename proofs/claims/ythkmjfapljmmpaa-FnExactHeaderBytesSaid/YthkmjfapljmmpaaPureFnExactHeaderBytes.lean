/- The pure statement of the law FnExactHeaderBytes: the program's function and the reference answer alike. -/
import Derived.Test.YthkmjfapljmmpaaSFnExactHeaderBytes
import Derived.Test.YthkmjfapljmmpaaLoopK
namespace Go.Proofs.Ythkmjfapljmmpaa.Pure
open Go.RowKit Go.Proofs.Ythkmjfapljmmpaa.PFnExactHeaderBytes Go.Proofs.YthkmjfapljmmpaaW.PrintWords Go.Proofs.YthkmjfapljmmpaaW.PrintLast Go.Proofs.Ythkmjfapljmmpaa.SFnExactHeaderBytes
set_option linter.unusedVariables false
set_option linter.unusedSimpArgs false

open Go.Proofs.Ythkmjfapljmmpaa.LoopK (copyEv sameEv markEv heldEv foldEv mk mk_length at_lt at_lt' at_nn at_nlt at_stop at_getD at_set at_set2 at_snoc len_snoc at_w w64 firstEv find_any chk last_or at_prev at_prev_lt at_prev_nn at_prev_pos at_prev_w pairEv)

theorem l1In_eq (a b c : Int) : spec_l1In.f a b c = some (decide (b ≤ a ∧ a ≤ c)) := by
  unfold spec_l1In.f
  by_cases h : b ≤ a
  · rw [if_pos h]; simp [h]
  · rw [if_neg h]; simp [h]
theorem in_eq (a b c : Int) : impl_in.f a b c = some (decide (b ≤ a ∧ a ≤ c)) := l1In_eq a b c
theorem and_ite (p q : Prop) [Decidable p] [Decidable q] : (if p then some (decide q) else some false) = some (decide (p ∧ q)) := by
  by_cases h : p <;> simp [h]

/-! ### right headers -/
def hb1 (s1 : Int) (s3 s4 s5 s6 : ByteArray) : Bool := !(decide (s3.size ≤ 20) && decide (s4.size ≤ 20) && decide (0 ≤ s1 ∧ s1 ≤ 15) && decide (s5.size ≤ 200) && decide (s6.size ≤ 1200))
def hb2 (s0 : Int) (s5 : ByteArray) (s7 : List Int) : Bool := (decide (s0 ≠ 0) && !s5.toList.isEmpty) || (decide (s0 ≠ 4) && decide (0 < s7.length))
def hword (n : Int) : Bool := decide (0 ≤ n ∧ n ≤ 4294967295)
def hcore (s0 s2 : Int) (s4 s6 : ByteArray) (s7 : List Int) : Bool :=
  if 0 ≤ s0 ∧ s0 ≤ 3 then decide (1 ≤ s2 ∧ s2 ≤ 4294967295) && !s6.toList.isEmpty
  else if s0 = 4 then decide (s2 = 0) && s6.toList.isEmpty && decide (1 ≤ (s7.length : Int) ∧ (s7.length : Int) ≤ 20) && !(s7.any fun n => !hword n)
  else decide (s0 = 5) && decide (s2 = 0) && s4.toList.isEmpty
def hgood (s0 s1 s2 : Int) (s3 s4 s5 s6 : ByteArray) (s7 : List Int) : Bool := !hb1 s1 s3 s4 s5 s6 && !hb2 s0 s5 s7 && hcore s0 s2 s4 s6 s7
theorem nil_isEmpty (l : List UInt8) : (l = ([] : List UInt8)) = (l.isEmpty = true) := by
  cases l <;> simp
theorem nil_bne (l : List UInt8) : (l != ([] : List UInt8)) = !l.isEmpty := by cases l <;> rfl
theorem nil_beq (l : List UInt8) : (l == ([] : List UInt8)) = l.isEmpty := by cases l <;> rfl
theorem specH_f (k : Nat) (s0 s1 s2 : Int) (s3 s4 s5 s6 : ByteArray) (s7 : List Int) : spec_GoodHeader.f k s0 s1 s2 s3 s4 s5 s6 s7 = spec_GoodHeader.j0 k (hb1 s1 s3 s4 s5 s6) s0 s1 s2 s3 s4 s5 s6 s7 := by
  unfold spec_GoodHeader.f hb1
  simp only [l1In_eq, Option.bind_some, decide_eq_true_eq]
  by_cases h1 : s3.size ≤ 20
  · rw [if_neg (by omega), decide_eq_true h1]
    by_cases h2 : s4.size ≤ 20
    · rw [if_neg (by omega), decide_eq_true h2]
      by_cases h3 : 0 ≤ s1 ∧ s1 ≤ 15
      · rw [if_pos h3, decide_eq_true h3]
        by_cases h4 : s5.size ≤ 200
        · rw [if_neg (by omega), decide_eq_true h4]
          by_cases h5 : s6.size ≤ 1200
          · rw [decide_eq_true h5, decide_eq_false (by omega)]; rfl
          · rw [decide_eq_false h5, decide_eq_true (by omega)]; rfl
        · rw [if_pos (by omega), decide_eq_false h4]; rfl
      · rw [if_neg h3, decide_eq_false h3]; rfl
    · rw [if_pos (by omega), decide_eq_false h2]; rfl
  · rw [if_pos (by omega), decide_eq_false h1]; rfl
theorem implH_f (k : Nat) (s0 s1 s2 : Int) (s3 s4 s5 s6 : ByteArray) (s7 : List Int) : impl_GoodHeader.f k s0 s1 s2 s3 s4 s5 s6 s7 = impl_GoodHeader.j0 k (hb1 s1 s3 s4 s5 s6) s0 s1 s2 s3 s4 s5 s6 s7 := by
  unfold impl_GoodHeader.f hb1
  simp only [in_eq, Option.bind_some, decide_eq_true_eq]
  by_cases h1 : s3.size ≤ 20
  · rw [if_neg (by omega), decide_eq_true h1]
    by_cases h2 : s4.size ≤ 20
    · rw [if_neg (by omega), decide_eq_true h2]
      by_cases h3 : 0 ≤ s1 ∧ s1 ≤ 15
      · rw [if_pos h3, decide_eq_true h3]
        by_cases h4 : s5.size ≤ 200
        · rw [if_neg (by omega), decide_eq_true h4]
          by_cases h5 : s6.size ≤ 1200
          · rw [decide_eq_true h5, decide_eq_false (by omega)]; rfl
          · rw [decide_eq_false h5, decide_eq_true (by omega)]; rfl
        · rw [if_pos (by omega), decide_eq_false h4]; rfl
      · rw [if_neg h3, decide_eq_false h3]; rfl
    · rw [if_pos (by omega), decide_eq_false h2]; rfl
  · rw [if_pos (by omega), decide_eq_false h1]; rfl
theorem specH_j0 (k : Nat) (s0 s1 s2 : Int) (s3 s4 s5 s6 : ByteArray) (s7 : List Int) : spec_GoodHeader.j0 (k + 1) false s0 s1 s2 s3 s4 s5 s6 s7 = spec_GoodHeader.j1 k (hb2 s0 s5 s7) s0 s1 s2 s3 s4 s5 s6 s7 := by
  have e : decide ((s7.length : Int) > 0) = decide (0 < s7.length) := by
    by_cases h : 0 < s7.length
    · rw [decide_eq_true h, decide_eq_true (by omega)]
    · rw [decide_eq_false h, decide_eq_false (by omega)]
  simp only [spec_GoodHeader.j0, Bool.false_eq_true, if_false, nil_isEmpty, e, hb2]
  by_cases h0 : s0 = 0
  · subst h0; simp
  · by_cases h4 : s0 = 4
    · subst h4; cases h5 : s5.toList.isEmpty <;> simp
    · cases h5 : s5.toList.isEmpty <;> simp [h0, h4]
theorem implH_j0 (k : Nat) (s0 s1 s2 : Int) (s3 s4 s5 s6 : ByteArray) (s7 : List Int) : impl_GoodHeader.j0 (k + 1) false s0 s1 s2 s3 s4 s5 s6 s7 = impl_GoodHeader.j1 k (hb2 s0 s5 s7) s0 s1 s2 s3 s4 s5 s6 s7 := by
  have e : decide ((s7.length : Int) > 0) = decide (0 < s7.length) := by
    by_cases h : 0 < s7.length
    · rw [decide_eq_true h, decide_eq_true (by omega)]
    · rw [decide_eq_false h, decide_eq_false (by omega)]
  simp only [impl_GoodHeader.j0, Bool.false_eq_true, if_false, nil_isEmpty, e, hb2]
  by_cases h0 : s0 = 0
  · subst h0; simp
  · by_cases h4 : s0 = 4
    · subst h4; cases h5 : s5.toList.isEmpty <;> simp
    · cases h5 : s5.toList.isEmpty <;> simp [h0, h4]
theorem hword_any (l : List Int) : slices_ContainsFunc_int_int_185.f l = some (l.any fun n => !hword n) := by
  have hp : ∀ x, slices_ContainsFunc_int_int_185.p x = some (!hword x) := fun x => by
    unfold slices_ContainsFunc_int_int_185.p impl_GoodHeader_1.f hword
    rw [in_eq, Option.bind_some]
  unfold slices_ContainsFunc_int_int_185.f
  simp only [hp, Option.isSome_some, List.all_eq_true, implies_true, if_true, Option.getD_some]
theorem implH_j1 (k : Nat) (s0 s1 s2 : Int) (s3 s4 s5 s6 : ByteArray) (s7 : List Int) : impl_GoodHeader.j1 (k + 1) false s0 s1 s2 s3 s4 s5 s6 s7 = some (hcore s0 s2 s4 s6 s7) := by
  simp only [impl_GoodHeader.j1, Bool.false_eq_true, if_false, impl_long.f, impl_isVersion.f, in_eq, Option.bind_some, decide_eq_true_eq, hword_any, nil_isEmpty, nil_bne, nil_beq, hcore]
  by_cases h0 : 0 ≤ s0 ∧ s0 ≤ 3
  · rw [if_pos h0, if_pos h0]
    by_cases h1 : 1 ≤ s2 ∧ s2 ≤ 4294967295
    · rw [if_pos h1, decide_eq_true h1]; rfl
    · rw [if_neg h1, decide_eq_false h1]; rfl
  · rw [if_neg h0, if_neg h0]
    by_cases h4 : s0 = 4
    · rw [if_pos h4, if_pos h4]
      by_cases h2 : s2 = 0
      · rw [if_pos h2, decide_eq_true h2]
        cases h6 : s6.toList.isEmpty with
        | false => rfl
        | true =>
          rw [if_pos rfl]
          by_cases h7 : 1 ≤ (s7.length : Int) ∧ (s7.length : Int) ≤ 20
          · rw [if_pos h7, decide_eq_true h7]; rfl
          · rw [if_neg h7, decide_eq_false h7]; rfl
      · rw [if_neg h2, decide_eq_false h2]; rfl
    · rw [if_neg h4, if_neg h4]
      by_cases h5 : s0 = 5
      · rw [if_pos h5, decide_eq_true h5]
        by_cases h2 : s2 = 0
        · rw [if_pos h2, decide_eq_true h2]; rfl
        · rw [if_neg h2, decide_eq_false h2]; rfl
      · rw [if_neg h5, decide_eq_false h5]; rfl
theorem implH_ev (s0 s1 s2 : Int) (s3 s4 s5 s6 : ByteArray) (s7 : List Int) : Ev (fun k => impl_GoodHeader.f k s0 s1 s2 s3 s4 s5 s6 s7) (hgood s0 s1 s2 s3 s4 s5 s6 s7) := by
  simp only [implH_f]
  refine LoopK.Ev.succ ?_
  unfold hgood
  cases hb1 s1 s3 s4 s5 s6 with
  | true =>
    simp only [impl_GoodHeader.j0, if_true]
    exact Ev.now _
  | false =>
    simp only [implH_j0]
    refine LoopK.Ev.succ ?_
    cases hb2 s0 s5 s7 with
    | true =>
      simp only [impl_GoodHeader.j1, if_true]
      exact Ev.now _
    | false =>
      simp only [implH_j1]
      exact Ev.now _
theorem specH_loop (s0 s1 s2 : Int) (s3 s4 s5 s6 : ByteArray) (s7 l : List Int) (hl : l.length ≤ 4611686018427387904) :
    Ev (fun k => spec_GoodHeader.l0 k l (l.length : Int) 0 s0 s1 s2 s3 s4 s5 s6 s7) (!(l.any fun n => !hword n) && (decide (s2 = 0) && s6.toList.isEmpty && decide (1 ≤ (s7.length : Int) ∧ (s7.length : Int) ≤ 20))) := by
  have key := firstEv (fun k xs i => spec_GoodHeader.l0 k xs (xs.length : Int) i s0 s1 s2 s3 s4 s5 s6 s7) (fun n => !hword n) (fun o : Option Int => !o.isSome && (decide (s2 = 0) && s6.toList.isEmpty && decide (1 ≤ (s7.length : Int) ∧ (s7.length : Int) ≤ 20))) 4611686018427387904
    (fun xs => by
      refine LoopK.Ev.succ ?_
      simp only [spec_GoodHeader.l0, at_stop, if_false, Option.isSome_none, Bool.not_false, Bool.true_and, l1In_eq, Option.bind_some, nil_isEmpty]
      by_cases h2 : s2 = 0
      · rw [decide_eq_true h2]
        simp only [h2, if_true]
        cases h6 : s6.toList.isEmpty with
        | false => exact Ev.now _
        | true => exact Ev.now _
      · rw [decide_eq_false h2]
        simp only [h2, if_false]
        exact Ev.now _)
    (fun p x r hB hg => by
      refine LoopK.Ev.succ ?_
      simp only [hword, Bool.not_eq_true', decide_eq_false_iff_not] at hg
      simp only [spec_GoodHeader.l0, at_lt, at_nn, if_true, rd, at_getD, spec_l2Word.f, l1In_eq, Option.bind_some, decide_eq_true_eq, hg, if_false, Option.isSome_some, Bool.not_true, Bool.false_and]
      exact Ev.now _)
    (fun p x r b hB hg ih => by
      refine LoopK.Ev.succ ?_
      have e1 := at_w p x r hB
      simp only [hword, Bool.not_eq_false', decide_eq_true_eq] at hg
      simp only [spec_GoodHeader.l0, at_lt, at_nn, if_true, rd, at_getD, spec_l2Word.f, l1In_eq, Option.bind_some, decide_eq_true_eq, hg, and_self, e1]
      exact ih) l [] (by simpa using hl)
  rw [find_any] at key
  simpa using key
theorem specH_j2 (s0 s1 s2 x : Int) (s3 s4 s5 s6 : ByteArray) (s7 : List Int) (hl : s7.length ≤ 4611686018427387904) (hx : x = s0) : Ev (fun k => spec_GoodHeader.j2 k x (decide (0 ≤ s0 ∧ s0 ≤ 3)) s0 s1 s2 s3 s4 s5 s6 s7) (hcore s0 s2 s4 s6 s7) := by
  subst hx
  refine LoopK.Ev.succ ?_
  unfold hcore
  by_cases h0 : 0 ≤ x ∧ x ≤ 3
  · simp only [spec_GoodHeader.j2, decide_eq_true h0, if_true, l1In_eq, Option.bind_some, decide_eq_true_eq, nil_bne, h0, and_self]
    refine LoopK.Ev.eq_ fun _ => ?_
    by_cases h1 : 1 ≤ s2 ∧ s2 ≤ 4294967295
    · rw [if_pos h1, decide_eq_true h1]; rfl
    · rw [if_neg h1, decide_eq_false h1]; rfl
  · rw [if_neg h0]
    simp only [spec_GoodHeader.j2, decide_eq_false h0, Bool.false_eq_true, if_false]
    by_cases h4 : x = 4
    · simp only [h4, if_true]
      refine LoopK.Ev.to (specH_loop 4 s1 s2 s3 s4 s5 s6 s7 s7 hl) ?_
      rw [Bool.and_comm]
    · simp only [h4, if_false, nil_isEmpty]
      refine LoopK.Ev.eq_ fun _ => ?_
      by_cases h5 : x = 5
      · rw [if_pos h5, decide_eq_true h5]
        cases h6 : s4.toList.isEmpty with
        | false => rw [if_neg (by decide), Bool.and_false]
        | true =>
          rw [if_pos rfl]
          by_cases h2 : s2 = 0
          · subst h2; rfl
          · rw [decide_eq_false h2, show (s2 == 0) = false from by simpa using h2]; rfl
      · rw [if_neg h5, decide_eq_false h5]; rfl
theorem specH_ev (s0 s1 s2 : Int) (s3 s4 s5 s6 : ByteArray) (s7 : List Int) (hl : s7.length ≤ 4611686018427387904) : Ev (fun k => spec_GoodHeader.f k s0 s1 s2 s3 s4 s5 s6 s7) (hgood s0 s1 s2 s3 s4 s5 s6 s7) := by
  simp only [specH_f]
  refine LoopK.Ev.succ ?_
  unfold hgood
  cases hb1 s1 s3 s4 s5 s6 with
  | true =>
    simp only [spec_GoodHeader.j0, if_true]
    exact Ev.now _
  | false =>
    simp only [specH_j0]
    refine LoopK.Ev.succ ?_
    cases hb2 s0 s5 s7 with
    | true =>
      simp only [spec_GoodHeader.j1, if_true]
      exact Ev.now _
    | false =>
      have key := specH_j2 s0 s1 s2 s0 s3 s4 s5 s6 s7 hl rfl
      simp only [spec_GoodHeader.j1, Bool.false_eq_true, if_false, Bool.not_false, Bool.true_and]
      by_cases h0 : s0 = 0
      · subst h0
        simpa using key
      · by_cases h1 : s0 = 1
        · subst h1
          simpa using key
        · by_cases h2 : s0 = 2
          · subst h2
            simpa using key
          · simp only [h0, h1, h2, if_false]
            have e : (s0 == 3) = decide (0 ≤ s0 ∧ s0 ≤ 3) := by
              by_cases h3 : s0 = 3
              · subst h3; rfl
              · rw [decide_eq_false (by omega)]
                simpa using h3
            rw [e]
            exact key

/-- So many bytes of a number, the highest one first. -/
def be : Int → Nat → List Int
  | _, 0 => []
  | n, m + 1 => be (n / 256) m ++ [n % 256]
theorem be_length : ∀ (m : Nat) (n : Int), (be n m).length = m
  | 0, _ => rfl
  | m + 1, n => by simp [be, be_length m]
theorem pow256 (m : Nat) : (0 : Int) < 256 ^ m := Int.pow_pos (by decide)
theorem be_cons : ∀ (m : Nat) (n : Int), be n (m + 1) = (n / 256 ^ m % 256) :: be n m
  | 0, n => by simp [be]
  | m + 1, n => by
    have e : n / 256 / 256 ^ m = n / 256 ^ (m + 1) := by
      rw [Int.ediv_ediv_of_nonneg (by decide), Int.pow_succ, Int.mul_comm]
    rw [be, be_cons m (n / 256), e]
    simp [be]
theorem be_mod : ∀ (m : Nat) (n q : Int), be (n + 256 ^ m * q) m = be n m
  | 0, _, _ => rfl
  | m + 1, n, q => by
    have e1 : n + 256 ^ (m + 1) * q = n + 256 * (256 ^ m * q) := by rw [Int.pow_succ, Int.mul_comm (256 ^ m) 256, Int.mul_assoc]
    have e2 : (n + 256 * (256 ^ m * q)) / 256 = n / 256 + 256 ^ m * q := by omega
    have e3 : (n + 256 * (256 ^ m * q)) % 256 = n % 256 := by omega
    rw [be, e1, e2, e3, be_mod m]
    rfl
theorem strOfNums_size (l : List Int) : (strOfNums l).size = l.length := by simp [strOfNums, ByteArray.size]
theorem strOfNums_toList (l : List Int) : (strOfNums l).toList = l.map fun n => UInt8.ofNat n.toNat := by
  rw [ByteArray.toList_eq]
  simp [strOfNums]
theorem strOfNums_append (a b : List Int) : strOfNums a ++ strOfNums b = strOfNums (a ++ b) := by
  apply ByteArray.ext
  simp [strOfNums]
theorem shr8 (x : Int) (i : Nat) (hi : 8 * i ≤ 9223372036854775807) (hx : 0 ≤ x ∧ x < 18446744073709551616) : shr .u64 x (8 * (i : Int)) = x / 256 ^ i ∧ shr .i64 x (8 * (i : Int)) = x / 256 ^ i := by
  have hp : (256 : Int) ^ i = 2 ^ (8 * i) := by rw [Int.pow_mul]; rfl
  have e : (8 * (i : Int)).toNat = 8 * i := by omega
  have key : x / 2 ^ min (8 * i) 64 = x / 256 ^ i := by
    rcases Nat.lt_or_ge (8 * i) 64 with h | h
    · rw [hp, Nat.min_eq_left (by omega)]
    · rw [Nat.min_eq_right h, hp]
      have h1 : (2 : Int) ^ 64 ≤ 2 ^ (8 * i) := by exact_mod_cast Nat.pow_le_pow_right (by decide) h
      rw [Int.ediv_eq_zero_of_lt hx.1 (by omega), Int.ediv_eq_zero_of_lt hx.1 (by omega)]
  unfold shr
  rw [e]
  exact ⟨key, key⟩
theorem l1Fixed_loop (x : Int) (hx : 0 ≤ x ∧ x < 18446744073709551616) : ∀ (m : Nat) (out : List Int), m ≤ 1000 → out.length + m ≤ 100000 → Ev (fun k => spec_l1Fixed.l0 k x out ((m : Int) - 1)) (strOfNums (out ++ be x m))
  | 0, out, _, _ => by
    refine LoopK.Ev.succ ?_
    have c : ¬ (((0 : Nat) : Int) - 1 ≥ 0) := by omega
    simp only [spec_l1Fixed.l0, c, if_false, be, List.append_nil]
    exact Ev.now _
  | m + 1, out, hm, ho => by
    refine LoopK.Ev.succ ?_
    have e0 : ((m + 1 : Nat) : Int) - 1 = (m : Int) := by omega
    have c : (m : Int) ≥ 0 := by omega
    have w0 : wrap64 (8 * (m : Int)) = 8 * (m : Int) := w64 _ (by omega)
    have w1 : IntKind.u64.wrap (8 * (m : Int)) = 8 * (m : Int) := by
      simp [IntKind.wrap, IntKind.bits, IntKind.signed]
      omega
    have c1 : 0 ≤ 8 * (m : Int) := by omega
    have c2 : out.length < 140737488355328 := by omega
    have w2 : wrap64 ((m : Int) - 1) = (m : Int) - 1 := w64 _ (by omega)
    rw [e0]
    simp only [spec_l1Fixed.l0, c, if_true, w0, w1, c1, c2, w2, (shr8 x m (by omega) hx).2]
    refine LoopK.Ev.to (l1Fixed_loop x hx m _ (by omega) (by simp; omega)) ?_
    rw [be_cons, List.append_assoc]
    rfl
theorem l1Fixed_ev (x : Int) (hx : 0 ≤ x ∧ x < 18446744073709551616) (m : Nat) (hm : m ≤ 1000) : Ev (fun k => spec_l1Fixed.f k x (m : Int)) (strOfNums (be x m)) := by
  unfold spec_l1Fixed.f
  have w : wrap64 ((m : Int) - 1) = (m : Int) - 1 := w64 _ (by omega)
  simp only [w]
  simpa using l1Fixed_loop x hx m [] hm (by simp; omega)
theorem bigEndian_loop : ∀ (m : Nat) (x : Int) (tail : List Int), m ≤ 1000 → tail.length + m ≤ 100000 → Ev (fun k => impl_bigEndian.l0 k x (List.replicate m 0 ++ tail) ((m : Int) - 1)) (strOfNums (be x m ++ tail))
  | 0, x, tail, _, _ => by
    refine LoopK.Ev.succ ?_
    have c : ¬ (((0 : Nat) : Int) - 1 ≥ 0) := by omega
    simp only [impl_bigEndian.l0, c, if_false, be, List.replicate_zero, List.nil_append]
    exact Ev.now _
  | m + 1, x, tail, hm, ht => by
    refine LoopK.Ev.succ ?_
    have e0 : ((m + 1 : Nat) : Int) - 1 = (m : Int) := by omega
    have c : (m : Int) ≥ 0 := by omega
    have c1 : 0 ≤ (m : Int) := by omega
    have c2 : (m : Int) < ((List.replicate (m + 1) (0 : Int) ++ tail).length : Int) := by
      rw [List.length_append, List.length_replicate]
      omega
    have w2 : wrap64 ((m : Int) - 1) = (m : Int) - 1 := w64 _ (by omega)
    have e1 : (List.replicate (m + 1) (0 : Int) ++ tail).set (m : Int).toNat (x % 256) = List.replicate m 0 ++ (x % 256 :: tail) := by
      rw [List.replicate_succ', List.append_assoc]
      have : (m : Int).toNat = (List.replicate m (0 : Int)).length := by simp
      rw [this, List.set_append_right _ _ (Nat.le_refl _)]
      simp
    rw [e0]
    simp only [impl_bigEndian.l0, c, if_true, c1, c2, w2, e1]
    refine LoopK.Ev.to (bigEndian_loop m (x / 256) (x % 256 :: tail) (by omega) (by rw [List.length_cons]; omega)) ?_
    simp [be]
theorem bigEndian_ev (x : Int) (m : Nat) (hm : m ≤ 1000) : Ev (fun k => impl_bigEndian.f k x (m : Int)) (strOfNums (be x m)) := by
  unfold impl_bigEndian.f
  have c1 : 0 ≤ (m : Int) := by omega
  have c2 : (m : Int).toNat = m := by omega
  have c3 : m ≤ 281474976710656 := by omega
  have w : wrap64 ((m : Int) - 1) = (m : Int) - 1 := w64 _ (by omega)
  simp only [c1, if_true, c2, c3, w]
  simpa using bigEndian_loop m x [] hm (by simp; omega)

theorem shr8s (x : Int) (i : Nat) (hi : i < 8) : shr .i64 x (8 * (i : Int)) = x / 256 ^ i := by
  have hp : (256 : Int) ^ i = 2 ^ (8 * i) := by rw [Int.pow_mul]; rfl
  have e : (8 * (i : Int)).toNat = 8 * i := by omega
  unfold shr
  rw [e, hp, Nat.min_eq_left (by simp [IntKind.bits]; omega)]
theorem l1Fixed_loop_s (x : Int) : ∀ (m : Nat) (out : List Int), m ≤ 8 → out.length + m ≤ 100000 → Ev (fun k => spec_l1Fixed.l0 k x out ((m : Int) - 1)) (strOfNums (out ++ be x m))
  | 0, out, _, _ => by
    refine LoopK.Ev.succ ?_
    have c : ¬ (((0 : Nat) : Int) - 1 ≥ 0) := by omega
    simp only [spec_l1Fixed.l0, c, if_false, be, List.append_nil]
    exact Ev.now _
  | m + 1, out, hm, ho => by
    refine LoopK.Ev.succ ?_
    have e0 : ((m + 1 : Nat) : Int) - 1 = (m : Int) := by omega
    have c : (m : Int) ≥ 0 := by omega
    have w0 : wrap64 (8 * (m : Int)) = 8 * (m : Int) := w64 _ (by omega)
    have w1 : IntKind.u64.wrap (8 * (m : Int)) = 8 * (m : Int) := by
      simp [IntKind.wrap, IntKind.bits, IntKind.signed]
      omega
    have c1 : 0 ≤ 8 * (m : Int) := by omega
    have c2 : out.length < 140737488355328 := by omega
    have w2 : wrap64 ((m : Int) - 1) = (m : Int) - 1 := w64 _ (by omega)
    rw [e0]
    simp only [spec_l1Fixed.l0, c, if_true, w0, w1, c1, c2, w2, shr8s x m (by omega)]
    refine LoopK.Ev.to (l1Fixed_loop_s x m _ (by omega) (by simp; omega)) ?_
    rw [be_cons, List.append_assoc]
    rfl
theorem l1Fixed_any (x : Int) (m : Nat) (hm : m ≤ 8) : Ev (fun k => spec_l1Fixed.f k x (m : Int)) (strOfNums (be x m)) := by
  unfold spec_l1Fixed.f
  have w : wrap64 ((m : Int) - 1) = (m : Int) - 1 := w64 _ (by omega)
  simp only [w]
  simpa using l1Fixed_loop_s x m [] hm (by simp; omega)
theorem be_same (x y : Int) (m : Nat) (hm : m ≤ 8) (h : x % 18446744073709551616 = y % 18446744073709551616) : be x m = be y m := by
  have e : x = y + 18446744073709551616 * (x / 18446744073709551616 - y / 18446744073709551616) := by omega
  have hp : (18446744073709551616 : Int) = 256 ^ m * 256 ^ (8 - m) := by
    rw [← Int.pow_add, Nat.add_sub_cancel' hm]
    decide
  rw [e, hp, Int.mul_assoc, be_mod]
theorem wrap_mod (x : Int) : (IntKind.i64.wrap x) % 18446744073709551616 = x % 18446744073709551616 ∧ (IntKind.u64.wrap x) % 18446744073709551616 = x % 18446744073709551616 := by
  rw [IntKind.wrap_i64]
  rw [IntKind.wrap_u64]
  omega
theorem or_same (x x' y y' : Int) (hx : BitVec.ofInt 64 x = BitVec.ofInt 64 x') (hy : BitVec.ofInt 64 y = BitVec.ofInt 64 y') : (Go.bits .or .i64 x y) % 18446744073709551616 = (Go.bits .or .u64 x' y') % 18446744073709551616 := by
  have e1 : Go.bits .or .i64 x y = IntKind.i64.wrap ((BitVec.ofInt 64 x ||| BitVec.ofInt 64 y).toNat : Int) := rfl
  have e2 : Go.bits .or .u64 x' y' = IntKind.u64.wrap ((BitVec.ofInt 64 x' ||| BitVec.ofInt 64 y').toNat : Int) := rfl
  rw [e1, e2, (wrap_mod _).1, (wrap_mod _).2, hx, hy]
theorem ofInt_u64 (x : Int) : BitVec.ofInt 64 x = BitVec.ofInt 64 (IntKind.u64.wrap x) := by
  apply BitVec.eq_of_toInt_eq
  rw [BitVec.toInt_ofInt, BitVec.toInt_ofInt, IntKind.wrap_u64]
  exact (Int.emod_bmod x 18446744073709551616).symm
theorem or_zero (x : Int) : (Go.bits .or .u64 (IntKind.u64.wrap x) 0) % 18446744073709551616 = x % 18446744073709551616 := by
  have e2 : Go.bits .or .u64 (IntKind.u64.wrap x) 0 = IntKind.u64.wrap ((BitVec.ofInt 64 (IntKind.u64.wrap x) ||| BitVec.ofInt 64 0).toNat : Int) := rfl
  have e3 : BitVec.ofInt 64 (IntKind.u64.wrap x) ||| BitVec.ofInt 64 0 = BitVec.ofInt 64 (IntKind.u64.wrap x) := by simp
  rw [e2, (wrap_mod _).2, e3, ← ofInt_u64]
  rw [BitVec.toNat_ofInt]
  omega
/-- How many bytes a number takes. -/
def vsize (n : Int) : Nat := if n < 64 then 1 else if n < 16384 then 2 else if n < 1073741824 then 4 else 8
/-- The bytes of a number of that kind. -/
def vbytes (n : Int) : ByteArray := strOfNums (be (Go.bits .or .u64 (IntKind.u64.wrap n) (shl .u64 (vfirst (vsize n)) (8 * (vsize n : Int) - 2))) (vsize n))
theorem vsize_in (n : Int) : 1 ≤ vsize n ∧ vsize n ≤ 8 := by
  unfold vsize
  split
  · omega
  · split
    · omega
    · split <;> omega
theorem vbytes_size (n : Int) : (vbytes n).size = vsize n := by
  unfold vbytes
  rw [strOfNums_size, be_length]
theorem varintSize_eq (n : Int) : impl_varintSize.f n = some ((vsize n : Nat) : Int) := by
  unfold impl_varintSize.f vsize
  split
  · rfl
  · split
    · rfl
    · split <;> rfl
theorem l1Size_eq (n : Int) : spec_l1Size.f n = some ((vsize n : Nat) : Int) := by
  unfold spec_l1Size.f vsize
  split
  · rfl
  · split
    · rfl
    · split <;> rfl
theorem varint_ev (n : Int) : Ev (fun k => impl_varint.f k n) (vbytes n) := by
  unfold impl_varint.f
  simp only [varintSize_eq, Option.bind_some]
  exact bigEndian_ev _ _ (by have := vsize_in n; omega)
theorem l1Var_ev (n : Int) : Ev (fun k => spec_l1Var.f k n) (vbytes n) := by
  unfold spec_l1Var.f
  simp only [l1Size_eq, Option.bind_some]
  have hs := vbytes_size n
  have hv : vsize n = 1 ∨ vsize n = 2 ∨ vsize n = 4 ∨ vsize n = 8 := by
    unfold vsize
    split
    · omega
    · split
      · omega
      · split <;> omega
  have fin : ∀ (x : Int) (m : Nat) (h : vsize n = m), m ≤ 8 → x % 18446744073709551616 = (Go.bits .or .u64 (IntKind.u64.wrap n) (shl .u64 (vfirst (m : Int)) (8 * (m : Int) - 2))) % 18446744073709551616 → Ev (fun k => (spec_l1Fixed.f k x (m : Int)).bind fun t => some t) (vbytes n) := by
    intro x m h hm hx
    refine LoopK.Ev.bind_ (l1Fixed_any x m hm) ?_
    unfold vbytes
    rw [h, be_same _ _ m hm hx]
    exact Ev.now _
  rcases hv with h | h | h | h <;> rw [h]
  · simpa using fin n 1 h (by omega) (or_zero n).symm
  · simpa using fin (Go.bits .or .i64 n 16384) 2 h (by omega) (or_same _ _ _ _ (ofInt_u64 n) rfl)
  · simpa using fin (Go.bits .or .i64 n 2147483648) 4 h (by omega) (or_same _ _ _ _ (ofInt_u64 n) rfl)
  · simpa using fin (Go.bits .or .i64 n (-4611686018427387904)) 8 h (by omega) (or_same _ _ _ _ (ofInt_u64 n) rfl)

/-- '|' of two small numbers, as of natural ones. -/
theorem or_nat (x y : Nat) (hx : x < 4611686018427387904) (hy : y < 4611686018427387904) : Go.bits .or .i64 (x : Int) (y : Int) = ((x ||| y : Nat) : Int) := by
  have e1 : Go.bits .or .i64 (x : Int) (y : Int) = IntKind.i64.wrap ((BitVec.ofInt 64 (x : Int) ||| BitVec.ofInt 64 (y : Int)).toNat : Int) := rfl
  have h : x ||| y < 2 ^ 62 := Nat.or_lt_two_pow hx hy
  have h' : x ||| y < 4611686018427387904 := h
  rw [e1, BitVec.ofInt_natCast, BitVec.ofInt_natCast, BitVec.toNat_or, BitVec.toNat_ofNat, BitVec.toNat_ofNat, Nat.mod_eq_of_lt (by omega), Nat.mod_eq_of_lt (by omega), IntKind.wrap_i64]
  omega
theorem or_add (a i b : Nat) (hb : b < 2 ^ i) (h1 : 2 ^ i * a < 4611686018427387904) (h2 : b < 4611686018427387904) : Go.bits .or .i64 ((2 ^ i * a : Nat) : Int) (b : Int) = ((2 ^ i * a : Nat) : Int) + (b : Int) := by
  rw [or_nat _ _ h1 h2, ← Nat.two_pow_add_eq_or_of_lt hb]
  omega
theorem or_comm' (x y : Nat) (hx : x < 4611686018427387904) (hy : y < 4611686018427387904) : Go.bits .or .i64 (x : Int) (y : Int) = Go.bits .or .i64 (y : Int) (x : Int) := by
  rw [or_nat _ _ hx hy, or_nat _ _ hy hx, Nat.or_comm]

theorem eqIntS_ev (l : List Int) (h : l.length ≤ 4611686018427387904) : Ev (fun k => laws_eqIntS.f k l l) true := by
  have key := sameEv (fun k xs ys i => laws_eqIntS.l0 k xs ys i) 4611686018427387904
    (fun xs ys => by
      refine LoopK.Ev.succ ?_
      simp only [laws_eqIntS.l0, at_stop, if_false]
      exact Ev.now _)
    (fun p x r hB ih => by
      refine LoopK.Ev.succ ?_
      have e1 := at_w p x r hB
      simp only [laws_eqIntS.l0, at_lt, at_nn, if_true, e1]
      exact ih) l [] (by simpa using h)
  unfold laws_eqIntS.f
  simp only [if_true]
  simpa using key
/-- A number's mark. -/

theorem toIntS_ev (l : List Int) (h : l.length ≤ 1048576) : Ev (fun k => laws_toIntS.f k l) l := by
  have key := copyEv (fun k xs ys i => laws_toIntS.l0 k xs ys i) (fun x : Int => x) 0 1048576
    (fun xs ys => by
      refine LoopK.Ev.succ ?_
      simp only [laws_toIntS.l0, at_stop, if_false]
      exact Ev.now _)
    (fun p x r q y s res hq hB hs ih => by
      refine LoopK.Ev.succ ?_
      have e1 := at_w p x r (by omega)
      have e2 := at_lt' p q y s hq
      have e3 : (q ++ y :: s).set (p.length : Int).toNat x = q ++ x :: s := at_set2 p q y _ s hq
      simp only [laws_toIntS.l0, at_lt, at_nn, if_true, rd, at_getD, e1, e2, e3]
      exact ih) l [] (by simpa using h)
  unfold laws_toIntS.f
  have c1 : 0 ≤ (l.length : Int) := by omega
  have c2 : (l.length : Int).toNat = l.length := by omega
  simp only [c1, if_true, c2]
  have c3 : l.length ≤ 35184372088832 := by omega
  simp only [c3, if_true]
  simpa using key

/-- What a right header gives. -/
theorem hgood_pre (s0 s1 s2 : Int) (s3 s4 s5 s6 : ByteArray) (s7 : List Int) (h : hgood s0 s1 s2 s3 s4 s5 s6 s7 = true) :
    (0 ≤ s0 ∧ s0 ≤ 5) ∧ (0 ≤ s1 ∧ s1 ≤ 15) ∧ (0 ≤ s2 ∧ s2 ≤ 4294967295) ∧ s6.size ≤ 1200 ∧ s3.size ≤ 20 ∧ s4.size ≤ 20 ∧ s5.size ≤ 200 ∧ s7.length ≤ 20 ∧ ∀ v, v ∈ s7 → 0 ≤ v ∧ v ≤ 4294967295 := by
  unfold hgood hb1 hb2 at h
  simp only [Bool.and_eq_true, Bool.not_not, Bool.not_eq_true', Bool.or_eq_false_iff, decide_eq_true_eq, Bool.and_eq_false_iff, decide_eq_false_iff_not, Classical.not_not] at h
  obtain ⟨⟨⟨⟨⟨⟨a1, a2⟩, a3⟩, a4⟩, a5⟩, b1, b2⟩, c⟩ := h
  unfold hcore at c
  by_cases h0 : 0 ≤ s0 ∧ s0 ≤ 3
  · rw [if_pos h0] at c
    simp only [Bool.and_eq_true, decide_eq_true_eq] at c
    have e7 : s7.length = 0 := by omega
    have e7' : s7 = [] := List.length_eq_zero_iff.1 e7
    refine ⟨by omega, a3, by omega, a5, a1, a2, a4, by omega, fun v hv => ?_⟩
    rw [e7'] at hv
    cases hv
  · rw [if_neg h0] at c
    by_cases h4 : s0 = 4
    · rw [if_pos h4] at c
      simp only [Bool.and_eq_true, decide_eq_true_eq, Bool.not_eq_true', List.any_eq_false] at c
      refine ⟨by omega, a3, by omega, a5, a1, a2, a4, by omega, fun v hv => ?_⟩
      have := c.2 v hv
      simpa [hword] using this
    · rw [if_neg h4] at c
      simp only [Bool.and_eq_true, decide_eq_true_eq] at c
      have e7 : s7.length = 0 := by omega
      have e7' : s7 = [] := List.length_eq_zero_iff.1 e7
      refine ⟨by omega, a3, by omega, a5, a1, a2, a4, by omega, fun v hv => ?_⟩
      rw [e7'] at hv
      cases hv
theorem be_size (x : Int) (m : Nat) : (strOfNums (be x m)).size = m := by rw [strOfNums_size, be_length]
theorem hcat_ok (a b : ByteArray) (h : a.size + b.size ≤ 9223372036854775807) : hcat a b = some (a ++ b) := by
  unfold hcat
  rw [if_pos h]
/-- A length and a text. -/
noncomputable def hid (s : ByteArray) : ByteArray := strOfNums (be (s.size : Int) 1) ++ s
theorem hid_size (s : ByteArray) : (hid s).size = s.size + 1 := by
  unfold hid
  rw [ByteArray.size_append, be_size]
  omega
theorem specId_ev (s : ByteArray) (h : s.size ≤ 2000) : Ev (fun k => spec_l2Id.f k s) (hid s) := by
  unfold spec_l2Id.f
  refine LoopK.Ev.bind_ (l1Fixed_ev (s.size : Int) (by omega) 1 (by omega)) ?_
  have c : (strOfNums (be (s.size : Int) 1)).size + s.size ≤ 9223372036854775807 := by rw [be_size]; omega
  simp only [c, if_true]
  exact Ev.now _
theorem implId_ev (s : ByteArray) (h : s.size ≤ 2000) : Ev (fun k => impl_byteCounted.f k s) (hid s) := by
  unfold impl_byteCounted.f
  have e : IntKind.u64.wrap (s.size : Int) = (s.size : Int) := by rw [IntKind.wrap_u64]; omega
  simp only [e]
  refine LoopK.Ev.bind_ (bigEndian_ev (s.size : Int) 1 (by omega)) ?_
  have c : (strOfNums (be (s.size : Int) 1)).size + s.size ≤ 9223372036854775807 := by rw [be_size]; omega
  simp only [c, if_true]
  exact Ev.now _
theorem implIds_ev (s0 s1 s2 : Int) (s3 s4 s5 s6 : ByteArray) (s7 : List Int) (h3 : s3.size ≤ 20) (h4 : s4.size ≤ 20) : Ev (fun k => impl_Header_ids.f k s0 s1 s2 s3 s4 s5 s6 s7) (hid s3 ++ hid s4, s0, s1, s2, s3, s4, s5, s6) := by
  unfold impl_Header_ids.f
  refine LoopK.Ev.bind_ (implId_ev s3 (by omega)) ?_
  refine LoopK.Ev.bind_ (implId_ev s4 (by omega)) ?_
  have c : (hid s3).size + (hid s4).size ≤ 9223372036854775807 := by rw [hid_size, hid_size]; omega
  simp only [c, if_true]
  exact Ev.now _
/-- The versions behind a text. -/
noncomputable def vers : ByteArray → List Int → ByteArray
  | s, [] => s
  | s, v :: r => vers (s ++ strOfNums (be v 4)) r
theorem vloop_ev : ∀ (l : List Int) (s : ByteArray), s.size + 4 * l.length ≤ 100000 → (∀ v, v ∈ l → 0 ≤ v ∧ v ≤ 4294967295) → Ev (fun k => vloop k s l) (vers s l)
  | [], s, _, _ => LoopK.Ev.eq_ fun _ => rfl
  | v :: r, s, hs, hv => by
    unfold vloop vers
    rw [List.length_cons] at hs
    refine LoopK.Ev.bind_ (bigEndian_ev v 4 (by omega)) ?_
    have c : s.size + (strOfNums (be v 4)).size ≤ 9223372036854775807 := by rw [be_size]; omega
    simp only [hcat_ok _ _ c, Option.bind_some]
    exact vloop_ev r _ (by rw [ByteArray.size_append, be_size]; omega) (fun x hx => hv x (by simp [hx]))
theorem specVers_loop : ∀ (r p : List Int) (s : ByteArray), (p ++ r).length ≤ 1000 → s.size + 4 * r.length ≤ 100000 → (∀ v, v ∈ r → 0 ≤ v ∧ v ≤ 4294967295) →
    Ev (fun k => spec_l2Bytes.l0 k s (p ++ r) ((p ++ r).length : Int) (p.length : Int)) (vers s r)
  | [], p, s, _, _, _ => by
    refine LoopK.Ev.succ ?_
    simp only [spec_l2Bytes.l0, List.append_nil, at_stop, if_false]
    exact Ev.now _
  | v :: r, p, s, hB, hs, hv => by
    refine LoopK.Ev.succ ?_
    rw [List.length_cons] at hs
    have e1 := at_w p v r (by omega)
    have hv0 := hv v (by simp)
    have c : s.size + (strOfNums (be v 4)).size ≤ 9223372036854775807 := by rw [be_size]; omega
    simp only [spec_l2Bytes.l0, at_lt, at_nn, if_true, rd, at_getD, e1]
    refine LoopK.Ev.bind_ (l1Fixed_ev v (by omega) 4 (by omega)) ?_
    simp only [c, if_true]
    have ih := specVers_loop r (p ++ [v]) (s ++ strOfNums (be v 4)) (by simpa using hB) (by rw [ByteArray.size_append, be_size]; omega) (fun x hx => hv x (by simp [hx]))
    rw [← at_snoc, len_snoc p v] at ih
    exact ih
theorem or64 (s1 : Int) (h : 0 ≤ s1 ∧ s1 ≤ 15) : Go.bits .or .i64 64 s1 = 64 + s1 := by
  obtain ⟨n, rfl⟩ := Int.eq_ofNat_of_zero_le h.1
  exact or_add 1 6 n (by omega) (by decide) (by omega)
theorem or192 (s1 : Int) (h : 0 ≤ s1 ∧ s1 ≤ 15) : Go.bits .or .i64 192 s1 = 192 + s1 := by
  obtain ⟨n, rfl⟩ := Int.eq_ofNat_of_zero_le h.1
  exact or_add 3 6 n (by omega) (by decide) (by omega)
theorem or192f (s0 s1 : Int) (h0 : 0 ≤ s0 ∧ s0 ≤ 3) (h : 0 ≤ s1 ∧ s1 ≤ 15) : Go.bits .or .i64 (Go.bits .or .i64 192 (wrap64 (s0 * 16))) s1 = 192 + 16 * s0 + s1 := by
  obtain ⟨n, rfl⟩ := Int.eq_ofNat_of_zero_le h.1
  obtain ⟨m, rfl⟩ := Int.eq_ofNat_of_zero_le h0.1
  have e1 : wrap64 ((m : Int) * 16) = ((m * 16 : Nat) : Int) := by rw [w64 _ (by omega)]; omega
  have e2 : Go.bits .or .i64 192 ((m * 16 : Nat) : Int) = ((2 ^ 4 * (12 + m) : Nat) : Int) := by
    have := or_add 3 6 (m * 16) (by omega) (by decide) (by omega)
    refine Eq.trans this ?_
    omega
  rw [e1, e2, or_add (12 + m) 4 n (by omega) (by omega) (by omega)]
  omega
theorem or_len (s : ByteArray) (h : s.size ≤ 1200) : Go.bits .or .i64 (s.size : Int) 16384 = 16384 + (s.size : Int) := by
  have e := or_comm' s.size 16384 (by omega) (by decide)
  refine Eq.trans e ?_
  exact or_add 1 14 s.size (by omega) (by decide) (by omega)
theorem specJ1_ev (o : ByteArray) (s0 s1 s2 : Int) (s3 s4 s5 s6 : ByteArray) (s7 : List Int) (hz : o.size ≤ 5000) (h6 : s6.size ≤ 1200) :
    Ev (fun k => spec_l2Bytes.j1 k o s0 s1 s2 s3 s4 s5 s6 s7) (if s0 = 3 then o ++ s6 else o ++ strOfNums (be (16384 + (s6.size : Int)) 2) ++ s6) := by
  refine LoopK.Ev.succ ?_
  have c1 : o.size + s6.size ≤ 9223372036854775807 := by omega
  have c2 : o.size + (strOfNums (be (16384 + (s6.size : Int)) 2)).size ≤ 9223372036854775807 := by rw [be_size]; omega
  have c3 : (o ++ strOfNums (be (16384 + (s6.size : Int)) 2)).size + s6.size ≤ 9223372036854775807 := by rw [ByteArray.size_append, be_size]; omega
  by_cases h3 : s0 = 3
  · simp only [spec_l2Bytes.j1, h3, if_true, c1]
    exact Ev.now _
  · simp only [spec_l2Bytes.j1, h3, if_false, or_len s6 h6]
    refine LoopK.Ev.bind_ (l1Fixed_ev (16384 + (s6.size : Int)) (by omega) 2 (by omega)) ?_
    simp only [c2, c3, if_true]
    exact Ev.now _
theorem bytes_ev (s0 s1 s2 : Int) (s3 s4 s5 s6 : ByteArray) (s7 : List Int) (h : hgood s0 s1 s2 s3 s4 s5 s6 s7 = true) :
    ∃ r, Ev (fun k => spec_l2Bytes.f k s0 s1 s2 s3 s4 s5 s6 s7) r ∧ Ev (fun k => hbody k s0 s1 s2 s3 s4 s5 s6 s7) r := by
  obtain ⟨p0, p1, p2, p6, p3, p4, p5, p7, pv⟩ := hgood_pre s0 s1 s2 s3 s4 s5 s6 s7 h
  have q0 : hcore s0 s2 s4 s6 s7 = true := by
    unfold hgood at h
    simp only [Bool.and_eq_true] at h
    exact h.2
  unfold spec_l2Bytes.f hbody
  by_cases h5 : s0 = 5
  · have c1 : (strOfNums (be (64 + s1) 1)).size + s3.size ≤ 9223372036854775807 := by rw [be_size]; omega
    have c2 : (strOfNums (be (64 + s1) 1) ++ s3).size + s6.size ≤ 9223372036854775807 := by rw [ByteArray.size_append, be_size]; omega
    refine ⟨(strOfNums (be (64 + s1) 1) ++ s3) ++ s6, ?_, ?_⟩
    · simp only [h5, if_true, or64 s1 p1]
      refine LoopK.Ev.bind_ (l1Fixed_ev (64 + s1) (by omega) 1 (by omega)) ?_
      simp only [c1, c2, if_true]
      exact Ev.now _
    · simp only [h5, if_true]
      refine LoopK.Ev.bind_ (bigEndian_ev (64 + s1) 1 (by omega)) ?_
      simp only [hcat_ok _ _ c1, hcat_ok _ _ c2, Option.bind_some]
      exact Ev.now _
  · by_cases h4 : s0 = 4
    · have z1 := hid_size s3
      have z2 := hid_size s4
      have c1 : (strOfNums (be (192 + s1) 1)).size + (strOfNums (be 0 4)).size ≤ 9223372036854775807 := by rw [be_size, be_size]; omega
      have c2 : (strOfNums (be (192 + s1) 1) ++ strOfNums (be 0 4)).size + (hid s3).size ≤ 9223372036854775807 := by rw [ByteArray.size_append, be_size, be_size]; omega
      have c3 : (strOfNums (be (192 + s1) 1) ++ strOfNums (be 0 4) ++ hid s3).size + (hid s4).size ≤ 9223372036854775807 := by rw [ByteArray.size_append, ByteArray.size_append, be_size, be_size]; omega
      have c4 : (strOfNums (be (192 + s1) 1) ++ strOfNums (be 0 4)).size + (hid s3 ++ hid s4).size ≤ 9223372036854775807 := by rw [ByteArray.size_append, ByteArray.size_append, be_size, be_size]; omega
      have cs : (strOfNums (be (192 + s1) 1) ++ strOfNums (be 0 4) ++ hid s3 ++ hid s4).size + 4 * s7.length ≤ 100000 := by rw [ByteArray.size_append, ByteArray.size_append, ByteArray.size_append, be_size, be_size]; omega
      have n5 : ¬ ((4 : Int) = 5) := by decide
      refine ⟨vers (strOfNums (be (192 + s1) 1) ++ strOfNums (be 0 4) ++ hid s3 ++ hid s4) s7, ?_, ?_⟩
      · simp only [h4, n5, if_false, if_true, or192 s1 p1]
        refine LoopK.Ev.bind_ (l1Fixed_ev (192 + s1) (by omega) 1 (by omega)) ?_
        refine LoopK.Ev.bind_ (l1Fixed_ev 0 (by omega) 4 (by omega)) ?_
        simp only [c1, if_true]
        refine LoopK.Ev.bind_ (specId_ev s3 (by omega)) ?_
        simp only [c2, if_true]
        refine LoopK.Ev.bind_ (specId_ev s4 (by omega)) ?_
        simp only [c3, if_true]
        simpa using specVers_loop s7 [] _ (by simpa using (by omega : s7.length ≤ 1000)) cs pv
      · simp only [h4, n5, if_false, if_true]
        refine LoopK.Ev.bind_ (bigEndian_ev (192 + s1) 1 (by omega)) ?_
        refine LoopK.Ev.bind_ (bigEndian_ev 0 4 (by omega)) ?_
        simp only [hcat_ok _ _ c1, Option.bind_some]
        refine LoopK.Ev.bind_ (implIds_ev 4 s1 s2 s3 s4 s5 s6 s7 p3 p4) ?_
        simp only [hcat_ok _ _ c4, Option.bind_some]
        rw [← ByteArray.append_assoc]
        exact vloop_ev s7 _ cs pv
    · have h03 : 0 ≤ s0 ∧ s0 ≤ 3 := by omega
      have z1 := hid_size s3
      have z2 := hid_size s4
      have c1 : (strOfNums (be (192 + 16 * s0 + s1) 1)).size + (strOfNums (be s2 4)).size ≤ 9223372036854775807 := by rw [be_size, be_size]; omega
      have c2 : (strOfNums (be (192 + 16 * s0 + s1) 1) ++ strOfNums (be s2 4)).size + (hid s3).size ≤ 9223372036854775807 := by rw [ByteArray.size_append, be_size, be_size]; omega
      have c3 : (strOfNums (be (192 + 16 * s0 + s1) 1) ++ strOfNums (be s2 4) ++ hid s3).size + (hid s4).size ≤ 9223372036854775807 := by rw [ByteArray.size_append, ByteArray.size_append, be_size, be_size]; omega
      have c4 : (strOfNums (be (192 + 16 * s0 + s1) 1) ++ strOfNums (be s2 4)).size + (hid s3 ++ hid s4).size ≤ 9223372036854775807 := by rw [ByteArray.size_append, ByteArray.size_append, be_size, be_size]; omega
      have zo : (strOfNums (be (192 + 16 * s0 + s1) 1) ++ strOfNums (be s2 4) ++ hid s3 ++ hid s4).size ≤ 1000 := by rw [ByteArray.size_append, ByteArray.size_append, ByteArray.size_append, be_size, be_size]; omega
      have ea : strOfNums (be (192 + 16 * s0 + s1) 1) ++ strOfNums (be s2 4) ++ (hid s3 ++ hid s4) = strOfNums (be (192 + 16 * s0 + s1) 1) ++ strOfNums (be s2 4) ++ hid s3 ++ hid s4 := ByteArray.append_assoc.symm
      have impl1 : ∀ r, Ev (fun k => (if s0 = 0 then (impl_counted.f k s5).bind fun c => hcat (strOfNums (be (192 + 16 * s0 + s1) 1) ++ strOfNums (be s2 4) ++ hid s3 ++ hid s4) c else some (strOfNums (be (192 + 16 * s0 + s1) 1) ++ strOfNums (be s2 4) ++ hid s3 ++ hid s4)).bind fun o1 => (if s0 = 3 then some o1 else (impl_bigEndian.f k (16384 + (s6.size : Int)) 2).bind fun p => hcat o1 p).bind fun o2 => hcat o2 s6) r →
          Ev (fun k => (impl_bigEndian.f k (192 + 16 * s0 + s1) 1).bind fun a => (impl_bigEndian.f k s2 4).bind fun v => (hcat a v).bind fun b => (impl_Header_ids.f k s0 s1 s2 s3 s4 s5 s6 s7).bind fun i => (hcat b i.1).bind fun o0 => (if s0 = 0 then (impl_counted.f k s5).bind fun c => hcat o0 c else some o0).bind fun o1 => (if s0 = 3 then some o1 else (impl_bigEndian.f k (16384 + (s6.size : Int)) 2).bind fun p => hcat o1 p).bind fun o2 => hcat o2 s6) r := fun r hr => by
        refine LoopK.Ev.bind_ (bigEndian_ev (192 + 16 * s0 + s1) 1 (by omega)) ?_
        refine LoopK.Ev.bind_ (bigEndian_ev s2 4 (by omega)) ?_
        simp only [hcat_ok _ _ c1, Option.bind_some]
        refine LoopK.Ev.bind_ (implIds_ev s0 s1 s2 s3 s4 s5 s6 s7 p3 p4) ?_
        simp only [hcat_ok _ _ c4, Option.bind_some, ea]
        exact hr
      generalize ho : strOfNums (be (192 + 16 * s0 + s1) 1) ++ strOfNums (be s2 4) ++ hid s3 ++ hid s4 = o at zo impl1
      have pz : (strOfNums (be (16384 + (s6.size : Int)) 2)).size = 2 := be_size _ _
      have vz := vbytes_size (s5.size : Int)
      have vi := vsize_in (s5.size : Int)
      by_cases e0 : s0 = 0
      · have d1 : (vbytes (s5.size : Int)).size + s5.size ≤ 9223372036854775807 := by omega
        have d2 : o.size + (vbytes (s5.size : Int) ++ s5).size ≤ 9223372036854775807 := by rw [ByteArray.size_append]; omega
        have d3 : (o ++ (vbytes (s5.size : Int) ++ s5)).size + (strOfNums (be (16384 + (s6.size : Int)) 2)).size ≤ 9223372036854775807 := by rw [ByteArray.size_append, ByteArray.size_append]; omega
        have d4 : (o ++ (vbytes (s5.size : Int) ++ s5) ++ strOfNums (be (16384 + (s6.size : Int)) 2)).size + s6.size ≤ 9223372036854775807 := by rw [ByteArray.size_append, ByteArray.size_append, ByteArray.size_append]; omega
        have n3 : ¬ ((0 : Int) = 3) := by decide
        refine ⟨o ++ (vbytes (s5.size : Int) ++ s5) ++ strOfNums (be (16384 + (s6.size : Int)) 2) ++ s6, ?_, ?_⟩
        · simp only [h5, h4, if_false, or192f s0 s1 h03 p1]
          refine LoopK.Ev.bind_ (l1Fixed_ev (192 + 16 * s0 + s1) (by omega) 1 (by omega)) ?_
          refine LoopK.Ev.bind_ (l1Fixed_ev s2 (by omega) 4 (by omega)) ?_
          simp only [c1, if_true]
          refine LoopK.Ev.bind_ (specId_ev s3 (by omega)) ?_
          simp only [c2, if_true]
          refine LoopK.Ev.bind_ (specId_ev s4 (by omega)) ?_
          simp only [c3, if_true, ho]
          simp only [e0, if_true]
          refine LoopK.Ev.bind_ (l1Var_ev _) ?_
          simp only [d1, d2, if_true]
          exact LoopK.Ev.to (specJ1_ev _ 0 s1 s2 s3 s4 s5 s6 s7 (by rw [ByteArray.size_append, ByteArray.size_append]; omega) p6) (if_neg n3)
        · simp only [h5, h4, if_false]
          refine impl1 _ ?_
          simp only [e0, if_true, n3, if_false]
          refine LoopK.Ev.bind_ (a := o ++ (vbytes (s5.size : Int) ++ s5)) ?_ ?_
          · refine LoopK.Ev.bind_ (a := vbytes (s5.size : Int) ++ s5) ?_ ?_
            · unfold impl_counted.f
              refine LoopK.Ev.bind_ (varint_ev _) ?_
              simp only [d1, if_true]
              exact Ev.now _
            · simp only [hcat_ok _ _ d2]
              exact Ev.now _
          · refine LoopK.Ev.bind_ (a := o ++ (vbytes (s5.size : Int) ++ s5) ++ strOfNums (be (16384 + (s6.size : Int)) 2)) ?_ ?_
            · refine LoopK.Ev.bind_ (bigEndian_ev (16384 + (s6.size : Int)) 2 (by omega)) ?_
              simp only [hcat_ok _ _ d3]
              exact Ev.now _
            · simp only [hcat_ok _ _ d4]
              exact Ev.now _
      · have d1 : o.size + s6.size ≤ 9223372036854775807 := by omega
        have d3 : o.size + (strOfNums (be (16384 + (s6.size : Int)) 2)).size ≤ 9223372036854775807 := by omega
        have d4 : (o ++ strOfNums (be (16384 + (s6.size : Int)) 2)).size + s6.size ≤ 9223372036854775807 := by rw [ByteArray.size_append]; omega
        refine ⟨if s0 = 3 then o ++ s6 else o ++ strOfNums (be (16384 + (s6.size : Int)) 2) ++ s6, ?_, ?_⟩
        · simp only [h5, h4, if_false, or192f s0 s1 h03 p1]
          refine LoopK.Ev.bind_ (l1Fixed_ev (192 + 16 * s0 + s1) (by omega) 1 (by omega)) ?_
          refine LoopK.Ev.bind_ (l1Fixed_ev s2 (by omega) 4 (by omega)) ?_
          simp only [c1, if_true]
          refine LoopK.Ev.bind_ (specId_ev s3 (by omega)) ?_
          simp only [c2, if_true]
          refine LoopK.Ev.bind_ (specId_ev s4 (by omega)) ?_
          simp only [c3, if_true, ho]
          simp only [e0, if_false]
          exact specJ1_ev o s0 s1 s2 s3 s4 s5 s6 s7 (by omega) p6
        · simp only [h5, h4, if_false]
          refine impl1 _ ?_
          simp only [e0, if_false, Option.bind_some]
          by_cases e3 : s0 = 3
          · simp only [e3, if_true, Option.bind_some, hcat_ok _ _ d1]
            exact Ev.now _
          · simp only [e3, if_false]
            refine LoopK.Ev.bind_ (a := o ++ strOfNums (be (16384 + (s6.size : Int)) 2)) ?_ ?_
            · refine LoopK.Ev.bind_ (bigEndian_ev (16384 + (s6.size : Int)) 2 (by omega)) ?_
              simp only [hcat_ok _ _ d3]
              exact Ev.now _
            · simp only [hcat_ok _ _ d4]
              exact Ev.now _
theorem header_ev (s0 s1 s2 : Int) (s3 s4 s5 s6 : ByteArray) (s7 : List Int) (hl : s7.length ≤ 4611686018427387904) :
    ∃ v, Ev (fun k => spec_HeaderBytes.f k s0 s1 s2 s3 s4 s5 s6 s7) v ∧ Ev (fun k => impl_HeaderBytes.f k s0 s1 s2 s3 s4 s5 s6 s7) v := by
  have hs := specH_ev s0 s1 s2 s3 s4 s5 s6 s7 hl
  have hi := implH_ev s0 s1 s2 s3 s4 s5 s6 s7
  unfold spec_HeaderBytes.f impl_HeaderBytes.f
  cases hg : hgood s0 s1 s2 s3 s4 s5 s6 s7 with
  | false =>
    rw [hg] at hs hi
    refine ⟨((⟨#[]⟩ : ByteArray), false), LoopK.Ev.bind_ hs ?_, LoopK.Ev.bind_ hi ?_⟩
    · simp only [Bool.false_eq_true, if_false]
      exact Ev.now _
    · simp only [Bool.false_eq_true, if_false]
      exact Ev.now _
  | true =>
    rw [hg] at hs hi
    obtain ⟨r, h1, h2⟩ := bytes_ev s0 s1 s2 s3 s4 s5 s6 s7 hg
    obtain ⟨p0, p1, p2, p6, p3, p4, p5, p7, pv⟩ := hgood_pre s0 s1 s2 s3 s4 s5 s6 s7 hg
    refine ⟨(r, true), LoopK.Ev.bind_ hs ?_, LoopK.Ev.bind_ hi ?_⟩
    · simp only [if_true]
      refine LoopK.Ev.bind_ h1 ?_
      exact Ev.now _
    · simp only [if_true]
      refine LoopK.Ev.bind_ (a := (r, s0, s1, s2, s3, s4, s5, s6)) ?_ (Ev.now _)
      unfold impl_Header_bytes.f
      have hp : (0 ≤ s0 ∧ s0 ≤ 5) ∧ (0 ≤ s1 ∧ s1 ≤ 15) ∧ (0 ≤ s2 ∧ s2 ≤ 4294967295) ∧ s6.size ≤ 1200 ∧ s7.length ≤ 4611686018427387904 ∧ ∀ v, v ∈ s7 → 0 ≤ v ∧ v ≤ 4294967295 := ⟨p0, p1, p2, p6, by omega, pv⟩
      simp only [if_pos hp]
      refine LoopK.Ev.bind_ h2 ?_
      exact Ev.now _
theorem FnExactHeaderBytes : SFnExactHeaderBytes.Pure := by
  intro s0 s1 s2 s3 s4 s5 s6 s7 o0 o1 o2 o3 o4 o5 o6 o7
  refine Ev.rounds ?_
  unfold laws_FnExactHeaderBytes.f
  obtain ⟨r, hr, hr1⟩ : ∃ r, laws_szHeader.f s0 s1 s2 s3 s4 s5 s6 s7 1048576 = some r ∧ (0 ≤ r → s7.length ≤ 1048576) := by
    unfold laws_szHeader.f
    have e3 : wrap64 (1048576 - (s3.size : Int)) = 1048576 - (s3.size : Int) := w64 _ (by omega)
    rw [e3]
    by_cases c3 : 1048576 - (s3.size : Int) < 0
    · rw [if_pos c3]; exact ⟨_, rfl, fun h => by omega⟩
    · rw [if_neg c3]
      have e4 : wrap64 (1048576 - (s3.size : Int) - (s4.size : Int)) = 1048576 - (s3.size : Int) - (s4.size : Int) := w64 _ (by omega)
      rw [e4]
      by_cases c4 : 1048576 - (s3.size : Int) - (s4.size : Int) < 0
      · rw [if_pos c4]; exact ⟨_, rfl, fun h => by omega⟩
      · rw [if_neg c4]
        have e5 : wrap64 (1048576 - (s3.size : Int) - (s4.size : Int) - (s5.size : Int)) = 1048576 - (s3.size : Int) - (s4.size : Int) - (s5.size : Int) := w64 _ (by omega)
        rw [e5]
        by_cases c5 : 1048576 - (s3.size : Int) - (s4.size : Int) - (s5.size : Int) < 0
        · rw [if_pos c5]; exact ⟨_, rfl, fun h => by omega⟩
        · rw [if_neg c5]
          have e6 : wrap64 (1048576 - (s3.size : Int) - (s4.size : Int) - (s5.size : Int) - (s6.size : Int)) = 1048576 - (s3.size : Int) - (s4.size : Int) - (s5.size : Int) - (s6.size : Int) := w64 _ (by omega)
          rw [e6]
          by_cases c6 : 1048576 - (s3.size : Int) - (s4.size : Int) - (s5.size : Int) - (s6.size : Int) < 0
          · rw [if_pos c6]; exact ⟨_, rfl, fun h => by omega⟩
          · rw [if_neg c6]
            unfold laws_szIntS.f
            have e7 : wrap64 (1048576 - (s3.size : Int) - (s4.size : Int) - (s5.size : Int) - (s6.size : Int) - (s7.length : Int)) = 1048576 - (s3.size : Int) - (s4.size : Int) - (s5.size : Int) - (s6.size : Int) - (s7.length : Int) := w64 _ (by omega)
            rw [e7]
            by_cases c7 : 1048576 - (s3.size : Int) - (s4.size : Int) - (s5.size : Int) - (s6.size : Int) - (s7.length : Int) < 0
            · rw [if_pos c7, Option.bind_some, if_pos (by decide)]; exact ⟨_, rfl, fun h => by omega⟩
            · rw [if_neg c7, Option.bind_some, if_neg c7]; exact ⟨_, rfl, fun h => by omega⟩
  rw [hr]
  simp only [Option.bind_some]
  by_cases h0 : r < 0
  · simp only [h0, if_true]
    exact Ev.now _
  · simp only [h0, if_false]
    have hl2 : s7.length ≤ 1048576 := hr1 (by omega)
    have hto : Ev (fun k => laws_toHeader.f k s0 s1 s2 s3 s4 s5 s6 s7) (s0, s1, s2, s3, s4, s5, s6, s7) := by
      unfold laws_toHeader.f
      exact LoopK.Ev.bind_ (toIntS_ev s7 hl2) (Ev.now _)
    obtain ⟨v, hv1, hv2⟩ := header_ev s0 s1 s2 s3 s4 s5 s6 s7 (by omega)
    refine LoopK.Ev.bind_ hto ?_
    refine LoopK.Ev.bind_ hv1 ?_
    refine LoopK.Ev.bind_ hto ?_
    refine LoopK.Ev.bind_ hv2 ?_
    simp only [if_true, bne_self_eq_false]
    refine LoopK.Ev.succ ?_
    simp only [laws_FnExactHeaderBytes.j0, Bool.false_eq_true, if_false]
    refine LoopK.Ev.bind_ hto ?_
    refine LoopK.Ev.bind_ (a := true) ?_ ?_
    · unfold laws_eqHeader.f
      simp only [if_true]
      refine LoopK.Ev.bind_ (eqIntS_ev s7 (by omega)) ?_
      simp only [if_true]
      exact Ev.now _
    · simp only [if_true]
      exact Ev.now _

end Go.Proofs.Ythkmjfapljmmpaa.Pure
