/- The pure statement of the law FnExactParseTarget: the program's function and the reference answer alike. -/
import Derived.Test.YtilkginahmfagaaDoorSFnExactParseTarget
import Derived.Lib.AtoiTie
import Derived.Test.YtilkginahmfagaaDoorLoopK
namespace Go.Proofs.YtilkginahmfagaaDoor.Pure
open Go.RowKit Go.Proofs.YtilkginahmfagaaDoor.PFnExactParseTarget Go.Proofs.YtilkginahmfagaaDoorW.PrintWords Go.Proofs.YtilkginahmfagaaDoorW.PrintLast Go.Proofs.YtilkginahmfagaaDoor.SFnExactParseTarget
set_option linter.unusedVariables false
set_option linter.unusedSimpArgs false

set_option linter.unusedVariables false
/-- The value of a text of digits. -/
def dval (l : List UInt8) : Nat := l.foldl (fun a b => 10 * a + (b.toNat - 48)) 0
def isDig (b : UInt8) : Bool := decide (48 ≤ b.toNat ∧ b.toNat ≤ 57)
theorem dval_snoc (l : List UInt8) (b : UInt8) : dval (l ++ [b]) = 10 * dval l + (b.toNat - 48) := by simp [dval]
theorem dig_toNat (d : Nat) (h : d < 10) : (UInt8.ofNat (48 + d)).toNat = 48 + d := by simp; omega
theorem dec_all : ∀ n : Nat, dval (Lib.decDigits n) = n ∧ (Lib.decDigits n).all isDig = true := by
  intro n
  induction n using Nat.strongRecOn with
  | _ n ih =>
    rw [Lib.decDigits]
    by_cases h : n < 10
    · rw [dif_pos h]
      have e := dig_toNat n h
      constructor
      · simp only [dval, List.foldl_cons, List.foldl_nil, e]; omega
      · simp only [List.all_cons, List.all_nil, Bool.and_true, isDig, e, decide_eq_true_eq]; omega
    · rw [dif_neg h]
      obtain ⟨i1, i2⟩ := ih (n / 10) (by omega)
      have e := dig_toNat (n % 10) (by omega)
      constructor
      · rw [dval_snoc, i1, e]; omega
      · rw [List.all_append, i2, Bool.true_and]
        simp only [List.all_cons, List.all_nil, Bool.and_true, isDig, e, decide_eq_true_eq]; omega
theorem dec_zero : Lib.decDigits 0 = [48] := by rw [Lib.decDigits, dif_pos (by decide)]; rfl
theorem dec_ne (n : Nat) : Lib.decDigits n ≠ [] := by
  rw [Lib.decDigits]
  split
  · simp
  · simp
/-- A text of digits without a zero ahead is the numeral of its value. -/
theorem dec_of : ∀ (k : Nat) (l : List UInt8), l.length = k → l ≠ [] → l.all isDig = true → (l.head? = some 48 → l.length = 1) → Lib.decDigits (dval l) = l := by
  intro k
  induction k with
  | zero => intro l hl hn; exact absurd (List.eq_nil_of_length_eq_zero hl) hn
  | succ k ih =>
    intro l hl hn hd hz
    rcases List.eq_nil_or_concat l with h | ⟨p, b, h⟩
    · exact absurd h hn
    · have h' : l = p ++ [b] := by simpa using h
      subst h'
      rw [List.all_append, Bool.and_eq_true] at hd
      have hb : 48 ≤ b.toNat ∧ b.toNat ≤ 57 := by
        have := hd.2
        simpa [isDig] using this
      have eb : UInt8.ofNat (48 + (b.toNat - 48)) = b := by
        have : 48 + (b.toNat - 48) = b.toNat := by omega
        rw [this]
        simp
      by_cases hp : p = []
      · subst hp
        have e : dval ([] ++ [b]) = b.toNat - 48 := by simp [dval]
        rw [e, Lib.decDigits, dif_pos (by omega), eb]
        rfl
      · have hlp : p.length = k := by simpa using hl
        have hh : (p ++ [b]).head? = p.head? := by cases p with | nil => exact absurd rfl hp | cons a r => rfl
        have h48 : p.head? ≠ some 48 := by
          intro e
          have := hz (hh.trans e)
          rw [List.length_append] at this
          have : p.length = 0 := by simpa using this
          exact hp (List.eq_nil_of_length_eq_zero this)
        have ih' := ih p hlp hp hd.1 (fun e => absurd e h48)
        have hpos : dval p ≠ 0 := by
          intro e
          rw [e, dec_zero] at ih'
          rw [← ih'] at h48
          exact h48 rfl
        rw [dval_snoc, Lib.decDigits, dif_neg (by omega)]
        have e1 : (10 * dval p + (b.toNat - 48)) / 10 = dval p := by omega
        have e2 : (10 * dval p + (b.toNat - 48)) % 10 = b.toNat - 48 := by omega
        rw [e1, e2, ih', eb]

open Go.Proofs.YtilkginahmfagaaDoor.LoopK (copyEv sameEv markEv heldEv foldEv mk mk_length at_lt at_lt' at_nn at_nlt at_stop at_getD at_set at_set2 at_snoc len_snoc at_w w64 firstEv find_any chk last_or at_prev at_prev_lt at_prev_nn at_prev_pos at_prev_w pairEv)

theorem l1In_eq (a b c : Int) : spec_l1In.f a b c = some (decide (b ≤ a ∧ a ≤ c)) := by
  unfold spec_l1In.f
  by_cases h : b ≤ a
  · rw [if_pos h]; simp [h]
  · rw [if_neg h]; simp [h]
theorem in_eq (a b c : Int) : impl_in.f a b c = some (decide (b ≤ a ∧ a ≤ c)) := l1In_eq a b c
theorem and_ite (p q : Prop) [Decidable p] [Decidable q] : (if p then some (decide q) else some false) = some (decide (p ∧ q)) := by
  by_cases h : p <;> simp [h]

set_option linter.unusedSimpArgs false
/-- A text cut at the first '/'. -/
def cutL : List UInt8 → List UInt8 × List UInt8 × Bool
  | [] => ([], [], false)
  | b :: l => if b = 47 then ([], l, true) else (b :: (cutL l).1, (cutL l).2.1, (cutL l).2.2)
theorem cut_eq : ∀ l : List UInt8, Lib.cut l [47] = cutL l
  | [] => by simp [Lib.cut, Lib.index, cutL]
  | b :: l => by
    have ih := cut_eq l
    unfold Lib.cut at ih ⊢
    rw [Lib.index_one] at ih ⊢
    simp only [cutL]
    have hge := Lib.indexByte_ge l 47
    by_cases hb : b = 47
    · have e0 : Lib.indexByte (b :: l) 47 = 0 := by simp [Lib.indexByte, hb]
      rw [e0, if_pos hb]
      simp
    · rw [if_neg hb, ← ih]
      by_cases hm : Lib.indexByte l 47 = -1
      · have e0 : Lib.indexByte (b :: l) 47 = -1 := by simp [Lib.indexByte, hb, hm]
        rw [e0, hm]
        simp
      · have e0 : Lib.indexByte (b :: l) 47 = Lib.indexByte l 47 + 1 := by simp [Lib.indexByte, hb, hm]
        rw [e0]
        obtain ⟨i, hi⟩ : ∃ i : Nat, Lib.indexByte l 47 = (i : Int) := ⟨(Lib.indexByte l 47).toNat, by omega⟩
        rw [hi]
        have c1 : 0 ≤ (i : Int) + 1 := by omega
        have c2 : 0 ≤ (i : Int) := by omega
        have e1 : ((i : Int) + 1).toNat = i + 1 := by omega
        rw [if_pos c1, if_pos c2, e1, Int.toNat_natCast]
        simp [List.drop_succ_cons]
theorem cutL_mk : ∀ (h t : List UInt8), (∀ x, x ∈ h → x ≠ 47) → cutL (h ++ 47 :: t) = (h, t, true)
  | [], t, _ => by simp [cutL]
  | b :: h, t, hh => by
    have hb : b ≠ 47 := hh b (by simp)
    simp only [List.cons_append, cutL, if_neg hb, cutL_mk h t (fun x hx => hh x (by simp [hx]))]
theorem cutL_yes : ∀ (l : List UInt8), (cutL l).2.2 = true → l = (cutL l).1 ++ 47 :: (cutL l).2.1
  | [], h => by simp [cutL] at h
  | b :: l, h => by
    simp only [cutL] at h ⊢
    by_cases hb : b = 47
    · simp [hb]
    · rw [if_neg hb] at h ⊢
      have ih := cutL_yes l h
      simp only [List.cons_append]
      rw [← ih]
theorem cutL_no : ∀ (l : List UInt8), (cutL l).2.2 = false → (cutL l).1 = l ∧ (cutL l).2.1 = []
  | [], _ => by simp [cutL]
  | b :: l, h => by
    simp only [cutL] at h ⊢
    by_cases hb : b = 47
    · rw [if_pos hb] at h; cases h
    · rw [if_neg hb] at h ⊢
      obtain ⟨i1, i2⟩ := cutL_no l h
      simp [i1, i2]
theorem cutL_len (l : List UInt8) : (cutL l).1.length ≤ l.length ∧ (cutL l).2.1.length ≤ l.length := by
  cases h : (cutL l).2.2 with
  | false => rw [(cutL_no l h).1, (cutL_no l h).2]; simp
  | true =>
    have e := congrArg List.length (cutL_yes l h)
    rw [List.length_append, List.length_cons] at e
    omega
theorem bt_list (s : ByteArray) (i : Nat) (h : i < s.size) : ∃ b : UInt8, s.data.toList.drop i = b :: s.data.toList.drop (i + 1) ∧ bt s (i : Int) = (b.toNat : Int) := by
  have hl : i < s.data.toList.length := by simpa using h
  refine ⟨s.data.toList[i], List.drop_eq_getElem_cons hl, ?_⟩
  unfold bt
  rw [dif_pos (show (i : Int).toNat < s.size by simpa using h)]
  rfl
theorem of_list (s : ByteArray) : (⟨s.data.toList.toArray⟩ : ByteArray) = s := by
  apply ByteArray.ext
  simp
theorem ext_take (s : ByteArray) (i : Nat) : s.extract 0 i = ⟨(s.data.toList.take i).toArray⟩ := by
  apply ByteArray.ext
  apply Array.toList_inj.1
  simp
theorem ext_drop (s : ByteArray) (i : Nat) : s.extract i s.size = ⟨(s.data.toList.drop i).toArray⟩ := by
  apply ByteArray.ext
  apply Array.toList_inj.1
  have h : (s.extract i s.size).data.toList = (s.data.toList.drop i).take (s.size - i) := by simp
  rw [h, List.take_of_length_le (by simp)]
theorem specCut_loop (s : ByteArray) (hs : s.size ≤ 4611686018427387904) : ∀ d i : Nat, i + d = s.size → Ev (fun k => spec_l17Cut.l0 k s 47 (i : Int)) ((⟨(s.data.toList.take i ++ (cutL (s.data.toList.drop i)).1).toArray⟩ : ByteArray), (⟨(cutL (s.data.toList.drop i)).2.1.toArray⟩ : ByteArray), (cutL (s.data.toList.drop i)).2.2) := by
  intro d
  induction d with
  | zero =>
    intro i hi
    obtain rfl : i = s.size := by omega
    refine LoopK.Ev.succ ?_
    simp only [spec_l17Cut.l0, Int.lt_irrefl, if_false]
    have e1 : s.data.toList.drop s.size = [] := List.drop_eq_nil_of_le (by simp)
    have e2 : s.data.toList.take s.size = s.data.toList := List.take_of_length_le (by simp)
    rw [e1, e2]
    simp only [cutL, List.append_nil, of_list]
    exact Ev.now _
  | succ d ih =>
    intro i hi
    obtain ⟨b, e1, e2⟩ := bt_list s i (by omega)
    refine LoopK.Ev.succ ?_
    have h1 : (i : Int) < (s.size : Int) := by omega
    have h2 : (0 : Int) ≤ (i : Int) := by omega
    have hw : wrap64 ((i : Int) + 1) = ((i + 1 : Nat) : Int) := by unfold wrap64; omega
    simp only [spec_l17Cut.l0, h1, h2, if_true, e2, hw]
    rw [e1]
    simp only [cutL]
    by_cases hb : b = 47
    · have hb' : (b.toNat : Int) = 47 := by rw [hb]; rfl
      have h3 : (i : Int) ≤ (s.size : Int) := by omega
      have h4 : (0 : Int) ≤ ((i + 1 : Nat) : Int) := by omega
      have h5 : ((i + 1 : Nat) : Int) ≤ (s.size : Int) := by omega
      simp only [hb', if_true, h3, h4, h5, Int.toNat_natCast, ext_take, ext_drop, if_pos hb, List.append_nil]
      exact Ev.now _
    · have hb' : ¬ ((b.toNat : Int) = 47) := by
        intro h
        apply hb
        have : b.toNat = 47 := by omega
        exact UInt8.toNat_inj.1 this
      simp only [hb', if_false, if_neg hb]
      have h := ih (i + 1) (by omega)
      have e3 : s.data.toList.take (i + 1) = s.data.toList.take i ++ [b] := by
        rw [List.take_add_one]
        have : s.data.toList[i]? = some b := by
          have := congrArg List.head? e1
          rw [List.head?_drop] at this
          simpa using this
        rw [this]
        rfl
      rw [e3] at h
      simpa using h
theorem specCut_ev (s : ByteArray) (hs : s.size ≤ 4611686018427387904) : Ev (fun k => spec_l17Cut.f k s 47) ((⟨(cutL s.data.toList).1.toArray⟩ : ByteArray), (⟨(cutL s.data.toList).2.1.toArray⟩ : ByteArray), (cutL s.data.toList).2.2) := by
  have h := specCut_loop s hs s.size 0 (by omega)
  show Ev (fun k => spec_l17Cut.l0 k s 47 0) _
  simpa using h

theorem decFrom_eq : ∀ (l : List UInt8) (a : Nat), l.all isDig = true → Lib.decFrom a l = some (l.foldl (fun a b => 10 * a + (b.toNat - 48)) a)
  | [], _, _ => rfl
  | b :: l, a, h => by
    rw [List.all_cons, Bool.and_eq_true] at h
    have hb : 48 ≤ b.toNat ∧ b.toNat ≤ 57 := by simpa [isDig] using h.1
    have e : Lib.digitVal b = some (b.toNat - 48) := by
      unfold Lib.digitVal
      simp [hb]
    simp only [Lib.decFrom, e, List.foldl_cons]
    rw [decFrom_eq l _ h.2, Nat.mul_comm a 10]
theorem atoi_dec (n : Nat) (h : n ≤ 65535) : Lib.atoiAll (Lib.decDigits n) = .ok (n : Int) := by
  have hl : (Lib.decDigits n).length ≤ 18 := by
    rw [Lib.decDigits_length]
    rcases Nat.lt_or_ge 18 (Lib.nDigits n) with h1 | h1
    · exfalso
      have h2 := Lib.decDigits_length n
      have : ∀ k m, m < 10 ^ (k + 1) → (Lib.decDigits m).length ≤ k + 1 := by
        intro k
        induction k with
        | zero => intro m hm; rw [Lib.decDigits_one (by omega)]; simp
        | succ k ih =>
          intro m hm
          rw [Lib.decDigits]
          split
          · simp
          · rw [List.length_append]
            have := ih (m / 10) (by rw [Nat.pow_succ] at hm; omega)
            simp
            omega
      have := this 4 n (by omega)
      omega
    · exact h1
  rw [Lib.atoiAll_short _ hl]
  obtain ⟨d1, d2⟩ := dec_all n
  cases hd : Lib.decDigits n with
  | nil => exact absurd hd (dec_ne n)
  | cons b r =>
    rw [hd] at d1 d2
    have hb : 48 ≤ b.toNat ∧ b.toNat ≤ 57 := by
      rw [List.all_cons, Bool.and_eq_true] at d2
      simpa [isDig] using d2.1
    have n1 : (b == 45) = false := by
      rw [beq_eq_false_iff_ne]
      intro e
      rw [e] at hb
      revert hb
      decide
    have n2 : (b == 43) = false := by
      rw [beq_eq_false_iff_ne]
      intro e
      rw [e] at hb
      revert hb
      decide
    have e := decFrom_eq (b :: r) 0 d2
    simp only [Lib.atoi, n1, n2, Bool.false_eq_true, if_false, Lib.decNat, List.isEmpty_cons, e, Option.map_some]
    show _ = Lib.NumEnd.ok (n : Int)
    rw [show (b :: r).foldl (fun a b => 10 * a + (b.toNat - 48)) 0 = n from d1]
    rfl
/-- The number that the reference reads. -/
def numV (l : List UInt8) : Int := if (1 ≤ l.length ∧ l.length ≤ 9) ∧ ¬ (l.head? = some 48 ∧ 1 < l.length) ∧ l.all isDig = true then (dval l : Int) else -1
theorem num_loop (s : ByteArray) (hs : s.size ≤ 9) : ∀ (d i : Nat) (a : Nat), i + d = s.size → a < 10 ^ i → Ev (fun k => spec_l17Number.l0 k s (a : Int) (i : Int)) (if (s.data.toList.drop i).all isDig = true then (((s.data.toList.drop i).foldl (fun a b => 10 * a + (b.toNat - 48)) a : Nat) : Int) else -1) := by
  intro d
  induction d with
  | zero =>
    intro i a hi _
    obtain rfl : i = s.size := by omega
    refine LoopK.Ev.succ ?_
    have e1 : s.data.toList.drop s.size = [] := List.drop_eq_nil_of_le (by simp)
    rw [e1]
    simp only [spec_l17Number.l0, Int.lt_irrefl, if_false, List.all_nil, if_true, List.foldl_nil]
    exact Ev.now _
  | succ d ih =>
    intro i a hi ha
    obtain ⟨b, e1, e2⟩ := bt_list s i (by omega)
    have hp : 10 ^ i ≤ 10 ^ 9 := Nat.pow_le_pow_right (by decide) (by omega)
    have hb255 := b.toNat_lt
    refine LoopK.Ev.succ ?_
    have h1 : (i : Int) < (s.size : Int) := by omega
    have h2 : (0 : Int) ≤ (i : Int) := by omega
    have hw : wrap64 ((i : Int) + 1) = ((i + 1 : Nat) : Int) := by unfold wrap64; omega
    rw [e1, List.all_cons, List.foldl_cons]
    simp only [spec_l17Number.l0, h1, h2, if_true, e2, hw]
    by_cases c1 : (b.toNat : Int) < 48
    · have hd : isDig b = false := decide_eq_false (by omega)
      simp only [c1, if_true, hd, Bool.false_and, Bool.false_eq_true, if_false]
      exact Ev.now _
    · by_cases c2 : (b.toNat : Int) > 57
      · have hd : isDig b = false := decide_eq_false (by omega)
        simp only [c1, c2, if_true, if_false, hd, Bool.false_and, Bool.false_eq_true]
        exact Ev.now _
      · have hd : isDig b = true := decide_eq_true (by omega)
        have hv : wrap64 (wrap64 (10 * (a : Int)) + (((b.toNat : Int) - 48) % 256)) = ((10 * a + (b.toNat - 48) : Nat) : Int) := by
          have w1 : wrap64 (10 * (a : Int)) = 10 * (a : Int) := by unfold wrap64; omega
          rw [w1]
          unfold wrap64
          omega
        simp only [c1, c2, if_false, hd, Bool.true_and, hv]
        exact ih (i + 1) _ (by omega) (by rw [Nat.pow_succ]; omega)
theorem specNum_ev (s : ByteArray) : Ev (fun k => spec_l17Number.f k s) (numV s.data.toList) := by
  unfold spec_l17Number.f numV
  simp only [l1In_eq, Option.bind_some, decide_eq_true_eq]
  have hlen : s.data.toList.length = s.size := by simp
  rw [hlen]
  by_cases h1 : 1 ≤ s.size ∧ s.size ≤ 9
  · have h1' : 1 ≤ (s.size : Int) ∧ (s.size : Int) ≤ 9 := by omega
    obtain ⟨b, e1, e2⟩ := bt_list s 0 (by omega)
    rw [List.drop_zero] at e1
    have e2' : bt s 0 = (b.toNat : Int) := e2
    have hh : s.data.toList.head? = some b := by rw [e1]; rfl
    have hb48 : (b.toNat : Int) = 48 ↔ b = 48 := by
      constructor
      · intro h
        exact UInt8.toNat_inj.1 (by show b.toNat = 48; omega)
      · intro h
        rw [h]; rfl
    have hloop := num_loop s h1.2 s.size 0 0 (by omega) (by decide)
    rw [List.drop_zero] at hloop
    simp only [h1', and_self, if_true, show (0 : Int) < (s.size : Int) by omega, e2', hh, h1, true_and]
    by_cases c : (b.toNat : Int) = 48
    · have c' := hb48.1 c
      simp only [c, if_true]
      refine LoopK.Ev.succ ?_
      simp only [spec_l17Number.j0, decide_eq_true_eq]
      by_cases c3 : (s.size : Int) > 1
      · have c4 : 1 < s.size := by omega
        simp only [c3, if_true, c', c4, and_self, not_true, false_and, if_false]
        exact Ev.now _
      · have c4 : ¬ (1 < s.size) := by omega
        simp only [c3, if_false, c4, and_false, not_false_eq_true, true_and]
        exact hloop
    · have c' : ¬ (b = 48) := fun h => c (hb48.2 h)
      simp only [c, if_false]
      refine LoopK.Ev.succ ?_
      simp only [spec_l17Number.j0, Bool.false_eq_true, if_false, Option.some.injEq, c', false_and, not_false_eq_true, true_and]
      exact hloop
  · have h1' : ¬ (1 ≤ (s.size : Int) ∧ (s.size : Int) ≤ 9) := by omega
    simp only [h1', if_false, h1, false_and]
    refine LoopK.Ev.succ ?_
    simp only [spec_l17Number.j0, if_true]
    exact Ev.now _

theorem hostSign_all : ∀ n : Fin 256, hostSign ((n : Nat) : Int) = decide ((97 ≤ (n : Nat) ∧ (n : Nat) ≤ 122) ∨ (48 ≤ (n : Nat) ∧ (n : Nat) ≤ 57) ∨ (n : Nat) = 46 ∨ (n : Nat) = 45) := by decide +kernel
theorem hostSign_eq (b : Int) (h : 0 ≤ b ∧ b ≤ 255) : hostSign b = decide ((97 ≤ b ∧ b ≤ 122) ∨ (48 ≤ b ∧ b ≤ 57) ∨ b = 46 ∨ b = 45) := by
  obtain ⟨n, rfl⟩ : ∃ n : Nat, b = (n : Int) := ⟨b.toNat, by omega⟩
  have h2 := hostSign_all ⟨n, by omega⟩
  simp only at h2
  rw [h2]
  congr 1
  exact propext ⟨fun h => by omega, fun h => by omega⟩
/-- Are the bytes from i on all signs of a host? -/
def hostFrom (s : ByteArray) (i : Nat) : Bool := decide (∀ j : Nat, j < s.size → i ≤ j → hostSign (bt s (j : Int)) = true)
theorem hostFrom_end (s : ByteArray) : hostFrom s s.size = true := decide_eq_true (fun j h1 h2 => absurd h1 (by omega))
theorem hostFrom_step (s : ByteArray) (i : Nat) (h : i < s.size) : hostFrom s i = (hostSign (bt s (i : Int)) && hostFrom s (i + 1)) := by
  rw [Bool.eq_iff_iff]
  simp only [hostFrom, decide_eq_true_eq, Bool.and_eq_true]
  constructor
  · intro h2
    exact ⟨h2 i h (Nat.le_refl _), fun j h3 h4 => h2 j h3 (by omega)⟩
  · rintro ⟨h2, h3⟩ j h5 h4
    by_cases e : j = i
    · rw [e]; exact h2
    · exact h3 j h5 (by omega)
theorem hostFrom_all (s : ByteArray) : hostFrom s 0 = hostAll s := by
  rw [Bool.eq_iff_iff]
  simp only [hostFrom, hostAll, decide_eq_true_eq]
  exact ⟨fun h i hi => h i hi (Nat.zero_le _), fun h j hj _ => h j hj⟩
theorem host_loop (s : ByteArray) (hs : s.size ≤ 4611686018427387904) : ∀ d i : Nat, i + d = s.size → Ev (fun k => spec_l17Host.l0 k s (i : Int)) (hostFrom s i && decide (1 ≤ (s.size : Int) ∧ (s.size : Int) ≤ 60)) := by
  intro d
  induction d with
  | zero =>
    intro i hi
    obtain rfl : i = s.size := by omega
    refine Ev.step (f := fun _ => some (decide (1 ≤ (s.size : Int) ∧ (s.size : Int) ≤ 60))) (fun k => ?_) ?_
    · simp only [spec_l17Host.l0, Int.lt_irrefl, if_false, l1In_eq, Option.bind_some]
    · rw [hostFrom_end, Bool.true_and]
      exact Ev.now _
  | succ d ih =>
    intro i hi
    have h1 : (i : Int) < (s.size : Int) := by omega
    have h2 : (0 : Int) ≤ (i : Int) := by omega
    have hr := bt_range s (i : Int)
    have hw : wrap64 ((i : Int) + 1) = ((i + 1 : Nat) : Int) := by unfold wrap64; omega
    refine Ev.step (f := fun k => spec_l17Host.j1 k s (i : Int) (!hostSign (bt s (i : Int)))) (fun k => ?_) ?_
    · simp only [spec_l17Host.l0, h1, h2, if_true]
      rw [hostSign_eq _ hr]
      generalize bt s (i : Int) = b at hr ⊢
      have e7 : b ≠ 45 → (b == 45) = false := fun h => by simp [h]
      by_cases e : (97 ≤ b ∧ b ≤ 122) ∨ (48 ≤ b ∧ b ≤ 57) ∨ b = 46 ∨ b = 45
      · rw [decide_eq_true e]
        by_cases a1 : b ≥ 97
        · rw [if_pos a1, if_pos (show b ≤ 122 by omega)]
        · rw [if_neg a1]
          by_cases a3 : b ≥ 48
          · rw [if_pos a3, if_pos (show b ≤ 57 by omega)]
          · rw [if_neg a3]
            by_cases a5 : b = 46
            · rw [if_pos a5]
            · rw [if_neg a5]
              have a6 : b = 45 := by omega
              rw [a6]
              rfl
      · rw [decide_eq_false e]
        have a7 := e7 (by omega)
        have a5 : ¬ b = 46 := by omega
        by_cases a1 : b ≥ 97
        · rw [if_pos a1, if_neg (show ¬ b ≤ 122 by omega), if_pos (show b ≥ 48 by omega), if_neg (show ¬ b ≤ 57 by omega), if_neg a5, a7]
        · rw [if_neg a1]
          by_cases a3 : b ≥ 48
          · rw [if_pos a3, if_neg (show ¬ b ≤ 57 by omega), if_neg a5, a7]
          · rw [if_neg a3, if_neg a5, a7]
    · rw [hostFrom_step s i (by omega)]
      cases hostSign (bt s (i : Int)) with
      | false =>
        refine Ev.step (f := fun _ => some false) (fun k => ?_) (Ev.now _)
        simp only [spec_l17Host.j1, Bool.not_false, if_true]
      | true =>
        refine Ev.step (f := fun k => spec_l17Host.l0 k s ((i + 1 : Nat) : Int)) (fun k => ?_) ?_
        · simp only [spec_l17Host.j1, Bool.not_true, Bool.false_eq_true, if_false, hw]
        · rw [Bool.true_and]
          exact ih (i + 1) (by omega)
theorem specHost_ev (s : ByteArray) (hs : s.size ≤ 4611686018427387904) : Ev (fun k => spec_l17Host.f k s) (hostAll s && decide (1 ≤ (s.size : Int) ∧ (s.size : Int) ≤ 60)) := by
  have h := host_loop s hs s.size 0 (by omega)
  rw [hostFrom_all] at h
  exact h

theorem head_list : pathHead.toList = ([47, 46, 119, 101, 108, 108, 45, 107, 110, 111, 119, 110, 47, 109, 97, 115, 113, 117, 101, 47, 117, 100, 112, 47] : List UInt8) := by rw [ByteArray.toList_eq]; rfl
theorem head_size : pathHead.size = 24 := rfl
def hasHead (a0 : ByteArray) : Bool := decide (24 ≤ a0.size) && ((a0.extract 0 24).toList == pathHead.toList)
def restOf (a0 : ByteArray) : ByteArray := if hasHead a0 = true then a0.extract 24 a0.size else a0
theorem trimPrefix_eq (a0 : ByteArray) : strings_TrimPrefix.f a0 pathHead = some (restOf a0) := by
  unfold strings_TrimPrefix.f stringslite_TrimPrefix.f stringslite_HasPrefix.f restOf hasHead
  rw [head_size]
  have e24 : ((24 : Nat) : Int).toNat = 24 := rfl
  rw [e24]
  by_cases h : 24 ≤ a0.size
  · rw [if_pos (show (a0.size : Int) ≥ ((24 : Nat) : Int) by omega), if_pos (show (0 : Int) ≤ ((24 : Nat) : Int) by omega), if_pos (show ((24 : Nat) : Int) ≤ (a0.size : Int) by omega)]
    simp only [Option.bind_some, h, decide_true, Bool.true_and]
    by_cases h2 : ((a0.extract 0 24).toList == pathHead.toList) = true
    · rw [if_pos h2, if_pos h2, if_pos (show (0 : Int) ≤ ((24 : Nat) : Int) by omega), if_pos (show ((24 : Nat) : Int) ≤ (a0.size : Int) by omega)]
      rfl
    · rw [if_neg h2, if_neg h2]
      rfl
  · rw [if_neg (show ¬ ((a0.size : Int) ≥ ((24 : Nat) : Int)) by omega)]
    simp [h]
def hasEnd (s : ByteArray) : Bool := decide (1 ≤ s.size) && ((s.extract (s.size - 1) s.size).toList == slash.toList)
def cutEnd (s : ByteArray) : ByteArray := if hasEnd s = true then s.extract 0 (s.size - 1) else s
theorem trimSuffix_eq (s : ByteArray) (hs : s.size ≤ 4611686018427387904) : strings_TrimSuffix.f s slash = some (cutEnd s) := by
  unfold strings_TrimSuffix.f stringslite_TrimSuffix.f stringslite_HasSuffix.f cutEnd hasEnd
  have z : slash.size = 1 := rfl
  rw [z]
  by_cases h : 1 ≤ s.size
  · have w : wrap64 ((s.size : Int) - ((1 : Nat) : Int)) = ((s.size - 1 : Nat) : Int) := by unfold wrap64; omega
    rw [w, Int.toNat_natCast]
    rw [if_pos (show (s.size : Int) ≥ ((1 : Nat) : Int) by omega), if_pos (show (0 : Int) ≤ ((s.size - 1 : Nat) : Int) by omega), if_pos (show ((s.size - 1 : Nat) : Int) ≤ (s.size : Int) by omega)]
    simp only [Option.bind_some, h, decide_true, Bool.true_and]
    by_cases h2 : ((s.extract (s.size - 1) s.size).toList == slash.toList) = true
    · rw [if_pos h2, if_pos h2, if_pos (show (0 : Int) ≤ ((s.size - 1 : Nat) : Int) by omega), if_pos (show ((s.size - 1 : Nat) : Int) ≤ (s.size : Int) by omega)]
      rfl
    · rw [if_neg h2, if_neg h2]
      rfl
  · rw [if_neg (show ¬ ((s.size : Int) ≥ ((1 : Nat) : Int)) by omega)]
    simp [h]
theorem mk_size (l : List UInt8) : (⟨l.toArray⟩ : ByteArray).size = l.length := by simp [ByteArray.size]
theorem cutEnd_mk (l : List UInt8) : cutEnd ⟨(l ++ [47]).toArray⟩ = ⟨l.toArray⟩ := by
  have hz : (⟨(l ++ [47]).toArray⟩ : ByteArray).size = l.length + 1 := by rw [mk_size]; simp
  have e : hasEnd ⟨(l ++ [47]).toArray⟩ = true := by
    unfold hasEnd
    rw [ext_drop, hz]
    simp [ByteArray.toList_eq, slash]
  unfold cutEnd
  rw [if_pos e, ext_take, hz]
  simp
def hostB (s : ByteArray) : Bool := hostAll s && decide (1 ≤ (s.size : Int) ∧ (s.size : Int) ≤ 60)
theorem isHost_eq (s : ByteArray) (hs : s.size ≤ 9223372036854775807) : impl_isHost.f s = some (hostB s) := by
  unfold impl_isHost.f
  rw [if_pos hs]
  rfl
theorem isPort_eq (n : Int) : impl_isPort.f n = some (decide (1 ≤ n ∧ n ≤ 65535)) := by unfold impl_isPort.f; simp only [in_eq, Option.bind_some]
theorem specPort_eq (n : Int) : spec_l17Port.f n = some (decide (1 ≤ n ∧ n ≤ 65535)) := by unfold spec_l17Port.f; simp only [l1In_eq, Option.bind_some]
/-- Does the reference accept what is behind the head? -/
def accB (R : List UInt8) : Bool := (cutL R).2.2 && ((cutL (cutL R).2.1).2.2 && ((cutL (cutL R).2.1).2.1.isEmpty && (hostB ⟨(cutL R).1.toArray⟩ && decide (1 ≤ numV (cutL (cutL R).2.1).1 ∧ numV (cutL (cutL R).2.1).1 ≤ 65535))))
theorem spec_j1 (h p : ByteArray) (b : Bool) : Ev (fun k => spec_ParseTarget.j1 k h p b) (if b = true then bad else (h, numV p.data.toList, true)) := by
  refine LoopK.Ev.succ ?_
  simp only [spec_ParseTarget.j1]
  cases b with
  | true => simp only [if_true]; exact Ev.now _
  | false =>
    simp only [Bool.false_eq_true, if_false]
    exact LoopK.Ev.bind_ (specNum_ev p) (Ev.now _)
theorem spec_j0 (a0 : ByteArray) (hs : a0.size ≤ 1048576) (h24 : 24 ≤ a0.size) : Ev (fun k => spec_ParseTarget.j0 k a0 24 false) (if accB (a0.extract 24 a0.size).data.toList = true then ((⟨(cutL (a0.extract 24 a0.size).data.toList).1.toArray⟩ : ByteArray), numV (cutL (cutL (a0.extract 24 a0.size).data.toList).2.1).1, true) else bad) := by
  refine LoopK.Ev.succ ?_
  have e24 : (24 : Int).toNat = 24 := rfl
  simp only [spec_ParseTarget.j0, Bool.false_eq_true, if_false, show (0 : Int) ≤ 24 by decide, if_true, show (24 : Int) ≤ (a0.size : Int) by omega, e24]
  have hz : (a0.extract 24 a0.size).size ≤ 1048576 := by rw [ByteArray.size_extract]; omega
  generalize a0.extract 24 a0.size = rest at hz
  have hl : rest.data.toList.length = rest.size := by simp
  have hc := cutL_len rest.data.toList
  refine LoopK.Ev.bind_ (specCut_ev rest (by omega)) ?_
  have hz2 : (⟨(cutL rest.data.toList).2.1.toArray⟩ : ByteArray).size ≤ 4611686018427387904 := by rw [mk_size]; omega
  refine LoopK.Ev.bind_ (specCut_ev _ hz2) ?_
  unfold accB
  generalize cutL rest.data.toList = c1 at hc
  simp only
  generalize cutL c1.2.1 = c2
  have hh : (⟨c1.1.toArray⟩ : ByteArray).size ≤ 4611686018427387904 := by rw [mk_size]; omega
  have hn : ∀ l : List UInt8, (⟨l.toArray⟩ : ByteArray).toList = l := fun l => by rw [ByteArray.toList_eq]
  cases b1 : c1.2.2 with
  | false =>
    simp only [Bool.false_eq_true, if_false, Bool.false_and]
    exact spec_j1 _ _ true
  | true =>
    simp only [if_true, Bool.true_and]
    cases b2 : c2.2.2 with
    | false =>
      simp only [Bool.false_eq_true, if_false, Bool.false_and]
      exact spec_j1 _ _ true
    | true =>
      simp only [if_true, Bool.true_and, hn]
      by_cases b3 : c2.2.1 = []
      · simp only [b3, if_true, List.isEmpty_nil, Bool.true_and]
        refine LoopK.Ev.bind_ (specHost_ev _ hh) ?_
        show Ev (fun k => if hostB ⟨c1.1.toArray⟩ = true then _ else _) _
        cases b4 : hostB ⟨c1.1.toArray⟩ with
        | false =>
          simp only [Bool.false_eq_true, if_false, Bool.false_and]
          exact spec_j1 _ _ true
        | true =>
          simp only [if_true, Bool.true_and]
          refine LoopK.Ev.bind_ (specNum_ev _) ?_
          simp only [specPort_eq, Option.bind_some, decide_eq_true_eq]
          have e := spec_j1 ⟨c1.1.toArray⟩ ⟨c2.1.toArray⟩ (!decide (1 ≤ numV c2.1 ∧ numV c2.1 ≤ 65535))
          by_cases b5 : 1 ≤ numV c2.1 ∧ numV c2.1 ≤ 65535
          · simpa [b5] using e
          · simpa [b5] using e
      · have b3' : c2.2.1.isEmpty = false := by cases hh : c2.2.1 with | nil => exact absurd hh b3 | cons _ _ => rfl
        simp only [b3, if_false, b3', Bool.false_and, Bool.false_eq_true]
        exact spec_j1 _ _ true
theorem spec_ev (a0 : ByteArray) (hs : a0.size ≤ 1048576) : Ev (fun k => spec_ParseTarget.f k a0) (if hasHead a0 = true ∧ accB (restOf a0).data.toList = true then ((⟨(cutL (restOf a0).data.toList).1.toArray⟩ : ByteArray), numV (cutL (cutL (restOf a0).data.toList).2.1).1, true) else bad) := by
  have hj : Ev (fun k => spec_ParseTarget.j0 k a0 24 true) bad := by
    refine LoopK.Ev.succ ?_
    simp only [spec_ParseTarget.j0, if_true]
    exact Ev.now _
  unfold spec_ParseTarget.f
  by_cases h : 24 ≤ a0.size
  · simp only [show ¬ ((a0.size : Int) < 24) by omega, if_false, show (0 : Int) ≤ 24 by decide, if_true, show (24 : Int) ≤ (a0.size : Int) by omega]
    cases h2 : hasHead a0 with
    | true =>
      have h3 : ((a0.extract 0 24).toList != ([47, 46, 119, 101, 108, 108, 45, 107, 110, 111, 119, 110, 47, 109, 97, 115, 113, 117, 101, 47, 117, 100, 112, 47] : List UInt8)) = false := by
        unfold hasHead at h2
        rw [Bool.and_eq_true, beq_iff_eq, head_list] at h2
        rw [h2.2]
        decide
      rw [h3]
      have e := spec_j0 a0 hs h
      unfold restOf
      rw [h2, if_pos rfl]
      simpa using e
    | false =>
      have h3 : ((a0.extract 0 24).toList != ([47, 46, 119, 101, 108, 108, 45, 107, 110, 111, 119, 110, 47, 109, 97, 115, 113, 117, 101, 47, 117, 100, 112, 47] : List UInt8)) = true := by
        unfold hasHead at h2
        rw [head_list] at h2
        simp [h] at h2
        simpa using h2
      rw [h3]
      simpa using hj
  · simp only [show (a0.size : Int) < 24 by omega, if_true]
    have h2 : hasHead a0 = false := by simp [hasHead, h]
    rw [h2]
    simpa using hj
theorem cutL_free : ∀ (l : List UInt8) (x : UInt8), x ∈ (cutL l).1 → x ≠ 47
  | [], x, h => by simp [cutL] at h
  | b :: l, x, h => by
    simp only [cutL] at h
    by_cases hb : b = 47
    · rw [if_pos hb] at h; simp at h
    · rw [if_neg hb] at h
      rcases List.mem_cons.1 h with h | h
      · rw [h]; exact hb
      · exact cutL_free l x h
theorem dec_len : ∀ (k m : Nat), m < 10 ^ (k + 1) → (Lib.decDigits m).length ≤ k + 1 := by
  intro k
  induction k with
  | zero => intro m hm; rw [Lib.decDigits_one (by omega)]; simp
  | succ k ih =>
    intro m hm
    rw [Lib.decDigits]
    split
    · simp
    · rw [List.length_append]
      have := ih (m / 10) (by rw [Nat.pow_succ] at hm; omega)
      simp
      omega
theorem dec_head : ∀ n : Nat, 1 ≤ n → (Lib.decDigits n).head? ≠ some 48 := by
  intro n
  induction n using Nat.strongRecOn with
  | _ n ih =>
    intro h1
    rw [Lib.decDigits]
    split
    · intro e
      have e2 : UInt8.ofNat (48 + n) = 48 := by simpa using e
      have e3 := congrArg UInt8.toNat e2
      rw [dig_toNat n (by omega)] at e3
      have : (48 : UInt8).toNat = 48 := rfl
      omega
    · have ihn := ih (n / 10) (by omega) (by omega)
      cases hd : Lib.decDigits (n / 10) with
      | nil => exact absurd hd (dec_ne _)
      | cons b r =>
        rw [hd] at ihn
        simpa using ihn
theorem numV_dec (n : Nat) (h : 1 ≤ n ∧ n ≤ 65535) : numV (Lib.decDigits n) = (n : Int) := by
  obtain ⟨d1, d2⟩ := dec_all n
  have l1 := dec_len 4 n (by omega)
  have l0 : 1 ≤ (Lib.decDigits n).length := by
    rcases Nat.eq_zero_or_pos (Lib.decDigits n).length with h | h
    · exact absurd (List.eq_nil_of_length_eq_zero h) (dec_ne n)
    · exact h
  unfold numV
  rw [if_pos ⟨⟨l0, by omega⟩, fun hh => dec_head n h.1 hh.1, d2⟩, d1]
theorem dec_free (n : Nat) : ∀ x, x ∈ Lib.decDigits n → x ≠ 47 := by
  intro x hx e
  have := List.all_eq_true.1 (dec_all n).2 x hx
  rw [e] at this
  revert this
  decide
theorem list_eq (a b : ByteArray) (h : a.data.toList = b.data.toList) : a = b := by
  apply ByteArray.ext
  exact Array.toList_inj.1 h
theorem path_list (h n : ByteArray) : (pathOf h n).data.toList = pathHead.data.toList ++ (h.data.toList ++ 47 :: (n.data.toList ++ [47])) := by
  unfold pathOf
  have e : slash.data.toList = [47] := rfl
  simp [ByteArray.data_append, e]
theorem head_yes (a0 : ByteArray) (h : hasHead a0 = true) : a0.data.toList = pathHead.data.toList ++ (restOf a0).data.toList := by
  have h0 := h
  unfold hasHead at h
  rw [Bool.and_eq_true, beq_iff_eq, ByteArray.toList_eq, ByteArray.toList_eq, ext_take] at h
  unfold restOf
  rw [if_pos h0, ext_drop, ← h.2]
  simp
theorem head_of (a0 : ByteArray) (t : List UInt8) (h : a0.data.toList = pathHead.data.toList ++ t) : hasHead a0 = true ∧ (restOf a0).data.toList = t := by
  have hl : pathHead.data.toList.length = 24 := rfl
  have hz : a0.size = 24 + t.length := by
    have := congrArg List.length h
    rw [List.length_append, hl] at this
    simpa using this
  have h1 : hasHead a0 = true := by
    unfold hasHead
    rw [Bool.and_eq_true, beq_iff_eq, ByteArray.toList_eq, ByteArray.toList_eq, ext_take, h]
    refine ⟨decide_eq_true (by omega), ?_⟩
    show (pathHead.data.toList ++ t).take 24 = _
    rw [← hl, List.take_left]
  refine ⟨h1, ?_⟩
  unfold restOf
  rw [if_pos h1, ext_drop, h]
  show (pathHead.data.toList ++ t).drop 24 = t
  rw [← hl, List.drop_left]
/-- What the reference accepts is the path of what it returns. -/
theorem acc_key (R : List UInt8) (h : accB R = true) : ∃ n : Nat, (1 ≤ n ∧ n ≤ 65535) ∧ numV (cutL (cutL R).2.1).1 = (n : Int) ∧ (cutL R).2.1 = Lib.decDigits n ++ [47] ∧ R = (cutL R).1 ++ 47 :: (Lib.decDigits n ++ [47]) ∧ hostB ⟨(cutL R).1.toArray⟩ = true := by
  unfold accB at h
  simp only [Bool.and_eq_true, decide_eq_true_eq, List.isEmpty_iff] at h
  obtain ⟨b1, b2, b3, b4, b5⟩ := h
  have y1 := cutL_yes R b1
  have y2 := cutL_yes _ b2
  rw [b3] at y2
  have hn : numV (cutL (cutL R).2.1).1 = (dval (cutL (cutL R).2.1).1 : Int) ∧ Lib.decDigits (dval (cutL (cutL R).2.1).1) = (cutL (cutL R).2.1).1 := by
    generalize (cutL (cutL R).2.1).1 = l at b5
    unfold numV at b5 ⊢
    split at b5
    · rename_i hc
      rw [if_pos hc]
      refine ⟨rfl, dec_of _ l rfl ?_ hc.2.2 ?_⟩
      · intro e
        rw [e] at hc
        simp at hc
      · intro e
        have := hc.2.1
        rcases Nat.lt_or_ge 1 l.length with h1 | h1
        · exact absurd ⟨e, h1⟩ this
        · omega
    · omega
  obtain ⟨n1, n2⟩ := hn
  rw [n1] at b5
  have e1 : (cutL R).2.1 = Lib.decDigits (dval (cutL (cutL R).2.1).1) ++ [47] := by rw [n2]; exact y2
  exact ⟨_, by omega, n1, e1, by rw [← e1]; exact y1, b4⟩
theorem FnExactParseTarget : SFnExactParseTarget.Pure := by
  intro a0 _
  by_cases hbig : 1048576 < a0.size
  · exact ⟨0, Or.inl hbig⟩
  obtain ⟨K, hK⟩ := spec_ev a0 (by omega)
  have hsp := hK K (Nat.le_refl _)
  have hR : (restOf a0).size ≤ 1048576 := by
    unfold restOf
    split
    · rw [ByteArray.size_extract]; omega
    · omega
  have hhost : hostOf (restOf a0) = ⟨(cutL (restOf a0).data.toList).1.toArray⟩ := by
    unfold hostOf
    rw [show slash.data.toList = [47] from rfl, cut_eq]
  have hlast : lastOf (restOf a0) = ⟨(cutL (restOf a0).data.toList).2.1.toArray⟩ := by
    unfold lastOf
    rw [show slash.data.toList = [47] from rfl, cut_eq]
  have hlen := cutL_len (restOf a0).data.toList
  have hRl : (restOf a0).data.toList.length = (restOf a0).size := by simp
  have hzl : (lastOf (restOf a0)).size ≤ 1048576 := by rw [hlast, mk_size]; omega
  have hzh : (hostOf (restOf a0)).size ≤ 1048576 := by rw [hhost, mk_size]; omega
  have hzp : (cutEnd (lastOf (restOf a0))).size ≤ 1048576 := by
    unfold cutEnd
    split
    · rw [ByteArray.size_extract]; omega
    · exact hzl
  have key : hasHead a0 = true ∧ accB (restOf a0).data.toList = true → ∃ n : Nat, (1 ≤ n ∧ n ≤ 65535) ∧ atoiVal (cutEnd (lastOf (restOf a0))) = (n : Int) ∧ a0 = pathOf (hostOf (restOf a0)) ⟨(Lib.itoa (n : Int)).toArray⟩ ∧ hostB (hostOf (restOf a0)) = true := by
    rintro ⟨hh, ha⟩
    obtain ⟨n, n1, n2, n3, n4, n5⟩ := acc_key _ ha
    refine ⟨n, n1, ?_, ?_, by rw [hhost]; exact n5⟩
    · rw [hlast, n3, cutEnd_mk]
      unfold atoiVal
      rw [show (⟨(Lib.decDigits n).toArray⟩ : ByteArray).data.toList = Lib.decDigits n by simp, atoi_dec n n1.2]
    · apply list_eq
      rw [path_list, head_yes a0 hh, Lib.itoa_nonneg, hhost]
      exact congrArg (fun t => pathHead.data.toList ++ t) n4
  refine ⟨K, Or.inr ⟨by omega, restOf a0, cutEnd (lastOf (restOf a0)), trimPrefix_eq a0, hR, trimSuffix_eq _ (by omega), hzp, ?_⟩⟩
  rw [isHost_eq _ (by omega), isPort_eq]
  cases hb : hostB (hostOf (restOf a0)) with
  | false =>
    refine Or.inl ⟨rfl, ?_⟩
    show spec_ParseTarget.f K a0 = _
    rw [show spec_ParseTarget.f K a0 = _ from hsp, if_neg]
    intro hc
    obtain ⟨n, _, _, _, h5⟩ := key hc
    rw [hb] at h5
    cases h5
  | true =>
    refine Or.inr ?_
    by_cases hp : 1 ≤ atoiVal (cutEnd (lastOf (restOf a0))) ∧ atoiVal (cutEnd (lastOf (restOf a0))) ≤ 65535
    · refine Or.inr ⟨rfl, by rw [decide_eq_true hp], ?_, hp, ?_⟩
      · unfold hostB at hb
        rw [Bool.and_eq_true, decide_eq_true_eq] at hb
        omega
      · cases he : ((pathOf (hostOf (restOf a0)) ⟨(Lib.itoa (atoiVal (cutEnd (lastOf (restOf a0))))).toArray⟩).toList == a0.toList) with
        | false =>
          refine Or.inl ⟨rfl, ?_⟩
          rw [show spec_ParseTarget.f K a0 = _ from hsp, if_neg]
          intro hc
          obtain ⟨n, _, n2, n3, _⟩ := key hc
          rw [n2, ← n3] at he
          simp at he
        | true =>
          refine Or.inr ⟨rfl, ?_⟩
          obtain ⟨n, hn⟩ : ∃ n : Nat, atoiVal (cutEnd (lastOf (restOf a0))) = (n : Int) := ⟨(atoiVal (cutEnd (lastOf (restOf a0)))).toNat, by omega⟩
          rw [hn] at hp he ⊢
          rw [beq_iff_eq, ByteArray.toList_eq, ByteArray.toList_eq, path_list, Lib.itoa_nonneg] at he
          obtain ⟨g1, g2⟩ := head_of a0 _ he.symm
          have hf : ∀ x, x ∈ (hostOf (restOf a0)).data.toList → x ≠ 47 := by
            intro x hx
            rw [hhost] at hx
            exact cutL_free _ x (by simpa using hx)
          have c1 : cutL (restOf a0).data.toList = ((hostOf (restOf a0)).data.toList, Lib.decDigits n ++ [47], true) := by
            rw [g2]
            exact cutL_mk _ _ hf
          have c2 : cutL (Lib.decDigits n ++ [47]) = (Lib.decDigits n, [], true) := cutL_mk _ _ (dec_free n)
          have hnv := numV_dec n (by omega)
          have hacc : accB (restOf a0).data.toList = true := by
            unfold accB
            rw [c1]
            simp only
            rw [c2]
            simp only [hnv, of_list, hb, List.isEmpty_nil, Bool.true_and]
            exact decide_eq_true (by omega)
          rw [show spec_ParseTarget.f K a0 = _ from hsp, if_pos ⟨g1, hacc⟩, c1]
          simp only
          rw [c2]
          simp only [hnv, of_list]
    · refine Or.inl ⟨rfl, by rw [decide_eq_false hp], ?_⟩
      rw [show spec_ParseTarget.f K a0 = _ from hsp, if_neg]
      intro hc
      obtain ⟨n, n1, n2, _, _⟩ := key hc
      apply hp
      rw [n2]
      omega

end Go.Proofs.YtilkginahmfagaaDoor.Pure
