/- The pure statement of the law FnExactReadFields: the program's function and the reference answer alike. -/
import Derived.Test.YtilkginahmfagaaDoorSFnExactReadFields
import Derived.Test.YtilkginahmfagaaDoorLoopK
namespace Go.Proofs.YtilkginahmfagaaDoor.Pure
open Go.RowKit Go.Proofs.YtilkginahmfagaaDoor.PFnExactReadFields Go.Proofs.YtilkginahmfagaaDoorW.PrintWords Go.Proofs.YtilkginahmfagaaDoorW.PrintLast Go.Proofs.YtilkginahmfagaaDoor.SFnExactReadFields
set_option linter.unusedVariables false
set_option linter.unusedSimpArgs false

open Go.Proofs.YtilkginahmfagaaDoor.LoopK (copyEv sameEv markEv heldEv foldEv mk mk_length at_lt at_lt' at_nn at_nlt at_stop at_getD at_set at_set2 at_snoc len_snoc at_w w64 firstEv find_any chk last_or at_prev at_prev_lt at_prev_nn at_prev_pos at_prev_w pairEv)

theorem eqField_self (x : S65) : laws_eqField.f x.f0 x.f1 x.f0 x.f1 = some true := by
  unfold laws_eqField.f
  simp
theorem eqFieldS_ev (l : List S65) (h : l.length ≤ 4611686018427387904) : Ev (fun k => laws_eqFieldS.f k l l) true := by
  have key := sameEv (fun k xs ys i => laws_eqFieldS.l0 k xs ys i) 4611686018427387904
    (fun xs ys => by
      refine LoopK.Ev.succ ?_
      simp only [laws_eqFieldS.l0, at_stop, if_false]
      exact Ev.now _)
    (fun p x r hB ih => by
      refine LoopK.Ev.succ ?_
      have e1 := at_w p x r hB
      simp only [laws_eqFieldS.l0, at_lt, at_nn, if_true, eqField_self, Option.bind_some, rd_T65, at_getD, e1]
      exact ih) l [] (by simpa using h)
  unfold laws_eqFieldS.f
  simp only [if_true]
  simpa using key

theorem strOfNums_one (n : Int) : (strOfNums [n]).size = 1 := rfl
theorem markText_loop : ∀ (d : Nat) (x : Int) (s : ByteArray), x < 10 ^ d → s.size + d ≤ 1000 → ∃ r, Ev (fun k => laws_markText.l0 k x s) r
  | d, x, s, hx, hs => by
    by_cases h0 : x > 0
    · match d with
      | 0 => simp at hx; omega
      | d + 1 =>
        have e1 : wrap64 (Int.tdiv x 10) = Int.tdiv x 10 ∨ True := Or.inr trivial
        have ht : Int.tdiv x 10 = x / 10 := Int.tdiv_eq_ediv_of_nonneg (by omega)
        have hlt : x / 10 < 10 ^ d := by
          have : (10 : Int) ^ (d + 1) = 10 ^ d * 10 := by rw [Int.pow_succ]
          omega
        have hw : wrap64 (x / 10) < 10 ^ d ∧ True := ⟨by
          by_cases hb : x / 10 ≤ 9223372036854775807
          · rw [w64 _ (by omega)]; exact hlt
          · have hp : (0 : Int) < 10 ^ d := Int.pow_pos (by decide)
            unfold wrap64
            have := Int.emod_lt_of_pos (x / 10 + 9223372036854775808) (show (0 : Int) < 18446744073709551616 by decide)
            omega, trivial⟩
        obtain ⟨r, hr⟩ := markText_loop d (wrap64 (x / 10)) (strOfNums [(wrap64 (48 + (Int.tmod x 10))) % 256] ++ s) hw.1 (by rw [ByteArray.size_append, strOfNums_one]; omega)
        refine ⟨r, LoopK.Ev.succ ?_⟩
        have c : (strOfNums [(wrap64 (48 + (Int.tmod x 10))) % 256]).size + s.size ≤ 9223372036854775807 := by rw [strOfNums_one]; omega
        simp only [laws_markText.l0, h0, if_true, Option.bind_some, c, ht]
        exact hr
    · refine ⟨(⟨#[109]⟩ : ByteArray) ++ s, LoopK.Ev.succ ?_⟩
      have c : 1 + s.size ≤ 9223372036854775807 := by omega
      simp only [laws_markText.l0, h0, if_false, c, if_true]
      exact Ev.now _
theorem markText_some (x : Int) (h : x ≤ 9223372036854775807) : ∃ r, Ev (fun k => laws_markText.f k x) r := by
  unfold laws_markText.f
  by_cases h0 : x ≤ 0
  · simp only [h0, if_true]
    exact ⟨_, Ev.now _⟩
  · simp only [h0, if_false]
    exact markText_loop 20 x _ (by omega) (by decide)
/-- The text of a mark. -/
noncomputable def mtx (x : Int) : ByteArray := Classical.epsilon fun r => Ev (fun k => laws_markText.f k x) r
theorem mtx_ev (x : Int) (h : x ≤ 9223372036854775807) : Ev (fun k => laws_markText.f k x) (mtx x) := Classical.epsilon_spec (markText_some x h)

/-- An element's marks. -/
noncomputable def markField (_ : S65) (a : Int) : S65 := ⟨mtx (a), mtx (a + 1)⟩
theorem markFieldS_ev (l : List S65) (a : Int) (ha : 0 ≤ a) (hl : (l.length : Int) ≤ 1000000000000) (hb : a ≤ 1000000000000) : Ev (fun k => laws_markFieldS.f k l a) (a + 2 * (l.length : Int), mk markField 2 l a) := by
  have key := markEv (fun k xs a i => laws_markFieldS.l0 k xs a i) markField 2 (by omega) 4611686018427387904
    (fun xs a => by
      refine LoopK.Ev.succ ?_
      simp only [laws_markFieldS.l0, at_stop, if_false]
      exact Ev.now _)
    (fun p x r a res hB h0 h1 ih => by
      refine LoopK.Ev.succ ?_
      have e1 := at_w p x r hB
      have w0 : wrap64 (a + 1) = a + 1 := by rw [show a + 1 = a + 1 from by omega]; exact w64 _ (by omega)
      have w1 : wrap64 (a + 1 + 1) = a + 2 := by rw [show a + 1 + 1 = a + 2 from by omega]; exact w64 _ (by omega)
      simp only [laws_markFieldS.l0, at_lt, at_nn, if_true, Option.bind_some, rd_T65, at_getD, at_set, e1, w0, w1]
      refine LoopK.Ev.bind_ (mtx_ev _ (by omega)) ?_
      refine LoopK.Ev.bind_ (mtx_ev _ (by omega)) ?_
      exact ih) l [] a (by simp; omega) ha (by omega)
  unfold laws_markFieldS.f
  simpa using key
theorem heldFieldS_ev (l : List S65) (a : Int) (ha : 0 ≤ a) (hl : (l.length : Int) ≤ 1000000000000) (hb : a ≤ 1000000000000) : Ev (fun k => laws_heldFieldS.f k (mk markField 2 l a) a) (a + 2 * (l.length : Int)) := by
  have key := heldEv (fun k xs a i => laws_heldFieldS.l0 k xs a i) markField 2 (by omega) 4611686018427387904
    (fun xs a => by
      refine LoopK.Ev.succ ?_
      simp only [laws_heldFieldS.l0, at_stop, if_false]
      exact Ev.now _)
    (fun p x r a res hB h0 h1 ih => by
      refine LoopK.Ev.succ ?_
      have e1 := at_w p (markField x a) r hB
      have w0 : wrap64 (a + 1) = a + 1 := by rw [show a + 1 = a + 1 from by omega]; exact w64 _ (by omega)
      have w1 : wrap64 (a + 1 + 1) = a + 2 := by rw [show a + 1 + 1 = a + 2 from by omega]; exact w64 _ (by omega)
      have v0 : (markField x a).f0 = mtx (a) := rfl
      have v1 : (markField x a).f1 = mtx (a + 1) := rfl
      simp only [laws_heldFieldS.l0, at_lt, at_nn, if_true, rd_T65, at_getD, e1, w0, w1, v0, v1, bne_self_eq_false, Bool.false_eq_true, if_false]
      refine LoopK.Ev.bind_ (mtx_ev _ (by omega)) ?_
      simp only [if_true, bne_self_eq_false, Bool.false_eq_true, if_false]
      refine LoopK.Ev.bind_ (mtx_ev _ (by omega)) ?_
      simp only [if_true, bne_self_eq_false, Bool.false_eq_true, if_false]
      exact ih) l [] a (by simp; omega) ha (by omega)
  unfold laws_heldFieldS.f
  simpa using key

theorem l1In_eq (a b c : Int) : spec_l1In.f a b c = some (decide (b ≤ a ∧ a ≤ c)) := by
  unfold spec_l1In.f
  by_cases h : b ≤ a
  · rw [if_pos h]; simp [h]
  · rw [if_neg h]; simp [h]
theorem in_eq (a b c : Int) : impl_in.f a b c = some (decide (b ≤ a ∧ a ≤ c)) := l1In_eq a b c
theorem and_ite (p q : Prop) [Decidable p] [Decidable q] : (if p then some (decide q) else some false) = some (decide (p ∧ q)) := by
  by_cases h : p <;> simp [h]

/-- Does p hold from i on, below n? -/
def allFrom (p : Nat → Bool) (n i : Nat) : Bool := decide (∀ j : Nat, j < n → i ≤ j → p j = true)
theorem allFrom_end (p : Nat → Bool) (n : Nat) : allFrom p n n = true := decide_eq_true (fun j h1 h2 => absurd h1 (by omega))
theorem allFrom_step (p : Nat → Bool) (n i : Nat) (h : i < n) : allFrom p n i = (p i && allFrom p n (i + 1)) := by
  rw [Bool.eq_iff_iff]
  simp only [allFrom, decide_eq_true_eq, Bool.and_eq_true]
  constructor
  · intro h2
    exact ⟨h2 i h (Nat.le_refl _), fun j h3 h4 => h2 j h3 (by omega)⟩
  · rintro ⟨h2, h3⟩ j h5 h4
    by_cases e : j = i
    · rw [e]; exact h2
    · exact h3 j h5 (by omega)
def nameSign (b : Int) : Bool := decide ((97 ≤ b ∧ b ≤ 122) ∨ (48 ≤ b ∧ b ≤ 57) ∨ b = 45)
def nameAt (s : ByteArray) (j : Nat) : Bool := nameSign (bt s (j : Int)) || decide (bt s (j : Int) = 58 ∧ j = 0)
def valueAt (s : ByteArray) (j : Nat) : Bool := decide (32 ≤ bt s (j : Int) ∧ bt s (j : Int) ≤ 126)
def nameOk (s : ByteArray) : Bool := allFrom (nameAt s) s.size 0 && decide (1 ≤ (s.size : Int) ∧ (s.size : Int) ≤ 100)
def valueOk (s : ByteArray) : Bool := allFrom (valueAt s) s.size 0 && decide ((s.size : Int) ≤ 100)
theorem name_loop (s : ByteArray) (hs : s.size ≤ 4611686018427387904) : ∀ d i : Nat, i + d = s.size → Ev (fun k => spec_l15Name.l0 k s (i : Int)) (allFrom (nameAt s) s.size i && decide (1 ≤ (s.size : Int) ∧ (s.size : Int) ≤ 100)) := by
  intro d
  induction d with
  | zero =>
    intro i hi
    obtain rfl : i = s.size := by omega
    refine Ev.step (f := fun _ => some (decide (1 ≤ (s.size : Int) ∧ (s.size : Int) ≤ 100))) (fun k => ?_) ?_
    · simp only [spec_l15Name.l0, Int.lt_irrefl, if_false, l1In_eq, Option.bind_some]
    · rw [allFrom_end, Bool.true_and]
      exact Ev.now _
  | succ d ih =>
    intro i hi
    have h1 : (i : Int) < (s.size : Int) := by omega
    have h2 : (0 : Int) ≤ (i : Int) := by omega
    have hr := bt_range s (i : Int)
    have hw : wrap64 ((i : Int) + 1) = ((i + 1 : Nat) : Int) := by unfold wrap64; omega
    refine Ev.step (f := fun k => spec_l15Name.j1 k s (i : Int) (!nameAt s i)) (fun k => ?_) ?_
    · simp only [spec_l15Name.l0, h1, h2, if_true]
      unfold nameAt nameSign
      generalize bt s (i : Int) = b at hr ⊢
      have e0 : ((i : Int) == 0) = decide (i = 0) := by
        by_cases h : i = 0
        · subst h; rfl
        · rw [decide_eq_false h]; simp; omega
      by_cases e : (97 ≤ b ∧ b ≤ 122) ∨ (48 ≤ b ∧ b ≤ 57) ∨ b = 45
      · rw [decide_eq_true e, Bool.true_or]
        by_cases a1 : b ≥ 97
        · rw [if_pos a1, if_pos (show b ≤ 122 by omega)]
        · rw [if_neg a1]
          by_cases a3 : b ≥ 48
          · rw [if_pos a3, if_pos (show b ≤ 57 by omega)]
          · rw [if_neg a3, if_pos (show b = 45 by omega)]
      · rw [decide_eq_false e, Bool.false_or]
        have a5 : ¬ b = 45 := by omega
        by_cases a6 : b = 58
        · have e2 : decide (b = 58 ∧ i = 0) = decide (i = 0) := by simp [a6]
          rw [e2, e0, if_neg (show ¬ b ≥ 97 by omega), if_pos (show b ≥ 48 by omega), if_neg (show ¬ b ≤ 57 by omega), if_neg a5, if_pos a6]
        · have e2 : decide (b = 58 ∧ i = 0) = false := decide_eq_false (fun h => a6 h.1)
          rw [e2]
          by_cases a1 : b ≥ 97
          · rw [if_pos a1, if_neg (show ¬ b ≤ 122 by omega), if_pos (show b ≥ 48 by omega), if_neg (show ¬ b ≤ 57 by omega), if_neg a5, if_neg a6]
          · rw [if_neg a1]
            by_cases a3 : b ≥ 48
            · rw [if_pos a3, if_neg (show ¬ b ≤ 57 by omega), if_neg a5, if_neg a6]
            · rw [if_neg a3, if_neg a5, if_neg a6]
    · rw [allFrom_step _ _ _ (by omega)]
      cases nameAt s i with
      | false =>
        refine Ev.step (f := fun _ => some false) (fun k => ?_) (Ev.now _)
        simp only [spec_l15Name.j1, Bool.not_false, if_true]
      | true =>
        refine Ev.step (f := fun k => spec_l15Name.l0 k s ((i + 1 : Nat) : Int)) (fun k => ?_) ?_
        · simp only [spec_l15Name.j1, Bool.not_true, Bool.false_eq_true, if_false, hw]
        · rw [Bool.true_and]
          exact ih (i + 1) (by omega)
theorem specName_ev (s : ByteArray) (hs : s.size ≤ 4611686018427387904) : Ev (fun k => spec_l15Name.f k s) (nameOk s) := name_loop s hs s.size 0 (by omega)
theorem value_loop (s : ByteArray) (hs : s.size ≤ 4611686018427387904) : ∀ d i : Nat, i + d = s.size → Ev (fun k => spec_l15Value.l0 k s (i : Int)) (allFrom (valueAt s) s.size i && decide ((s.size : Int) ≤ 100)) := by
  intro d
  induction d with
  | zero =>
    intro i hi
    obtain rfl : i = s.size := by omega
    refine Ev.step (f := fun _ => some (decide ((s.size : Int) ≤ 100))) (fun k => ?_) ?_
    · simp only [spec_l15Value.l0, Int.lt_irrefl, if_false]
    · rw [allFrom_end, Bool.true_and]
      exact Ev.now _
  | succ d ih =>
    intro i hi
    have h1 : (i : Int) < (s.size : Int) := by omega
    have h2 : (0 : Int) ≤ (i : Int) := by omega
    have hw : wrap64 ((i : Int) + 1) = ((i + 1 : Nat) : Int) := by unfold wrap64; omega
    rw [allFrom_step _ _ _ (by omega)]
    by_cases e : 32 ≤ bt s (i : Int) ∧ bt s (i : Int) ≤ 126
    · have e1 : valueAt s i = true := decide_eq_true e
      refine Ev.step (f := fun k => spec_l15Value.l0 k s ((i + 1 : Nat) : Int)) (fun k => ?_) ?_
      · simp only [spec_l15Value.l0, h1, h2, if_true, show ¬ bt s (i : Int) < 32 by omega, show ¬ bt s (i : Int) > 126 by omega, if_false, hw]
      · rw [e1, Bool.true_and]
        exact ih (i + 1) (by omega)
    · have e1 : valueAt s i = false := decide_eq_false e
      refine Ev.step (f := fun k => some false) (fun k => ?_) ?_
      · simp only [spec_l15Value.l0, h1, h2, if_true]
        by_cases e2 : bt s (i : Int) < 32
        · rw [if_pos e2]
        · rw [if_neg e2, if_pos (by omega)]
      · rw [e1, Bool.false_and]
        exact Ev.now _
theorem specValue_ev (s : ByteArray) (hs : s.size ≤ 4611686018427387904) : Ev (fun k => spec_l15Value.f k s) (valueOk s) := value_loop s hs s.size 0 (by omega)
def fieldOk (x : S65) : Bool := nameOk x.f0 && valueOk x.f1
def fieldsOk (l : List S65) : Bool := decide ((l.length : Int) ≤ 30) && !(l.any fun x => !fieldOk x)
theorem specFields_loop (l : List S65) : ∀ (r p : List S65), (p ++ r).length ≤ 4611686018427387904 → (∀ x, x ∈ r → x.f0.size ≤ 140737488351232 ∧ x.f1.size ≤ 140737488351232) →
    Ev (fun k => spec_GoodFields.l0 k l (p ++ r) ((p ++ r).length : Int) (p.length : Int)) (decide ((l.length : Int) ≤ 30) && !(r.any fun x => !fieldOk x))
  | [], p, _, _ => by
    refine LoopK.Ev.succ ?_
    simp only [spec_GoodFields.l0, List.append_nil, at_stop, if_false, List.any_nil, Bool.not_false, Bool.and_true]
    exact Ev.now _
  | x :: r, p, hB, hx => by
    refine LoopK.Ev.succ ?_
    have e1 := at_w p x r (by omega)
    have hx0 := hx x (by simp)
    simp only [spec_GoodFields.l0, at_lt, at_nn, if_true, rd_T65, at_getD, e1, List.any_cons]
    refine LoopK.Ev.bind_ (specName_ev _ (by omega)) ?_
    unfold fieldOk
    cases h1 : nameOk x.f0 with
    | false =>
      simp only [Bool.false_eq_true, if_false, Bool.false_and, Bool.not_false, Bool.true_or, Bool.not_true, Bool.and_false]
      exact Ev.now _
    | true =>
      simp only [if_true, Bool.true_and]
      refine LoopK.Ev.bind_ (specValue_ev _ (by omega)) ?_
      cases h2 : valueOk x.f1 with
      | false =>
        simp only [Bool.false_eq_true, if_false, Bool.not_false, Bool.true_or, Bool.not_true, Bool.and_false]
        exact Ev.now _
      | true =>
        simp only [if_true, Bool.not_true, Bool.false_or]
        have ih := specFields_loop l r (p ++ [x]) (by simpa using hB) (fun y hy => hx y (by simp [hy]))
        rw [← at_snoc, len_snoc p x] at ih
        exact ih
theorem specFields_ev (l : List S65) (hl : l.length ≤ 4611686018427387904) (hx : ∀ x, x ∈ l → x.f0.size ≤ 140737488351232 ∧ x.f1.size ≤ 140737488351232) : Ev (fun k => spec_GoodFields.f k l) (fieldsOk l) := by
  have h := specFields_loop l l [] (by simpa using hl) hx
  simp only [List.nil_append] at h
  exact h
/-- The signs of a field's name. -/
def nameSigns : ByteArray := ⟨#[97, 98, 99, 100, 101, 102, 103, 104, 105, 106, 107, 108, 109, 110, 111, 112, 113, 114, 115, 116, 117, 118, 119, 120, 121, 122, 48, 49, 50, 51, 52, 53, 54, 55, 56, 57, 45]⟩
theorem signs_all : ∀ n : Fin 256, nameSigns.data.toList.contains (UInt8.ofNat (n : Nat)) = nameSign ((n : Nat) : Int) := by decide +kernel
theorem signs_eq (x : UInt8) : nameSigns.data.toList.contains x = nameSign (x.toNat : Int) := by
  have h := signs_all ⟨x.toNat, x.toNat_lt⟩
  simpa using h
theorem bt_nat (s : ByteArray) (j : Nat) (h : j < s.size) : bt s (j : Int) = ((s.data[j]'h).toNat : Int) := by
  unfold bt
  rw [dif_pos (show (j : Int).toNat < s.size by simpa using h)]
  rfl
theorem over_eq (s : ByteArray) (hs : s.size ≤ 9223372036854775807) : impl_over.f s nameSigns = some (allFrom (fun j => nameSign (bt s (j : Int))) s.size 0) := by
  unfold impl_over.f TrimLaid.overF
  rw [if_pos ⟨hs, by decide, by decide⟩]
  congr 1
  unfold TrimLaid.overAll
  rw [Bool.eq_iff_iff, List.all_eq_true]
  simp only [allFrom, decide_eq_true_eq, signs_eq]
  constructor
  · intro h j hj _
    rw [bt_nat s j hj]
    exact h _ (by simp)
  · intro h x hx
    obtain ⟨j, hj, rfl⟩ := List.mem_iff_getElem.1 hx
    have hj2 : j < s.size := by simpa using hj
    have := h j hj2 (Nat.zero_le _)
    rw [bt_nat s j hj2] at this
    simpa using this
theorem bt_tail (s : ByteArray) (j : Nat) (h : j + 1 < s.size) : bt (s.extract 1 s.size) (j : Int) = bt s ((j + 1 : Nat) : Int) := by
  have hs : (s.extract 1 s.size).size = s.size - 1 := by simp
  rw [bt_nat s (j + 1) h, bt_nat _ j (by rw [hs]; omega)]
  have e : (s.extract 1 s.size).data = s.data.extract 1 s.size := by simp
  simp only [e, Array.getElem_extract, Nat.add_comm 1 j]
/-- A name's bytes, as the program goes over them. -/
theorem name_over (s : ByteArray) (h0 : 1 ≤ s.size ∧ s.size ≤ 100) : ∀ k, (if 0 < (s.size : Int) then (if (bt s 0) = 58 then (if 1 ≤ (s.size : Int) then (impl_goodField.j2 (k + 1) (s.extract 1 s.size)) else (none)) else (impl_goodField.j2 (k + 1) s)) else (none)) = some (allFrom (nameAt s) s.size 0) := by
  intro k
  rw [if_pos (show 0 < (s.size : Int) by omega), if_pos (show 1 ≤ (s.size : Int) by omega)]
  by_cases h : bt s 0 = 58
  · rw [if_pos h]
    have hs : (s.extract 1 s.size).size = s.size - 1 := by simp
    show (impl_over.f (s.extract 1 s.size) nameSigns).bind _ = _
    rw [over_eq _ (by rw [hs]; omega), Option.bind_some]
    congr 1
    rw [Bool.eq_iff_iff]
    simp only [allFrom, decide_eq_true_eq, hs]
    constructor
    · intro h1 j hj _
      unfold nameAt
      cases j with
      | zero => simp [h]
      | succ j =>
        have := h1 j (by omega) (Nat.zero_le _)
        rw [bt_tail s j (by omega)] at this
        rw [this, Bool.true_or]
    · intro h1 j hj _
      have := h1 (j + 1) (by omega) (Nat.zero_le _)
      rw [bt_tail s j (by omega)]
      unfold nameAt at this
      simpa using this
  · rw [if_neg h]
    show (impl_over.f s nameSigns).bind _ = _
    rw [over_eq _ (by omega), Option.bind_some]
    congr 1
    rw [Bool.eq_iff_iff]
    simp only [allFrom, decide_eq_true_eq]
    constructor
    · intro h1 j hj h2
      unfold nameAt
      rw [h1 j hj h2, Bool.true_or]
    · intro h1 j hj h2
      have := h1 j hj h2
      unfold nameAt at this
      rw [Bool.or_eq_true] at this
      rcases this with h3 | h3
      · exact h3
      · obtain ⟨h4, h5⟩ := of_decide_eq_true h3
        subst h5
        exact absurd h4 h
theorem goodField_loop (a b : ByteArray) (ha : 1 ≤ a.size ∧ a.size ≤ 100) (hb : b.size ≤ 100) : ∀ d i : Nat, i + d = b.size → Ev (fun k => impl_goodField.l0 k (b.size : Int) (i : Int) a b) (allFrom (valueAt b) b.size i && allFrom (nameAt a) a.size 0) := by
  intro d
  induction d with
  | zero =>
    intro i hi
    obtain rfl : i = b.size := by omega
    refine LoopK.Ev.succ (LoopK.Ev.succ ?_)
    rw [allFrom_end, Bool.true_and]
    simp only [impl_goodField.l0, Int.lt_irrefl, if_false]
    refine LoopK.Ev.eq_ (fun k => name_over a ha k)
  | succ d ih =>
    intro i hi
    have h1 : (i : Int) < (b.size : Int) := by omega
    have h2 : (0 : Int) ≤ (i : Int) := by omega
    have hr := bt_range b (i : Int)
    have hw : wrap64 ((i : Int) + 1) = ((i + 1 : Nat) : Int) := by unfold wrap64; omega
    have hw2 : wrap64 (bt b (i : Int)) = bt b (i : Int) := by unfold wrap64; omega
    rw [allFrom_step _ _ _ (by omega)]
    refine LoopK.Ev.succ ?_
    have e0 : decide (32 ≤ bt b (i : Int) ∧ bt b (i : Int) ≤ 126) = valueAt b i := rfl
    simp only [impl_goodField.l0, h1, h2, if_true, hw2, in_eq, Option.bind_some, e0, hw]
    cases valueAt b i with
    | false =>
      simp only [Bool.false_eq_true, if_false, Bool.false_and]
      exact Ev.now _
    | true =>
      simp only [if_true, Bool.true_and]
      exact ih (i + 1) (by omega)
theorem goodField_ev (x : S65) : Ev (fun k => impl_goodField.f k x.f0 x.f1) (fieldOk x) := by
  unfold impl_goodField.f fieldOk nameOk valueOk
  simp only [in_eq, Option.bind_some, decide_eq_true_eq]
  by_cases h1 : 1 ≤ (x.f0.size : Int) ∧ (x.f0.size : Int) ≤ 100
  · simp only [h1, and_self, if_true, decide_true, Bool.and_true]
    refine LoopK.Ev.succ ?_
    simp only [impl_goodField.j0]
    by_cases h2 : (x.f1.size : Int) > 100
    · have h3 : ¬ ((x.f1.size : Int) ≤ 100) := by omega
      simp only [h2, h3, decide_true, decide_false, if_true, Bool.and_false]
      exact Ev.now _
    · have h3 : (x.f1.size : Int) ≤ 100 := by omega
      simp only [h2, h3, decide_true, decide_false, Bool.false_eq_true, if_false, Bool.and_true]
      rw [Bool.and_comm]
      exact goodField_loop x.f0 x.f1 (by omega) (by omega) x.f1.size 0 (by omega)
  · simp only [h1, if_false, decide_false, Bool.and_false, Bool.false_and]
    refine LoopK.Ev.succ ?_
    simp only [impl_goodField.j0, if_true]
    exact Ev.now _
theorem goodFieldsP_ev (x : S65) : Ev (fun k => GoodFieldsP k x) (!fieldOk x) := by
  unfold GoodFieldsP impl_GoodFields_1.f
  exact LoopK.Ev.bind_ (goodField_ev x) (Ev.now _)
/-- Rounds enough for every element of a list. -/
theorem rounds_all {α : Type} (P : Nat → α → Option Bool) (p : α → Bool) (h : ∀ x, Ev (fun k => P k x) (p x)) : ∀ l : List α, ∃ K, ∀ k, K ≤ k → ∀ x, x ∈ l → P k x = some (p x)
  | [] => ⟨0, fun _ _ x hx => by simp at hx⟩
  | x :: l => by
    obtain ⟨K1, h1⟩ := h x
    obtain ⟨K2, h2⟩ := rounds_all P p h l
    refine ⟨K1 + K2, fun k hk y hy => ?_⟩
    rcases List.mem_cons.1 hy with rfl | hy
    · exact h1 k (by omega)
    · exact h2 k (by omega) y hy
theorem implFields_ev (l : List S65) : Ev (fun k => impl_GoodFields.f k l) (fieldsOk l) := by
  obtain ⟨K, hK⟩ := rounds_all GoodFieldsP (fun x => !fieldOk x) goodFieldsP_ev l
  refine ⟨K, fun k hk => ?_⟩
  have h := hK k hk
  show impl_GoodFields.f k l = some (fieldsOk l)
  unfold impl_GoodFields.f fieldsOk
  rw [if_pos (List.all_eq_true.2 (fun x hx => by rw [h x hx]; rfl))]
  congr 3
  rw [Bool.eq_iff_iff, List.any_eq_true, List.any_eq_true]
  exact ⟨fun ⟨x, hx, h2⟩ => ⟨x, hx, by rw [h x hx] at h2; exact h2⟩, fun ⟨x, hx, h2⟩ => ⟨x, hx, by rw [h x hx]; exact h2⟩⟩

open Go.Proofs.YtilkginahmfagaaDoor.IdxK (idxF idxFrom)
/-- Is a field the one that is asked for? -/
def fldE (a b : ByteArray) (g : S65) : Bool := g.f0.toList == a.toList && (g.f1.toList == b.toList)
/-- Has it the name? -/
def fldN (a : ByteArray) (g : S65) : Bool := g.f0.toList == a.toList
theorem fldE_comm (a b : ByteArray) (g : S65) : (a.toList == g.f0.toList && (b.toList == g.f1.toList)) = fldE a b g := by
  unfold fldE
  rw [BEq.comm (a := a.toList), BEq.comm (a := b.toList)]
theorem index_loop (a b : ByteArray) : ∀ (r p : List S65), (p ++ r).length ≤ 1000000 → Ev (fun k => impl_Field_136.l0 k (p ++ r) ((p ++ r).length : Int) (p.length : Int) a b) (idxFrom (fldE a b) r p.length)
  | [], p, _ => by
    refine LoopK.Ev.succ ?_
    simp only [impl_Field_136.l0, List.append_nil, at_stop, if_false]
    exact Ev.now _
  | x :: r, p, hB => by
    refine LoopK.Ev.succ ?_
    have e1 := at_w p x r (by omega)
    simp only [impl_Field_136.l0, at_lt, at_nn, if_true, rd_T65, at_getD, e1, fldE_comm, idxFrom]
    by_cases h : fldE a b x = true
    · simp only [h, if_true]
      exact Ev.now _
    · simp only [h, if_false]
      have ih := index_loop a b r (p ++ [x]) (by simpa using hB)
      rw [← at_snoc, len_snoc p x] at ih
      simpa using ih
theorem specAt_loop (a b : ByteArray) : ∀ (r p : List S65) (e n : Int), (p ++ r).length ≤ 1000000 → (e = -1 ∨ 0 ≤ e) → (n = -1 ∨ 0 ≤ n) →
    Ev (fun k => spec_l15At.l0 k e n (p ++ r) ((p ++ r).length : Int) (p.length : Int) a b) (if e < 0 then idxFrom (fldE a b) r p.length else e, if n < 0 then idxFrom (fldN a) r p.length else n)
  | [], p, e, n, _, he, hn => by
    refine LoopK.Ev.succ ?_
    simp only [spec_l15At.l0, List.append_nil, at_stop, if_false, idxFrom]
    refine LoopK.Ev.to (Ev.now _) ?_
    congr 1
    · split <;> omega
    · split <;> omega
  | x :: r, p, e, n, hB, he, hn => by
    have e1 := at_w p x r (by omega)
    have step2 : ∀ e' : Int, (e' = -1 ∨ 0 ≤ e') → Ev (fun k => spec_l15At.j2 k e' n (p.length : Int) (p ++ x :: r) ((p ++ x :: r).length : Int) (p.length : Int) a b x.f0 x.f1) (if e' < 0 then idxFrom (fldE a b) r (p.length + 1) else e', if n < 0 then idxFrom (fldN a) (x :: r) p.length else n) := by
      intro e' he'
      refine LoopK.Ev.succ ?_
      simp only [spec_l15At.j2, e1]
      by_cases h1 : n < 0
      · simp only [h1, if_true, idxFrom]
        by_cases h2 : x.f0.toList = a.toList
        · have h3 : fldN a x = true := by unfold fldN; rw [h2]; simp
          simp only [h2, if_true, h3]
          have ih := specAt_loop a b r (p ++ [x]) e' (p.length : Int) (by simpa using hB) he' (Or.inr (by omega))
          rw [← at_snoc, len_snoc p x] at ih
          have h4 : ¬ ((p.length : Int) < 0) := by omega
          simp only [h4, if_false] at ih
          simpa using ih
        · have h3 : ¬ (fldN a x = true) := by unfold fldN; simpa using h2
          simp only [h2, if_false, h3]
          have ih := specAt_loop a b r (p ++ [x]) e' n (by simpa using hB) he' hn
          rw [← at_snoc, len_snoc p x] at ih
          simp only [h1, if_true] at ih
          simpa using ih
      · simp only [h1, if_false]
        have ih := specAt_loop a b r (p ++ [x]) e' n (by simpa using hB) he' hn
        rw [← at_snoc, len_snoc p x] at ih
        simp only [h1, if_false] at ih
        simpa using ih
    refine LoopK.Ev.succ ?_
    simp only [spec_l15At.l0, at_lt, at_nn, if_true, rd_T65, at_getD]
    have hE : (x.f0.toList == a.toList && (x.f1.toList == b.toList)) = fldE a b x := rfl
    by_cases h1 : e < 0
    · simp only [h1, if_true, hE]
      refine LoopK.Ev.succ ?_
      simp only [spec_l15At.j1]
      by_cases h2 : fldE a b x = true
      · have h4 : ¬ ((p.length : Int) < 0) := by omega
        have h5 : idxFrom (fldE a b) (x :: r) p.length = (p.length : Int) := by simp only [idxFrom, h2, if_true]
        have s := step2 (p.length : Int) (Or.inr (by omega))
        simp only [h4, if_false] at s
        rw [h5]
        simp only [h2, if_true]
        exact s
      · have h5 : idxFrom (fldE a b) (x :: r) p.length = idxFrom (fldE a b) r (p.length + 1) := by simp only [idxFrom, h2, Bool.false_eq_true, if_false]
        have s := step2 e he
        simp only [h1, if_true] at s
        rw [h5]
        simp only [h2, if_false]
        exact s
    · simp only [h1, if_false]
      refine LoopK.Ev.succ ?_
      simp only [spec_l15At.j1, Bool.false_eq_true, if_false]
      have s := step2 e he
      simp only [h1, if_false] at s
      exact s
/-- Both places of a field. -/
theorem idxFrom_in {S : Type} (p : S → Bool) : ∀ (l : List S) (i : Nat), -1 ≤ idxFrom p l i ∧ idxFrom p l i < ((i + l.length : Nat) : Int)
  | [], i => by simp only [idxFrom, List.length_nil]; omega
  | x :: r, i => by
    have ih := idxFrom_in p r (i + 1)
    simp only [idxFrom, List.length_cons]
    split
    · omega
    · omega
theorem l15At_ev (a b : ByteArray) : ∃ v : Int × Int, Ev (fun k => spec_l15At.f k a b) v ∧ Ev (fun k => impl_StaticAt.f k a b) v ∧ v.1 ≤ 1000 ∧ v.2 ≤ 1000 := by
  obtain ⟨l, hl, hlen⟩ : ∃ l, spec_l15Static.f = some l ∧ l.length ≤ 1000 := ⟨_, rfl, by decide⟩
  have hi : impl_static.f = some l := hl
  have b1 := idxFrom_in (fldE a b) l 0
  have b2 := idxFrom_in (fldN a) l 0
  refine ⟨(idxF (fldE a b) l, idxF (fldN a) l), ?_, ?_, ?_, ?_⟩
  · unfold spec_l15At.f
    simp only [hl, Option.bind_some]
    have h := specAt_loop a b l [] (-1) (-1) (by simp; omega) (Or.inl rfl) (Or.inl rfl)
    simp only [show ((-1 : Int) < 0) by omega, if_true, List.nil_append, List.length_nil] at h
    exact h
  · unfold impl_StaticAt.f impl_Field_136.f
    simp only [hi, Option.bind_some]
    have h := index_loop a b l [] (by simp; omega)
    simp only [List.nil_append, List.length_nil] at h
    exact LoopK.Ev.bind_ h (Ev.now _)
  · show idxFrom (fldE a b) l 0 ≤ 1000
    omega
  · show idxFrom (fldN a) l 0 ≤ 1000
    omega

/-- So many bytes of a number, the highest one first. -/
def be : Int → Nat → List Int
  | _, 0 => []
  | n, m + 1 => be (n / 256) m ++ [n % 256]
theorem be_length : ∀ (m : Nat) (n : Int), (be n m).length = m
  | 0, _ => rfl
  | m + 1, n => by simp [be, be_length m]
theorem pow256 (m : Nat) : (0 : Int) < 256 ^ m := Int.pow_pos (by decide)
theorem be_cons : ∀ (m : Nat) (n : Int), be n (m + 1) = (n / 256 ^ m % 256) :: be n m
  | 0, n => by simp [be]
  | m + 1, n => by
    have e : n / 256 / 256 ^ m = n / 256 ^ (m + 1) := by
      rw [Int.ediv_ediv_of_nonneg (by decide), Int.pow_succ, Int.mul_comm]
    rw [be, be_cons m (n / 256), e]
    simp [be]
theorem be_mod : ∀ (m : Nat) (n q : Int), be (n + 256 ^ m * q) m = be n m
  | 0, _, _ => rfl
  | m + 1, n, q => by
    have e1 : n + 256 ^ (m + 1) * q = n + 256 * (256 ^ m * q) := by rw [Int.pow_succ, Int.mul_comm (256 ^ m) 256, Int.mul_assoc]
    have e2 : (n + 256 * (256 ^ m * q)) / 256 = n / 256 + 256 ^ m * q := by omega
    have e3 : (n + 256 * (256 ^ m * q)) % 256 = n % 256 := by omega
    rw [be, e1, e2, e3, be_mod m]
    rfl
theorem strOfNums_size (l : List Int) : (strOfNums l).size = l.length := by simp [strOfNums, ByteArray.size]
theorem strOfNums_toList (l : List Int) : (strOfNums l).toList = l.map fun n => UInt8.ofNat n.toNat := by
  rw [ByteArray.toList_eq]
  simp [strOfNums]
theorem strOfNums_append (a b : List Int) : strOfNums a ++ strOfNums b = strOfNums (a ++ b) := by
  apply ByteArray.ext
  simp [strOfNums]
theorem shr8 (x : Int) (i : Nat) (hi : 8 * i ≤ 9223372036854775807) (hx : 0 ≤ x ∧ x < 18446744073709551616) : shr .u64 x (8 * (i : Int)) = x / 256 ^ i ∧ shr .i64 x (8 * (i : Int)) = x / 256 ^ i := by
  have hp : (256 : Int) ^ i = 2 ^ (8 * i) := by rw [Int.pow_mul]; rfl
  have e : (8 * (i : Int)).toNat = 8 * i := by omega
  have key : x / 2 ^ min (8 * i) 64 = x / 256 ^ i := by
    rcases Nat.lt_or_ge (8 * i) 64 with h | h
    · rw [hp, Nat.min_eq_left (by omega)]
    · rw [Nat.min_eq_right h, hp]
      have h1 : (2 : Int) ^ 64 ≤ 2 ^ (8 * i) := by exact_mod_cast Nat.pow_le_pow_right (by decide) h
      rw [Int.ediv_eq_zero_of_lt hx.1 (by omega), Int.ediv_eq_zero_of_lt hx.1 (by omega)]
  unfold shr
  rw [e]
  exact ⟨key, key⟩
theorem l1Fixed_loop (x : Int) (hx : 0 ≤ x ∧ x < 18446744073709551616) : ∀ (m : Nat) (out : List Int), m ≤ 1000 → out.length + m ≤ 100000 → Ev (fun k => spec_l1Fixed.l0 k x out ((m : Int) - 1)) (strOfNums (out ++ be x m))
  | 0, out, _, _ => by
    refine LoopK.Ev.succ ?_
    have c : ¬ (((0 : Nat) : Int) - 1 ≥ 0) := by omega
    simp only [spec_l1Fixed.l0, c, if_false, be, List.append_nil]
    exact Ev.now _
  | m + 1, out, hm, ho => by
    refine LoopK.Ev.succ ?_
    have e0 : ((m + 1 : Nat) : Int) - 1 = (m : Int) := by omega
    have c : (m : Int) ≥ 0 := by omega
    have w0 : wrap64 (8 * (m : Int)) = 8 * (m : Int) := w64 _ (by omega)
    have w1 : IntKind.u64.wrap (8 * (m : Int)) = 8 * (m : Int) := by
      simp [IntKind.wrap, IntKind.bits, IntKind.signed]
      omega
    have c1 : 0 ≤ 8 * (m : Int) := by omega
    have c2 : out.length < 140737488355328 := by omega
    have w2 : wrap64 ((m : Int) - 1) = (m : Int) - 1 := w64 _ (by omega)
    rw [e0]
    simp only [spec_l1Fixed.l0, c, if_true, w0, w1, c1, c2, w2, (shr8 x m (by omega) hx).2]
    refine LoopK.Ev.to (l1Fixed_loop x hx m _ (by omega) (by simp; omega)) ?_
    rw [be_cons, List.append_assoc]
    rfl
theorem l1Fixed_ev (x : Int) (hx : 0 ≤ x ∧ x < 18446744073709551616) (m : Nat) (hm : m ≤ 1000) : Ev (fun k => spec_l1Fixed.f k x (m : Int)) (strOfNums (be x m)) := by
  unfold spec_l1Fixed.f
  have w : wrap64 ((m : Int) - 1) = (m : Int) - 1 := w64 _ (by omega)
  simp only [w]
  simpa using l1Fixed_loop x hx m [] hm (by simp; omega)
theorem bigEndian_loop : ∀ (m : Nat) (x : Int) (tail : List Int), m ≤ 1000 → tail.length + m ≤ 100000 → Ev (fun k => impl_bigEndian.l0 k x (List.replicate m 0 ++ tail) ((m : Int) - 1)) (strOfNums (be x m ++ tail))
  | 0, x, tail, _, _ => by
    refine LoopK.Ev.succ ?_
    have c : ¬ (((0 : Nat) : Int) - 1 ≥ 0) := by omega
    simp only [impl_bigEndian.l0, c, if_false, be, List.replicate_zero, List.nil_append]
    exact Ev.now _
  | m + 1, x, tail, hm, ht => by
    refine LoopK.Ev.succ ?_
    have e0 : ((m + 1 : Nat) : Int) - 1 = (m : Int) := by omega
    have c : (m : Int) ≥ 0 := by omega
    have c1 : 0 ≤ (m : Int) := by omega
    have c2 : (m : Int) < ((List.replicate (m + 1) (0 : Int) ++ tail).length : Int) := by
      rw [List.length_append, List.length_replicate]
      omega
    have w2 : wrap64 ((m : Int) - 1) = (m : Int) - 1 := w64 _ (by omega)
    have e1 : (List.replicate (m + 1) (0 : Int) ++ tail).set (m : Int).toNat (x % 256) = List.replicate m 0 ++ (x % 256 :: tail) := by
      rw [List.replicate_succ', List.append_assoc]
      have : (m : Int).toNat = (List.replicate m (0 : Int)).length := by simp
      rw [this, List.set_append_right _ _ (Nat.le_refl _)]
      simp
    rw [e0]
    simp only [impl_bigEndian.l0, c, if_true, c1, c2, w2, e1]
    refine LoopK.Ev.to (bigEndian_loop m (x / 256) (x % 256 :: tail) (by omega) (by rw [List.length_cons]; omega)) ?_
    simp [be]
theorem bigEndian_ev (x : Int) (m : Nat) (hm : m ≤ 1000) : Ev (fun k => impl_bigEndian.f k x (m : Int)) (strOfNums (be x m)) := by
  unfold impl_bigEndian.f
  have c1 : 0 ≤ (m : Int) := by omega
  have c2 : (m : Int).toNat = m := by omega
  have c3 : m ≤ 281474976710656 := by omega
  have w : wrap64 ((m : Int) - 1) = (m : Int) - 1 := w64 _ (by omega)
  simp only [c1, if_true, c2, c3, w]
  simpa using bigEndian_loop m x [] hm (by simp; omega)

theorem u64_id (n : Int) (h0 : 0 ≤ n) (h : n ≤ 9223372036854775807) : IntKind.u64.wrap n = n := by
  simp [IntKind.wrap, IntKind.bits, IntKind.signed]
  omega

theorem i64w (n : Int) (h0 : 0 ≤ n) (h1 : n < 2 ^ 32) : IntKind.i64.wrap n = n := by rw [IntKind.wrap_i64]; omega
theorem bor_comm (k : IntKind) (x y : Int) : Go.bits .or k x y = Go.bits .or k y x := by
  unfold Go.bits
  simp only [BitVec.or_comm]
theorem shl_pow (y : Int) (j : Nat) (hy : y = j) (hj : j ≤ 8) : shl .i64 1 y = 2 ^ j := by
  subst hy
  unfold shl
  have e : min (j : Int).toNat IntKind.i64.bits = j := by simp [IntKind.bits]; omega
  rw [e, i64_w, Int.one_mul]
  have h8 : (2 : Int) ^ j ≤ 2 ^ 8 := by exact_mod_cast Nat.pow_le_pow_right (by decide) hj
  have h0 : (0 : Int) < 2 ^ j := Int.pow_pos (by decide)
  unfold wrap64
  omega
theorem prefix_last (n : Int) (s : ByteArray) (h0 : 0 ≤ n) (h1 : n ≤ 127) (h3 : s.size ≤ 1000) : ∃ r, Ev (fun k => spec_l15Prefix.l0 k n s) r ∧ Ev (fun k => impl_prefixed.l0 k n s) r ∧ r.size ≤ s.size + 1 := by
  have hn : ¬ (n > 127) := by omega
  have hn' : ¬ (n ≥ 128) := by omega
  have e5 : IntKind.u64.wrap n = n := u64_id _ (by omega) (by omega)
  have hs : (strOfNums (be n 1)).size = 1 := by rw [strOfNums_size, be_length]
  have c : s.size + (strOfNums (be n 1)).size ≤ 9223372036854775807 := by rw [hs]; omega
  refine ⟨s ++ strOfNums (be n 1), LoopK.Ev.succ ?_, LoopK.Ev.succ ?_, by rw [ByteArray.size_append, hs]; omega⟩
  · simp only [spec_l15Prefix.l0, hn, if_false]
    refine LoopK.Ev.bind_ (l1Fixed_ev _ (by omega) 1 (by omega)) ?_
    simp only [c, if_true]
    exact Ev.now _
  · simp only [impl_prefixed.l0, hn', if_false, e5]
    refine LoopK.Ev.bind_ (bigEndian_ev _ 1 (by omega)) ?_
    simp only [c, if_true]
    exact Ev.now _
/-- What follows the first byte. -/
theorem prefix_loops : ∀ (d : Nat) (n : Int) (s : ByteArray), 0 ≤ n → n ≤ 2000000000 → n < 128 ^ d → s.size + d ≤ 1000 → ∃ r, Ev (fun k => spec_l15Prefix.l0 k n s) r ∧ Ev (fun k => impl_prefixed.l0 k n s) r ∧ r.size ≤ s.size + d + 1 := by
  intro d
  induction d with
  | zero =>
    intro n s h0 h1 h2 h3
    have hz : n = 0 := by
      have : (128 : Int) ^ 0 = 1 := rfl
      omega
    obtain ⟨r, q1, q2, q3⟩ := prefix_last n s (by omega) (by omega) (by omega)
    exact ⟨r, q1, q2, by omega⟩
  | succ d ih =>
    intro n s h0 h1 h2 h3
    by_cases hn : n > 127
    · have hn' : n ≥ 128 := by omega
      have e1 : Go.bits .and .i64 n 127 = n % 128 := bits_mask .i64 32 (by decide) i64w 7 (by decide) n h0 (by omega)
      have e2 : Go.bits .or .i64 (n % 128) 128 = n % 128 + 128 := by
        rw [bor_comm, Int.add_comm]
        exact bits_join .i64 32 (by decide) i64w 7 128 (n % 128) (by decide) (by decide) (by decide) (by omega) (by omega) (by omega)
      have e3 : Int.tmod n 128 = n % 128 := Int.tmod_eq_emod_of_nonneg h0
      have e4 : wrap64 (n % 128 + 128) = n % 128 + 128 := w64 _ (by omega)
      have e5 : IntKind.u64.wrap (n % 128 + 128) = n % 128 + 128 := u64_id _ (by omega) (by omega)
      have e6 : Int.tdiv n 128 = n / 128 := Int.tdiv_eq_ediv_of_nonneg h0
      have e7 : wrap64 (n / 128) = n / 128 := w64 _ (by omega)
      have hlt : n / 128 < 128 ^ d := by
        have : (128 : Int) ^ (d + 1) = 128 ^ d * 128 := by rw [Int.pow_succ]
        omega
      have hs : (strOfNums (be (n % 128 + 128) 1)).size = 1 := by rw [strOfNums_size, be_length]
      obtain ⟨r, hr1, hr2, hr3⟩ := ih (n / 128) (s ++ strOfNums (be (n % 128 + 128) 1)) (by omega) (by omega) hlt (by rw [ByteArray.size_append, hs]; omega)
      have c : s.size + (strOfNums (be (n % 128 + 128) 1)).size ≤ 9223372036854775807 := by rw [hs]; omega
      refine ⟨r, LoopK.Ev.succ ?_, LoopK.Ev.succ ?_, by rw [ByteArray.size_append, hs] at hr3; omega⟩
      · simp only [spec_l15Prefix.l0, hn, if_true, e1, e2]
        refine LoopK.Ev.bind_ (l1Fixed_ev _ (by omega) 1 (by omega)) ?_
        simp only [c, if_true]
        exact hr1
      · simp only [impl_prefixed.l0, hn', if_true, e3, e4, e5, e6, e7]
        refine LoopK.Ev.bind_ (bigEndian_ev _ 1 (by omega)) ?_
        simp only [c, if_true]
        exact hr2
    · obtain ⟨r, q1, q2, q3⟩ := prefix_last n s h0 (by omega) (by omega)
      exact ⟨r, q1, q2, by omega⟩
theorem pow_in (j : Nat) (h : j ≤ 8) : (0 : Int) < 2 ^ j ∧ (2 : Int) ^ j ≤ 256 := by
  refine ⟨Int.pow_pos (by decide), ?_⟩
  have h1 : 2 ^ j ≤ 2 ^ 8 := Nat.pow_le_pow_right (by decide) h
  have e : (2 : Int) ^ j = ((2 ^ j : Nat) : Int) := by simp
  rw [e]
  omega
/-- Both ways to write a number with a prefix. -/
theorem prefixed_ev (n : Int) (j : Nat) (first : Int) (hn : 0 ≤ n ∧ n ≤ 1000000000) (hj : j ≤ 8) (hf : 0 ≤ first ∧ first ≤ 255) (hm : first % 2 ^ j = 0) : ∃ r, Ev (fun k => spec_l15Prefix.f k n (j : Int) first) r ∧ Ev (fun k => impl_prefixed.f k n (j : Int) first) r ∧ r.size ≤ 7 := by
  obtain ⟨p0, p1⟩ := pow_in j hj
  have s1 : shl .i64 1 (j : Int) = 2 ^ j := shl_pow _ j rfl hj
  have u1 : IntKind.u64.wrap (j : Int) = (j : Int) := u64_id _ (by omega) (by omega)
  have w1 : wrap64 ((2 : Int) ^ j - 1) = 2 ^ j - 1 := w64 _ (by omega)
  have c0 : 0 ≤ (j : Int) := by omega
  have hor : ∀ y : Int, 0 ≤ y → y < 2 ^ j → Go.bits .or .i64 first y = first + y := fun y h0 h1 => bits_join .i64 32 (by decide) i64w j first y hf.1 hm (by omega) h0 h1 (by omega)
  unfold spec_l15Prefix.f impl_prefixed.f
  simp only [u1, c0, if_true, s1, w1]
  by_cases hlt : n < 2 ^ j - 1
  · have e1 := hor n hn.1 (by omega)
    have e2 : wrap64 (first + n) = first + n := w64 _ (by omega)
    have e3 : IntKind.u64.wrap (first + n) = first + n := u64_id _ (by omega) (by omega)
    simp only [hlt, if_true, e1, e2, e3]
    exact ⟨_, LoopK.Ev.bind_ (l1Fixed_ev _ (by omega) 1 (by omega)) (Ev.now _), LoopK.Ev.bind_ (bigEndian_ev _ 1 (by omega)) (Ev.now _), by rw [strOfNums_size, be_length]; omega⟩
  · have e1 := hor (2 ^ j - 1) (by omega) (by omega)
    have e2 : wrap64 (first + (2 ^ j - 1)) = first + (2 ^ j - 1) := w64 _ (by omega)
    have e3 : IntKind.u64.wrap (first + (2 ^ j - 1)) = first + (2 ^ j - 1) := u64_id _ (by omega) (by omega)
    have e4 : wrap64 (n - (2 ^ j - 1)) = n - (2 ^ j - 1) := w64 _ (by omega)
    have hs : (strOfNums (be (first + (2 ^ j - 1)) 1)).size = 1 := by rw [strOfNums_size, be_length]
    obtain ⟨r, h1, h2, h3⟩ := prefix_loops 5 (n - (2 ^ j - 1)) (strOfNums (be (first + (2 ^ j - 1)) 1)) (by omega) (by omega) (by omega) (by omega)
    simp only [hlt, if_false, e1, e2, e3, e4]
    exact ⟨r, LoopK.Ev.bind_ (l1Fixed_ev _ (by omega) 1 (by omega)) h1, LoopK.Ev.bind_ (bigEndian_ev _ 1 (by omega)) h2, by omega⟩

theorem and127 (b : Int) (h0 : 0 ≤ b) (h : b ≤ 255) : Go.bits .and .u8 b 127 = b % 128 := bits_mask .u8 8 (by decide) wraps_u8 7 (by decide) b h0 (by omega)
theorem tmod128 (b : Int) (h0 : 0 ≤ b) : Int.tmod b 128 = b % 128 := by rw [Int.tmod_eq_emod_of_nonneg h0]
/-- What is over the limit is refused, however it goes on. -/
theorem tp_over_step (s : ByteArray) (hd : Int) (i p n : Int) (k : Nat) (hi : 1 ≤ i ∧ i ≤ 5) (hs : wrap64 (7 * wrap64 (i - 1)) = 7 * (i - 1)) (hp : ∀ x, shl .i64 x (7 * (i - 1)) = wrap64 (x * p)) (p1 : 1 ≤ p) (pm : p ≤ 268435456)
    (h0 : 1000000000 < n) (h1 : n ≤ 34359738368) (next : ∀ m, 1000000000 < m → m ≤ n + 127 * p → impl_TakePrefix.l0 k s m hd (i + 1) = some (0, 0, 0)) : impl_TakePrefix.l0 (k + 2) s n hd i = some (0, 0, 0) := by
  obtain ⟨b0, b1⟩ := bt_range s i
  simp only [impl_TakePrefix.l0, impl_TakePrefix.j2]
  rw [hs]
  simp only [hp, tmod128 _ b0]
  have q0 : 0 ≤ bt s i % 128 := by omega
  have q1 : bt s i % 128 ≤ 127 := by omega
  generalize bt s i % 128 = q at q0 q1
  have m0 : 0 ≤ q * p := Int.mul_nonneg q0 (by omega)
  have m1 : q * p ≤ 127 * p := Int.mul_le_mul_of_nonneg_right q1 (by omega)
  have e1 : wrap64 q = q := w64 _ (by omega)
  have e2 : wrap64 (q * p) = q * p := w64 _ (by omega)
  have e3 : wrap64 (n + q * p) = n + q * p := w64 _ (by omega)
  have e4 : wrap64 (i + 1) = i + 1 := w64 _ (by omega)
  rw [e1, e2, e3, e4]
  have c1 : 0 ≤ i := by omega
  have c2 : 0 ≤ 7 * (i - 1) := by omega
  have c3 : i ≤ 5 := hi.2
  by_cases hlt : i < (s.size : Int)
  · simp only [hlt, c1, c2, c3, if_true, decide_true]
    by_cases hb : bt s i < 128
    · rw [if_pos hb, if_pos (by omega)]
    · rw [if_neg hb]
      exact next _ (by omega) (by omega)
  · simp [hlt]
theorem tp_step (s : ByteArray) (hd : Int) (i p n : Int) (k : Nat) (hi : 1 ≤ i ∧ i ≤ 5) (hs : wrap64 (7 * wrap64 (i - 1)) = 7 * (i - 1)) (hp : ∀ x, shl .i64 x (7 * (i - 1)) = wrap64 (x * p)) (p1 : 1 ≤ p) (pm : p ≤ 268435456)
    (h0 : 0 ≤ n) (h1 : n ≤ 34359738368) (next : ∀ m, 0 ≤ m → m ≤ n + 127 * p → ∃ r, spec_TakePrefix.l0 k s m hd (i + 1) = some r ∧ impl_TakePrefix.l0 k s m hd (i + 1) = some r)
    (over : ∀ m, 1000000000 < m → m ≤ n + 127 * p → impl_TakePrefix.l0 k s m hd (i + 1) = some (0, 0, 0)) : ∃ r, spec_TakePrefix.l0 (k + 2) s n hd i = some r ∧ impl_TakePrefix.l0 (k + 2) s n hd i = some r := by
  obtain ⟨b0, b1⟩ := bt_range s i
  simp only [impl_TakePrefix.l0, impl_TakePrefix.j2, spec_TakePrefix.l0, spec_TakePrefix.j2]
  rw [hs, u64_id (7 * (i - 1)) (by omega) (by omega)]
  simp only [hp, tmod128 _ b0, and127 _ b0 b1]
  have q0 : 0 ≤ bt s i % 128 := by omega
  have q1 : bt s i % 128 ≤ 127 := by omega
  generalize bt s i % 128 = q at q0 q1
  have m0 : 0 ≤ q * p := Int.mul_nonneg q0 (by omega)
  have m1 : q * p ≤ 127 * p := Int.mul_le_mul_of_nonneg_right q1 (by omega)
  have e1 : wrap64 q = q := w64 _ (by omega)
  have e2 : wrap64 (q * p) = q * p := w64 _ (by omega)
  have e3 : wrap64 (n + q * p) = n + q * p := w64 _ (by omega)
  have e4 : wrap64 (i + 1) = i + 1 := w64 _ (by omega)
  rw [e1, e2, e3, e4]
  have c1 : 0 ≤ i := by omega
  have c2 : 0 ≤ 7 * (i - 1) := by omega
  have c3 : i ≤ 5 := hi.2
  have c4 : i < 6 := by omega
  by_cases hlt : i < (s.size : Int)
  · simp only [hlt, c1, c2, c3, c4, if_true, decide_true]
    by_cases hv : n + q * p > 1000000000
    · refine ⟨(0, 0, 0), by rw [if_pos hv], ?_⟩
      by_cases hb : bt s i < 128
      · rw [if_pos hb, if_pos hv]
      · rw [if_neg hb]
        exact over _ hv (by omega)
    · rw [if_neg hv]
      by_cases hb : bt s i < 128
      · rw [if_pos hb, if_pos hb, if_neg hv]
        exact ⟨_, rfl, rfl⟩
      · rw [if_neg hb, if_neg hb]
        exact next _ (by omega) (by omega)
  · simp [hlt, c4]
theorem tp_over6 (s : ByteArray) (hd n : Int) (k : Nat) : impl_TakePrefix.l0 (k + 2) s n hd 6 = some (0, 0, 0) := by
  simp only [impl_TakePrefix.l0, impl_TakePrefix.j2]
  split <;> simp
theorem tp6 (s : ByteArray) (hd n : Int) (k : Nat) : ∃ r, spec_TakePrefix.l0 (k + 2) s n hd 6 = some r ∧ impl_TakePrefix.l0 (k + 2) s n hd 6 = some r :=
  ⟨(0, 0, 0), by simp [spec_TakePrefix.l0, spec_TakePrefix.j2], tp_over6 s hd n k⟩
theorem tp_shl (y : Int) (j : Nat) (p : Int) (hy : y.toNat = j) (hj : min j 64 = j) (hp : (2 : Int) ^ j = p) : ∀ x, shl .i64 x y = wrap64 (x * p) := by
  intro x
  unfold shl
  have e : min y.toNat IntKind.i64.bits = j := by rw [hy]; exact hj
  rw [e, hp]
  exact i64_w _
/-- Both loops, from the second byte on. -/
theorem tp_loops (s : ByteArray) (hd n : Int) (k : Nat) (h0 : 0 ≤ n) (h1 : n ≤ 255) : ∃ r, spec_TakePrefix.l0 (k + 12) s n hd 1 = some r ∧ impl_TakePrefix.l0 (k + 12) s n hd 1 = some r := by
  have o5 : ∀ m, 1000000000 < m → m ≤ 34359738368 → impl_TakePrefix.l0 (k + 4) s m hd 5 = some (0, 0, 0) := fun m a b => tp_over_step s hd 5 268435456 m (k + 2) (by omega) (by unfold wrap64; omega) (tp_shl _ 28 _ rfl rfl rfl) (by omega) (by omega) a b (fun m _ _ => tp_over6 s hd m k)
  have o4 : ∀ m, 1000000000 < m → m ≤ 30000000000 → impl_TakePrefix.l0 (k + 6) s m hd 4 = some (0, 0, 0) := fun m a b => tp_over_step s hd 4 2097152 m (k + 4) (by omega) (by unfold wrap64; omega) (tp_shl _ 21 _ rfl rfl rfl) (by omega) (by omega) a (by omega) (fun m a b => o5 m a (by omega))
  have o3 : ∀ m, 1000000000 < m → m ≤ 20000000000 → impl_TakePrefix.l0 (k + 8) s m hd 3 = some (0, 0, 0) := fun m a b => tp_over_step s hd 3 16384 m (k + 6) (by omega) (by unfold wrap64; omega) (tp_shl _ 14 _ rfl rfl rfl) (by omega) (by omega) a (by omega) (fun m a b => o4 m a (by omega))
  have o2 : ∀ m, 1000000000 < m → m ≤ 10000000000 → impl_TakePrefix.l0 (k + 10) s m hd 2 = some (0, 0, 0) := fun m a b => tp_over_step s hd 2 128 m (k + 8) (by omega) (by unfold wrap64; omega) (tp_shl _ 7 _ rfl rfl rfl) (by omega) (by omega) a (by omega) (fun m a b => o3 m a (by omega))
  have s5 : ∀ m, 0 ≤ m → m ≤ 34359738368 → ∃ r, spec_TakePrefix.l0 (k + 4) s m hd 5 = some r ∧ impl_TakePrefix.l0 (k + 4) s m hd 5 = some r := fun m a b => tp_step s hd 5 268435456 m (k + 2) (by omega) (by unfold wrap64; omega) (tp_shl _ 28 _ rfl rfl rfl) (by omega) (by omega) a b (fun m _ _ => tp6 s hd m k) (fun m _ _ => tp_over6 s hd m k)
  have s4 : ∀ m, 0 ≤ m → m ≤ 20000000000 → ∃ r, spec_TakePrefix.l0 (k + 6) s m hd 4 = some r ∧ impl_TakePrefix.l0 (k + 6) s m hd 4 = some r := fun m a b => tp_step s hd 4 2097152 m (k + 4) (by omega) (by unfold wrap64; omega) (tp_shl _ 21 _ rfl rfl rfl) (by omega) (by omega) a (by omega) (fun m a b => s5 m a (by omega)) (fun m a b => o5 m a (by omega))
  have s3 : ∀ m, 0 ≤ m → m ≤ 10000000000 → ∃ r, spec_TakePrefix.l0 (k + 8) s m hd 3 = some r ∧ impl_TakePrefix.l0 (k + 8) s m hd 3 = some r := fun m a b => tp_step s hd 3 16384 m (k + 6) (by omega) (by unfold wrap64; omega) (tp_shl _ 14 _ rfl rfl rfl) (by omega) (by omega) a (by omega) (fun m a b => s4 m a (by omega)) (fun m a b => o4 m a (by omega))
  have s2 : ∀ m, 0 ≤ m → m ≤ 5000000000 → ∃ r, spec_TakePrefix.l0 (k + 10) s m hd 2 = some r ∧ impl_TakePrefix.l0 (k + 10) s m hd 2 = some r := fun m a b => tp_step s hd 2 128 m (k + 8) (by omega) (by unfold wrap64; omega) (tp_shl _ 7 _ rfl rfl rfl) (by omega) (by omega) a (by omega) (fun m a b => s3 m a (by omega)) (fun m a b => o3 m a (by omega))
  exact tp_step s hd 1 1 n (k + 10) (by omega) (by unfold wrap64; omega) (tp_shl _ 0 _ rfl rfl rfl) (by omega) (by omega) h0 (by omega) (fun m a b => s2 m a (by omega)) (fun m a b => o2 m a (by omega))
theorem bitsOk_eq (a : Int) : impl_bitsOk.f a = some (decide (3 ≤ a ∧ a ≤ 8)) := by
  unfold impl_bitsOk.f
  simp only [in_eq, Option.bind_some]
theorem mask_of (a : Int) (h : 3 ≤ a ∧ a ≤ 8) : ∃ j : Nat, j ≤ 8 ∧ wrap64 (shl .i64 1 a - 1) = 2 ^ j - 1 := by
  have : a = 3 ∨ a = 4 ∨ a = 5 ∨ a = 6 ∨ a = 7 ∨ a = 8 := by omega
  rcases this with rfl | rfl | rfl | rfl | rfl | rfl
  · exact ⟨3, by decide, by rw [tp_shl _ 3 8 rfl rfl rfl]; unfold wrap64; omega⟩
  · exact ⟨4, by decide, by rw [tp_shl _ 4 16 rfl rfl rfl]; unfold wrap64; omega⟩
  · exact ⟨5, by decide, by rw [tp_shl _ 5 32 rfl rfl rfl]; unfold wrap64; omega⟩
  · exact ⟨6, by decide, by rw [tp_shl _ 6 64 rfl rfl rfl]; unfold wrap64; omega⟩
  · exact ⟨7, by decide, by rw [tp_shl _ 7 128 rfl rfl rfl]; unfold wrap64; omega⟩
  · exact ⟨8, by decide, by rw [tp_shl _ 8 256 rfl rfl rfl]; unfold wrap64; omega⟩
theorem takePrefix_eq (s : ByteArray) (a : Int) (k : Nat) : ∃ r, spec_TakePrefix.f (k + 13) s a = some r ∧ impl_TakePrefix.f (k + 13) s a = some r := by
  unfold spec_TakePrefix.f impl_TakePrefix.f
  simp only [bitsOk_eq, l1In_eq, Option.bind_some, decide_eq_true_eq]
  by_cases hs : s.toList = []
  · refine ⟨(0, 0, 0), by rw [if_pos hs]; rfl, ?_⟩
    by_cases ha : 3 ≤ a ∧ a ≤ 8
    · rw [if_pos ha, hs]; rfl
    · rw [if_neg ha]; rfl
  · rw [if_neg hs]
    have hb : (s.toList == []) = false := by simpa using hs
    rw [hb]
    by_cases ha : 3 ≤ a ∧ a ≤ 8
    · rw [if_pos ha]
      have hd : (!decide (3 ≤ a ∧ a ≤ 8)) = false := by simp [ha]
      rw [hd]
      simp only [spec_TakePrefix.j0, impl_TakePrefix.j0]
      rw [u64_id a (by omega) (by omega)]
      have a0 : 0 ≤ a := by omega
      have z : 0 < (s.size : Int) := by
        rcases Nat.eq_zero_or_pos s.size with h | h
        · exact absurd (by rw [ByteArray.toList_eq]; exact List.eq_nil_of_length_eq_zero (by simpa using h) : s.toList = []) hs
        · omega
      simp only [Bool.false_eq_true, if_false, a0, if_true, z]
      obtain ⟨b0, b1⟩ := bt_range s 0
      rw [w64 (bt s 0) (by omega)]
      obtain ⟨j, hj, hm⟩ := mask_of a ha
      rw [hm, bits_mask .i64 8 (by decide) (fun n h0 h1 => by rw [IntKind.wrap_i64]; omega) j hj (bt s 0) b0 (by omega)]
      by_cases hlt : bt s 0 % 2 ^ j < 2 ^ j - 1
      · rw [if_pos hlt, if_pos hlt]
        exact ⟨_, rfl, rfl⟩
      · rw [if_neg hlt, if_neg hlt]
        refine tp_loops s _ _ k ?_ ?_
        · exact Int.emod_nonneg _ (by exact Int.ne_of_gt (Int.pow_pos (by decide)))
        · have := Int.emod_lt_of_pos (bt s 0) (show (0 : Int) < 2 ^ j from Int.pow_pos (by decide))
          have h8 : (2 : Int) ^ j ≤ 2 ^ 8 := by exact_mod_cast Nat.pow_le_pow_right (by decide) hj
          omega
    · rw [if_neg ha]
      have hd : (!decide (3 ≤ a ∧ a ≤ 8)) = true := by simp [ha]
      rw [hd]
      exact ⟨_, rfl, rfl⟩

theorem shl_at (i : Int) (hi : 1 ≤ i ∧ i ≤ 5) : ∃ p : Int, (∀ x, shl .i64 x (7 * (i - 1)) = wrap64 (x * p)) ∧ 1 ≤ p ∧ p ≤ 268435456 := by
  have : i = 1 ∨ i = 2 ∨ i = 3 ∨ i = 4 ∨ i = 5 := by omega
  rcases this with rfl | rfl | rfl | rfl | rfl
  · exact ⟨1, tp_shl _ 0 _ rfl rfl rfl, by omega, by omega⟩
  · exact ⟨128, tp_shl _ 7 _ rfl rfl rfl, by omega, by omega⟩
  · exact ⟨16384, tp_shl _ 14 _ rfl rfl rfl, by omega, by omega⟩
  · exact ⟨2097152, tp_shl _ 21 _ rfl rfl rfl, by omega, by omega⟩
  · exact ⟨268435456, tp_shl _ 28 _ rfl rfl rfl, by omega, by omega⟩
/-- What the program's reader of a number can answer. -/
def TpOk (s : ByteArray) (r : Int × Int × Int) : Prop := 0 ≤ r.1 ∧ r.1 ≤ 1000000000 ∧ 0 ≤ r.2.2 ∧ r.2.2 ≤ (s.size : Int)
theorem tpl_in (s : ByteArray) (hd : Int) : ∀ (k : Nat) (m i : Int) (r : Int × Int × Int), 1 ≤ i → i ≤ 6 → 0 ≤ m → m ≤ 40000000000 * i → impl_TakePrefix.l0 k s m hd i = some r → TpOk s r := by
  intro k
  induction k using Nat.strongRecOn with
  | _ k ih =>
    intro m i r h1 h6 m0 m1 h
    match k, ih, h with
    | 0, _, h => simp [impl_TakePrefix.l0] at h
    | 1, _, h =>
      simp only [impl_TakePrefix.l0, impl_TakePrefix.j2] at h
      split at h <;> cases h
    | k + 2, ih, h =>
      have z : TpOk s (0, 0, 0) := ⟨by decide, by decide, by decide, by simp⟩
      obtain ⟨b0, b1⟩ := bt_range s i
      simp only [impl_TakePrefix.l0, impl_TakePrefix.j2] at h
      by_cases hlt : i < (s.size : Int)
      · simp only [hlt, if_true] at h
        by_cases h5 : i ≤ 5
        · have c1 : 0 ≤ i := by omega
          have w0 : wrap64 (i - 1) = i - 1 := w64 _ (by omega)
          have w1 : wrap64 (7 * (i - 1)) = 7 * (i - 1) := w64 _ (by omega)
          have c2 : 0 ≤ 7 * (i - 1) := by omega
          obtain ⟨p, hp, p1, pm⟩ := shl_at i ⟨h1, h5⟩
          simp only [h5, decide_true, if_true, c1, w0, w1, c2, hp, tmod128 _ b0] at h
          have q0 : 0 ≤ bt s i % 128 := by omega
          have q1 : bt s i % 128 ≤ 127 := by omega
          generalize bt s i % 128 = q at q0 q1 h
          have n0 : 0 ≤ q * p := Int.mul_nonneg q0 (by omega)
          have n1 : q * p ≤ 127 * p := Int.mul_le_mul_of_nonneg_right q1 (by omega)
          have e1 : wrap64 q = q := w64 _ (by omega)
          have e2 : wrap64 (q * p) = q * p := w64 _ (by omega)
          have e3 : wrap64 (m + q * p) = m + q * p := w64 _ (by omega)
          have e4 : wrap64 (i + 1) = i + 1 := w64 _ (by omega)
          rw [e1, e2, e3, e4] at h
          by_cases hb : bt s i < 128
          · rw [if_pos hb] at h
            by_cases hv : m + q * p > 1000000000
            · rw [if_pos hv] at h
              cases h
              exact z
            · rw [if_neg hv] at h
              cases h
              exact ⟨by show 0 ≤ m + q * p; omega, by show m + q * p ≤ _; omega, by show 0 ≤ i + 1; omega, by show i + 1 ≤ _; omega⟩
          · rw [if_neg hb] at h
            exact ih k (by omega) _ _ _ (by omega) (by omega) (by omega) (by omega) h
        · simp only [h5, decide_false, Bool.false_eq_true, if_false] at h
          cases h
          exact z
      · simp only [hlt, if_false, Bool.false_eq_true] at h
        cases h
        exact z
theorem tp_in (s : ByteArray) (a : Int) (k : Nat) (r : Int × Int × Int) (h : impl_TakePrefix.f k s a = some r) : TpOk s r := by
  have z : TpOk s (0, 0, 0) := ⟨by decide, by decide, by decide, by simp⟩
  unfold impl_TakePrefix.f at h
  simp only [bitsOk_eq, Option.bind_some, decide_eq_true_eq] at h
  cases k with
  | zero =>
    by_cases ha : 3 ≤ a ∧ a ≤ 8
    · rw [if_pos ha] at h; cases h
    · rw [if_neg ha] at h; cases h
  | succ k =>
    by_cases ha : 3 ≤ a ∧ a ≤ 8
    · rw [if_pos ha] at h
      simp only [impl_TakePrefix.j0] at h
      by_cases hs : (s.toList == []) = true
      · rw [if_pos hs] at h
        cases h
        exact z
      · rw [if_neg hs, if_pos (show 0 ≤ a by omega)] at h
        by_cases hz : 0 < (s.size : Int)
        · rw [if_pos hz] at h
          obtain ⟨b0, b1⟩ := bt_range s 0
          rw [w64 (bt s 0) (by omega)] at h
          obtain ⟨j, hj, hm⟩ := mask_of a ha
          rw [hm, bits_mask .i64 8 (by decide) (fun n h0 h1 => by rw [IntKind.wrap_i64]; omega) j hj (bt s 0) b0 (by omega)] at h
          have p0 : (0 : Int) < 2 ^ j := Int.pow_pos (by decide)
          have q0 := Int.emod_nonneg (bt s 0) (Int.ne_of_gt p0)
          have q1 := Int.emod_lt_of_pos (bt s 0) p0
          have h8 : (2 : Int) ^ j ≤ 2 ^ 8 := by exact_mod_cast Nat.pow_le_pow_right (by decide) hj
          by_cases hlt : bt s 0 % 2 ^ j < 2 ^ j - 1
          · rw [if_pos hlt] at h
            cases h
            exact ⟨q0, by show bt s 0 % 2 ^ j ≤ _; omega, by show (0 : Int) ≤ 1; decide, by show (1 : Int) ≤ _; omega⟩
          · rw [if_neg hlt] at h
            exact tpl_in s _ k _ 1 r (by omega) (by omega) q0 (by omega) h
        · rw [if_neg hz] at h
          cases h
    · rw [if_neg ha] at h
      simp only [impl_TakePrefix.j0, if_true] at h
      cases h
      exact z
/-- Both readers of a number answer alike. -/
theorem tp_ev (s : ByteArray) (a : Int) : ∃ r, Ev (fun k => spec_TakePrefix.f k s a) r ∧ Ev (fun k => impl_TakePrefix.f k s a) r ∧ TpOk s r := by
  obtain ⟨r, h1, h2⟩ := takePrefix_eq s a 0
  exact ⟨r, Ev.of (fun k => spec_TakePrefix.mono s a k) h1, Ev.of (fun k => impl_TakePrefix.mono s a k) h2, tp_in s a _ r h2⟩
theorem ev_unique {α : Type} {g : Nat → Option α} {a b : α} (h1 : Ev g a) (h2 : Ev g b) : a = b := by
  obtain ⟨K1, k1⟩ := h1
  obtain ⟨K2, k2⟩ := h2
  have e1 := k1 (K1 + K2) (by omega)
  have e2 := k2 (K1 + K2) (by omega)
  rw [e1] at e2
  exact Option.some.inj e2
theorem tp_val (s : ByteArray) (a : Int) (k : Nat) (X : Int × Int × Int) (h : impl_TakePrefix.f k s a = some X) : Ev (fun k => spec_TakePrefix.f k s a) X ∧ Ev (fun k => impl_TakePrefix.f k s a) X := by
  obtain ⟨r, h1, h2, _⟩ := tp_ev s a
  obtain rfl := ev_unique h2 (Ev.of (fun k => impl_TakePrefix.mono s a k) h)
  exact ⟨h1, h2⟩
theorem mask_at (j : Nat) (hj : 3 ≤ j ∧ j ≤ 8) : wrap64 (shl .i64 1 (j : Int) - 1) = 2 ^ j - 1 := by
  have : j = 3 ∨ j = 4 ∨ j = 5 ∨ j = 6 ∨ j = 7 ∨ j = 8 := by omega
  rcases this with rfl | rfl | rfl | rfl | rfl | rfl
  · rw [tp_shl _ 3 8 rfl rfl rfl]; unfold wrap64; omega
  · rw [tp_shl _ 4 16 rfl rfl rfl]; unfold wrap64; omega
  · rw [tp_shl _ 5 32 rfl rfl rfl]; unfold wrap64; omega
  · rw [tp_shl _ 6 64 rfl rfl rfl]; unfold wrap64; omega
  · rw [tp_shl _ 7 128 rfl rfl rfl]; unfold wrap64; omega
  · rw [tp_shl _ 8 256 rfl rfl rfl]; unfold wrap64; omega
theorem toList_ne (s : ByteArray) (h : 0 < s.size) : (s.toList == []) = false := by
  rw [ByteArray.toList_eq, beq_eq_false_iff_ne]
  intro e
  have : s.data.toList.length = 0 := by rw [e]; rfl
  have h2 : s.data.toList.length = s.size := by simp
  omega
/-- A number of one byte is read. -/
theorem tp_one (s : ByteArray) (j : Nat) (hj : 3 ≤ j ∧ j ≤ 8) (n : Int) (h0 : 0 < s.size) (hb : bt s 0 % 2 ^ j = n) (hn : n < 2 ^ j - 1) : ∃ X : Int × Int × Int, X.1 = n ∧ X.2.2 = 1 ∧ Ev (fun k => spec_TakePrefix.f k s (j : Int)) X ∧ Ev (fun k => impl_TakePrefix.f k s (j : Int)) X := by
  obtain ⟨b0, b1⟩ := bt_range s 0
  have e : impl_TakePrefix.f 1 s (j : Int) = some (n, Go.bits .andNot .i64 (bt s 0) (2 ^ j - 1), 1) := by
    unfold impl_TakePrefix.f
    simp only [bitsOk_eq, Option.bind_some, decide_eq_true_eq]
    rw [if_pos (by omega)]
    simp only [impl_TakePrefix.j0, toList_ne s h0, Bool.false_eq_true, if_false]
    rw [if_pos (by omega), if_pos (by omega), w64 (bt s 0) (by omega), mask_at j hj, bits_mask .i64 8 (by decide) (fun n h0 h1 => by rw [IntKind.wrap_i64]; omega) j hj.2 (bt s 0) b0 (by omega), hb, if_pos hn]
  obtain ⟨h1, h2⟩ := tp_val s _ _ _ e
  exact ⟨_, rfl, rfl, h1, h2⟩
/-- A number of two bytes is read. -/
theorem tp_two (s : ByteArray) (j : Nat) (hj : 3 ≤ j ∧ j ≤ 8) (n : Int) (h0 : 1 < s.size) (hb : bt s 0 % 2 ^ j = 2 ^ j - 1) (hb1 : bt s 1 = n - (2 ^ j - 1)) (hn : n - (2 ^ j - 1) ≤ 127) : ∃ X : Int × Int × Int, X.1 = n ∧ X.2.2 = 2 ∧ Ev (fun k => spec_TakePrefix.f k s (j : Int)) X ∧ Ev (fun k => impl_TakePrefix.f k s (j : Int)) X := by
  obtain ⟨b0, b1⟩ := bt_range s 0
  obtain ⟨d0, d1⟩ := bt_range s 1
  have p0 : (0 : Int) < 2 ^ j := Int.pow_pos (by decide)
  have h8 : (2 : Int) ^ j ≤ 2 ^ 8 := by exact_mod_cast Nat.pow_le_pow_right (by decide) hj.2
  have e : impl_TakePrefix.f 3 s (j : Int) = some (n, Go.bits .andNot .i64 (bt s 0) (2 ^ j - 1), 2) := by
    unfold impl_TakePrefix.f
    simp only [bitsOk_eq, Option.bind_some, decide_eq_true_eq]
    rw [if_pos (by omega)]
    simp only [impl_TakePrefix.j0, toList_ne s (show 0 < s.size by omega), Bool.false_eq_true, if_false]
    rw [if_pos (by omega), if_pos (by omega), w64 (bt s 0) (by omega), mask_at j hj, bits_mask .i64 8 (by decide) (fun n h0 h1 => by rw [IntKind.wrap_i64]; omega) j hj.2 (bt s 0) b0 (by omega), hb, if_neg (by omega)]
    have c0 : (1 : Int) < (s.size : Int) := by omega
    have c5 : decide ((1 : Int) ≤ 5) = true := rfl
    have w1 : wrap64 (7 * wrap64 (1 - 1)) = 0 := by unfold wrap64; omega
    have w2 : wrap64 (1 + 1) = 2 := by unfold wrap64; omega
    have c3 : (0 : Int) ≤ 1 := by decide
    have c4 : bt s 1 < 128 := by omega
    have hs := tp_shl 0 0 1 rfl rfl rfl
    have t1 : Int.tmod (bt s 1) 128 = bt s 1 := by rw [tmod128 _ d0]; omega
    have t2 : wrap64 (bt s 1) = bt s 1 := w64 _ (by omega)
    have t3 : wrap64 (bt s 1 * 1) = bt s 1 := by rw [Int.mul_one]; exact t2
    have t4 : wrap64 (2 ^ j - 1 + bt s 1) = n := by rw [hb1, w64 _ (by omega)]; omega
    have c6 : ¬ (n > 1000000000) := by omega
    simp only [impl_TakePrefix.l0, impl_TakePrefix.j2, c0, c5, if_true, w1, w2, c3, Int.le_refl, c4, hs, t1, t2, t3, t4, c6, if_false]
  obtain ⟨h1, h2⟩ := tp_val s _ _ _ e
  exact ⟨_, rfl, rfl, h1, h2⟩

/-- The static table. -/
def stat : List S65 := (impl_static.f).getD []
theorem stat_impl : impl_static.f = some stat := rfl
theorem stat_spec : spec_l15Static.f = some stat := rfl
theorem stat_len : stat.length = 16 := rfl
/-- A number behind what stands above it in its first byte: one byte or two. -/
def pre (n : Int) (j : Nat) (first : Int) : List Int := if n < 2 ^ j - 1 then [first + n] else [first + (2 ^ j - 1), n - (2 ^ j - 1)]
/-- What is asked of such a number. -/
def PreOk (n : Int) (j : Nat) (first : Int) : Prop := 0 ≤ n ∧ n ≤ 2 ^ j - 1 + 127 ∧ (3 ≤ j ∧ j ≤ 8) ∧ 0 ≤ first ∧ first + 2 ^ j ≤ 256 ∧ first % 2 ^ j = 0
theorem be_one (n : Int) (h : 0 ≤ n ∧ n ≤ 255) : be n 1 = [n] := by
  have e : n % 256 = n := by omega
  simp [be, e]
theorem pre_ev (n : Int) (j : Nat) (first : Int) (h : PreOk n j first) : Ev (fun k => spec_l15Prefix.f k n (j : Int) first) (strOfNums (pre n j first)) ∧ Ev (fun k => impl_prefixed.f k n (j : Int) first) (strOfNums (pre n j first)) := by
  obtain ⟨n0, n1, hj, f0, f1, hm⟩ := h
  obtain ⟨p0, p1⟩ := pow_in j hj.2
  have s1 : shl .i64 1 (j : Int) = 2 ^ j := shl_pow _ j rfl hj.2
  have u1 : IntKind.u64.wrap (j : Int) = (j : Int) := u64_id _ (by omega) (by omega)
  have w1 : wrap64 ((2 : Int) ^ j - 1) = 2 ^ j - 1 := w64 _ (by omega)
  have c0 : 0 ≤ (j : Int) := by omega
  have hor : ∀ y : Int, 0 ≤ y → y < 2 ^ j → Go.bits .or .i64 first y = first + y := fun y h0 h1 => bits_join .i64 32 (by decide) i64w j first y f0 hm (by omega) h0 h1 (by omega)
  unfold spec_l15Prefix.f impl_prefixed.f pre
  simp only [u1, c0, if_true, s1, w1]
  by_cases hlt : n < 2 ^ j - 1
  · have e1 := hor n n0 (by omega)
    have e2 : wrap64 (first + n) = first + n := w64 _ (by omega)
    have e3 : IntKind.u64.wrap (first + n) = first + n := u64_id _ (by omega) (by omega)
    simp only [hlt, if_true, e1, e2, e3]
    rw [← be_one (first + n) (by omega)]
    exact ⟨LoopK.Ev.bind_ (l1Fixed_ev _ (by omega) 1 (by omega)) (Ev.now _), LoopK.Ev.bind_ (bigEndian_ev _ 1 (by omega)) (Ev.now _)⟩
  · have e1 := hor (2 ^ j - 1) (by omega) (by omega)
    have e2 : wrap64 (first + (2 ^ j - 1)) = first + (2 ^ j - 1) := w64 _ (by omega)
    have e3 : IntKind.u64.wrap (first + (2 ^ j - 1)) = first + (2 ^ j - 1) := u64_id _ (by omega) (by omega)
    have e4 : wrap64 (n - (2 ^ j - 1)) = n - (2 ^ j - 1) := w64 _ (by omega)
    simp only [hlt, if_false, e1, e2, e3, e4]
    have eL : strOfNums [first + (2 ^ j - 1), n - (2 ^ j - 1)] = strOfNums (be (first + (2 ^ j - 1)) 1) ++ strOfNums (be (n - (2 ^ j - 1)) 1) := by
      rw [be_one _ (by omega), be_one _ (by omega), strOfNums_append]
      rfl
    rw [eL]
    have m0 : 0 ≤ n - (2 ^ j - 1) := by omega
    have m1 : n - (2 ^ j - 1) ≤ 127 := by omega
    generalize n - (2 ^ j - 1) = m at m0 m1
    have hn : ¬ (m > 127) := by omega
    have hn' : ¬ (m ≥ 128) := by omega
    have e5 : IntKind.u64.wrap m = m := u64_id _ (by omega) (by omega)
    have c : (strOfNums (be (first + (2 ^ j - 1)) 1)).size + (strOfNums (be m 1)).size ≤ 9223372036854775807 := by rw [strOfNums_size, strOfNums_size, be_length, be_length]; omega
    refine ⟨LoopK.Ev.bind_ (l1Fixed_ev _ (by omega) 1 (by omega)) (LoopK.Ev.succ ?_), LoopK.Ev.bind_ (bigEndian_ev _ 1 (by omega)) (LoopK.Ev.succ ?_)⟩
    · simp only [spec_l15Prefix.l0, hn, if_false]
      refine LoopK.Ev.bind_ (l1Fixed_ev _ (by omega) 1 (by omega)) ?_
      simp only [c, if_true]
      exact Ev.now _
    · simp only [impl_prefixed.l0, hn', if_false, e5]
      refine LoopK.Ev.bind_ (bigEndian_ev _ 1 (by omega)) ?_
      simp only [c, if_true]
      exact Ev.now _
theorem pre_len (n : Int) (j : Nat) (first : Int) : 1 ≤ (pre n j first).length ∧ (pre n j first).length ≤ 2 := by
  unfold pre
  split <;> simp
theorem pre_size (n : Int) (j : Nat) (first : Int) : (strOfNums (pre n j first)).size = (pre n j first).length := strOfNums_size _
/-! ### a text put together, read again -/
theorem ext_none (a b : ByteArray) : a.data.extract a.size (a.size + b.size) = #[] := by
  apply Array.eq_empty_of_size_eq_zero
  rw [Array.size_extract]
  have : a.size = a.data.size := rfl
  omega
theorem ext_all (b : ByteArray) : b.data.extract 0 b.size = b.data := by
  show b.data.extract 0 b.data.size = b.data
  exact Array.extract_size
theorem ext_tail (a b : ByteArray) : (a ++ b).extract a.size (a ++ b).size = b := by
  apply ByteArray.ext
  have h1 : (a ++ b).size = a.data.size + b.data.size := by rw [ByteArray.size_append]; rfl
  have h2 : ((a ++ b).extract a.size (a ++ b).size).data = (a ++ b).data.extract a.size (a ++ b).size := by simp
  rw [h2, ByteArray.data_append, h1]
  have h3 : a.size = a.data.size := rfl
  rw [h3]
  simp [ext_none, ext_all]
theorem ext_head (a b : ByteArray) : (a ++ b).extract 0 a.size = a := by
  apply ByteArray.ext
  have h2 : ((a ++ b).extract 0 a.size).data = (a ++ b).data.extract 0 a.size := by simp
  rw [h2, ByteArray.data_append]
  have h3 : a.size = a.data.size := rfl
  rw [h3]
  simp
theorem ext_mid (a b c : ByteArray) : (a ++ (b ++ c)).extract a.size (a.size + b.size) = b := by
  apply ByteArray.ext
  have h2 : ((a ++ (b ++ c)).extract a.size (a.size + b.size)).data = (a ++ (b ++ c)).data.extract a.size (a.size + b.size) := by simp
  rw [h2, ByteArray.data_append, ByteArray.data_append]
  have h3 : a.size = a.data.size := rfl
  have h4 : b.size = b.data.size := rfl
  rw [h3, h4]
  simp [ext_none, ext_all]
theorem bt_first (b : Int) (l : List Int) (t : ByteArray) (h : 0 ≤ b ∧ b ≤ 255) : bt (strOfNums (b :: l) ++ t) 0 = b := by
  have hs : (strOfNums (b :: l) ++ t).size = (l.length + 1) + t.size := by rw [ByteArray.size_append, strOfNums_size]; simp
  have e := bt_nat (strOfNums (b :: l) ++ t) 0 (by omega)
  rw [show ((0 : Nat) : Int) = 0 from rfl] at e
  rw [e]
  have e2 : (strOfNums (b :: l) ++ t).data = (strOfNums (b :: l)).data ++ t.data := ByteArray.data_append
  simp only [e2]
  rw [Array.getElem_append_left (by show 0 < (strOfNums (b :: l)).size; rw [strOfNums_size]; simp)]
  simp [strOfNums]
  omega
theorem bt_second (a b : Int) (l : List Int) (t : ByteArray) (h : 0 ≤ b ∧ b ≤ 255) : bt (strOfNums (a :: b :: l) ++ t) 1 = b := by
  have hs : (strOfNums (a :: b :: l) ++ t).size = (l.length + 2) + t.size := by rw [ByteArray.size_append, strOfNums_size]; simp
  have e := bt_nat (strOfNums (a :: b :: l) ++ t) 1 (by omega)
  rw [show ((1 : Nat) : Int) = 1 from rfl] at e
  rw [e]
  have e2 : (strOfNums (a :: b :: l) ++ t).data = (strOfNums (a :: b :: l)).data ++ t.data := ByteArray.data_append
  simp only [e2]
  rw [Array.getElem_append_left (by show 1 < (strOfNums (a :: b :: l)).size; rw [strOfNums_size]; simp)]
  simp [strOfNums]
  omega
/-- A number that was written is read. -/
theorem tp_pre (n : Int) (j : Nat) (first : Int) (t : ByteArray) (h : PreOk n j first) : ∃ X : Int × Int × Int, X.1 = n ∧ X.2.2 = ((pre n j first).length : Int) ∧ Ev (fun k => spec_TakePrefix.f k (strOfNums (pre n j first) ++ t) (j : Int)) X ∧ Ev (fun k => impl_TakePrefix.f k (strOfNums (pre n j first) ++ t) (j : Int)) X := by
  obtain ⟨n0, n1, hj, f0, f1, hm⟩ := h
  obtain ⟨p0, p1⟩ := pow_in j hj.2
  have hmod : ∀ y : Int, 0 ≤ y → y < 2 ^ j → (first + y) % 2 ^ j = y := fun y h0 h1 => by
    rw [Int.add_emod, hm, Int.zero_add, Int.emod_emod_of_dvd _ (Int.dvd_refl _)]
    exact Int.emod_eq_of_lt h0 h1
  unfold pre
  by_cases hlt : n < 2 ^ j - 1
  · simp only [hlt, if_true]
    have hz : 0 < (strOfNums [first + n] ++ t).size := by rw [ByteArray.size_append, strOfNums_size]; simp; omega
    exact tp_one _ j hj n hz (by rw [bt_first _ _ _ (by omega)]; exact hmod n n0 (by omega)) hlt
  · simp only [hlt, if_false]
    have hz : 1 < (strOfNums [first + (2 ^ j - 1), n - (2 ^ j - 1)] ++ t).size := by rw [ByteArray.size_append, strOfNums_size]; simp; omega
    exact tp_two _ j hj n hz (by rw [bt_first _ _ _ (by omega)]; exact hmod _ (by omega) (by omega)) (by rw [bt_second _ _ _ _ (by omega)]) (by omega)
/-- The first byte of such a number. -/
theorem pre_first (n : Int) (j : Nat) (first : Int) (t : ByteArray) (h : PreOk n j first) : first ≤ bt (strOfNums (pre n j first) ++ t) 0 ∧ bt (strOfNums (pre n j first) ++ t) 0 < first + 2 ^ j := by
  obtain ⟨n0, n1, hj, f0, f1, hm⟩ := h
  obtain ⟨p0, p1⟩ := pow_in j hj.2
  unfold pre
  by_cases hlt : n < 2 ^ j - 1
  · simp only [hlt, if_true]
    rw [bt_first _ _ _ (by omega)]
    omega
  · simp only [hlt, if_false]
    rw [bt_first _ _ _ (by omega)]
    omega
/-- The bytes of a field. -/
def encF (x : S65) : ByteArray :=
  if 0 ≤ idxF (fldE x.f0 x.f1) stat then strOfNums (pre (idxF (fldE x.f0 x.f1) stat) 6 192)
  else if 0 ≤ idxF (fldN x.f0) stat then strOfNums (pre (idxF (fldN x.f0) stat) 4 80) ++ (strOfNums (pre (x.f1.size : Int) 7 0) ++ x.f1)
  else (strOfNums (pre (x.f0.size : Int) 3 32) ++ x.f0) ++ (strOfNums (pre (x.f1.size : Int) 7 0) ++ x.f1)
def encL : List S65 → ByteArray
  | [] => ⟨#[]⟩
  | x :: r => encF x ++ encL r
theorem idx_e (x : S65) : -1 ≤ idxF (fldE x.f0 x.f1) stat ∧ idxF (fldE x.f0 x.f1) stat < 16 := by
  have := idxFrom_in (fldE x.f0 x.f1) stat 0
  rw [stat_len] at this
  exact ⟨this.1, by show idxFrom _ _ _ < 16; omega⟩
theorem idx_n (x : S65) : -1 ≤ idxF (fldN x.f0) stat ∧ idxF (fldN x.f0) stat < 16 := by
  have := idxFrom_in (fldN x.f0) stat 0
  rw [stat_len] at this
  exact ⟨this.1, by show idxFrom _ _ _ < 16; omega⟩
theorem ok6 (e : Int) (h : 0 ≤ e ∧ e < 16) : PreOk e 6 192 := ⟨h.1, by omega, by decide, by decide, by decide, by decide⟩
theorem ok4 (e : Int) (h : 0 ≤ e ∧ e < 16) : PreOk e 4 80 := ⟨h.1, by omega, by decide, by decide, by decide, by decide⟩
theorem ok7 (n : Nat) (h : n ≤ 100) : PreOk (n : Int) 7 0 := ⟨by omega, by omega, by decide, by decide, by decide, by decide⟩
theorem ok3 (n : Nat) (h : n ≤ 100) : PreOk (n : Int) 3 32 := ⟨by omega, by omega, by decide, by decide, by decide, by decide⟩
theorem at_ev (x : S65) : Ev (fun k => spec_l15At.f k x.f0 x.f1) (idxF (fldE x.f0 x.f1) stat, idxF (fldN x.f0) stat) ∧ Ev (fun k => impl_StaticAt.f k x.f0 x.f1) (idxF (fldE x.f0 x.f1) stat, idxF (fldN x.f0) stat) := by
  constructor
  · unfold spec_l15At.f
    simp only [stat_spec, Option.bind_some]
    have h := specAt_loop x.f0 x.f1 stat [] (-1) (-1) (by simp [stat_len]) (Or.inl rfl) (Or.inl rfl)
    simp only [show ((-1 : Int) < 0) by omega, if_true, List.nil_append, List.length_nil] at h
    exact h
  · unfold impl_StaticAt.f impl_Field_136.f
    simp only [stat_impl, Option.bind_some]
    have h := index_loop x.f0 x.f1 stat [] (by simp [stat_len])
    simp only [List.nil_append, List.length_nil] at h
    exact LoopK.Ev.bind_ h (Ev.now _)
theorem enc_loops : ∀ (r p : List S65) (s : ByteArray), (p ++ r).length ≤ 1000 → (∀ x, x ∈ r → x.f0.size ≤ 100 ∧ x.f1.size ≤ 100) → s.size + 1000 * r.length ≤ 1000000 →
    Ev (fun k => spec_l15Bytes.l0 k s (p ++ r) ((p ++ r).length : Int) (p.length : Int)) (s ++ encL r) ∧ Ev (fun k => impl_fieldsBytes.l0 k s (p ++ r) ((p ++ r).length : Int) (p.length : Int)) (s ++ encL r)
  | [], p, s, _, _, hs => by
    have e0 : s ++ encL [] = s := by apply ByteArray.ext; simp [encL]
    rw [e0]
    refine ⟨LoopK.Ev.succ ?_, LoopK.Ev.succ ?_⟩
    · simp only [spec_l15Bytes.l0, List.append_nil, at_stop, if_false]
      exact Ev.now _
    · simp only [impl_fieldsBytes.l0, List.append_nil, at_stop, if_false]
      exact Ev.now _
  | x :: r, p, s, hB, hx, hs => by
    have e1 := at_w p x r (by omega)
    have hx0 := hx x (by simp)
    rw [List.length_cons] at hs
    obtain ⟨a1, a2⟩ := at_ev x
    have ie := idx_e x
    have iN := idx_n x
    obtain ⟨g1, g2⟩ := pre_ev _ _ _ (ok7 x.f1.size hx0.2)
    have g3 : (strOfNums (pre (x.f1.size : Int) 7 0)).size ≤ 2 := by rw [pre_size]; exact (pre_len _ _ _).2
    have hstep : (encF x).size ≤ 500 → Ev (fun k => impl_Field_bytes.f k x.f0 x.f1) (encF x) → Ev (fun k => spec_l15Bytes.l0 k (s ++ encF x) (p ++ x :: r) ((p ++ x :: r).length : Int) ((p.length : Int) + 1)) (s ++ encL (x :: r)) ∧
        Ev (fun k => impl_fieldsBytes.l0 k s (p ++ x :: r) ((p ++ x :: r).length : Int) (p.length : Int)) (s ++ encL (x :: r)) := by
      intro ht hf
      obtain ⟨v1, v2⟩ := enc_loops r (p ++ [x]) (s ++ encF x) (by simpa using hB) (fun y hy => hx y (by simp [hy])) (by rw [ByteArray.size_append]; omega)
      rw [← at_snoc, len_snoc p x, ByteArray.append_assoc] at v1 v2
      refine ⟨v1, LoopK.Ev.succ ?_⟩
      simp only [impl_fieldsBytes.l0, at_lt, at_nn, if_true, rd_T65, at_getD, e1]
      refine LoopK.Ev.bind_ hf ?_
      have c9 : s.size + (encF x).size ≤ 9223372036854775807 := by omega
      simp only [c9, if_true]
      exact v2
    unfold encF at hstep
    have c0 : (strOfNums (pre (x.f1.size : Int) 7 0)).size + x.f1.size ≤ 9223372036854775807 := by omega
    generalize idxF (fldE x.f0 x.f1) stat = e at a1 a2 ie hstep
    generalize idxF (fldN x.f0) stat = n at a1 a2 iN hstep
    generalize strOfNums (pre (x.f1.size : Int) 7 0) = t7 at g1 g2 g3 c0 hstep
    by_cases he : 0 ≤ e
    · rw [if_pos he] at hstep
      obtain ⟨q1, q2⟩ := pre_ev _ _ _ (ok6 e ⟨he, by omega⟩)
      have q3 : (strOfNums (pre e 6 192)).size ≤ 2 := by rw [pre_size]; exact (pre_len _ _ _).2
      generalize strOfNums (pre e 6 192) = t6 at q1 q2 q3 hstep
      have he' : e ≥ 0 := he
      obtain ⟨v1, v2⟩ := hstep (by omega) (by
        unfold impl_Field_bytes.f
        refine LoopK.Ev.bind_ g2 ?_
        simp only [c0, if_true]
        refine LoopK.Ev.bind_ a2 ?_
        simp only [he', if_true]
        exact LoopK.Ev.bind_ q2 (Ev.now _))
      refine ⟨LoopK.Ev.succ ?_, v2⟩
      simp only [spec_l15Bytes.l0, at_lt, at_nn, if_true, rd_T65, at_getD, e1]
      refine LoopK.Ev.bind_ a1 ?_
      refine LoopK.Ev.bind_ g1 ?_
      simp only [c0, he', if_true]
      refine LoopK.Ev.bind_ q1 ?_
      have c9 : s.size + t6.size ≤ 9223372036854775807 := by omega
      simp only [c9, if_true]
      exact v1
    · rw [if_neg he] at hstep
      have he' : ¬ (e ≥ 0) := he
      have sv : (t7 ++ x.f1).size ≤ 107 := by rw [ByteArray.size_append]; omega
      by_cases hn : 0 ≤ n
      · rw [if_pos hn] at hstep
        have hn' : n ≥ 0 := hn
        obtain ⟨q1, q2⟩ := pre_ev _ _ _ (ok4 n ⟨hn, by omega⟩)
        have q3 : (strOfNums (pre n 4 80)).size ≤ 2 := by rw [pre_size]; exact (pre_len _ _ _).2
        generalize strOfNums (pre n 4 80) = t4 at q1 q2 q3 hstep
        have c1 : t4.size + (t7 ++ x.f1).size ≤ 9223372036854775807 := by omega
        have st : (t4 ++ (t7 ++ x.f1)).size ≤ 500 := by rw [ByteArray.size_append]; omega
        obtain ⟨v1, v2⟩ := hstep st (by
          unfold impl_Field_bytes.f
          refine LoopK.Ev.bind_ g2 ?_
          simp only [c0, if_true]
          refine LoopK.Ev.bind_ a2 ?_
          simp only [he', hn', if_true, if_false]
          refine LoopK.Ev.bind_ q2 ?_
          simp only [c1, if_true]
          exact Ev.now _)
        refine ⟨LoopK.Ev.succ ?_, v2⟩
        simp only [spec_l15Bytes.l0, at_lt, at_nn, if_true, rd_T65, at_getD, e1]
        refine LoopK.Ev.bind_ a1 ?_
        refine LoopK.Ev.bind_ g1 ?_
        simp only [c0, he', hn', if_true, if_false]
        refine LoopK.Ev.bind_ q1 ?_
        have c9 : s.size + (t4 ++ (t7 ++ x.f1)).size ≤ 9223372036854775807 := by omega
        simp only [c1, c9, if_true]
        exact v1
      · rw [if_neg hn] at hstep
        have hn' : ¬ (n ≥ 0) := hn
        obtain ⟨q1, q2⟩ := pre_ev _ _ _ (ok3 x.f0.size hx0.1)
        have q3 : (strOfNums (pre (x.f0.size : Int) 3 32)).size ≤ 2 := by rw [pre_size]; exact (pre_len _ _ _).2
        generalize strOfNums (pre (x.f0.size : Int) 3 32) = t3 at q1 q2 q3 hstep
        have c1 : t3.size + x.f0.size ≤ 9223372036854775807 := by omega
        have sn : (t3 ++ x.f0).size ≤ 107 := by rw [ByteArray.size_append]; omega
        have c2 : (t3 ++ x.f0).size + (t7 ++ x.f1).size ≤ 9223372036854775807 := by omega
        have st : ((t3 ++ x.f0) ++ (t7 ++ x.f1)).size ≤ 500 := by rw [ByteArray.size_append]; omega
        obtain ⟨v1, v2⟩ := hstep st (by
          unfold impl_Field_bytes.f
          refine LoopK.Ev.bind_ g2 ?_
          simp only [c0, if_true]
          refine LoopK.Ev.bind_ a2 ?_
          simp only [he', hn', if_false]
          refine LoopK.Ev.bind_ q2 ?_
          simp only [c1, c2, if_true]
          exact Ev.now _)
        refine ⟨LoopK.Ev.succ ?_, v2⟩
        simp only [spec_l15Bytes.l0, at_lt, at_nn, if_true, rd_T65, at_getD, e1]
        refine LoopK.Ev.bind_ a1 ?_
        refine LoopK.Ev.bind_ g1 ?_
        simp only [c0, he', hn', if_true, if_false]
        refine LoopK.Ev.bind_ q1 ?_
        have c9 : s.size + ((t3 ++ x.f0) ++ (t7 ++ x.f1)).size ≤ 9223372036854775807 := by omega
        simp only [c1, c2, c9, if_true]
        exact v1
/-- All the bytes of a list of fields. -/
def encs (l : List S65) : ByteArray := (⟨#[0, 0]⟩ : ByteArray) ++ encL l
theorem fieldsOk_in (l : List S65) (h : fieldsOk l = true) : l.length ≤ 30 ∧ ∀ x, x ∈ l → x.f0.size ≤ 100 ∧ x.f1.size ≤ 100 := by
  unfold fieldsOk at h
  simp only [Bool.and_eq_true, decide_eq_true_eq, Bool.not_eq_true', List.any_eq_false, Bool.not_eq_false'] at h
  refine ⟨by omega, fun x hx => ?_⟩
  have h2 : fieldOk x = true := by
    have := h.2 x hx
    cases hf : fieldOk x with
    | true => rfl
    | false => rw [hf] at this; simp at this
  unfold fieldOk nameOk valueOk at h2
  simp only [Bool.and_eq_true, decide_eq_true_eq] at h2
  omega
theorem encs_ev (l : List S65) (h : fieldsOk l = true) : Ev (fun k => spec_l15Bytes.f k l) (encs l) ∧ Ev (fun k => impl_fieldsBytes.f k l) (encs l) := by
  obtain ⟨h1, h2⟩ := fieldsOk_in l h
  have z : (⟨#[0, 0]⟩ : ByteArray).size = 2 := rfl
  have h := enc_loops l [] (⟨#[0, 0]⟩ : ByteArray) (by simp; omega) h2 (by rw [z]; omega)
  simp only [List.nil_append, List.length_nil] at h
  exact h

/-! ### what was written is read: the program -/
theorem cprefix_ev (s : ByteArray) (sh : Bool) (a : Int) (X : Int × Int × Int) (hX : Ev (fun k => impl_TakePrefix.f k s a) X) (h0 : 0 ≤ X.2.2) (h1 : X.2.2 ≤ (s.size : Int)) : Ev (fun k => impl_cursor_prefix.f k s sh a) (X.1, s.extract X.2.2.toNat s.size, if X.2.2 = 0 then true else sh) := by
  unfold impl_cursor_prefix.f
  refine LoopK.Ev.bind_ hX ?_
  simp only [h0, h1, if_true]
  by_cases hz : X.2.2 = 0
  · rw [if_pos hz]
    simp only [if_pos hz]
    exact Ev.now _
  · rw [if_neg hz]
    simp only [if_neg hz]
    exact Ev.now _
theorem cprefix_app (n : Int) (j : Nat) (first : Int) (t : ByteArray) (sh : Bool) (h : PreOk n j first) : Ev (fun k => impl_cursor_prefix.f k (strOfNums (pre n j first) ++ t) sh (j : Int)) (n, t, sh) := by
  obtain ⟨X, x1, x2, _, hX⟩ := tp_pre n j first t h
  have pl := pre_len n j first
  have hs : (strOfNums (pre n j first)).size = (pre n j first).length := pre_size n j first
  have e := cprefix_ev _ sh _ X hX (by omega) (by rw [x2, ByteArray.size_append, hs]; omega)
  have e2 : X.2.2.toNat = (strOfNums (pre n j first)).size := by rw [x2, hs]; omega
  rw [e2, ext_tail, if_neg (by omega), x1] at e
  exact e
theorem ctake_app (v t : ByteArray) : impl_cursor_take.f (v ++ t) false (v.size : Int) = some (v, t, false) := by
  unfold impl_cursor_take.f
  have hs : (v ++ t).size = v.size + t.size := ByteArray.size_append
  rw [if_neg (by decide), if_neg (by rw [hs]; omega), if_pos (by omega), if_pos (by rw [hs]; omega), Int.toNat_natCast, ext_head, ext_tail]
theorem idxFrom_get {S : Type} (p : S → Bool) (z : S) : ∀ (l : List S) (i : Nat), 0 ≤ idxFrom p l i → ∃ m : Nat, idxFrom p l i = ((i + m : Nat) : Int) ∧ m < l.length ∧ p (l.getD m z) = true
  | [], i, h => by simp only [idxFrom] at h; omega
  | x :: r, i, h => by
    simp only [idxFrom] at h ⊢
    by_cases hx : p x = true
    · rw [if_pos hx]
      exact ⟨0, by simp, by simp, by simpa using hx⟩
    · rw [if_neg hx] at h ⊢
      obtain ⟨m, h1, h2, h3⟩ := idxFrom_get p z r (i + 1) h
      exact ⟨m + 1, by rw [h1]; congr 1; omega, by simp; omega, by simpa using h3⟩
theorem rd_hit (p : S65 → Bool) (h : 0 ≤ idxF p stat) : p (rd_T65 stat (idxF p stat)) = true := by
  obtain ⟨m, h1, _, h3⟩ := idxFrom_get p z65 stat 0 h
  unfold rd_T65
  have e : (idxF p stat).toNat = m := by
    show (idxFrom p stat 0).toNat = m
    rw [h1]
    omega
  rw [e]
  exact h3
theorem bytes_ext (a b : ByteArray) (h : a.toList = b.toList) : a = b := by
  rw [ByteArray.toList_eq, ByteArray.toList_eq] at h
  apply ByteArray.ext
  exact Array.toList_inj.1 h
theorem rd_e (x : S65) (h : 0 ≤ idxF (fldE x.f0 x.f1) stat) : rd_T65 stat (idxF (fldE x.f0 x.f1) stat) = x := by
  have := rd_hit _ h
  generalize rd_T65 stat (idxF (fldE x.f0 x.f1) stat) = y at this ⊢
  unfold fldE at this
  simp only [Bool.and_eq_true, beq_iff_eq] at this
  obtain ⟨y0, y1⟩ := y
  obtain ⟨x0, x1⟩ := x
  simp only at this
  rw [bytes_ext _ _ this.1, bytes_ext _ _ this.2]
theorem rd_n (x : S65) (h : 0 ≤ idxF (fldN x.f0) stat) : (rd_T65 stat (idxF (fldN x.f0) stat)).f0 = x.f0 := by
  have := rd_hit _ h
  unfold fldN at this
  simp only [beq_iff_eq] at this
  exact bytes_ext _ _ this
theorem static_at (e : Int) (h : 0 ≤ e ∧ e < 16) : impl_StaticField.f e = some ((rd_T65 stat e).f0, (rd_T65 stat e).f1, true) := by
  unfold impl_StaticField.f
  have w : wrap64 ((stat.length : Int) - 1) = 15 := by rw [stat_len]; unfold wrap64; omega
  simp only [stat_impl, Option.bind_some, in_eq, decide_eq_true_eq, w]
  rw [if_pos (by omega), if_pos h.1, if_pos (by rw [stat_len]; omega)]
theorem cfield_app (x : S65) (t : ByteArray) (hx : x.f0.size ≤ 100 ∧ x.f1.size ≤ 100) : Ev (fun k => impl_cursor_field.f k (encF x ++ t) false) (x.f0, x.f1, t, false) := by
  have ie := idx_e x
  have iN := idx_n x
  unfold impl_cursor_field.f encF
  by_cases he : 0 ≤ idxF (fldE x.f0 x.f1) stat
  · simp only [he, if_true]
    have ok := ok6 _ ⟨he, by omega⟩
    have hf := pre_first _ 6 192 t ok
    have hz : 0 < (strOfNums (pre (idxF (fldE x.f0 x.f1) stat) 6 192) ++ t).size := by
      have := pre_len (idxF (fldE x.f0 x.f1) stat) 6 192
      rw [ByteArray.size_append, pre_size]; omega
    obtain ⟨b0, b1⟩ := bt_range (strOfNums (pre (idxF (fldE x.f0 x.f1) stat) 6 192) ++ t) 0
    simp only [show (0 : Int) < ((strOfNums (pre (idxF (fldE x.f0 x.f1) stat) 6 192) ++ t).size : Int) by omega, if_true, w64 (bt (strOfNums (pre (idxF (fldE x.f0 x.f1) stat) 6 192) ++ t) 0) (by omega), show bt (strOfNums (pre (idxF (fldE x.f0 x.f1) stat) 6 192) ++ t) 0 ≥ 192 by omega]
    refine LoopK.Ev.bind_ (cprefix_app _ 6 192 t false ok) ?_
    simp only [static_at _ ⟨he, (show idxF (fldE x.f0 x.f1) stat < 16 by omega)⟩, Option.bind_some, rd_e x he]
    exact Ev.now _
  · simp only [he, if_false]
    have ok7' := ok7 x.f1.size hx.2
    have hval : Ev (fun k => (impl_cursor_prefix.f k (strOfNums (pre (x.f1.size : Int) 7 0) ++ (x.f1 ++ t)) false 7).bind fun bt203 => ((impl_cursor_take.f bt203.2.1 bt203.2.2 bt203.1).bind fun bt206 => (some (x.f0, bt206.1, bt206.2.1, bt206.2.2)))) (x.f0, x.f1, t, false) := by
      refine LoopK.Ev.bind_ (cprefix_app _ 7 0 (x.f1 ++ t) false ok7') ?_
      simp only [ctake_app, Option.bind_some]
      exact Ev.now _
    by_cases hn : 0 ≤ idxF (fldN x.f0) stat
    · simp only [hn, if_true]
      have ok := ok4 _ ⟨hn, by omega⟩
      have ea : strOfNums (pre (idxF (fldN x.f0) stat) 4 80) ++ (strOfNums (pre (x.f1.size : Int) 7 0) ++ x.f1) ++ t = strOfNums (pre (idxF (fldN x.f0) stat) 4 80) ++ (strOfNums (pre (x.f1.size : Int) 7 0) ++ (x.f1 ++ t)) := by
        simp only [ByteArray.append_assoc]
      rw [ea]
      generalize strOfNums (pre (x.f1.size : Int) 7 0) ++ (x.f1 ++ t) = u at hval
      have hf := pre_first _ 4 80 u ok
      have hz : 0 < (strOfNums (pre (idxF (fldN x.f0) stat) 4 80) ++ u).size := by
        have := pre_len (idxF (fldN x.f0) stat) 4 80
        rw [ByteArray.size_append, pre_size]; omega
      obtain ⟨b0, b1⟩ := bt_range (strOfNums (pre (idxF (fldN x.f0) stat) 4 80) ++ u) 0
      simp only [show (0 : Int) < ((strOfNums (pre (idxF (fldN x.f0) stat) 4 80) ++ u).size : Int) by omega, if_true, w64 (bt (strOfNums (pre (idxF (fldN x.f0) stat) 4 80) ++ u) 0) (by omega), show ¬ (bt (strOfNums (pre (idxF (fldN x.f0) stat) 4 80) ++ u) 0 ≥ 192) by omega, if_false, show bt (strOfNums (pre (idxF (fldN x.f0) stat) 4 80) ++ u) 0 ≥ 80 by omega]
      refine LoopK.Ev.bind_ (cprefix_app _ 4 80 u false ok) ?_
      simp only [static_at _ ⟨hn, (show idxF (fldN x.f0) stat < 16 by omega)⟩, Option.bind_some, rd_n x hn]
      refine LoopK.Ev.succ ?_
      simp only [impl_cursor_field.j0]
      exact hval
    · simp only [hn, if_false]
      have ok := ok3 x.f0.size hx.1
      have ea : (strOfNums (pre (x.f0.size : Int) 3 32) ++ x.f0) ++ (strOfNums (pre (x.f1.size : Int) 7 0) ++ x.f1) ++ t = strOfNums (pre (x.f0.size : Int) 3 32) ++ (x.f0 ++ (strOfNums (pre (x.f1.size : Int) 7 0) ++ (x.f1 ++ t))) := by
        simp only [ByteArray.append_assoc]
      rw [ea]
      generalize strOfNums (pre (x.f1.size : Int) 7 0) ++ (x.f1 ++ t) = u at hval
      have hf := pre_first _ 3 32 (x.f0 ++ u) ok
      have hz : 0 < (strOfNums (pre (x.f0.size : Int) 3 32) ++ (x.f0 ++ u)).size := by
        have := pre_len (x.f0.size : Int) 3 32
        rw [ByteArray.size_append, pre_size]; omega
      obtain ⟨b0, b1⟩ := bt_range (strOfNums (pre (x.f0.size : Int) 3 32) ++ (x.f0 ++ u)) 0
      simp only [show (0 : Int) < ((strOfNums (pre (x.f0.size : Int) 3 32) ++ (x.f0 ++ u)).size : Int) by omega, if_true, w64 (bt (strOfNums (pre (x.f0.size : Int) 3 32) ++ (x.f0 ++ u)) 0) (by omega), show ¬ (bt (strOfNums (pre (x.f0.size : Int) 3 32) ++ (x.f0 ++ u)) 0 ≥ 192) by omega, if_false, show ¬ (bt (strOfNums (pre (x.f0.size : Int) 3 32) ++ (x.f0 ++ u)) 0 ≥ 80) by omega]
      refine LoopK.Ev.bind_ (cprefix_app _ 3 32 (x.f0 ++ u) false ok) ?_
      simp only [ctake_app, Option.bind_some]
      refine LoopK.Ev.succ ?_
      simp only [impl_cursor_field.j0]
      exact hval
theorem encF_pos (x : S65) (t : ByteArray) : 0 < (encF x ++ t).size := by
  rw [ByteArray.size_append]
  unfold encF
  split
  · have := pre_len (idxF (fldE x.f0 x.f1) stat) 6 192
    rw [pre_size]; omega
  · split
    · have := pre_len (idxF (fldN x.f0) stat) 4 80
      rw [ByteArray.size_append, pre_size]; omega
    · have := pre_len (x.f0.size : Int) 3 32
      rw [ByteArray.size_append, ByteArray.size_append, pre_size]; omega
theorem ne_nil_of (s : ByteArray) (h : 0 < s.size) : ¬ (s.toList = []) := by
  have := toList_ne s h
  rwa [beq_eq_false_iff_ne] at this
theorem impl_canon (a0 : ByteArray) : ∀ r p : List S65, fieldsOk (p ++ r) = true → encs (p ++ r) = a0 → Ev (fun k => impl_ReadFields.l0 k a0 p (encL r) false) (p ++ r, true)
  | [], p, h, ha => by
    rw [List.append_nil] at h ha ⊢
    refine LoopK.Ev.succ ?_
    have e0 : (encL []).toList = ([] : List UInt8) := by rw [ByteArray.toList_eq]; rfl
    simp only [impl_ReadFields.l0, e0, true_or, if_true, impl_ReadFields.fin, Bool.false_eq_true, if_false]
    refine LoopK.Ev.bind_ (implFields_ev p) ?_
    simp only [h, if_true]
    refine LoopK.Ev.bind_ (encs_ev p h).2 ?_
    simp only [ha, if_true]
    exact Ev.now _
  | x :: r, p, h, ha => by
    obtain ⟨h1, h2⟩ := fieldsOk_in _ h
    have h3 : (p.length : Int) ≤ 30 := by
      rw [List.length_append, List.length_cons] at h1
      omega
    refine LoopK.Ev.succ ?_
    have e0 := ne_nil_of _ (encF_pos x (encL r))
    show Ev (fun k => impl_ReadFields.l0 (k + 1) a0 p (encF x ++ encL r) false) _
    simp only [impl_ReadFields.l0, e0, h3, Bool.false_eq_true, not_true, or_self, if_false]
    refine LoopK.Ev.bind_ (cfield_app x (encL r) (h2 x (by simp))) ?_
    have ih := impl_canon a0 r (p ++ [x]) (by simpa using h) (by simpa using ha)
    simpa using ih
/-! ### what was written is read: the reference -/
theorem text_app (v t : ByteArray) (j : Nat) (first : Int) (h : PreOk (v.size : Int) j first) (ht : t.size ≤ 100000000) : Ev (fun k => spec_l15Text.f k (strOfNums (pre (v.size : Int) j first) ++ (v ++ t)) (j : Int)) (v, ((pre (v.size : Int) j first).length : Int) + (v.size : Int)) := by
  obtain ⟨X, x1, x2, hX, _⟩ := tp_pre (v.size : Int) j first (v ++ t) h
  have pl := pre_len (v.size : Int) j first
  have hs := pre_size (v.size : Int) j first
  have n1 := h.2.1
  obtain ⟨p0, p1⟩ := pow_in j h.2.2.1.2
  unfold spec_l15Text.f
  refine LoopK.Ev.bind_ hX ?_
  have sz : (strOfNums (pre (v.size : Int) j first) ++ (v ++ t)).size = (pre (v.size : Int) j first).length + (v.size + t.size) := by rw [ByteArray.size_append, ByteArray.size_append, hs]
  rw [x1, x2, sz]
  have w1 : wrap64 (((((pre (v.size : Int) j first).length + (v.size + t.size) : Nat)) : Int) - ((pre (v.size : Int) j first).length : Int)) = (v.size : Int) + t.size := by rw [w64 _ (by omega)]; omega
  have w2 : wrap64 (((pre (v.size : Int) j first).length : Int) + (v.size : Int)) = ((pre (v.size : Int) j first).length : Int) + (v.size : Int) := w64 _ (by omega)
  rw [w1, w2]
  have e1 : (((pre (v.size : Int) j first).length : Int) + (v.size : Int)).toNat = (strOfNums (pre (v.size : Int) j first)).size + v.size := by rw [hs]; omega
  have e2 : (((pre (v.size : Int) j first).length : Nat) : Int).toNat = (strOfNums (pre (v.size : Int) j first)).size := by rw [hs]; omega
  rw [e1, e2, ext_mid]
  have c1 : ¬ (((pre (v.size : Int) j first).length : Int) = 0) := by omega
  have c2 : ¬ ((v.size : Int) > (v.size : Int) + (t.size : Int)) := by omega
  have c3 : 0 ≤ ((pre (v.size : Int) j first).length : Int) := by omega
  have c4 : ((pre (v.size : Int) j first).length : Int) ≤ ((pre (v.size : Int) j first).length : Int) + (v.size : Int) := by omega
  have c5 : ((pre (v.size : Int) j first).length : Int) + (v.size : Int) ≤ (((pre (v.size : Int) j first).length + (v.size + t.size) : Nat) : Int) := by omega
  simp only [c1, c2, c3, c4, c5, if_true, if_false]
  exact Ev.now _
theorem and240_all : ∀ n : Fin 256, Go.bits .and .u8 ((n : Nat) : Int) 240 = ((n : Nat) : Int) - ((n : Nat) : Int) % 16 := by decide +kernel
theorem and248_all : ∀ n : Fin 256, Go.bits .and .u8 ((n : Nat) : Int) 248 = ((n : Nat) : Int) - ((n : Nat) : Int) % 8 := by decide +kernel
theorem and240 (b : Int) (h : 0 ≤ b ∧ b ≤ 255) : Go.bits .and .u8 b 240 = b - b % 16 := by
  obtain ⟨n, rfl⟩ : ∃ n : Nat, b = (n : Int) := ⟨b.toNat, by omega⟩
  exact and240_all ⟨n, by omega⟩
theorem and248 (b : Int) (h : 0 ≤ b ∧ b ≤ 255) : Go.bits .and .u8 b 248 = b - b % 8 := by
  obtain ⟨n, rfl⟩ : ∃ n : Nat, b = (n : Int) := ⟨b.toNat, by omega⟩
  exact and248_all ⟨n, by omega⟩
/-- The value behind a name. -/
theorem j2_app (a0 : ByteArray) (out : List S65) (u n0 n1 v t : ByteArray) (R : List S65 × Bool) (hv : v.size ≤ 100) (ht : t.size ≤ 100000000) (hu : u.size ≤ 1000) (hu0 : 0 < u.size) (hb : bt (u ++ (strOfNums (pre (v.size : Int) 7 0) ++ (v ++ t))) 0 < 192) (ho : out.length ≤ 30) (h : Ev (fun k => spec_l15Read.l0 k a0 (out ++ [(⟨n0, v⟩ : S65)]) t) R) :
    Ev (fun k => spec_l15Read.j2 k a0 out (u ++ (strOfNums (pre (v.size : Int) 7 0) ++ (v ++ t))) (u.size : Int) n0 n1) R := by
  refine LoopK.Ev.succ ?_
  have pl := pre_len (v.size : Int) 7 0
  have hs := pre_size (v.size : Int) 7 0
  have sz : (u ++ (strOfNums (pre (v.size : Int) 7 0) ++ (v ++ t))).size = u.size + ((pre (v.size : Int) 7 0).length + (v.size + t.size)) := by rw [ByteArray.size_append, ByteArray.size_append, ByteArray.size_append, hs]
  simp only [spec_l15Read.j2]
  rw [Int.toNat_natCast, ext_tail]
  simp only [show (0 : Int) < ((u ++ (strOfNums (pre (v.size : Int) 7 0) ++ (v ++ t))).size : Int) by rw [sz]; omega, hb, if_true, show (0 : Int) ≤ (u.size : Int) by omega, show (u.size : Int) ≤ ((u ++ (strOfNums (pre (v.size : Int) 7 0) ++ (v ++ t))).size : Int) by rw [sz]; omega]
  refine LoopK.Ev.bind_ (text_app v t 7 0 (ok7 v.size hv) ht) ?_
  have w2 : wrap64 ((u.size : Int) + (((pre (v.size : Int) 7 0).length : Int) + (v.size : Int))) = (u.size : Int) + (((pre (v.size : Int) 7 0).length : Int) + (v.size : Int)) := w64 _ (by omega)
  have c1 : ¬ (((pre (v.size : Int) 7 0).length : Int) + (v.size : Int) < 0) := by omega
  have c2 : out.length < 4398046511104 := by omega
  have e1 : ((u.size : Int) + (((pre (v.size : Int) 7 0).length : Int) + (v.size : Int))).toNat = (u ++ (strOfNums (pre (v.size : Int) 7 0) ++ v)).size := by rw [ByteArray.size_append, ByteArray.size_append, hs]; omega
  have ea : u ++ (strOfNums (pre (v.size : Int) 7 0) ++ (v ++ t)) = (u ++ (strOfNums (pre (v.size : Int) 7 0) ++ v)) ++ t := by simp only [ByteArray.append_assoc]
  have e2 : (u ++ (strOfNums (pre (v.size : Int) 7 0) ++ (v ++ t))).extract (((u.size : Int) + (((pre (v.size : Int) 7 0).length : Int) + (v.size : Int))).toNat) (u ++ (strOfNums (pre (v.size : Int) 7 0) ++ (v ++ t))).size = t := by
    rw [e1, ea, ext_tail]
  simp only [c1, if_false, c2, if_true, w2, show (0 : Int) ≤ (u.size : Int) + (((pre (v.size : Int) 7 0).length : Int) + (v.size : Int)) by omega, show (u.size : Int) + (((pre (v.size : Int) 7 0).length : Int) + (v.size : Int)) ≤ ((u ++ (strOfNums (pre (v.size : Int) 7 0) ++ (v ++ t))).size : Int) by rw [sz]; omega, e2]
  exact h

theorem sfield_app (a0 : ByteArray) (out : List S65) (x : S65) (t : ByteArray) (R : List S65 × Bool) (hx : x.f0.size ≤ 100 ∧ x.f1.size ≤ 100) (ht : t.size ≤ 2000000) (ho : out.length ≤ 30) (h : Ev (fun k => spec_l15Read.l0 k a0 (out ++ [x]) t) R) : Ev (fun k => spec_l15Read.j1 k a0 out (encF x ++ t) true) R := by
  have ie := idx_e x
  have iN := idx_n x
  refine LoopK.Ev.succ ?_
  unfold encF
  by_cases he : 0 ≤ idxF (fldE x.f0 x.f1) stat
  · simp only [he, if_true]
    have ok := ok6 _ ⟨he, by omega⟩
    have hf := pre_first _ 6 192 t ok
    have pl := pre_len (idxF (fldE x.f0 x.f1) stat) 6 192
    have hs := pre_size (idxF (fldE x.f0 x.f1) stat) 6 192
    have rde := rd_e x he
    have hz : ((strOfNums (pre (idxF (fldE x.f0 x.f1) stat) 6 192) ++ t).size : Int) = ((pre (idxF (fldE x.f0 x.f1) stat) 6 192).length : Int) + (t.size : Int) := by rw [ByteArray.size_append, hs]; omega
    obtain ⟨X, x1, x2, hX, _⟩ := tp_pre _ 6 192 t ok
    have ex := ext_tail (strOfNums (pre (idxF (fldE x.f0 x.f1) stat) 6 192)) t
    rw [hs] at ex
    generalize (pre (idxF (fldE x.f0 x.f1) stat) 6 192).length = L at pl hz x2 ex
    generalize strOfNums (pre (idxF (fldE x.f0 x.f1) stat) 6 192) ++ t = s at hf hz hX ex ⊢
    generalize idxF (fldE x.f0 x.f1) stat = e at he ie x1 rde
    simp only [spec_l15Read.j1, show (0 : Int) < (s.size : Int) by omega, if_true, show bt s 0 ≥ 192 by omega]
    refine LoopK.Ev.bind_ hX ?_
    simp only [x1, x2, show ¬ ((L : Int) = 0) by omega, if_false, show ¬ (e > 15) by omega, stat_spec, Option.bind_some, he, if_true, show e < (stat.length : Int) by rw [stat_len]; omega, rde]
    refine LoopK.Ev.succ ?_
    simp only [spec_l15Read.j2, show (0 : Int) < (s.size : Int) by omega, if_true, show ¬ (bt s 0 < 192) by omega, if_false, show out.length < 4398046511104 by omega, show (0 : Int) ≤ (L : Int) by omega, show (L : Int) ≤ (s.size : Int) by omega, Int.toNat_natCast, ex]
    exact h
  · simp only [he, if_false]
    by_cases hn : 0 ≤ idxF (fldN x.f0) stat
    · simp only [hn, if_true]
      have ok := ok4 _ ⟨hn, by omega⟩
      have ea : strOfNums (pre (idxF (fldN x.f0) stat) 4 80) ++ (strOfNums (pre (x.f1.size : Int) 7 0) ++ x.f1) ++ t = strOfNums (pre (idxF (fldN x.f0) stat) 4 80) ++ (strOfNums (pre (x.f1.size : Int) 7 0) ++ (x.f1 ++ t)) := by
        simp only [ByteArray.append_assoc]
      rw [ea]
      have hf := pre_first _ 4 80 (strOfNums (pre (x.f1.size : Int) 7 0) ++ (x.f1 ++ t)) ok
      have pl := pre_len (idxF (fldN x.f0) stat) 4 80
      have hs := pre_size (idxF (fldN x.f0) stat) 4 80
      have rdn := rd_n x hn
      obtain ⟨X, x1, x2, hX, _⟩ := tp_pre _ 4 80 (strOfNums (pre (x.f1.size : Int) 7 0) ++ (x.f1 ++ t)) ok
      have hj := fun n1 => j2_app a0 out (strOfNums (pre (idxF (fldN x.f0) stat) 4 80)) x.f0 n1 x.f1 t R hx.2 (by omega) (by rw [hs]; omega) (by rw [hs]; omega) (by omega) ho h
      rw [hs] at hj
      have hz : 0 < (strOfNums (pre (idxF (fldN x.f0) stat) 4 80) ++ (strOfNums (pre (x.f1.size : Int) 7 0) ++ (x.f1 ++ t))).size := by rw [ByteArray.size_append, hs]; omega
      generalize (pre (idxF (fldN x.f0) stat) 4 80).length = L at pl x2 hj
      generalize strOfNums (pre (idxF (fldN x.f0) stat) 4 80) ++ (strOfNums (pre (x.f1.size : Int) 7 0) ++ (x.f1 ++ t)) = s at hf hX hj hz ⊢
      obtain ⟨b0, b1⟩ := bt_range s 0
      generalize idxF (fldN x.f0) stat = e at hn iN x1 rdn
      have w240 : Go.bits .and .u8 (bt s 0) 240 = 80 := by rw [and240 _ ⟨b0, b1⟩]; omega
      simp only [spec_l15Read.j1, show (0 : Int) < (s.size : Int) by omega, if_true, show ¬ (bt s 0 ≥ 192) by omega, if_false, w240]
      refine LoopK.Ev.bind_ hX ?_
      simp only [x1, x2, show ¬ ((L : Int) = 0) by omega, if_false, show ¬ (e > 15) by omega, stat_spec, Option.bind_some, hn, if_true, show e < (stat.length : Int) by rw [stat_len]; omega, rdn]
      exact hj _
    · simp only [hn, if_false]
      have ok := ok3 x.f0.size hx.1
      have ea : (strOfNums (pre (x.f0.size : Int) 3 32) ++ x.f0) ++ (strOfNums (pre (x.f1.size : Int) 7 0) ++ x.f1) ++ t = (strOfNums (pre (x.f0.size : Int) 3 32) ++ x.f0) ++ (strOfNums (pre (x.f1.size : Int) 7 0) ++ (x.f1 ++ t)) := by
        simp only [ByteArray.append_assoc]
      have eb : (strOfNums (pre (x.f0.size : Int) 3 32) ++ x.f0) ++ (strOfNums (pre (x.f1.size : Int) 7 0) ++ (x.f1 ++ t)) = strOfNums (pre (x.f0.size : Int) 3 32) ++ (x.f0 ++ (strOfNums (pre (x.f1.size : Int) 7 0) ++ (x.f1 ++ t))) := by
        simp only [ByteArray.append_assoc]
      rw [ea]
      have hf := pre_first _ 3 32 (x.f0 ++ (strOfNums (pre (x.f1.size : Int) 7 0) ++ (x.f1 ++ t))) ok
      have pl := pre_len (x.f0.size : Int) 3 32
      have hs := pre_size (x.f0.size : Int) 3 32
      have pl7 := pre_len (x.f1.size : Int) 7 0
      have hs7 := pre_size (x.f1.size : Int) 7 0
      have hT := text_app x.f0 (strOfNums (pre (x.f1.size : Int) 7 0) ++ (x.f1 ++ t)) 3 32 ok (by rw [ByteArray.size_append, ByteArray.size_append, hs7]; omega)
      rw [← eb] at hf hT
      have hj := fun n1 => j2_app a0 out (strOfNums (pre (x.f0.size : Int) 3 32) ++ x.f0) x.f0 n1 x.f1 t R hx.2 (by omega) (by rw [ByteArray.size_append, hs]; omega) (by rw [ByteArray.size_append, hs]; omega) (by omega) ho h
      have hu : (((strOfNums (pre (x.f0.size : Int) 3 32) ++ x.f0).size : Nat) : Int) = ((pre (x.f0.size : Int) 3 32).length : Int) + (x.f0.size : Int) := by rw [ByteArray.size_append, hs]; omega
      rw [hu] at hj
      have hz : 0 < (strOfNums (pre (x.f0.size : Int) 3 32) ++ x.f0 ++ (strOfNums (pre (x.f1.size : Int) 7 0) ++ (x.f1 ++ t))).size := by rw [ByteArray.size_append, ByteArray.size_append, hs]; omega
      generalize (pre (x.f0.size : Int) 3 32).length = L at pl hj hT
      generalize strOfNums (pre (x.f0.size : Int) 3 32) ++ x.f0 ++ (strOfNums (pre (x.f1.size : Int) 7 0) ++ (x.f1 ++ t)) = s at hf hj hT hz ⊢
      obtain ⟨b0, b1⟩ := bt_range s 0
      have w240 : ¬ (Go.bits .and .u8 (bt s 0) 240 = 80) := by rw [and240 _ ⟨b0, b1⟩]; omega
      have w248 : Go.bits .and .u8 (bt s 0) 248 = 32 := by rw [and248 _ ⟨b0, b1⟩]; omega
      simp only [spec_l15Read.j1, show (0 : Int) < (s.size : Int) by omega, if_true, show ¬ (bt s 0 ≥ 192) by omega, if_false, w240, w248]
      refine LoopK.Ev.bind_ hT ?_
      simp only [show ¬ ((L : Int) + (x.f0.size : Int) < 0) by omega, if_false]
      exact hj _
theorem spec_canon (a0 : ByteArray) : ∀ r p : List S65, fieldsOk (p ++ r) = true → encs (p ++ r) = a0 → (encL r).size ≤ 2000000 → Ev (fun k => spec_l15Read.l0 k a0 p (encL r)) (p ++ r, true)
  | [], p, h, ha, _ => by
    rw [List.append_nil] at h ha ⊢
    have e0 : (encL []).toList = ([] : List UInt8) := by rw [ByteArray.toList_eq]; rfl
    obtain ⟨h1, h2⟩ := fieldsOk_in _ h
    refine LoopK.Ev.succ ?_
    simp only [spec_l15Read.l0, e0, if_true]
    refine LoopK.Ev.succ ?_
    simp only [spec_l15Read.j1, Bool.false_eq_true, if_false]
    refine LoopK.Ev.bind_ (specFields_ev p (by omega) (fun x hx => by have := h2 x hx; omega)) ?_
    simp only [h, if_true]
    refine LoopK.Ev.bind_ (encs_ev p h).1 ?_
    simp only [ha, if_true]
    exact Ev.now _
  | x :: r, p, h, ha, hz => by
    obtain ⟨h1, h2⟩ := fieldsOk_in _ h
    have h3 : p.length ≤ 30 := by
      rw [List.length_append, List.length_cons] at h1
      omega
    have h4 : (p.length : Int) ≤ 30 := by omega
    have hz2 : (encL r).size ≤ 2000000 := by
      have : (encL (x :: r)).size = (encF x).size + (encL r).size := ByteArray.size_append
      omega
    have e0 := ne_nil_of _ (encF_pos x (encL r))
    refine LoopK.Ev.succ ?_
    show Ev (fun k => spec_l15Read.l0 (k + 1) a0 p (encF x ++ encL r)) _
    simp only [spec_l15Read.l0, e0, if_false, h4, decide_true]
    refine sfield_app a0 p x (encL r) _ (h2 x (by simp)) hz2 h3 ?_
    have ih := spec_canon a0 r (p ++ [x]) (by simpa using h) (by simpa using ha) hz2
    simpa using ih
/-! ### whatever comes in, both come to an end, and what they accept is what is written so -/
def Fin (a0 : ByteArray) (v : List S65 × Bool) : Prop := (v.2 = true ∧ fieldsOk v.1 = true ∧ encs v.1 = a0) ∨ v = ([], false)
theorem implFin_def (a0 : ByteArray) (out : List S65) (sh : Bool) : ∃ v, Ev (fun k => impl_ReadFields.fin k a0 out sh) v ∧ Fin a0 v := by
  unfold impl_ReadFields.fin
  cases sh with
  | true =>
    simp only [if_true]
    exact ⟨_, Ev.now _, Or.inr rfl⟩
  | false =>
    simp only [Bool.false_eq_true, if_false]
    cases hg : fieldsOk out with
    | false =>
      refine ⟨_, LoopK.Ev.bind_ (implFields_ev out) ?_, Or.inr rfl⟩
      simp only [hg, Bool.false_eq_true, if_false]
      exact Ev.now _
    | true =>
      by_cases he : (encs out).toList = a0.toList
      · refine ⟨(out, true), LoopK.Ev.bind_ (implFields_ev out) ?_, Or.inl ⟨rfl, hg, bytes_ext _ _ he⟩⟩
        simp only [hg, if_true]
        refine LoopK.Ev.bind_ (encs_ev out hg).2 ?_
        simp only [he, if_true]
        exact Ev.now _
      · refine ⟨([], false), LoopK.Ev.bind_ (implFields_ev out) ?_, Or.inr rfl⟩
        simp only [hg, if_true]
        refine LoopK.Ev.bind_ (encs_ev out hg).2 ?_
        simp only [he, if_false]
        exact Ev.now _
theorem cprefix_def (s : ByteArray) (sh : Bool) (a : Int) : ∃ v : Int × ByteArray × Bool, Ev (fun k => impl_cursor_prefix.f k s sh a) v ∧ 0 ≤ v.1 := by
  obtain ⟨X, _, hX, h1, h2, h3, h4⟩ := tp_ev s a
  exact ⟨_, cprefix_ev s sh a X hX h3 h4, h1⟩
theorem ctake_def (s : ByteArray) (sh : Bool) (n : Int) (h : 0 ≤ n) : ∃ v, impl_cursor_take.f s sh n = some v := by
  unfold impl_cursor_take.f
  split
  · exact ⟨_, rfl⟩
  · by_cases h2 : n > (s.size : Int)
    · rw [if_pos h2]; exact ⟨_, rfl⟩
    · simp only [h2, h, if_false, if_true, show n ≤ (s.size : Int) by omega]; exact ⟨_, rfl⟩
theorem cstatic_def (n : Int) (h : 0 ≤ n) : ∃ v, impl_StaticField.f n = some v := by
  by_cases h2 : n < 16
  · exact ⟨_, static_at n ⟨h, h2⟩⟩
  · unfold impl_StaticField.f
    have w : wrap64 ((stat.length : Int) - 1) = 15 := by rw [stat_len]; unfold wrap64; omega
    simp only [stat_impl, Option.bind_some, in_eq, decide_eq_true_eq, w]
    rw [if_neg (by omega)]
    exact ⟨_, rfl⟩
theorem cfield_j0 (s : ByteArray) (sh : Bool) (n0 n1 : ByteArray) : ∃ v, Ev (fun k => impl_cursor_field.j0 k s sh n0 n1) v := by
  obtain ⟨X, hX, h1⟩ := cprefix_def s sh 7
  obtain ⟨v, hv⟩ := ctake_def X.2.1 X.2.2 X.1 h1
  refine ⟨(n0, v.1, v.2.1, v.2.2), LoopK.Ev.succ ?_⟩
  simp only [impl_cursor_field.j0]
  refine LoopK.Ev.bind_ hX ?_
  simp only [hv, Option.bind_some]
  exact Ev.now _
theorem cfield_def (s : ByteArray) (sh : Bool) (h : 0 < s.size) : ∃ v, Ev (fun k => impl_cursor_field.f k s sh) v := by
  unfold impl_cursor_field.f
  simp only [show (0 : Int) < (s.size : Int) by omega, if_true]
  by_cases h1 : wrap64 (bt s 0) ≥ 192
  · simp only [h1, if_true]
    obtain ⟨X, hX, x1⟩ := cprefix_def s sh 6
    obtain ⟨v, hv⟩ := cstatic_def X.1 x1
    refine ⟨(v.1, v.2.1, X.2.1, X.2.2), LoopK.Ev.bind_ hX ?_⟩
    simp only [hv, Option.bind_some]
    exact Ev.now _
  · simp only [h1, if_false]
    by_cases h2 : wrap64 (bt s 0) ≥ 80
    · simp only [h2, if_true]
      obtain ⟨X, hX, x1⟩ := cprefix_def s sh 4
      obtain ⟨v, hv⟩ := cstatic_def X.1 x1
      obtain ⟨u, hu⟩ := cfield_j0 X.2.1 X.2.2 v.1 (⟨#[]⟩ : ByteArray)
      refine ⟨u, LoopK.Ev.bind_ hX ?_⟩
      simp only [hv, Option.bind_some]
      exact hu
    · simp only [h2, if_false]
      obtain ⟨X, hX, x1⟩ := cprefix_def s sh 3
      obtain ⟨v, hv⟩ := ctake_def X.2.1 X.2.2 X.1 x1
      obtain ⟨u, hu⟩ := cfield_j0 v.2.1 v.2.2 v.1 (⟨#[]⟩ : ByteArray)
      refine ⟨u, LoopK.Ev.bind_ hX ?_⟩
      simp only [hv, Option.bind_some]
      exact hu
theorem pos_of (s : ByteArray) (h : ¬ (s.toList = [])) : 0 < s.size := by
  rcases Nat.eq_zero_or_pos s.size with h2 | h2
  · exfalso
    apply h
    rw [ByteArray.toList_eq]
    exact List.eq_nil_of_length_eq_zero (by simpa using h2)
  · exact h2
theorem impl_loop_def (a0 : ByteArray) : ∀ (d : Nat) (out : List S65) (s : ByteArray) (sh : Bool), out.length + d = 31 → ∃ v, Ev (fun k => impl_ReadFields.l0 k a0 out s sh) v ∧ Fin a0 v := by
  intro d
  induction d with
  | zero =>
    intro out s sh hd
    obtain ⟨v, hv, hF⟩ := implFin_def a0 out sh
    refine ⟨v, LoopK.Ev.succ ?_, hF⟩
    have c : s.toList = ([] : List UInt8) ∨ sh = true ∨ ¬ ((out.length : Int) ≤ 30) := Or.inr (Or.inr (by omega))
    simp only [impl_ReadFields.l0, c, if_true]
    exact hv
  | succ d ih =>
    intro out s sh hd
    by_cases c : s.toList = ([] : List UInt8) ∨ sh = true ∨ ¬ ((out.length : Int) ≤ 30)
    · obtain ⟨v, hv, hF⟩ := implFin_def a0 out sh
      refine ⟨v, LoopK.Ev.succ ?_, hF⟩
      simp only [impl_ReadFields.l0, c, if_true]
      exact hv
    · obtain ⟨f, hf⟩ := cfield_def s sh (pos_of s (fun e => c (Or.inl e)))
      obtain ⟨v, hv, hF⟩ := ih (out ++ [(⟨f.1, f.2.1⟩ : S65)]) f.2.2.1 f.2.2.2 (by rw [List.length_append]; simp; omega)
      refine ⟨v, LoopK.Ev.succ ?_, hF⟩
      simp only [impl_ReadFields.l0, c, if_false]
      exact LoopK.Ev.bind_ hf hv
theorem ext_le (s : ByteArray) (i j : Nat) : (s.extract i j).size ≤ s.size := by
  rw [ByteArray.size_extract]
  omega
theorem text_def (s : ByteArray) (a : Int) (hs : s.size ≤ 2000000) : ∃ v : ByteArray × Int, Ev (fun k => spec_l15Text.f k s a) v ∧ v.1.size ≤ s.size ∧ v.2 ≤ (s.size : Int) := by
  obtain ⟨X, hX, _, h1, h2, h3, h4⟩ := tp_ev s a
  unfold spec_l15Text.f
  by_cases c1 : X.2.2 = 0
  · refine ⟨((⟨#[]⟩ : ByteArray), -1), LoopK.Ev.bind_ hX ?_, Nat.zero_le _, by show (-1 : Int) ≤ _; omega⟩
    simp only [c1, if_true]
    exact Ev.now _
  · have w1 : wrap64 ((s.size : Int) - X.2.2) = (s.size : Int) - X.2.2 := w64 _ (by omega)
    by_cases c2 : X.1 > (s.size : Int) - X.2.2
    · refine ⟨((⟨#[]⟩ : ByteArray), -1), LoopK.Ev.bind_ hX ?_, Nat.zero_le _, by show (-1 : Int) ≤ _; omega⟩
      simp only [c1, c2, w1, if_true, if_false]
      exact Ev.now _
    · have w2 : wrap64 (X.2.2 + X.1) = X.2.2 + X.1 := w64 _ (by omega)
      refine ⟨(s.extract X.2.2.toNat (X.2.2 + X.1).toNat, X.2.2 + X.1), LoopK.Ev.bind_ hX ?_, ext_le _ _ _, by show X.2.2 + X.1 ≤ _; omega⟩
      simp only [c1, c2, w1, w2, h3, if_true, if_false, show X.2.2 ≤ X.2.2 + X.1 by omega, show X.2.2 + X.1 ≤ (s.size : Int) by omega]
      exact Ev.now _
def SmallL (l : List S65) : Prop := ∀ x, x ∈ l → x.f0.size ≤ 2000000 ∧ x.f1.size ≤ 2000000
theorem small_snoc (l : List S65) (a b : ByteArray) (h : SmallL l) (ha : a.size ≤ 2000000) (hb : b.size ≤ 2000000) : SmallL (l ++ [(⟨a, b⟩ : S65)]) := by
  intro x hx
  rcases List.mem_append.1 hx with hx | hx
  · exact h x hx
  · obtain rfl := List.mem_singleton.1 hx
    exact ⟨ha, hb⟩
theorem stat_all : (stat.all fun x => decide (x.f0.size ≤ 100 ∧ x.f1.size ≤ 100)) = true := by decide
theorem stat_small (e : Int) : (rd_T65 stat e).f0.size ≤ 100 ∧ (rd_T65 stat e).f1.size ≤ 100 := by
  unfold rd_T65
  rw [List.getD_eq_getElem?_getD]
  cases h : stat[e.toNat]? with
  | none => exact ⟨Nat.zero_le _, Nat.zero_le _⟩
  | some x => exact of_decide_eq_true (List.all_eq_true.1 stat_all x (List.mem_of_getElem? h))
theorem specFin_def (a0 : ByteArray) (out : List S65) (s : ByteArray) (hl : out.length ≤ 1000) (hx : SmallL out) : ∃ v, Ev (fun k => spec_l15Read.j1 k a0 out s false) v ∧ Fin a0 v := by
  have hg0 := specFields_ev out (by omega) (fun x h => by have := hx x h; omega)
  cases hg : fieldsOk out with
  | false =>
    refine ⟨_, LoopK.Ev.succ ?_, Or.inr rfl⟩
    simp only [spec_l15Read.j1, Bool.false_eq_true, if_false]
    refine LoopK.Ev.bind_ hg0 ?_
    simp only [hg, Bool.false_eq_true, if_false]
    exact Ev.now _
  | true =>
    by_cases he : (encs out).toList = a0.toList
    · refine ⟨(out, true), LoopK.Ev.succ ?_, Or.inl ⟨rfl, hg, bytes_ext _ _ he⟩⟩
      simp only [spec_l15Read.j1, Bool.false_eq_true, if_false]
      refine LoopK.Ev.bind_ hg0 ?_
      simp only [hg, if_true]
      refine LoopK.Ev.bind_ (encs_ev out hg).1 ?_
      simp only [he, if_true]
      exact Ev.now _
    · refine ⟨([], false), LoopK.Ev.succ ?_, Or.inr rfl⟩
      simp only [spec_l15Read.j1, Bool.false_eq_true, if_false]
      refine LoopK.Ev.bind_ hg0 ?_
      simp only [hg, if_true]
      refine LoopK.Ev.bind_ (encs_ev out hg).1 ?_
      simp only [he, if_false]
      exact Ev.now _
theorem spec_loop_def (a0 : ByteArray) : ∀ (d : Nat) (out : List S65) (s : ByteArray), out.length + d = 31 → s.size ≤ 2000000 → SmallL out → ∃ v, Ev (fun k => spec_l15Read.l0 k a0 out s) v ∧ Fin a0 v := by
  intro d
  induction d with
  | zero =>
    intro out s hd hs hx
    obtain ⟨v, hv, hF⟩ := specFin_def a0 out s (by omega) hx
    refine ⟨v, LoopK.Ev.succ ?_, hF⟩
    have c : ¬ ((out.length : Int) ≤ 30) := by omega
    simp only [spec_l15Read.l0, c, decide_false, ite_self]
    exact hv
  | succ d ih =>
    intro out s hd hs hx
    by_cases e0 : s.toList = ([] : List UInt8)
    · obtain ⟨v, hv, hF⟩ := specFin_def a0 out s (by omega) hx
      refine ⟨v, LoopK.Ev.succ ?_, hF⟩
      simp only [spec_l15Read.l0, e0, if_true]
      exact hv
    have hp := pos_of s e0
    have c : (out.length : Int) ≤ 30 := by omega
    have clt : out.length < 4398046511104 := by omega
    have hp' : (0 : Int) < (s.size : Int) := by omega
    have hj2 : ∀ (x7 : Int) (n0 n1 : ByteArray), 0 ≤ x7 → x7 ≤ (s.size : Int) → n0.size ≤ 2000000 → n1.size ≤ 2000000 → ∃ v, Ev (fun k => spec_l15Read.j2 k a0 out s x7 n0 n1) v ∧ Fin a0 v := by
      intro x7 n0 n1 h0 h1 hn0 hn1
      by_cases hb : bt s 0 < 192
      · obtain ⟨T, hT, t1, t2⟩ := text_def (s.extract x7.toNat s.size) 7 (Nat.le_trans (ext_le _ _ _) hs)
        have es : (s.extract x7.toNat s.size).size = s.size - x7.toNat := by rw [ByteArray.size_extract]; omega
        rw [es] at t1 t2
        by_cases ht : T.2 < 0
        · refine ⟨([], false), LoopK.Ev.succ ?_, Or.inr rfl⟩
          simp only [spec_l15Read.j2, hp', hb, h0, h1, if_true]
          refine LoopK.Ev.bind_ hT ?_
          simp only [ht, if_true]
          exact Ev.now _
        · have w1 : wrap64 (x7 + T.2) = x7 + T.2 := w64 _ (by omega)
          obtain ⟨v, hv, hF⟩ := ih (out ++ [(⟨n0, T.1⟩ : S65)]) (s.extract (x7 + T.2).toNat s.size) (by rw [List.length_append]; simp; omega) (Nat.le_trans (ext_le _ _ _) hs) (small_snoc _ _ _ hx hn0 (by omega))
          refine ⟨v, LoopK.Ev.succ ?_, hF⟩
          simp only [spec_l15Read.j2, hp', hb, h0, h1, if_true]
          refine LoopK.Ev.bind_ hT ?_
          simp only [ht, if_false, clt, w1, if_true, show 0 ≤ x7 + T.2 by omega, show x7 + T.2 ≤ (s.size : Int) by omega]
          exact hv
      · obtain ⟨v, hv, hF⟩ := ih (out ++ [(⟨n0, n1⟩ : S65)]) (s.extract x7.toNat s.size) (by rw [List.length_append]; simp; omega) (Nat.le_trans (ext_le _ _ _) hs) (small_snoc _ _ _ hx hn0 hn1)
        refine ⟨v, LoopK.Ev.succ ?_, hF⟩
        simp only [spec_l15Read.j2, hp', hb, h0, h1, if_true, if_false, clt]
        exact hv
    have hj1 : ∃ v, Ev (fun k => spec_l15Read.j1 k a0 out s true) v ∧ Fin a0 v := by
      by_cases b1 : bt s 0 ≥ 192
      · obtain ⟨X, hX, _, h1, h2, h3, h4⟩ := tp_ev s 6
        by_cases c1 : X.2.2 = 0
        · refine ⟨([], false), LoopK.Ev.succ ?_, Or.inr rfl⟩
          simp only [spec_l15Read.j1, hp', b1, if_true]
          refine LoopK.Ev.bind_ hX ?_
          simp only [c1, if_true]
          exact Ev.now _
        · by_cases c2 : X.1 > 15
          · refine ⟨([], false), LoopK.Ev.succ ?_, Or.inr rfl⟩
            simp only [spec_l15Read.j1, hp', b1, if_true]
            refine LoopK.Ev.bind_ hX ?_
            simp only [c1, c2, if_true, if_false]
            exact Ev.now _
          · have ss := stat_small X.1
            obtain ⟨v, hv, hF⟩ := hj2 X.2.2 (rd_T65 stat X.1).f0 (rd_T65 stat X.1).f1 h3 h4 (by omega) (by omega)
            refine ⟨v, LoopK.Ev.succ ?_, hF⟩
            simp only [spec_l15Read.j1, hp', b1, if_true]
            refine LoopK.Ev.bind_ hX ?_
            simp only [c1, c2, if_false, stat_spec, Option.bind_some, h1, if_true, show X.1 < (stat.length : Int) by rw [stat_len]; omega]
            exact hv
      · by_cases b2 : Go.bits .and .u8 (bt s 0) 240 = 80
        · obtain ⟨X, hX, _, h1, h2, h3, h4⟩ := tp_ev s 4
          by_cases c1 : X.2.2 = 0
          · refine ⟨([], false), LoopK.Ev.succ ?_, Or.inr rfl⟩
            simp only [spec_l15Read.j1, hp', b1, b2, if_true, if_false]
            refine LoopK.Ev.bind_ hX ?_
            simp only [c1, if_true]
            exact Ev.now _
          · by_cases c2 : X.1 > 15
            · refine ⟨([], false), LoopK.Ev.succ ?_, Or.inr rfl⟩
              simp only [spec_l15Read.j1, hp', b1, b2, if_true, if_false]
              refine LoopK.Ev.bind_ hX ?_
              simp only [c1, c2, if_true, if_false]
              exact Ev.now _
            · have ss := stat_small X.1
              obtain ⟨v, hv, hF⟩ := hj2 X.2.2 (rd_T65 stat X.1).f0 (⟨#[]⟩ : ByteArray) h3 h4 (by omega) (Nat.zero_le _)
              refine ⟨v, LoopK.Ev.succ ?_, hF⟩
              simp only [spec_l15Read.j1, hp', b1, b2, if_true, if_false]
              refine LoopK.Ev.bind_ hX ?_
              simp only [c1, c2, if_false, stat_spec, Option.bind_some, h1, if_true, show X.1 < (stat.length : Int) by rw [stat_len]; omega]
              exact hv
        · by_cases b3 : Go.bits .and .u8 (bt s 0) 248 = 32
          · obtain ⟨T, hT, t1, t2⟩ := text_def s 3 hs
            by_cases ht : T.2 < 0
            · refine ⟨([], false), LoopK.Ev.succ ?_, Or.inr rfl⟩
              simp only [spec_l15Read.j1, hp', b1, b2, b3, if_true, if_false]
              refine LoopK.Ev.bind_ hT ?_
              simp only [ht, if_true]
              exact Ev.now _
            · obtain ⟨v, hv, hF⟩ := hj2 T.2 T.1 (⟨#[]⟩ : ByteArray) (by omega) t2 (by omega) (Nat.zero_le _)
              refine ⟨v, LoopK.Ev.succ ?_, hF⟩
              simp only [spec_l15Read.j1, hp', b1, b2, b3, if_true, if_false]
              refine LoopK.Ev.bind_ hT ?_
              simp only [ht, if_false]
              exact hv
          · refine ⟨([], false), LoopK.Ev.succ ?_, Or.inr rfl⟩
            simp only [spec_l15Read.j1, hp', b1, b2, b3, if_true, if_false]
            exact Ev.now _
    obtain ⟨v, hv, hF⟩ := hj1
    refine ⟨v, LoopK.Ev.succ ?_, hF⟩
    simp only [spec_l15Read.l0, e0, if_false, c, decide_true]
    exact hv
theorem read_ev (a0 : ByteArray) (hs : a0.size ≤ 1048576) : ∃ v, Ev (fun k => spec_ReadFields.f k a0) v ∧ Ev (fun k => impl_ReadFields.f k a0) v ∧ v.1.length ≤ 30 := by
  have canon : ∀ l, fieldsOk l = true → encs l = a0 → Ev (fun k => spec_ReadFields.f k a0) (l, true) ∧ Ev (fun k => impl_ReadFields.f k a0) (l, true) := by
    intro l h1 h2
    have e2 : (⟨#[0, 0]⟩ : ByteArray).size = 2 := rfl
    have hz : a0.size = 2 + (encL l).size := by rw [← h2]; unfold encs; rw [ByteArray.size_append, e2]
    have ht : a0.extract 2 a0.size = encL l := by
      rw [← h2]
      exact ext_tail (⟨#[0, 0]⟩ : ByteArray) (encL l)
    constructor
    · unfold spec_ReadFields.f
      refine LoopK.Ev.bind_ (a := (l, true)) ?_ (Ev.now _)
      unfold spec_l15Read.f
      simp only [show ¬ ((a0.size : Int) < 2) by omega, if_false, show (2 : Int) ≤ (a0.size : Int) by omega, if_true, ht]
      exact spec_canon a0 l [] h1 h2 (by omega)
    · unfold impl_ReadFields.f impl_cursor_take.f
      simp only [Bool.false_eq_true, if_false, show ¬ ((2 : Int) > (a0.size : Int)) by omega, show (0 : Int) ≤ 2 by decide, show (2 : Int) ≤ (a0.size : Int) by omega, if_true, Option.bind_some]
      have e3 : (2 : Int).toNat = 2 := rfl
      rw [e3, ht]
      exact impl_canon a0 l [] h1 h2
  have hS : ∃ v, Ev (fun k => spec_ReadFields.f k a0) v ∧ Fin a0 v := by
    unfold spec_ReadFields.f spec_l15Read.f
    by_cases c : (a0.size : Int) < 2
    · refine ⟨([], false), LoopK.Ev.bind_ (a := ([], false)) ?_ (Ev.now _), Or.inr rfl⟩
      simp only [c, if_true]
      exact Ev.now _
    · obtain ⟨v, hv, hF⟩ := spec_loop_def a0 31 [] (a0.extract 2 a0.size) rfl (Nat.le_trans (ext_le _ _ _) (by omega)) (fun x hx => by simp at hx)
      refine ⟨v, LoopK.Ev.bind_ (a := v) ?_ (Ev.now _), hF⟩
      simp only [c, if_false, show (2 : Int) ≤ (a0.size : Int) by omega, if_true]
      exact hv
  have hI : ∃ v, Ev (fun k => impl_ReadFields.f k a0) v ∧ Fin a0 v := by
    unfold impl_ReadFields.f
    obtain ⟨u, hu⟩ := ctake_def a0 false 2 (by decide)
    obtain ⟨v, hv, hF⟩ := impl_loop_def a0 31 [] u.2.1 u.2.2 rfl
    refine ⟨v, ?_, hF⟩
    simp only [hu, Option.bind_some]
    exact hv
  obtain ⟨vs, hs1, hs2⟩ := hS
  obtain ⟨vi, hi1, hi2⟩ := hI
  rcases hs2 with ⟨s1, s2, s3⟩ | s1
  · obtain ⟨q1, q2⟩ := canon vs.1 s2 s3
    exact ⟨_, q1, q2, (fieldsOk_in _ s2).1⟩
  · rcases hi2 with ⟨i1, i2, i3⟩ | i1
    · obtain ⟨q1, q2⟩ := canon vi.1 i2 i3
      exact ⟨_, q1, q2, (fieldsOk_in _ i2).1⟩
    · subst s1
      subst i1
      exact ⟨_, hs1, hi1, Nat.zero_le _⟩
theorem FnExactReadFields : SFnExactReadFields.Pure := by
  intro a0 ha
  refine Ev.rounds ?_
  unfold laws_FnExactReadFields.f
  by_cases hbig : (a0.size : Int) > 1048576
  · simp only [hbig, if_true]
    exact Ev.now _
  simp only [hbig, if_false]
  obtain ⟨v, h1, h2, hl⟩ := read_ev a0 (by omega)
  have he := eqFieldS_ev v.1 (by omega)
  have n1 : (1 + 2 * (v.1.length : Int) < 0) = False := eq_false (by omega)
  refine LoopK.Ev.bind_ h1 ?_
  refine LoopK.Ev.bind_ h2 ?_
  refine LoopK.Ev.bind_ he ?_
  simp only [if_true, bne_self_eq_false]
  refine LoopK.Ev.succ ?_
  simp only [laws_FnExactReadFields.j0, Bool.false_eq_true, if_false]
  refine LoopK.Ev.bind_ (markFieldS_ev v.1 1 (by omega) (by omega) (by omega)) ?_
  refine LoopK.Ev.bind_ (heldFieldS_ev v.1 1 (by omega) (by omega) (by omega)) ?_
  simp only [n1, if_false, if_true]
  refine LoopK.Ev.bind_ h2 ?_
  refine LoopK.Ev.bind_ he ?_
  simp only [if_true, bne_self_eq_false]
  refine LoopK.Ev.succ ?_
  simp only [laws_FnExactReadFields.j1, Bool.false_eq_true, if_false]
  refine LoopK.Ev.bind_ (heldFieldS_ev v.1 1 (by omega) (by omega) (by omega)) ?_
  simp only [n1, if_false, if_true]
  exact Ev.now _

end Go.Proofs.YtilkginahmfagaaDoor.Pure
