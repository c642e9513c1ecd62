/- The pure statement of the law FnExactFieldOf: the program's function and the reference answer alike. -/
import Derived.Test.YtjmakjddhbdocaaDoorSFnExactFieldOf
import Derived.Test.YtjmakjddhbdocaaDoorLoopK
namespace Go.Proofs.YtjmakjddhbdocaaDoor.Pure
open Go.RowKit Go.Proofs.YtjmakjddhbdocaaDoor.PFnExactFieldOf Go.Proofs.YtjmakjddhbdocaaDoorW.PrintWords Go.Proofs.YtjmakjddhbdocaaDoorW.PrintLast Go.Proofs.YtjmakjddhbdocaaDoor.SFnExactFieldOf
set_option linter.unusedVariables false
set_option linter.unusedSimpArgs false

open Go.Proofs.YtjmakjddhbdocaaDoor.LoopK (copyEv sameEv markEv heldEv foldEv mk mk_length at_lt at_lt' at_nn at_nlt at_stop at_getD at_set at_set2 at_snoc len_snoc at_w w64 firstEv find_any chk last_or at_prev at_prev_lt at_prev_nn at_prev_pos at_prev_w pairEv)

/-- The copy of an element. -/
def cvField (x : S35) : S36 := ⟨x.f0, x.f1⟩

theorem toFieldS_ev (l : List S35) (h : l.length ≤ 1048576) : Ev (fun k => laws_toFieldS.f k l) (l.map cvField) := by
  have key := copyEv (fun k xs ys i => laws_toFieldS.l0 k xs ys i) cvField z36 1048576
    (fun xs ys => by
      refine LoopK.Ev.succ ?_
      simp only [laws_toFieldS.l0, at_stop, if_false]
      exact Ev.now _)
    (fun p x r q y s res hq hB hs ih => by
      refine LoopK.Ev.succ ?_
      have e1 := at_w p x r (by omega)
      have e2 := at_lt' p q y s hq
      have e3 : (q ++ y :: s).set (p.length : Int).toNat (cvField x) = q ++ cvField x :: s := at_set2 p q y _ s hq
      simp only [cvField] at e3 ih
      simp only [laws_toFieldS.l0, at_lt, at_nn, if_true, laws_toField.f, Option.bind_some, rd_T35, at_getD, e1, e2, e3]
      exact ih) l [] (by simpa using h)
  unfold laws_toFieldS.f
  have c1 : 0 ≤ (l.length : Int) := by omega
  have c2 : (l.length : Int).toNat = l.length := by omega
  simp only [c1, if_true, c2]
  have c3 : l.length ≤ 8796093022208 := by omega
  simp only [c3, if_true]
  simpa using key

theorem eqField_self (x : S36) : laws_eqField.f x.f0 x.f1 x.f0 x.f1 = some true := by
  unfold laws_eqField.f
  simp
theorem eqFieldS_ev (l : List S36) (h : l.length ≤ 4611686018427387904) : Ev (fun k => laws_eqFieldS.f k l l) true := by
  have key := sameEv (fun k xs ys i => laws_eqFieldS.l0 k xs ys i) 4611686018427387904
    (fun xs ys => by
      refine LoopK.Ev.succ ?_
      simp only [laws_eqFieldS.l0, at_stop, if_false]
      exact Ev.now _)
    (fun p x r hB ih => by
      refine LoopK.Ev.succ ?_
      have e1 := at_w p x r hB
      simp only [laws_eqFieldS.l0, at_lt, at_nn, if_true, eqField_self, Option.bind_some, rd_T36, at_getD, e1]
      exact ih) l [] (by simpa using h)
  unfold laws_eqFieldS.f
  simp only [if_true]
  simpa using key

/-- What the strings of elements take. -/
def totField : List S35 → Int
  | [] => 0
  | x :: r => (x.f0.size : Int) + (x.f1.size : Int) + totField r
theorem totField_nonneg : ∀ l, 0 ≤ totField l
  | [] => by simp [totField]
  | x :: r => by
    have := totField_nonneg r
    simp only [totField]
    omega
theorem szField_some (x : S35) (a : Int) (ha : 0 ≤ a ∧ a ≤ 1048576) (hx : x.f0.size ≤ 140737488351232 ∧ x.f1.size ≤ 140737488351232) : ∃ r, laws_szField.f x.f0 x.f1 a = some r ∧ (0 ≤ r → r = a - ((x.f0.size : Int) + (x.f1.size : Int))) := by
  unfold laws_szField.f
  have e : wrap64 (a - (x.f0.size : Int)) = a - (x.f0.size : Int) := w64 _ (by omega)
  rw [e]
  by_cases h1 : a - (x.f0.size : Int) < 0
  · rw [if_pos h1]
    exact ⟨_, rfl, fun h => by omega⟩
  · rw [if_neg h1]
    have e2 : wrap64 (a - (x.f0.size : Int) - (x.f1.size : Int)) = a - (x.f0.size : Int) - (x.f1.size : Int) := w64 _ (by omega)
    rw [e2]
    split
    · exact ⟨_, rfl, fun h => by omega⟩
    · exact ⟨_, rfl, fun h => by omega⟩
theorem szFieldS_loop : ∀ (r p : List S35) (a : Int), (p ++ r).length ≤ 4611686018427387904 → 0 ≤ a → a ≤ 1048576 → (∀ x, x ∈ r → x.f0.size ≤ 140737488351232 ∧ x.f1.size ≤ 140737488351232) →
    ∃ q, Ev (fun k => laws_szFieldS.l0 k (p ++ r) a (p.length : Int)) q ∧ -1 ≤ q ∧ (0 ≤ q → q = a - totField r)
  | [], p, a, hB, h0, h1, _ => by
    refine ⟨a, LoopK.Ev.succ ?_, by omega, fun _ => by simp [totField]⟩
    simp only [List.append_nil, laws_szFieldS.l0, at_stop, if_false]
    exact Ev.now _
  | x :: r, p, a, hB, h0, h1, hx => by
    have hx0 : x.f0.size ≤ 140737488351232 ∧ x.f1.size ≤ 140737488351232 := hx x (by simp)
    have e1 := at_w p x r hB
    have tn := totField_nonneg r
    obtain ⟨t, ht, ht1⟩ := szField_some x a ⟨h0, h1⟩ hx0
    by_cases hn : t < 0
    · refine ⟨-1, LoopK.Ev.succ ?_, by omega, fun h => by omega⟩
      simp only [laws_szFieldS.l0, at_lt, at_nn, if_true, rd_T35, at_getD, ht, Option.bind_some, hn]
      exact Ev.now _
    · have ht2 := ht1 (by omega)
      obtain ⟨q, hq, q2, q3⟩ := szFieldS_loop r (p ++ [x]) t (by simpa using hB) (by omega) (by omega) (fun y hy => hx y (by simp [hy]))
      rw [← at_snoc, len_snoc] at hq
      refine ⟨q, LoopK.Ev.succ ?_, q2, fun h => ?_⟩
      · simp only [laws_szFieldS.l0, at_lt, at_nn, if_true, rd_T35, at_getD, ht, Option.bind_some, hn, if_false, e1]
        exact hq
      · rw [q3 h]
        simp only [totField]
        omega
theorem szFieldS_ev (l : List S35) (a : Int) (ha : 0 ≤ a ∧ a ≤ 1048576) (h : l.length ≤ 140737488351232) (hx : ∀ x, x ∈ l → x.f0.size ≤ 140737488351232 ∧ x.f1.size ≤ 140737488351232) :
    ∃ r, Ev (fun k => laws_szFieldS.f k l a) r ∧ -1 ≤ r ∧ (0 ≤ r → r = a - l.length - totField l) := by
  unfold laws_szFieldS.f
  have e : wrap64 (a - (l.length : Int)) = a - (l.length : Int) := w64 _ (by omega)
  simp only [e]
  by_cases hn : a - (l.length : Int) < 0
  · simp only [hn, if_true]
    exact ⟨-1, Ev.now _, by omega, fun h => by omega⟩
  · simp only [hn, if_false]
    obtain ⟨q, hq, q2, q3⟩ := szFieldS_loop l [] (a - l.length) (by simp; omega) (by omega) (by omega) hx
    exact ⟨q, by simpa using hq, q2, q3⟩

theorem l1In_eq (a b c : Int) : spec_l1In.f a b c = some (decide (b ≤ a ∧ a ≤ c)) := by
  unfold spec_l1In.f
  by_cases h : b ≤ a
  · rw [if_pos h]; simp [h]
  · rw [if_neg h]; simp [h]
theorem in_eq (a b c : Int) : impl_in.f a b c = some (decide (b ≤ a ∧ a ≤ c)) := l1In_eq a b c
theorem and_ite (p q : Prop) [Decidable p] [Decidable q] : (if p then some (decide q) else some false) = some (decide (p ∧ q)) := by
  by_cases h : p <;> simp [h]

/-- Does p hold from i on, below n? -/
def allFrom (p : Nat → Bool) (n i : Nat) : Bool := decide (∀ j : Nat, j < n → i ≤ j → p j = true)
theorem allFrom_end (p : Nat → Bool) (n : Nat) : allFrom p n n = true := decide_eq_true (fun j h1 h2 => absurd h1 (by omega))
theorem allFrom_step (p : Nat → Bool) (n i : Nat) (h : i < n) : allFrom p n i = (p i && allFrom p n (i + 1)) := by
  rw [Bool.eq_iff_iff]
  simp only [allFrom, decide_eq_true_eq, Bool.and_eq_true]
  constructor
  · intro h2
    exact ⟨h2 i h (Nat.le_refl _), fun j h3 h4 => h2 j h3 (by omega)⟩
  · rintro ⟨h2, h3⟩ j h5 h4
    by_cases e : j = i
    · rw [e]; exact h2
    · exact h3 j h5 (by omega)
def nameSign (b : Int) : Bool := decide ((97 ≤ b ∧ b ≤ 122) ∨ (48 ≤ b ∧ b ≤ 57) ∨ b = 45)
def nameAt (s : ByteArray) (j : Nat) : Bool := nameSign (bt s (j : Int)) || decide (bt s (j : Int) = 58 ∧ j = 0)
def valueAt (s : ByteArray) (j : Nat) : Bool := decide (32 ≤ bt s (j : Int) ∧ bt s (j : Int) ≤ 126)
def nameOk (s : ByteArray) : Bool := allFrom (nameAt s) s.size 0 && decide (1 ≤ (s.size : Int) ∧ (s.size : Int) ≤ 100)
def valueOk (s : ByteArray) : Bool := allFrom (valueAt s) s.size 0 && decide ((s.size : Int) ≤ 100)
theorem name_loop (s : ByteArray) (hs : s.size ≤ 4611686018427387904) : ∀ d i : Nat, i + d = s.size → Ev (fun k => spec_l15Name.l0 k s (i : Int)) (allFrom (nameAt s) s.size i && decide (1 ≤ (s.size : Int) ∧ (s.size : Int) ≤ 100)) := by
  intro d
  induction d with
  | zero =>
    intro i hi
    obtain rfl : i = s.size := by omega
    refine Ev.step (f := fun _ => some (decide (1 ≤ (s.size : Int) ∧ (s.size : Int) ≤ 100))) (fun k => ?_) ?_
    · simp only [spec_l15Name.l0, Int.lt_irrefl, if_false, l1In_eq, Option.bind_some]
    · rw [allFrom_end, Bool.true_and]
      exact Ev.now _
  | succ d ih =>
    intro i hi
    have h1 : (i : Int) < (s.size : Int) := by omega
    have h2 : (0 : Int) ≤ (i : Int) := by omega
    have hr := bt_range s (i : Int)
    have hw : wrap64 ((i : Int) + 1) = ((i + 1 : Nat) : Int) := by unfold wrap64; omega
    refine Ev.step (f := fun k => spec_l15Name.j1 k s (i : Int) (!nameAt s i)) (fun k => ?_) ?_
    · simp only [spec_l15Name.l0, h1, h2, if_true]
      unfold nameAt nameSign
      generalize bt s (i : Int) = b at hr ⊢
      have e0 : ((i : Int) == 0) = decide (i = 0) := by
        by_cases h : i = 0
        · subst h; rfl
        · rw [decide_eq_false h]; simp; omega
      by_cases e : (97 ≤ b ∧ b ≤ 122) ∨ (48 ≤ b ∧ b ≤ 57) ∨ b = 45
      · rw [decide_eq_true e, Bool.true_or]
        by_cases a1 : b ≥ 97
        · rw [if_pos a1, if_pos (show b ≤ 122 by omega)]
        · rw [if_neg a1]
          by_cases a3 : b ≥ 48
          · rw [if_pos a3, if_pos (show b ≤ 57 by omega)]
          · rw [if_neg a3, if_pos (show b = 45 by omega)]
      · rw [decide_eq_false e, Bool.false_or]
        have a5 : ¬ b = 45 := by omega
        by_cases a6 : b = 58
        · have e2 : decide (b = 58 ∧ i = 0) = decide (i = 0) := by simp [a6]
          rw [e2, e0, if_neg (show ¬ b ≥ 97 by omega), if_pos (show b ≥ 48 by omega), if_neg (show ¬ b ≤ 57 by omega), if_neg a5, if_pos a6]
        · have e2 : decide (b = 58 ∧ i = 0) = false := decide_eq_false (fun h => a6 h.1)
          rw [e2]
          by_cases a1 : b ≥ 97
          · rw [if_pos a1, if_neg (show ¬ b ≤ 122 by omega), if_pos (show b ≥ 48 by omega), if_neg (show ¬ b ≤ 57 by omega), if_neg a5, if_neg a6]
          · rw [if_neg a1]
            by_cases a3 : b ≥ 48
            · rw [if_pos a3, if_neg (show ¬ b ≤ 57 by omega), if_neg a5, if_neg a6]
            · rw [if_neg a3, if_neg a5, if_neg a6]
    · rw [allFrom_step _ _ _ (by omega)]
      cases nameAt s i with
      | false =>
        refine Ev.step (f := fun _ => some false) (fun k => ?_) (Ev.now _)
        simp only [spec_l15Name.j1, Bool.not_false, if_true]
      | true =>
        refine Ev.step (f := fun k => spec_l15Name.l0 k s ((i + 1 : Nat) : Int)) (fun k => ?_) ?_
        · simp only [spec_l15Name.j1, Bool.not_true, Bool.false_eq_true, if_false, hw]
        · rw [Bool.true_and]
          exact ih (i + 1) (by omega)
theorem specName_ev (s : ByteArray) (hs : s.size ≤ 4611686018427387904) : Ev (fun k => spec_l15Name.f k s) (nameOk s) := name_loop s hs s.size 0 (by omega)
theorem value_loop (s : ByteArray) (hs : s.size ≤ 4611686018427387904) : ∀ d i : Nat, i + d = s.size → Ev (fun k => spec_l15Value.l0 k s (i : Int)) (allFrom (valueAt s) s.size i && decide ((s.size : Int) ≤ 100)) := by
  intro d
  induction d with
  | zero =>
    intro i hi
    obtain rfl : i = s.size := by omega
    refine Ev.step (f := fun _ => some (decide ((s.size : Int) ≤ 100))) (fun k => ?_) ?_
    · simp only [spec_l15Value.l0, Int.lt_irrefl, if_false]
    · rw [allFrom_end, Bool.true_and]
      exact Ev.now _
  | succ d ih =>
    intro i hi
    have h1 : (i : Int) < (s.size : Int) := by omega
    have h2 : (0 : Int) ≤ (i : Int) := by omega
    have hw : wrap64 ((i : Int) + 1) = ((i + 1 : Nat) : Int) := by unfold wrap64; omega
    rw [allFrom_step _ _ _ (by omega)]
    by_cases e : 32 ≤ bt s (i : Int) ∧ bt s (i : Int) ≤ 126
    · have e1 : valueAt s i = true := decide_eq_true e
      refine Ev.step (f := fun k => spec_l15Value.l0 k s ((i + 1 : Nat) : Int)) (fun k => ?_) ?_
      · simp only [spec_l15Value.l0, h1, h2, if_true, show ¬ bt s (i : Int) < 32 by omega, show ¬ bt s (i : Int) > 126 by omega, if_false, hw]
      · rw [e1, Bool.true_and]
        exact ih (i + 1) (by omega)
    · have e1 : valueAt s i = false := decide_eq_false e
      refine Ev.step (f := fun k => some false) (fun k => ?_) ?_
      · simp only [spec_l15Value.l0, h1, h2, if_true]
        by_cases e2 : bt s (i : Int) < 32
        · rw [if_pos e2]
        · rw [if_neg e2, if_pos (by omega)]
      · rw [e1, Bool.false_and]
        exact Ev.now _
theorem specValue_ev (s : ByteArray) (hs : s.size ≤ 4611686018427387904) : Ev (fun k => spec_l15Value.f k s) (valueOk s) := value_loop s hs s.size 0 (by omega)
def fieldOk (x : S36) : Bool := nameOk x.f0 && valueOk x.f1
def fieldsOk (l : List S36) : Bool := decide ((l.length : Int) ≤ 30) && !(l.any fun x => !fieldOk x)
theorem specFields_loop (l : List S36) : ∀ (r p : List S36), (p ++ r).length ≤ 4611686018427387904 → (∀ x, x ∈ r → x.f0.size ≤ 140737488351232 ∧ x.f1.size ≤ 140737488351232) →
    Ev (fun k => spec_GoodFields.l0 k l (p ++ r) ((p ++ r).length : Int) (p.length : Int)) (decide ((l.length : Int) ≤ 30) && !(r.any fun x => !fieldOk x))
  | [], p, _, _ => by
    refine LoopK.Ev.succ ?_
    simp only [spec_GoodFields.l0, List.append_nil, at_stop, if_false, List.any_nil, Bool.not_false, Bool.and_true]
    exact Ev.now _
  | x :: r, p, hB, hx => by
    refine LoopK.Ev.succ ?_
    have e1 := at_w p x r (by omega)
    have hx0 := hx x (by simp)
    simp only [spec_GoodFields.l0, at_lt, at_nn, if_true, rd_T36, at_getD, e1, List.any_cons]
    refine LoopK.Ev.bind_ (specName_ev _ (by omega)) ?_
    unfold fieldOk
    cases h1 : nameOk x.f0 with
    | false =>
      simp only [Bool.false_eq_true, if_false, Bool.false_and, Bool.not_false, Bool.true_or, Bool.not_true, Bool.and_false]
      exact Ev.now _
    | true =>
      simp only [if_true, Bool.true_and]
      refine LoopK.Ev.bind_ (specValue_ev _ (by omega)) ?_
      cases h2 : valueOk x.f1 with
      | false =>
        simp only [Bool.false_eq_true, if_false, Bool.not_false, Bool.true_or, Bool.not_true, Bool.and_false]
        exact Ev.now _
      | true =>
        simp only [if_true, Bool.not_true, Bool.false_or]
        have ih := specFields_loop l r (p ++ [x]) (by simpa using hB) (fun y hy => hx y (by simp [hy]))
        rw [← at_snoc, len_snoc p x] at ih
        exact ih
theorem specFields_ev (l : List S36) (hl : l.length ≤ 4611686018427387904) (hx : ∀ x, x ∈ l → x.f0.size ≤ 140737488351232 ∧ x.f1.size ≤ 140737488351232) : Ev (fun k => spec_GoodFields.f k l) (fieldsOk l) := by
  have h := specFields_loop l l [] (by simpa using hl) hx
  simp only [List.nil_append] at h
  exact h
/-- The signs of a field's name. -/
def nameSigns : ByteArray := ⟨#[97, 98, 99, 100, 101, 102, 103, 104, 105, 106, 107, 108, 109, 110, 111, 112, 113, 114, 115, 116, 117, 118, 119, 120, 121, 122, 48, 49, 50, 51, 52, 53, 54, 55, 56, 57, 45]⟩
theorem signs_all : ∀ n : Fin 256, nameSigns.data.toList.contains (UInt8.ofNat (n : Nat)) = nameSign ((n : Nat) : Int) := by decide +kernel
theorem signs_eq (x : UInt8) : nameSigns.data.toList.contains x = nameSign (x.toNat : Int) := by
  have h := signs_all ⟨x.toNat, x.toNat_lt⟩
  simpa using h
theorem bt_nat (s : ByteArray) (j : Nat) (h : j < s.size) : bt s (j : Int) = ((s.data[j]'h).toNat : Int) := by
  unfold bt
  rw [dif_pos (show (j : Int).toNat < s.size by simpa using h)]
  rfl
theorem over_eq (s : ByteArray) (hs : s.size ≤ 9223372036854775807) : impl_over.f s nameSigns = some (allFrom (fun j => nameSign (bt s (j : Int))) s.size 0) := by
  unfold impl_over.f TrimLaid.overF
  rw [if_pos ⟨hs, by decide, by decide⟩]
  congr 1
  unfold TrimLaid.overAll
  rw [Bool.eq_iff_iff, List.all_eq_true]
  simp only [allFrom, decide_eq_true_eq, signs_eq]
  constructor
  · intro h j hj _
    rw [bt_nat s j hj]
    exact h _ (by simp)
  · intro h x hx
    obtain ⟨j, hj, rfl⟩ := List.mem_iff_getElem.1 hx
    have hj2 : j < s.size := by simpa using hj
    have := h j hj2 (Nat.zero_le _)
    rw [bt_nat s j hj2] at this
    simpa using this
theorem bt_tail (s : ByteArray) (j : Nat) (h : j + 1 < s.size) : bt (s.extract 1 s.size) (j : Int) = bt s ((j + 1 : Nat) : Int) := by
  have hs : (s.extract 1 s.size).size = s.size - 1 := by simp
  rw [bt_nat s (j + 1) h, bt_nat _ j (by rw [hs]; omega)]
  have e : (s.extract 1 s.size).data = s.data.extract 1 s.size := by simp
  simp only [e, Array.getElem_extract, Nat.add_comm 1 j]
/-- A name's bytes, as the program goes over them. -/
theorem name_over (s : ByteArray) (h0 : 1 ≤ s.size ∧ s.size ≤ 100) : ∀ k, (if 0 < (s.size : Int) then (if (bt s 0) = 58 then (if 1 ≤ (s.size : Int) then (impl_goodField.j2 (k + 1) (s.extract 1 s.size)) else (none)) else (impl_goodField.j2 (k + 1) s)) else (none)) = some (allFrom (nameAt s) s.size 0) := by
  intro k
  rw [if_pos (show 0 < (s.size : Int) by omega), if_pos (show 1 ≤ (s.size : Int) by omega)]
  by_cases h : bt s 0 = 58
  · rw [if_pos h]
    have hs : (s.extract 1 s.size).size = s.size - 1 := by simp
    show (impl_over.f (s.extract 1 s.size) nameSigns).bind _ = _
    rw [over_eq _ (by rw [hs]; omega), Option.bind_some]
    congr 1
    rw [Bool.eq_iff_iff]
    simp only [allFrom, decide_eq_true_eq, hs]
    constructor
    · intro h1 j hj _
      unfold nameAt
      cases j with
      | zero => simp [h]
      | succ j =>
        have := h1 j (by omega) (Nat.zero_le _)
        rw [bt_tail s j (by omega)] at this
        rw [this, Bool.true_or]
    · intro h1 j hj _
      have := h1 (j + 1) (by omega) (Nat.zero_le _)
      rw [bt_tail s j (by omega)]
      unfold nameAt at this
      simpa using this
  · rw [if_neg h]
    show (impl_over.f s nameSigns).bind _ = _
    rw [over_eq _ (by omega), Option.bind_some]
    congr 1
    rw [Bool.eq_iff_iff]
    simp only [allFrom, decide_eq_true_eq]
    constructor
    · intro h1 j hj h2
      unfold nameAt
      rw [h1 j hj h2, Bool.true_or]
    · intro h1 j hj h2
      have := h1 j hj h2
      unfold nameAt at this
      rw [Bool.or_eq_true] at this
      rcases this with h3 | h3
      · exact h3
      · obtain ⟨h4, h5⟩ := of_decide_eq_true h3
        subst h5
        exact absurd h4 h
theorem goodField_loop (a b : ByteArray) (ha : 1 ≤ a.size ∧ a.size ≤ 100) (hb : b.size ≤ 100) : ∀ d i : Nat, i + d = b.size → Ev (fun k => impl_goodField.l0 k (b.size : Int) (i : Int) a b) (allFrom (valueAt b) b.size i && allFrom (nameAt a) a.size 0) := by
  intro d
  induction d with
  | zero =>
    intro i hi
    obtain rfl : i = b.size := by omega
    refine LoopK.Ev.succ (LoopK.Ev.succ ?_)
    rw [allFrom_end, Bool.true_and]
    simp only [impl_goodField.l0, Int.lt_irrefl, if_false]
    refine LoopK.Ev.eq_ (fun k => name_over a ha k)
  | succ d ih =>
    intro i hi
    have h1 : (i : Int) < (b.size : Int) := by omega
    have h2 : (0 : Int) ≤ (i : Int) := by omega
    have hr := bt_range b (i : Int)
    have hw : wrap64 ((i : Int) + 1) = ((i + 1 : Nat) : Int) := by unfold wrap64; omega
    have hw2 : wrap64 (bt b (i : Int)) = bt b (i : Int) := by unfold wrap64; omega
    rw [allFrom_step _ _ _ (by omega)]
    refine LoopK.Ev.succ ?_
    have e0 : decide (32 ≤ bt b (i : Int) ∧ bt b (i : Int) ≤ 126) = valueAt b i := rfl
    simp only [impl_goodField.l0, h1, h2, if_true, hw2, in_eq, Option.bind_some, e0, hw]
    cases valueAt b i with
    | false =>
      simp only [Bool.false_eq_true, if_false, Bool.false_and]
      exact Ev.now _
    | true =>
      simp only [if_true, Bool.true_and]
      exact ih (i + 1) (by omega)
theorem goodField_ev (x : S36) : Ev (fun k => impl_goodField.f k x.f0 x.f1) (fieldOk x) := by
  unfold impl_goodField.f fieldOk nameOk valueOk
  simp only [in_eq, Option.bind_some, decide_eq_true_eq]
  by_cases h1 : 1 ≤ (x.f0.size : Int) ∧ (x.f0.size : Int) ≤ 100
  · simp only [h1, and_self, if_true, decide_true, Bool.and_true]
    refine LoopK.Ev.succ ?_
    simp only [impl_goodField.j0]
    by_cases h2 : (x.f1.size : Int) > 100
    · have h3 : ¬ ((x.f1.size : Int) ≤ 100) := by omega
      simp only [h2, h3, decide_true, decide_false, if_true, Bool.and_false]
      exact Ev.now _
    · have h3 : (x.f1.size : Int) ≤ 100 := by omega
      simp only [h2, h3, decide_true, decide_false, Bool.false_eq_true, if_false, Bool.and_true]
      rw [Bool.and_comm]
      exact goodField_loop x.f0 x.f1 (by omega) (by omega) x.f1.size 0 (by omega)
  · simp only [h1, if_false, decide_false, Bool.and_false, Bool.false_and]
    refine LoopK.Ev.succ ?_
    simp only [impl_goodField.j0, if_true]
    exact Ev.now _
theorem goodFieldsP_ev (x : S36) : Ev (fun k => GoodFieldsP k x) (!fieldOk x) := by
  unfold GoodFieldsP impl_GoodFields_1.f
  exact LoopK.Ev.bind_ (goodField_ev x) (Ev.now _)
/-- Rounds enough for every element of a list. -/
theorem rounds_all {α : Type} (P : Nat → α → Option Bool) (p : α → Bool) (h : ∀ x, Ev (fun k => P k x) (p x)) : ∀ l : List α, ∃ K, ∀ k, K ≤ k → ∀ x, x ∈ l → P k x = some (p x)
  | [] => ⟨0, fun _ _ x hx => by simp at hx⟩
  | x :: l => by
    obtain ⟨K1, h1⟩ := h x
    obtain ⟨K2, h2⟩ := rounds_all P p h l
    refine ⟨K1 + K2, fun k hk y hy => ?_⟩
    rcases List.mem_cons.1 hy with rfl | hy
    · exact h1 k (by omega)
    · exact h2 k (by omega) y hy
theorem implFields_ev (l : List S36) : Ev (fun k => impl_GoodFields.f k l) (fieldsOk l) := by
  obtain ⟨K, hK⟩ := rounds_all GoodFieldsP (fun x => !fieldOk x) goodFieldsP_ev l
  refine ⟨K, fun k hk => ?_⟩
  have h := hK k hk
  show impl_GoodFields.f k l = some (fieldsOk l)
  unfold impl_GoodFields.f fieldsOk
  rw [if_pos (List.all_eq_true.2 (fun x hx => by rw [h x hx]; rfl))]
  congr 3
  rw [Bool.eq_iff_iff, List.any_eq_true, List.any_eq_true]
  exact ⟨fun ⟨x, hx, h2⟩ => ⟨x, hx, by rw [h x hx] at h2; exact h2⟩, fun ⟨x, hx, h2⟩ => ⟨x, hx, by rw [h x hx]; exact h2⟩⟩

open Go.Proofs.YtjmakjddhbdocaaDoor.IdxK (idxF idxFrom)
def isN (a : ByteArray) (g : S36) : Bool := g.f0.toList == a.toList
def valOf (l : List S36) (i : Int) : ByteArray × Bool := if i < 0 then ((⟨#[]⟩ : ByteArray), false) else ((rd_T36 l i).f1, true)
theorem first_loop (a : ByteArray) : ∀ (r p : List S36), (p ++ r).length ≤ 4611686018427387904 →
    Ev (fun k => spec_FieldOf.l0 k a (p ++ r) ((p ++ r).length : Int) (p.length : Int)) (valOf (p ++ r) (idxFrom (isN a) r p.length))
  | [], p, _ => by
    refine LoopK.Ev.succ ?_
    simp only [spec_FieldOf.l0, List.append_nil, at_stop, if_false, idxFrom, valOf, show ((-1 : Int) < 0) by omega, if_true]
    exact Ev.now _
  | x :: r, p, hB => by
    refine LoopK.Ev.succ ?_
    have e1 := at_w p x r (by omega)
    simp only [spec_FieldOf.l0, at_lt, at_nn, if_true, rd_T36, at_getD, e1, idxFrom]
    by_cases h : x.f0.toList = a.toList
    · have h2 : isN a x = true := by unfold isN; rw [h]; simp
      simp only [h, h2, if_true]
      refine LoopK.Ev.to (Ev.now _) ?_
      unfold valOf
      rw [if_neg (by omega)]
      simp only [rd_T36, at_getD]
    · have h2 : ¬ (isN a x = true) := by unfold isN; simpa using h
      simp only [h, h2, if_false]
      have ih := first_loop a r (p ++ [x]) (by simpa using hB)
      rw [← at_snoc, len_snoc p x] at ih
      simpa using ih
theorem both_ev (l : List S36) (a : ByteArray) (hl : l.length ≤ 4611686018427387904) (hx : ∀ x, x ∈ l → x.f0.size ≤ 140737488351232 ∧ x.f1.size ≤ 140737488351232) : ∃ v, Ev (fun k => spec_FieldOf.f k l a) v ∧ Ev (fun k => impl_FieldOf.f k l a) v := by
  unfold spec_FieldOf.f impl_FieldOf.f
  cases hg : fieldsOk l with
  | false =>
    refine ⟨((⟨#[]⟩ : ByteArray), false), LoopK.Ev.bind_ (specFields_ev l hl hx) ?_, LoopK.Ev.bind_ (implFields_ev l) ?_⟩
    · simp only [hg, Bool.false_eq_true, if_false]
      exact Ev.now _
    · simp only [hg, Bool.false_eq_true, if_false]
      exact Ev.now _
  | true =>
    refine ⟨valOf l (idxF (isN a) l), LoopK.Ev.bind_ (specFields_ev l hl hx) ?_, LoopK.Ev.bind_ (implFields_ev l) ?_⟩
    · simp only [hg, if_true]
      have h := first_loop a l [] (by simpa using hl)
      simp only [List.nil_append, List.length_nil] at h
      exact h
    · simp only [hg, if_true]
      refine LoopK.Ev.eq_ (fun k => ?_)
      show (if idxF (isN a) l < 0 then _ else _) = _
      unfold valOf
      by_cases h : idxF (isN a) l < 0
      · rw [if_pos h, if_pos h]
      · rw [if_neg h, if_neg h]
        rfl
theorem FnExactFieldOf : SFnExactFieldOf.Pure := by
  intro l a hl ha
  refine Ev.rounds ?_
  unfold laws_FnExactFieldOf.f
  by_cases hbig : (a.size : Int) > 1048576
  · simp only [hbig, if_true]
    exact Ev.now _
  simp only [hbig, if_false]
  have hx : ∀ x, x ∈ l → x.f0.size ≤ 140737488351232 ∧ x.f1.size ≤ 140737488351232 := fun x h => hl.2.2 x h
  obtain ⟨r, hr, hr1, hr2⟩ := szFieldS_ev l 1048576 (by omega) (by omega) hx
  refine LoopK.Ev.bind_ hr ?_
  by_cases h0 : r < 0
  · simp only [h0, if_true]
    exact Ev.now _
  · simp only [h0, if_false]
    have tn := totField_nonneg l
    have hl2 : l.length ≤ 1048576 := by have := hr2 (by omega); omega
    have hto := toFieldS_ev l hl2
    have hm : (l.map cvField).length ≤ 4611686018427387904 := by rw [List.length_map]; omega
    have hy : ∀ x, x ∈ l.map cvField → x.f0.size ≤ 140737488351232 ∧ x.f1.size ≤ 140737488351232 := by
      intro x h
      obtain ⟨y, hy, rfl⟩ := List.mem_map.1 h
      exact hx y hy
    obtain ⟨v, hv1, hv2⟩ := both_ev (l.map cvField) a hm hy
    refine LoopK.Ev.bind_ hto ?_
    refine LoopK.Ev.bind_ hv1 ?_
    refine LoopK.Ev.bind_ hto ?_
    refine LoopK.Ev.bind_ hv2 ?_
    simp only [if_true, bne_self_eq_false]
    refine LoopK.Ev.succ ?_
    simp only [laws_FnExactFieldOf.j0, Bool.false_eq_true, if_false]
    refine LoopK.Ev.bind_ hto ?_
    refine LoopK.Ev.bind_ (eqFieldS_ev _ hm) ?_
    simp only [if_true]
    exact Ev.now _

end Go.Proofs.YtjmakjddhbdocaaDoor.Pure
