/- The pure statement of the law FnExactFieldsBytes: the program's function and the reference answer alike. -/
import Derived.Test.YtjmakjddhbdocaaDoorSFnExactFieldsBytes
import Derived.Test.YtjmakjddhbdocaaDoorLoopK
namespace Go.Proofs.YtjmakjddhbdocaaDoor.Pure
open Go.RowKit Go.Proofs.YtjmakjddhbdocaaDoor.PFnExactFieldsBytes Go.Proofs.YtjmakjddhbdocaaDoorW.PrintWords Go.Proofs.YtjmakjddhbdocaaDoorW.PrintLast Go.Proofs.YtjmakjddhbdocaaDoor.SFnExactFieldsBytes
set_option linter.unusedVariables false
set_option linter.unusedSimpArgs false

open Go.Proofs.YtjmakjddhbdocaaDoor.LoopK (copyEv sameEv markEv heldEv foldEv mk mk_length at_lt at_lt' at_nn at_nlt at_stop at_getD at_set at_set2 at_snoc len_snoc at_w w64 firstEv find_any chk last_or at_prev at_prev_lt at_prev_nn at_prev_pos at_prev_w pairEv)

/-- The copy of an element. -/
def cvField (x : S35) : S36 := ⟨x.f0, x.f1⟩

theorem toFieldS_ev (l : List S35) (h : l.length ≤ 1048576) : Ev (fun k => laws_toFieldS.f k l) (l.map cvField) := by
  have key := copyEv (fun k xs ys i => laws_toFieldS.l0 k xs ys i) cvField z36 1048576
    (fun xs ys => by
      refine LoopK.Ev.succ ?_
      simp only [laws_toFieldS.l0, at_stop, if_false]
      exact Ev.now _)
    (fun p x r q y s res hq hB hs ih => by
      refine LoopK.Ev.succ ?_
      have e1 := at_w p x r (by omega)
      have e2 := at_lt' p q y s hq
      have e3 : (q ++ y :: s).set (p.length : Int).toNat (cvField x) = q ++ cvField x :: s := at_set2 p q y _ s hq
      simp only [cvField] at e3 ih
      simp only [laws_toFieldS.l0, at_lt, at_nn, if_true, laws_toField.f, Option.bind_some, rd_T35, at_getD, e1, e2, e3]
      exact ih) l [] (by simpa using h)
  unfold laws_toFieldS.f
  have c1 : 0 ≤ (l.length : Int) := by omega
  have c2 : (l.length : Int).toNat = l.length := by omega
  simp only [c1, if_true, c2]
  have c3 : l.length ≤ 8796093022208 := by omega
  simp only [c3, if_true]
  simpa using key

theorem eqField_self (x : S36) : laws_eqField.f x.f0 x.f1 x.f0 x.f1 = some true := by
  unfold laws_eqField.f
  simp
theorem eqFieldS_ev (l : List S36) (h : l.length ≤ 4611686018427387904) : Ev (fun k => laws_eqFieldS.f k l l) true := by
  have key := sameEv (fun k xs ys i => laws_eqFieldS.l0 k xs ys i) 4611686018427387904
    (fun xs ys => by
      refine LoopK.Ev.succ ?_
      simp only [laws_eqFieldS.l0, at_stop, if_false]
      exact Ev.now _)
    (fun p x r hB ih => by
      refine LoopK.Ev.succ ?_
      have e1 := at_w p x r hB
      simp only [laws_eqFieldS.l0, at_lt, at_nn, if_true, eqField_self, Option.bind_some, rd_T36, at_getD, e1]
      exact ih) l [] (by simpa using h)
  unfold laws_eqFieldS.f
  simp only [if_true]
  simpa using key

/-- What the strings of elements take. -/
def totField : List S35 → Int
  | [] => 0
  | x :: r => (x.f0.size : Int) + (x.f1.size : Int) + totField r
theorem totField_nonneg : ∀ l, 0 ≤ totField l
  | [] => by simp [totField]
  | x :: r => by
    have := totField_nonneg r
    simp only [totField]
    omega
theorem szField_some (x : S35) (a : Int) (ha : 0 ≤ a ∧ a ≤ 1048576) (hx : x.f0.size ≤ 140737488351232 ∧ x.f1.size ≤ 140737488351232) : ∃ r, laws_szField.f x.f0 x.f1 a = some r ∧ (0 ≤ r → r = a - ((x.f0.size : Int) + (x.f1.size : Int))) := by
  unfold laws_szField.f
  have e : wrap64 (a - (x.f0.size : Int)) = a - (x.f0.size : Int) := w64 _ (by omega)
  rw [e]
  by_cases h1 : a - (x.f0.size : Int) < 0
  · rw [if_pos h1]
    exact ⟨_, rfl, fun h => by omega⟩
  · rw [if_neg h1]
    have e2 : wrap64 (a - (x.f0.size : Int) - (x.f1.size : Int)) = a - (x.f0.size : Int) - (x.f1.size : Int) := w64 _ (by omega)
    rw [e2]
    split
    · exact ⟨_, rfl, fun h => by omega⟩
    · exact ⟨_, rfl, fun h => by omega⟩
theorem szFieldS_loop : ∀ (r p : List S35) (a : Int), (p ++ r).length ≤ 4611686018427387904 → 0 ≤ a → a ≤ 1048576 → (∀ x, x ∈ r → x.f0.size ≤ 140737488351232 ∧ x.f1.size ≤ 140737488351232) →
    ∃ q, Ev (fun k => laws_szFieldS.l0 k (p ++ r) a (p.length : Int)) q ∧ -1 ≤ q ∧ (0 ≤ q → q = a - totField r)
  | [], p, a, hB, h0, h1, _ => by
    refine ⟨a, LoopK.Ev.succ ?_, by omega, fun _ => by simp [totField]⟩
    simp only [List.append_nil, laws_szFieldS.l0, at_stop, if_false]
    exact Ev.now _
  | x :: r, p, a, hB, h0, h1, hx => by
    have hx0 : x.f0.size ≤ 140737488351232 ∧ x.f1.size ≤ 140737488351232 := hx x (by simp)
    have e1 := at_w p x r hB
    have tn := totField_nonneg r
    obtain ⟨t, ht, ht1⟩ := szField_some x a ⟨h0, h1⟩ hx0
    by_cases hn : t < 0
    · refine ⟨-1, LoopK.Ev.succ ?_, by omega, fun h => by omega⟩
      simp only [laws_szFieldS.l0, at_lt, at_nn, if_true, rd_T35, at_getD, ht, Option.bind_some, hn]
      exact Ev.now _
    · have ht2 := ht1 (by omega)
      obtain ⟨q, hq, q2, q3⟩ := szFieldS_loop r (p ++ [x]) t (by simpa using hB) (by omega) (by omega) (fun y hy => hx y (by simp [hy]))
      rw [← at_snoc, len_snoc] at hq
      refine ⟨q, LoopK.Ev.succ ?_, q2, fun h => ?_⟩
      · simp only [laws_szFieldS.l0, at_lt, at_nn, if_true, rd_T35, at_getD, ht, Option.bind_some, hn, if_false, e1]
        exact hq
      · rw [q3 h]
        simp only [totField]
        omega
theorem szFieldS_ev (l : List S35) (a : Int) (ha : 0 ≤ a ∧ a ≤ 1048576) (h : l.length ≤ 140737488351232) (hx : ∀ x, x ∈ l → x.f0.size ≤ 140737488351232 ∧ x.f1.size ≤ 140737488351232) :
    ∃ r, Ev (fun k => laws_szFieldS.f k l a) r ∧ -1 ≤ r ∧ (0 ≤ r → r = a - l.length - totField l) := by
  unfold laws_szFieldS.f
  have e : wrap64 (a - (l.length : Int)) = a - (l.length : Int) := w64 _ (by omega)
  simp only [e]
  by_cases hn : a - (l.length : Int) < 0
  · simp only [hn, if_true]
    exact ⟨-1, Ev.now _, by omega, fun h => by omega⟩
  · simp only [hn, if_false]
    obtain ⟨q, hq, q2, q3⟩ := szFieldS_loop l [] (a - l.length) (by simp; omega) (by omega) (by omega) hx
    exact ⟨q, by simpa using hq, q2, q3⟩

theorem l1In_eq (a b c : Int) : spec_l1In.f a b c = some (decide (b ≤ a ∧ a ≤ c)) := by
  unfold spec_l1In.f
  by_cases h : b ≤ a
  · rw [if_pos h]; simp [h]
  · rw [if_neg h]; simp [h]
theorem in_eq (a b c : Int) : impl_in.f a b c = some (decide (b ≤ a ∧ a ≤ c)) := l1In_eq a b c
theorem and_ite (p q : Prop) [Decidable p] [Decidable q] : (if p then some (decide q) else some false) = some (decide (p ∧ q)) := by
  by_cases h : p <;> simp [h]

/-- Does p hold from i on, below n? -/
def allFrom (p : Nat → Bool) (n i : Nat) : Bool := decide (∀ j : Nat, j < n → i ≤ j → p j = true)
theorem allFrom_end (p : Nat → Bool) (n : Nat) : allFrom p n n = true := decide_eq_true (fun j h1 h2 => absurd h1 (by omega))
theorem allFrom_step (p : Nat → Bool) (n i : Nat) (h : i < n) : allFrom p n i = (p i && allFrom p n (i + 1)) := by
  rw [Bool.eq_iff_iff]
  simp only [allFrom, decide_eq_true_eq, Bool.and_eq_true]
  constructor
  · intro h2
    exact ⟨h2 i h (Nat.le_refl _), fun j h3 h4 => h2 j h3 (by omega)⟩
  · rintro ⟨h2, h3⟩ j h5 h4
    by_cases e : j = i
    · rw [e]; exact h2
    · exact h3 j h5 (by omega)
def nameSign (b : Int) : Bool := decide ((97 ≤ b ∧ b ≤ 122) ∨ (48 ≤ b ∧ b ≤ 57) ∨ b = 45)
def nameAt (s : ByteArray) (j : Nat) : Bool := nameSign (bt s (j : Int)) || decide (bt s (j : Int) = 58 ∧ j = 0)
def valueAt (s : ByteArray) (j : Nat) : Bool := decide (32 ≤ bt s (j : Int) ∧ bt s (j : Int) ≤ 126)
def nameOk (s : ByteArray) : Bool := allFrom (nameAt s) s.size 0 && decide (1 ≤ (s.size : Int) ∧ (s.size : Int) ≤ 100)
def valueOk (s : ByteArray) : Bool := allFrom (valueAt s) s.size 0 && decide ((s.size : Int) ≤ 100)
theorem name_loop (s : ByteArray) (hs : s.size ≤ 4611686018427387904) : ∀ d i : Nat, i + d = s.size → Ev (fun k => spec_l15Name.l0 k s (i : Int)) (allFrom (nameAt s) s.size i && decide (1 ≤ (s.size : Int) ∧ (s.size : Int) ≤ 100)) := by
  intro d
  induction d with
  | zero =>
    intro i hi
    obtain rfl : i = s.size := by omega
    refine Ev.step (f := fun _ => some (decide (1 ≤ (s.size : Int) ∧ (s.size : Int) ≤ 100))) (fun k => ?_) ?_
    · simp only [spec_l15Name.l0, Int.lt_irrefl, if_false, l1In_eq, Option.bind_some]
    · rw [allFrom_end, Bool.true_and]
      exact Ev.now _
  | succ d ih =>
    intro i hi
    have h1 : (i : Int) < (s.size : Int) := by omega
    have h2 : (0 : Int) ≤ (i : Int) := by omega
    have hr := bt_range s (i : Int)
    have hw : wrap64 ((i : Int) + 1) = ((i + 1 : Nat) : Int) := by unfold wrap64; omega
    refine Ev.step (f := fun k => spec_l15Name.j1 k s (i : Int) (!nameAt s i)) (fun k => ?_) ?_
    · simp only [spec_l15Name.l0, h1, h2, if_true]
      unfold nameAt nameSign
      generalize bt s (i : Int) = b at hr ⊢
      have e0 : ((i : Int) == 0) = decide (i = 0) := by
        by_cases h : i = 0
        · subst h; rfl
        · rw [decide_eq_false h]; simp; omega
      by_cases e : (97 ≤ b ∧ b ≤ 122) ∨ (48 ≤ b ∧ b ≤ 57) ∨ b = 45
      · rw [decide_eq_true e, Bool.true_or]
        by_cases a1 : b ≥ 97
        · rw [if_pos a1, if_pos (show b ≤ 122 by omega)]
        · rw [if_neg a1]
          by_cases a3 : b ≥ 48
          · rw [if_pos a3, if_pos (show b ≤ 57 by omega)]
          · rw [if_neg a3, if_pos (show b = 45 by omega)]
      · rw [decide_eq_false e, Bool.false_or]
        have a5 : ¬ b = 45 := by omega
        by_cases a6 : b = 58
        · have e2 : decide (b = 58 ∧ i = 0) = decide (i = 0) := by simp [a6]
          rw [e2, e0, if_neg (show ¬ b ≥ 97 by omega), if_pos (show b ≥ 48 by omega), if_neg (show ¬ b ≤ 57 by omega), if_neg a5, if_pos a6]
        · have e2 : decide (b = 58 ∧ i = 0) = false := decide_eq_false (fun h => a6 h.1)
          rw [e2]
          by_cases a1 : b ≥ 97
          · rw [if_pos a1, if_neg (show ¬ b ≤ 122 by omega), if_pos (show b ≥ 48 by omega), if_neg (show ¬ b ≤ 57 by omega), if_neg a5, if_neg a6]
          · rw [if_neg a1]
            by_cases a3 : b ≥ 48
            · rw [if_pos a3, if_neg (show ¬ b ≤ 57 by omega), if_neg a5, if_neg a6]
            · rw [if_neg a3, if_neg a5, if_neg a6]
    · rw [allFrom_step _ _ _ (by omega)]
      cases nameAt s i with
      | false =>
        refine Ev.step (f := fun _ => some false) (fun k => ?_) (Ev.now _)
        simp only [spec_l15Name.j1, Bool.not_false, if_true]
      | true =>
        refine Ev.step (f := fun k => spec_l15Name.l0 k s ((i + 1 : Nat) : Int)) (fun k => ?_) ?_
        · simp only [spec_l15Name.j1, Bool.not_true, Bool.false_eq_true, if_false, hw]
        · rw [Bool.true_and]
          exact ih (i + 1) (by omega)
theorem specName_ev (s : ByteArray) (hs : s.size ≤ 4611686018427387904) : Ev (fun k => spec_l15Name.f k s) (nameOk s) := name_loop s hs s.size 0 (by omega)
theorem value_loop (s : ByteArray) (hs : s.size ≤ 4611686018427387904) : ∀ d i : Nat, i + d = s.size → Ev (fun k => spec_l15Value.l0 k s (i : Int)) (allFrom (valueAt s) s.size i && decide ((s.size : Int) ≤ 100)) := by
  intro d
  induction d with
  | zero =>
    intro i hi
    obtain rfl : i = s.size := by omega
    refine Ev.step (f := fun _ => some (decide ((s.size : Int) ≤ 100))) (fun k => ?_) ?_
    · simp only [spec_l15Value.l0, Int.lt_irrefl, if_false]
    · rw [allFrom_end, Bool.true_and]
      exact Ev.now _
  | succ d ih =>
    intro i hi
    have h1 : (i : Int) < (s.size : Int) := by omega
    have h2 : (0 : Int) ≤ (i : Int) := by omega
    have hw : wrap64 ((i : Int) + 1) = ((i + 1 : Nat) : Int) := by unfold wrap64; omega
    rw [allFrom_step _ _ _ (by omega)]
    by_cases e : 32 ≤ bt s (i : Int) ∧ bt s (i : Int) ≤ 126
    · have e1 : valueAt s i = true := decide_eq_true e
      refine Ev.step (f := fun k => spec_l15Value.l0 k s ((i + 1 : Nat) : Int)) (fun k => ?_) ?_
      · simp only [spec_l15Value.l0, h1, h2, if_true, show ¬ bt s (i : Int) < 32 by omega, show ¬ bt s (i : Int) > 126 by omega, if_false, hw]
      · rw [e1, Bool.true_and]
        exact ih (i + 1) (by omega)
    · have e1 : valueAt s i = false := decide_eq_false e
      refine Ev.step (f := fun k => some false) (fun k => ?_) ?_
      · simp only [spec_l15Value.l0, h1, h2, if_true]
        by_cases e2 : bt s (i : Int) < 32
        · rw [if_pos e2]
        · rw [if_neg e2, if_pos (by omega)]
      · rw [e1, Bool.false_and]
        exact Ev.now _
theorem specValue_ev (s : ByteArray) (hs : s.size ≤ 4611686018427387904) : Ev (fun k => spec_l15Value.f k s) (valueOk s) := value_loop s hs s.size 0 (by omega)
def fieldOk (x : S36) : Bool := nameOk x.f0 && valueOk x.f1
def fieldsOk (l : List S36) : Bool := decide ((l.length : Int) ≤ 30) && !(l.any fun x => !fieldOk x)
theorem specFields_loop (l : List S36) : ∀ (r p : List S36), (p ++ r).length ≤ 4611686018427387904 → (∀ x, x ∈ r → x.f0.size ≤ 140737488351232 ∧ x.f1.size ≤ 140737488351232) →
    Ev (fun k => spec_GoodFields.l0 k l (p ++ r) ((p ++ r).length : Int) (p.length : Int)) (decide ((l.length : Int) ≤ 30) && !(r.any fun x => !fieldOk x))
  | [], p, _, _ => by
    refine LoopK.Ev.succ ?_
    simp only [spec_GoodFields.l0, List.append_nil, at_stop, if_false, List.any_nil, Bool.not_false, Bool.and_true]
    exact Ev.now _
  | x :: r, p, hB, hx => by
    refine LoopK.Ev.succ ?_
    have e1 := at_w p x r (by omega)
    have hx0 := hx x (by simp)
    simp only [spec_GoodFields.l0, at_lt, at_nn, if_true, rd_T36, at_getD, e1, List.any_cons]
    refine LoopK.Ev.bind_ (specName_ev _ (by omega)) ?_
    unfold fieldOk
    cases h1 : nameOk x.f0 with
    | false =>
      simp only [Bool.false_eq_true, if_false, Bool.false_and, Bool.not_false, Bool.true_or, Bool.not_true, Bool.and_false]
      exact Ev.now _
    | true =>
      simp only [if_true, Bool.true_and]
      refine LoopK.Ev.bind_ (specValue_ev _ (by omega)) ?_
      cases h2 : valueOk x.f1 with
      | false =>
        simp only [Bool.false_eq_true, if_false, Bool.not_false, Bool.true_or, Bool.not_true, Bool.and_false]
        exact Ev.now _
      | true =>
        simp only [if_true, Bool.not_true, Bool.false_or]
        have ih := specFields_loop l r (p ++ [x]) (by simpa using hB) (fun y hy => hx y (by simp [hy]))
        rw [← at_snoc, len_snoc p x] at ih
        exact ih
theorem specFields_ev (l : List S36) (hl : l.length ≤ 4611686018427387904) (hx : ∀ x, x ∈ l → x.f0.size ≤ 140737488351232 ∧ x.f1.size ≤ 140737488351232) : Ev (fun k => spec_GoodFields.f k l) (fieldsOk l) := by
  have h := specFields_loop l l [] (by simpa using hl) hx
  simp only [List.nil_append] at h
  exact h
/-- The signs of a field's name. -/
def nameSigns : ByteArray := ⟨#[97, 98, 99, 100, 101, 102, 103, 104, 105, 106, 107, 108, 109, 110, 111, 112, 113, 114, 115, 116, 117, 118, 119, 120, 121, 122, 48, 49, 50, 51, 52, 53, 54, 55, 56, 57, 45]⟩
theorem signs_all : ∀ n : Fin 256, nameSigns.data.toList.contains (UInt8.ofNat (n : Nat)) = nameSign ((n : Nat) : Int) := by decide +kernel
theorem signs_eq (x : UInt8) : nameSigns.data.toList.contains x = nameSign (x.toNat : Int) := by
  have h := signs_all ⟨x.toNat, x.toNat_lt⟩
  simpa using h
theorem bt_nat (s : ByteArray) (j : Nat) (h : j < s.size) : bt s (j : Int) = ((s.data[j]'h).toNat : Int) := by
  unfold bt
  rw [dif_pos (show (j : Int).toNat < s.size by simpa using h)]
  rfl
theorem over_eq (s : ByteArray) (hs : s.size ≤ 9223372036854775807) : impl_over.f s nameSigns = some (allFrom (fun j => nameSign (bt s (j : Int))) s.size 0) := by
  unfold impl_over.f TrimLaid.overF
  rw [if_pos ⟨hs, by decide, by decide⟩]
  congr 1
  unfold TrimLaid.overAll
  rw [Bool.eq_iff_iff, List.all_eq_true]
  simp only [allFrom, decide_eq_true_eq, signs_eq]
  constructor
  · intro h j hj _
    rw [bt_nat s j hj]
    exact h _ (by simp)
  · intro h x hx
    obtain ⟨j, hj, rfl⟩ := List.mem_iff_getElem.1 hx
    have hj2 : j < s.size := by simpa using hj
    have := h j hj2 (Nat.zero_le _)
    rw [bt_nat s j hj2] at this
    simpa using this
theorem bt_tail (s : ByteArray) (j : Nat) (h : j + 1 < s.size) : bt (s.extract 1 s.size) (j : Int) = bt s ((j + 1 : Nat) : Int) := by
  have hs : (s.extract 1 s.size).size = s.size - 1 := by simp
  rw [bt_nat s (j + 1) h, bt_nat _ j (by rw [hs]; omega)]
  have e : (s.extract 1 s.size).data = s.data.extract 1 s.size := by simp
  simp only [e, Array.getElem_extract, Nat.add_comm 1 j]
/-- A name's bytes, as the program goes over them. -/
theorem name_over (s : ByteArray) (h0 : 1 ≤ s.size ∧ s.size ≤ 100) : ∀ k, (if 0 < (s.size : Int) then (if (bt s 0) = 58 then (if 1 ≤ (s.size : Int) then (impl_goodField.j2 (k + 1) (s.extract 1 s.size)) else (none)) else (impl_goodField.j2 (k + 1) s)) else (none)) = some (allFrom (nameAt s) s.size 0) := by
  intro k
  rw [if_pos (show 0 < (s.size : Int) by omega), if_pos (show 1 ≤ (s.size : Int) by omega)]
  by_cases h : bt s 0 = 58
  · rw [if_pos h]
    have hs : (s.extract 1 s.size).size = s.size - 1 := by simp
    show (impl_over.f (s.extract 1 s.size) nameSigns).bind _ = _
    rw [over_eq _ (by rw [hs]; omega), Option.bind_some]
    congr 1
    rw [Bool.eq_iff_iff]
    simp only [allFrom, decide_eq_true_eq, hs]
    constructor
    · intro h1 j hj _
      unfold nameAt
      cases j with
      | zero => simp [h]
      | succ j =>
        have := h1 j (by omega) (Nat.zero_le _)
        rw [bt_tail s j (by omega)] at this
        rw [this, Bool.true_or]
    · intro h1 j hj _
      have := h1 (j + 1) (by omega) (Nat.zero_le _)
      rw [bt_tail s j (by omega)]
      unfold nameAt at this
      simpa using this
  · rw [if_neg h]
    show (impl_over.f s nameSigns).bind _ = _
    rw [over_eq _ (by omega), Option.bind_some]
    congr 1
    rw [Bool.eq_iff_iff]
    simp only [allFrom, decide_eq_true_eq]
    constructor
    · intro h1 j hj h2
      unfold nameAt
      rw [h1 j hj h2, Bool.true_or]
    · intro h1 j hj h2
      have := h1 j hj h2
      unfold nameAt at this
      rw [Bool.or_eq_true] at this
      rcases this with h3 | h3
      · exact h3
      · obtain ⟨h4, h5⟩ := of_decide_eq_true h3
        subst h5
        exact absurd h4 h
theorem goodField_loop (a b : ByteArray) (ha : 1 ≤ a.size ∧ a.size ≤ 100) (hb : b.size ≤ 100) : ∀ d i : Nat, i + d = b.size → Ev (fun k => impl_goodField.l0 k (b.size : Int) (i : Int) a b) (allFrom (valueAt b) b.size i && allFrom (nameAt a) a.size 0) := by
  intro d
  induction d with
  | zero =>
    intro i hi
    obtain rfl : i = b.size := by omega
    refine LoopK.Ev.succ (LoopK.Ev.succ ?_)
    rw [allFrom_end, Bool.true_and]
    simp only [impl_goodField.l0, Int.lt_irrefl, if_false]
    refine LoopK.Ev.eq_ (fun k => name_over a ha k)
  | succ d ih =>
    intro i hi
    have h1 : (i : Int) < (b.size : Int) := by omega
    have h2 : (0 : Int) ≤ (i : Int) := by omega
    have hr := bt_range b (i : Int)
    have hw : wrap64 ((i : Int) + 1) = ((i + 1 : Nat) : Int) := by unfold wrap64; omega
    have hw2 : wrap64 (bt b (i : Int)) = bt b (i : Int) := by unfold wrap64; omega
    rw [allFrom_step _ _ _ (by omega)]
    refine LoopK.Ev.succ ?_
    have e0 : decide (32 ≤ bt b (i : Int) ∧ bt b (i : Int) ≤ 126) = valueAt b i := rfl
    simp only [impl_goodField.l0, h1, h2, if_true, hw2, in_eq, Option.bind_some, e0, hw]
    cases valueAt b i with
    | false =>
      simp only [Bool.false_eq_true, if_false, Bool.false_and]
      exact Ev.now _
    | true =>
      simp only [if_true, Bool.true_and]
      exact ih (i + 1) (by omega)
theorem goodField_ev (x : S36) : Ev (fun k => impl_goodField.f k x.f0 x.f1) (fieldOk x) := by
  unfold impl_goodField.f fieldOk nameOk valueOk
  simp only [in_eq, Option.bind_some, decide_eq_true_eq]
  by_cases h1 : 1 ≤ (x.f0.size : Int) ∧ (x.f0.size : Int) ≤ 100
  · simp only [h1, and_self, if_true, decide_true, Bool.and_true]
    refine LoopK.Ev.succ ?_
    simp only [impl_goodField.j0]
    by_cases h2 : (x.f1.size : Int) > 100
    · have h3 : ¬ ((x.f1.size : Int) ≤ 100) := by omega
      simp only [h2, h3, decide_true, decide_false, if_true, Bool.and_false]
      exact Ev.now _
    · have h3 : (x.f1.size : Int) ≤ 100 := by omega
      simp only [h2, h3, decide_true, decide_false, Bool.false_eq_true, if_false, Bool.and_true]
      rw [Bool.and_comm]
      exact goodField_loop x.f0 x.f1 (by omega) (by omega) x.f1.size 0 (by omega)
  · simp only [h1, if_false, decide_false, Bool.and_false, Bool.false_and]
    refine LoopK.Ev.succ ?_
    simp only [impl_goodField.j0, if_true]
    exact Ev.now _
theorem goodFieldsP_ev (x : S36) : Ev (fun k => GoodFieldsP k x) (!fieldOk x) := by
  unfold GoodFieldsP impl_GoodFields_1.f
  exact LoopK.Ev.bind_ (goodField_ev x) (Ev.now _)
/-- Rounds enough for every element of a list. -/
theorem rounds_all {α : Type} (P : Nat → α → Option Bool) (p : α → Bool) (h : ∀ x, Ev (fun k => P k x) (p x)) : ∀ l : List α, ∃ K, ∀ k, K ≤ k → ∀ x, x ∈ l → P k x = some (p x)
  | [] => ⟨0, fun _ _ x hx => by simp at hx⟩
  | x :: l => by
    obtain ⟨K1, h1⟩ := h x
    obtain ⟨K2, h2⟩ := rounds_all P p h l
    refine ⟨K1 + K2, fun k hk y hy => ?_⟩
    rcases List.mem_cons.1 hy with rfl | hy
    · exact h1 k (by omega)
    · exact h2 k (by omega) y hy
theorem implFields_ev (l : List S36) : Ev (fun k => impl_GoodFields.f k l) (fieldsOk l) := by
  obtain ⟨K, hK⟩ := rounds_all GoodFieldsP (fun x => !fieldOk x) goodFieldsP_ev l
  refine ⟨K, fun k hk => ?_⟩
  have h := hK k hk
  show impl_GoodFields.f k l = some (fieldsOk l)
  unfold impl_GoodFields.f fieldsOk
  rw [if_pos (List.all_eq_true.2 (fun x hx => by rw [h x hx]; rfl))]
  congr 3
  rw [Bool.eq_iff_iff, List.any_eq_true, List.any_eq_true]
  exact ⟨fun ⟨x, hx, h2⟩ => ⟨x, hx, by rw [h x hx] at h2; exact h2⟩, fun ⟨x, hx, h2⟩ => ⟨x, hx, by rw [h x hx]; exact h2⟩⟩

open Go.Proofs.YtjmakjddhbdocaaDoor.IdxK (idxF idxFrom)
/-- Is a field the one that is asked for? -/
def fldE (a b : ByteArray) (g : S36) : Bool := g.f0.toList == a.toList && (g.f1.toList == b.toList)
/-- Has it the name? -/
def fldN (a : ByteArray) (g : S36) : Bool := g.f0.toList == a.toList
theorem fldE_comm (a b : ByteArray) (g : S36) : (a.toList == g.f0.toList && (b.toList == g.f1.toList)) = fldE a b g := by
  unfold fldE
  rw [BEq.comm (a := a.toList), BEq.comm (a := b.toList)]
theorem index_loop (a b : ByteArray) : ∀ (r p : List S36), (p ++ r).length ≤ 1000000 → Ev (fun k => impl_Field_46.l0 k (p ++ r) ((p ++ r).length : Int) (p.length : Int) a b) (idxFrom (fldE a b) r p.length)
  | [], p, _ => by
    refine LoopK.Ev.succ ?_
    simp only [impl_Field_46.l0, List.append_nil, at_stop, if_false]
    exact Ev.now _
  | x :: r, p, hB => by
    refine LoopK.Ev.succ ?_
    have e1 := at_w p x r (by omega)
    simp only [impl_Field_46.l0, at_lt, at_nn, if_true, rd_T36, at_getD, e1, fldE_comm, idxFrom]
    by_cases h : fldE a b x = true
    · simp only [h, if_true]
      exact Ev.now _
    · simp only [h, if_false]
      have ih := index_loop a b r (p ++ [x]) (by simpa using hB)
      rw [← at_snoc, len_snoc p x] at ih
      simpa using ih
theorem specAt_loop (a b : ByteArray) : ∀ (r p : List S36) (e n : Int), (p ++ r).length ≤ 1000000 → (e = -1 ∨ 0 ≤ e) → (n = -1 ∨ 0 ≤ n) →
    Ev (fun k => spec_l15At.l0 k e n (p ++ r) ((p ++ r).length : Int) (p.length : Int) a b) (if e < 0 then idxFrom (fldE a b) r p.length else e, if n < 0 then idxFrom (fldN a) r p.length else n)
  | [], p, e, n, _, he, hn => by
    refine LoopK.Ev.succ ?_
    simp only [spec_l15At.l0, List.append_nil, at_stop, if_false, idxFrom]
    refine LoopK.Ev.to (Ev.now _) ?_
    congr 1
    · split <;> omega
    · split <;> omega
  | x :: r, p, e, n, hB, he, hn => by
    have e1 := at_w p x r (by omega)
    have step2 : ∀ e' : Int, (e' = -1 ∨ 0 ≤ e') → Ev (fun k => spec_l15At.j2 k e' n (p.length : Int) (p ++ x :: r) ((p ++ x :: r).length : Int) (p.length : Int) a b x.f0 x.f1) (if e' < 0 then idxFrom (fldE a b) r (p.length + 1) else e', if n < 0 then idxFrom (fldN a) (x :: r) p.length else n) := by
      intro e' he'
      refine LoopK.Ev.succ ?_
      simp only [spec_l15At.j2, e1]
      by_cases h1 : n < 0
      · simp only [h1, if_true, idxFrom]
        by_cases h2 : x.f0.toList = a.toList
        · have h3 : fldN a x = true := by unfold fldN; rw [h2]; simp
          simp only [h2, if_true, h3]
          have ih := specAt_loop a b r (p ++ [x]) e' (p.length : Int) (by simpa using hB) he' (Or.inr (by omega))
          rw [← at_snoc, len_snoc p x] at ih
          have h4 : ¬ ((p.length : Int) < 0) := by omega
          simp only [h4, if_false] at ih
          simpa using ih
        · have h3 : ¬ (fldN a x = true) := by unfold fldN; simpa using h2
          simp only [h2, if_false, h3]
          have ih := specAt_loop a b r (p ++ [x]) e' n (by simpa using hB) he' hn
          rw [← at_snoc, len_snoc p x] at ih
          simp only [h1, if_true] at ih
          simpa using ih
      · simp only [h1, if_false]
        have ih := specAt_loop a b r (p ++ [x]) e' n (by simpa using hB) he' hn
        rw [← at_snoc, len_snoc p x] at ih
        simp only [h1, if_false] at ih
        simpa using ih
    refine LoopK.Ev.succ ?_
    simp only [spec_l15At.l0, at_lt, at_nn, if_true, rd_T36, at_getD]
    have hE : (x.f0.toList == a.toList && (x.f1.toList == b.toList)) = fldE a b x := rfl
    by_cases h1 : e < 0
    · simp only [h1, if_true, hE]
      refine LoopK.Ev.succ ?_
      simp only [spec_l15At.j1]
      by_cases h2 : fldE a b x = true
      · have h4 : ¬ ((p.length : Int) < 0) := by omega
        have h5 : idxFrom (fldE a b) (x :: r) p.length = (p.length : Int) := by simp only [idxFrom, h2, if_true]
        have s := step2 (p.length : Int) (Or.inr (by omega))
        simp only [h4, if_false] at s
        rw [h5]
        simp only [h2, if_true]
        exact s
      · have h5 : idxFrom (fldE a b) (x :: r) p.length = idxFrom (fldE a b) r (p.length + 1) := by simp only [idxFrom, h2, Bool.false_eq_true, if_false]
        have s := step2 e he
        simp only [h1, if_true] at s
        rw [h5]
        simp only [h2, if_false]
        exact s
    · simp only [h1, if_false]
      refine LoopK.Ev.succ ?_
      simp only [spec_l15At.j1, Bool.false_eq_true, if_false]
      have s := step2 e he
      simp only [h1, if_false] at s
      exact s
/-- Both places of a field. -/
theorem idxFrom_in {S : Type} (p : S → Bool) : ∀ (l : List S) (i : Nat), -1 ≤ idxFrom p l i ∧ idxFrom p l i < ((i + l.length : Nat) : Int)
  | [], i => by simp only [idxFrom, List.length_nil]; omega
  | x :: r, i => by
    have ih := idxFrom_in p r (i + 1)
    simp only [idxFrom, List.length_cons]
    split
    · omega
    · omega
theorem l15At_ev (a b : ByteArray) : ∃ v : Int × Int, Ev (fun k => spec_l15At.f k a b) v ∧ Ev (fun k => impl_StaticAt.f k a b) v ∧ v.1 ≤ 1000 ∧ v.2 ≤ 1000 := by
  obtain ⟨l, hl, hlen⟩ : ∃ l, spec_l15Static.f = some l ∧ l.length ≤ 1000 := ⟨_, rfl, by decide⟩
  have hi : impl_static.f = some l := hl
  have b1 := idxFrom_in (fldE a b) l 0
  have b2 := idxFrom_in (fldN a) l 0
  refine ⟨(idxF (fldE a b) l, idxF (fldN a) l), ?_, ?_, ?_, ?_⟩
  · unfold spec_l15At.f
    simp only [hl, Option.bind_some]
    have h := specAt_loop a b l [] (-1) (-1) (by simp; omega) (Or.inl rfl) (Or.inl rfl)
    simp only [show ((-1 : Int) < 0) by omega, if_true, List.nil_append, List.length_nil] at h
    exact h
  · unfold impl_StaticAt.f impl_Field_46.f
    simp only [hi, Option.bind_some]
    have h := index_loop a b l [] (by simp; omega)
    simp only [List.nil_append, List.length_nil] at h
    exact LoopK.Ev.bind_ h (Ev.now _)
  · show idxFrom (fldE a b) l 0 ≤ 1000
    omega
  · show idxFrom (fldN a) l 0 ≤ 1000
    omega

/-- So many bytes of a number, the highest one first. -/
def be : Int → Nat → List Int
  | _, 0 => []
  | n, m + 1 => be (n / 256) m ++ [n % 256]
theorem be_length : ∀ (m : Nat) (n : Int), (be n m).length = m
  | 0, _ => rfl
  | m + 1, n => by simp [be, be_length m]
theorem pow256 (m : Nat) : (0 : Int) < 256 ^ m := Int.pow_pos (by decide)
theorem be_cons : ∀ (m : Nat) (n : Int), be n (m + 1) = (n / 256 ^ m % 256) :: be n m
  | 0, n => by simp [be]
  | m + 1, n => by
    have e : n / 256 / 256 ^ m = n / 256 ^ (m + 1) := by
      rw [Int.ediv_ediv_of_nonneg (by decide), Int.pow_succ, Int.mul_comm]
    rw [be, be_cons m (n / 256), e]
    simp [be]
theorem be_mod : ∀ (m : Nat) (n q : Int), be (n + 256 ^ m * q) m = be n m
  | 0, _, _ => rfl
  | m + 1, n, q => by
    have e1 : n + 256 ^ (m + 1) * q = n + 256 * (256 ^ m * q) := by rw [Int.pow_succ, Int.mul_comm (256 ^ m) 256, Int.mul_assoc]
    have e2 : (n + 256 * (256 ^ m * q)) / 256 = n / 256 + 256 ^ m * q := by omega
    have e3 : (n + 256 * (256 ^ m * q)) % 256 = n % 256 := by omega
    rw [be, e1, e2, e3, be_mod m]
    rfl
theorem strOfNums_size (l : List Int) : (strOfNums l).size = l.length := by simp [strOfNums, ByteArray.size]
theorem strOfNums_toList (l : List Int) : (strOfNums l).toList = l.map fun n => UInt8.ofNat n.toNat := by
  rw [ByteArray.toList_eq]
  simp [strOfNums]
theorem strOfNums_append (a b : List Int) : strOfNums a ++ strOfNums b = strOfNums (a ++ b) := by
  apply ByteArray.ext
  simp [strOfNums]
theorem shr8 (x : Int) (i : Nat) (hi : 8 * i ≤ 9223372036854775807) (hx : 0 ≤ x ∧ x < 18446744073709551616) : shr .u64 x (8 * (i : Int)) = x / 256 ^ i ∧ shr .i64 x (8 * (i : Int)) = x / 256 ^ i := by
  have hp : (256 : Int) ^ i = 2 ^ (8 * i) := by rw [Int.pow_mul]; rfl
  have e : (8 * (i : Int)).toNat = 8 * i := by omega
  have key : x / 2 ^ min (8 * i) 64 = x / 256 ^ i := by
    rcases Nat.lt_or_ge (8 * i) 64 with h | h
    · rw [hp, Nat.min_eq_left (by omega)]
    · rw [Nat.min_eq_right h, hp]
      have h1 : (2 : Int) ^ 64 ≤ 2 ^ (8 * i) := by exact_mod_cast Nat.pow_le_pow_right (by decide) h
      rw [Int.ediv_eq_zero_of_lt hx.1 (by omega), Int.ediv_eq_zero_of_lt hx.1 (by omega)]
  unfold shr
  rw [e]
  exact ⟨key, key⟩
theorem l1Fixed_loop (x : Int) (hx : 0 ≤ x ∧ x < 18446744073709551616) : ∀ (m : Nat) (out : List Int), m ≤ 1000 → out.length + m ≤ 100000 → Ev (fun k => spec_l1Fixed.l0 k x out ((m : Int) - 1)) (strOfNums (out ++ be x m))
  | 0, out, _, _ => by
    refine LoopK.Ev.succ ?_
    have c : ¬ (((0 : Nat) : Int) - 1 ≥ 0) := by omega
    simp only [spec_l1Fixed.l0, c, if_false, be, List.append_nil]
    exact Ev.now _
  | m + 1, out, hm, ho => by
    refine LoopK.Ev.succ ?_
    have e0 : ((m + 1 : Nat) : Int) - 1 = (m : Int) := by omega
    have c : (m : Int) ≥ 0 := by omega
    have w0 : wrap64 (8 * (m : Int)) = 8 * (m : Int) := w64 _ (by omega)
    have w1 : IntKind.u64.wrap (8 * (m : Int)) = 8 * (m : Int) := by
      simp [IntKind.wrap, IntKind.bits, IntKind.signed]
      omega
    have c1 : 0 ≤ 8 * (m : Int) := by omega
    have c2 : out.length < 140737488355328 := by omega
    have w2 : wrap64 ((m : Int) - 1) = (m : Int) - 1 := w64 _ (by omega)
    rw [e0]
    simp only [spec_l1Fixed.l0, c, if_true, w0, w1, c1, c2, w2, (shr8 x m (by omega) hx).2]
    refine LoopK.Ev.to (l1Fixed_loop x hx m _ (by omega) (by simp; omega)) ?_
    rw [be_cons, List.append_assoc]
    rfl
theorem l1Fixed_ev (x : Int) (hx : 0 ≤ x ∧ x < 18446744073709551616) (m : Nat) (hm : m ≤ 1000) : Ev (fun k => spec_l1Fixed.f k x (m : Int)) (strOfNums (be x m)) := by
  unfold spec_l1Fixed.f
  have w : wrap64 ((m : Int) - 1) = (m : Int) - 1 := w64 _ (by omega)
  simp only [w]
  simpa using l1Fixed_loop x hx m [] hm (by simp; omega)
theorem bigEndian_loop : ∀ (m : Nat) (x : Int) (tail : List Int), m ≤ 1000 → tail.length + m ≤ 100000 → Ev (fun k => impl_bigEndian.l0 k x (List.replicate m 0 ++ tail) ((m : Int) - 1)) (strOfNums (be x m ++ tail))
  | 0, x, tail, _, _ => by
    refine LoopK.Ev.succ ?_
    have c : ¬ (((0 : Nat) : Int) - 1 ≥ 0) := by omega
    simp only [impl_bigEndian.l0, c, if_false, be, List.replicate_zero, List.nil_append]
    exact Ev.now _
  | m + 1, x, tail, hm, ht => by
    refine LoopK.Ev.succ ?_
    have e0 : ((m + 1 : Nat) : Int) - 1 = (m : Int) := by omega
    have c : (m : Int) ≥ 0 := by omega
    have c1 : 0 ≤ (m : Int) := by omega
    have c2 : (m : Int) < ((List.replicate (m + 1) (0 : Int) ++ tail).length : Int) := by
      rw [List.length_append, List.length_replicate]
      omega
    have w2 : wrap64 ((m : Int) - 1) = (m : Int) - 1 := w64 _ (by omega)
    have e1 : (List.replicate (m + 1) (0 : Int) ++ tail).set (m : Int).toNat (x % 256) = List.replicate m 0 ++ (x % 256 :: tail) := by
      rw [List.replicate_succ', List.append_assoc]
      have : (m : Int).toNat = (List.replicate m (0 : Int)).length := by simp
      rw [this, List.set_append_right _ _ (Nat.le_refl _)]
      simp
    rw [e0]
    simp only [impl_bigEndian.l0, c, if_true, c1, c2, w2, e1]
    refine LoopK.Ev.to (bigEndian_loop m (x / 256) (x % 256 :: tail) (by omega) (by rw [List.length_cons]; omega)) ?_
    simp [be]
theorem bigEndian_ev (x : Int) (m : Nat) (hm : m ≤ 1000) : Ev (fun k => impl_bigEndian.f k x (m : Int)) (strOfNums (be x m)) := by
  unfold impl_bigEndian.f
  have c1 : 0 ≤ (m : Int) := by omega
  have c2 : (m : Int).toNat = m := by omega
  have c3 : m ≤ 281474976710656 := by omega
  have w : wrap64 ((m : Int) - 1) = (m : Int) - 1 := w64 _ (by omega)
  simp only [c1, if_true, c2, c3, w]
  simpa using bigEndian_loop m x [] hm (by simp; omega)

theorem u64_id (n : Int) (h0 : 0 ≤ n) (h : n ≤ 9223372036854775807) : IntKind.u64.wrap n = n := by
  simp [IntKind.wrap, IntKind.bits, IntKind.signed]
  omega
theorem i64w (n : Int) (h0 : 0 ≤ n) (h1 : n < 2 ^ 32) : IntKind.i64.wrap n = n := by rw [IntKind.wrap_i64]; omega
theorem bor_comm (k : IntKind) (x y : Int) : Go.bits .or k x y = Go.bits .or k y x := by
  unfold Go.bits
  simp only [BitVec.or_comm]
theorem shl_pow (y : Int) (j : Nat) (hy : y = j) (hj : j ≤ 8) : shl .i64 1 y = 2 ^ j := by
  subst hy
  unfold shl
  have e : min (j : Int).toNat IntKind.i64.bits = j := by simp [IntKind.bits]; omega
  rw [e, i64_w, Int.one_mul]
  have h8 : (2 : Int) ^ j ≤ 2 ^ 8 := by exact_mod_cast Nat.pow_le_pow_right (by decide) hj
  have h0 : (0 : Int) < 2 ^ j := Int.pow_pos (by decide)
  unfold wrap64
  omega
theorem prefix_last (n : Int) (s : ByteArray) (h0 : 0 ≤ n) (h1 : n ≤ 127) (h3 : s.size ≤ 1000) : ∃ r, Ev (fun k => spec_l15Prefix.l0 k n s) r ∧ Ev (fun k => impl_prefixed.l0 k n s) r ∧ r.size ≤ s.size + 1 := by
  have hn : ¬ (n > 127) := by omega
  have hn' : ¬ (n ≥ 128) := by omega
  have e5 : IntKind.u64.wrap n = n := u64_id _ (by omega) (by omega)
  have hs : (strOfNums (be n 1)).size = 1 := by rw [strOfNums_size, be_length]
  have c : s.size + (strOfNums (be n 1)).size ≤ 9223372036854775807 := by rw [hs]; omega
  refine ⟨s ++ strOfNums (be n 1), LoopK.Ev.succ ?_, LoopK.Ev.succ ?_, by rw [ByteArray.size_append, hs]; omega⟩
  · simp only [spec_l15Prefix.l0, hn, if_false]
    refine LoopK.Ev.bind_ (l1Fixed_ev _ (by omega) 1 (by omega)) ?_
    simp only [c, if_true]
    exact Ev.now _
  · simp only [impl_prefixed.l0, hn', if_false, e5]
    refine LoopK.Ev.bind_ (bigEndian_ev _ 1 (by omega)) ?_
    simp only [c, if_true]
    exact Ev.now _
/-- What follows the first byte. -/
theorem prefix_loops : ∀ (d : Nat) (n : Int) (s : ByteArray), 0 ≤ n → n ≤ 2000000000 → n < 128 ^ d → s.size + d ≤ 1000 → ∃ r, Ev (fun k => spec_l15Prefix.l0 k n s) r ∧ Ev (fun k => impl_prefixed.l0 k n s) r ∧ r.size ≤ s.size + d + 1 := by
  intro d
  induction d with
  | zero =>
    intro n s h0 h1 h2 h3
    have hz : n = 0 := by
      have : (128 : Int) ^ 0 = 1 := rfl
      omega
    obtain ⟨r, q1, q2, q3⟩ := prefix_last n s (by omega) (by omega) (by omega)
    exact ⟨r, q1, q2, by omega⟩
  | succ d ih =>
    intro n s h0 h1 h2 h3
    by_cases hn : n > 127
    · have hn' : n ≥ 128 := by omega
      have e1 : Go.bits .and .i64 n 127 = n % 128 := bits_mask .i64 32 (by decide) i64w 7 (by decide) n h0 (by omega)
      have e2 : Go.bits .or .i64 (n % 128) 128 = n % 128 + 128 := by
        rw [bor_comm, Int.add_comm]
        exact bits_join .i64 32 (by decide) i64w 7 128 (n % 128) (by decide) (by decide) (by decide) (by omega) (by omega) (by omega)
      have e3 : Int.tmod n 128 = n % 128 := Int.tmod_eq_emod_of_nonneg h0
      have e4 : wrap64 (n % 128 + 128) = n % 128 + 128 := w64 _ (by omega)
      have e5 : IntKind.u64.wrap (n % 128 + 128) = n % 128 + 128 := u64_id _ (by omega) (by omega)
      have e6 : Int.tdiv n 128 = n / 128 := Int.tdiv_eq_ediv_of_nonneg h0
      have e7 : wrap64 (n / 128) = n / 128 := w64 _ (by omega)
      have hlt : n / 128 < 128 ^ d := by
        have : (128 : Int) ^ (d + 1) = 128 ^ d * 128 := by rw [Int.pow_succ]
        omega
      have hs : (strOfNums (be (n % 128 + 128) 1)).size = 1 := by rw [strOfNums_size, be_length]
      obtain ⟨r, hr1, hr2, hr3⟩ := ih (n / 128) (s ++ strOfNums (be (n % 128 + 128) 1)) (by omega) (by omega) hlt (by rw [ByteArray.size_append, hs]; omega)
      have c : s.size + (strOfNums (be (n % 128 + 128) 1)).size ≤ 9223372036854775807 := by rw [hs]; omega
      refine ⟨r, LoopK.Ev.succ ?_, LoopK.Ev.succ ?_, by rw [ByteArray.size_append, hs] at hr3; omega⟩
      · simp only [spec_l15Prefix.l0, hn, if_true, e1, e2]
        refine LoopK.Ev.bind_ (l1Fixed_ev _ (by omega) 1 (by omega)) ?_
        simp only [c, if_true]
        exact hr1
      · simp only [impl_prefixed.l0, hn', if_true, e3, e4, e5, e6, e7]
        refine LoopK.Ev.bind_ (bigEndian_ev _ 1 (by omega)) ?_
        simp only [c, if_true]
        exact hr2
    · obtain ⟨r, q1, q2, q3⟩ := prefix_last n s h0 (by omega) (by omega)
      exact ⟨r, q1, q2, by omega⟩
theorem pow_in (j : Nat) (h : j ≤ 8) : (0 : Int) < 2 ^ j ∧ (2 : Int) ^ j ≤ 256 := by
  refine ⟨Int.pow_pos (by decide), ?_⟩
  have h1 : 2 ^ j ≤ 2 ^ 8 := Nat.pow_le_pow_right (by decide) h
  have e : (2 : Int) ^ j = ((2 ^ j : Nat) : Int) := by simp
  rw [e]
  omega
/-- Both ways to write a number with a prefix. -/
theorem prefixed_ev (n : Int) (j : Nat) (first : Int) (hn : 0 ≤ n ∧ n ≤ 1000000000) (hj : j ≤ 8) (hf : 0 ≤ first ∧ first ≤ 255) (hm : first % 2 ^ j = 0) : ∃ r, Ev (fun k => spec_l15Prefix.f k n (j : Int) first) r ∧ Ev (fun k => impl_prefixed.f k n (j : Int) first) r ∧ r.size ≤ 7 := by
  obtain ⟨p0, p1⟩ := pow_in j hj
  have s1 : shl .i64 1 (j : Int) = 2 ^ j := shl_pow _ j rfl hj
  have u1 : IntKind.u64.wrap (j : Int) = (j : Int) := u64_id _ (by omega) (by omega)
  have w1 : wrap64 ((2 : Int) ^ j - 1) = 2 ^ j - 1 := w64 _ (by omega)
  have c0 : 0 ≤ (j : Int) := by omega
  have hor : ∀ y : Int, 0 ≤ y → y < 2 ^ j → Go.bits .or .i64 first y = first + y := fun y h0 h1 => bits_join .i64 32 (by decide) i64w j first y hf.1 hm (by omega) h0 h1 (by omega)
  unfold spec_l15Prefix.f impl_prefixed.f
  simp only [u1, c0, if_true, s1, w1]
  by_cases hlt : n < 2 ^ j - 1
  · have e1 := hor n hn.1 (by omega)
    have e2 : wrap64 (first + n) = first + n := w64 _ (by omega)
    have e3 : IntKind.u64.wrap (first + n) = first + n := u64_id _ (by omega) (by omega)
    simp only [hlt, if_true, e1, e2, e3]
    exact ⟨_, LoopK.Ev.bind_ (l1Fixed_ev _ (by omega) 1 (by omega)) (Ev.now _), LoopK.Ev.bind_ (bigEndian_ev _ 1 (by omega)) (Ev.now _), by rw [strOfNums_size, be_length]; omega⟩
  · have e1 := hor (2 ^ j - 1) (by omega) (by omega)
    have e2 : wrap64 (first + (2 ^ j - 1)) = first + (2 ^ j - 1) := w64 _ (by omega)
    have e3 : IntKind.u64.wrap (first + (2 ^ j - 1)) = first + (2 ^ j - 1) := u64_id _ (by omega) (by omega)
    have e4 : wrap64 (n - (2 ^ j - 1)) = n - (2 ^ j - 1) := w64 _ (by omega)
    have hs : (strOfNums (be (first + (2 ^ j - 1)) 1)).size = 1 := by rw [strOfNums_size, be_length]
    obtain ⟨r, h1, h2, h3⟩ := prefix_loops 5 (n - (2 ^ j - 1)) (strOfNums (be (first + (2 ^ j - 1)) 1)) (by omega) (by omega) (by omega) (by omega)
    simp only [hlt, if_false, e1, e2, e3, e4]
    exact ⟨r, LoopK.Ev.bind_ (l1Fixed_ev _ (by omega) 1 (by omega)) h1, LoopK.Ev.bind_ (bigEndian_ev _ 1 (by omega)) h2, by omega⟩

theorem bytes_loops : ∀ (r p : List S36) (s : ByteArray), (p ++ r).length ≤ 1000 → (∀ x, x ∈ r → x.f0.size ≤ 100 ∧ x.f1.size ≤ 100) → s.size + 1000 * r.length ≤ 1000000 →
    ∃ v, v.size ≤ 1000000 ∧ Ev (fun k => spec_l15Bytes.l0 k s (p ++ r) ((p ++ r).length : Int) (p.length : Int)) v ∧ Ev (fun k => impl_fieldsBytes.l0 k s (p ++ r) ((p ++ r).length : Int) (p.length : Int)) v
  | [], p, s, _, _, hs => by
    refine ⟨s, by omega, LoopK.Ev.succ ?_, LoopK.Ev.succ ?_⟩
    · simp only [spec_l15Bytes.l0, List.append_nil, at_stop, if_false]
      exact Ev.now _
    · simp only [impl_fieldsBytes.l0, List.append_nil, at_stop, if_false]
      exact Ev.now _
  | x :: r, p, s, hB, hx, hs => by
    have e1 := at_w p x r (by omega)
    have hx0 := hx x (by simp)
    rw [List.length_cons] at hs
    obtain ⟨⟨e, n⟩, a1, a2, a3, a4⟩ := l15At_ev x.f0 x.f1
    simp only at a3 a4
    obtain ⟨t7, g1, g2, g3⟩ := prefixed_ev (x.f1.size : Int) 7 0 (by omega) (by omega) (by omega) (by decide)
    have c0 : t7.size + x.f1.size ≤ 9223372036854775807 := by omega
    have hstep : ∀ t : ByteArray, t.size ≤ 500 → Ev (fun k => impl_Field_bytes.f k x.f0 x.f1) t → ∃ v, v.size ≤ 1000000 ∧ Ev (fun k => spec_l15Bytes.l0 k (s ++ t) (p ++ x :: r) ((p ++ x :: r).length : Int) ((p.length : Int) + 1)) v ∧
        Ev (fun k => impl_fieldsBytes.l0 k s (p ++ x :: r) ((p ++ x :: r).length : Int) (p.length : Int)) v := by
      intro t ht hf
      obtain ⟨v, v0, v1, v2⟩ := bytes_loops r (p ++ [x]) (s ++ t) (by simpa using hB) (fun y hy => hx y (by simp [hy])) (by rw [ByteArray.size_append]; omega)
      rw [← at_snoc, len_snoc p x] at v1 v2
      refine ⟨v, v0, v1, LoopK.Ev.succ ?_⟩
      simp only [impl_fieldsBytes.l0, at_lt, at_nn, if_true, rd_T36, at_getD, e1]
      refine LoopK.Ev.bind_ hf ?_
      have c9 : s.size + t.size ≤ 9223372036854775807 := by omega
      simp only [c9, if_true]
      exact v2
    by_cases he : e ≥ 0
    · obtain ⟨t6, q1, q2, q3⟩ := prefixed_ev e 6 192 (by omega) (by omega) (by omega) (by decide)
      obtain ⟨v, v0, v1, v2⟩ := hstep t6 (by omega) (by
        unfold impl_Field_bytes.f
        refine LoopK.Ev.bind_ g2 ?_
        simp only [c0, if_true]
        refine LoopK.Ev.bind_ a2 ?_
        simp only [he, if_true]
        exact LoopK.Ev.bind_ q2 (Ev.now _))
      refine ⟨v, v0, LoopK.Ev.succ ?_, v2⟩
      simp only [spec_l15Bytes.l0, at_lt, at_nn, if_true, rd_T36, at_getD, e1]
      refine LoopK.Ev.bind_ a1 ?_
      refine LoopK.Ev.bind_ g1 ?_
      simp only [c0, he, if_true]
      refine LoopK.Ev.bind_ q1 ?_
      have c9 : s.size + t6.size ≤ 9223372036854775807 := by omega
      simp only [c9, if_true]
      exact v1
    · have sv : (t7 ++ x.f1).size ≤ 107 := by rw [ByteArray.size_append]; omega
      by_cases hn : n ≥ 0
      · obtain ⟨t4, q1, q2, q3⟩ := prefixed_ev n 4 80 (by omega) (by omega) (by omega) (by decide)
        have c1 : t4.size + (t7 ++ x.f1).size ≤ 9223372036854775807 := by omega
        have st : (t4 ++ (t7 ++ x.f1)).size ≤ 500 := by rw [ByteArray.size_append]; omega
        obtain ⟨v, v0, v1, v2⟩ := hstep (t4 ++ (t7 ++ x.f1)) st (by
          unfold impl_Field_bytes.f
          refine LoopK.Ev.bind_ g2 ?_
          simp only [c0, if_true]
          refine LoopK.Ev.bind_ a2 ?_
          simp only [he, hn, if_true, if_false]
          refine LoopK.Ev.bind_ q2 ?_
          simp only [c1, if_true]
          exact Ev.now _)
        refine ⟨v, v0, LoopK.Ev.succ ?_, v2⟩
        simp only [spec_l15Bytes.l0, at_lt, at_nn, if_true, rd_T36, at_getD, e1]
        refine LoopK.Ev.bind_ a1 ?_
        refine LoopK.Ev.bind_ g1 ?_
        simp only [c0, he, hn, if_true, if_false]
        refine LoopK.Ev.bind_ q1 ?_
        have c9 : s.size + (t4 ++ (t7 ++ x.f1)).size ≤ 9223372036854775807 := by omega
        simp only [c1, c9, if_true]
        exact v1
      · obtain ⟨t3, q1, q2, q3⟩ := prefixed_ev (x.f0.size : Int) 3 32 (by omega) (by omega) (by omega) (by decide)
        have c1 : t3.size + x.f0.size ≤ 9223372036854775807 := by omega
        have sn : (t3 ++ x.f0).size ≤ 107 := by rw [ByteArray.size_append]; omega
        have c2 : (t3 ++ x.f0).size + (t7 ++ x.f1).size ≤ 9223372036854775807 := by omega
        have st : ((t3 ++ x.f0) ++ (t7 ++ x.f1)).size ≤ 500 := by rw [ByteArray.size_append]; omega
        obtain ⟨v, v0, v1, v2⟩ := hstep ((t3 ++ x.f0) ++ (t7 ++ x.f1)) st (by
          unfold impl_Field_bytes.f
          refine LoopK.Ev.bind_ g2 ?_
          simp only [c0, if_true]
          refine LoopK.Ev.bind_ a2 ?_
          simp only [he, hn, if_false]
          refine LoopK.Ev.bind_ q2 ?_
          simp only [c1, c2, if_true]
          exact Ev.now _)
        refine ⟨v, v0, LoopK.Ev.succ ?_, v2⟩
        simp only [spec_l15Bytes.l0, at_lt, at_nn, if_true, rd_T36, at_getD, e1]
        refine LoopK.Ev.bind_ a1 ?_
        refine LoopK.Ev.bind_ g1 ?_
        simp only [c0, he, hn, if_true, if_false]
        refine LoopK.Ev.bind_ q1 ?_
        have c9 : s.size + ((t3 ++ x.f0) ++ (t7 ++ x.f1)).size ≤ 9223372036854775807 := by omega
        simp only [c1, c2, c9, if_true]
        exact v1
theorem fieldsOk_in (l : List S36) (h : fieldsOk l = true) : l.length ≤ 30 ∧ ∀ x, x ∈ l → x.f0.size ≤ 100 ∧ x.f1.size ≤ 100 := by
  unfold fieldsOk at h
  simp only [Bool.and_eq_true, decide_eq_true_eq, Bool.not_eq_true', List.any_eq_false, Bool.not_eq_false'] at h
  refine ⟨by omega, fun x hx => ?_⟩
  have h2 : fieldOk x = true := by
    have := h.2 x hx
    cases hf : fieldOk x with
    | true => rfl
    | false => rw [hf] at this; simp at this
  unfold fieldOk nameOk valueOk at h2
  simp only [Bool.and_eq_true, decide_eq_true_eq] at h2
  omega
theorem fieldsBytes_ev (l : List S36) (h : fieldsOk l = true) : ∃ v, v.size ≤ 1000000 ∧ Ev (fun k => spec_l15Bytes.f k l) v ∧ Ev (fun k => impl_fieldsBytes.f k l) v := by
  obtain ⟨h1, h2⟩ := fieldsOk_in l h
  have z : (⟨#[0, 0]⟩ : ByteArray).size = 2 := rfl
  obtain ⟨v, v0, v1, v2⟩ := bytes_loops l [] (⟨#[0, 0]⟩ : ByteArray) (by simp; omega) h2 (by rw [z]; omega)
  simp only [List.nil_append, List.length_nil] at v1 v2
  exact ⟨v, v0, v1, v2⟩

theorem both_ev (l : List S36) (hl : l.length ≤ 4611686018427387904) (hx : ∀ x, x ∈ l → x.f0.size ≤ 140737488351232 ∧ x.f1.size ≤ 140737488351232) : ∃ v, Ev (fun k => spec_FieldsBytes.f k l) v ∧ Ev (fun k => impl_FieldsBytes.f k l) v := by
  unfold spec_FieldsBytes.f impl_FieldsBytes.f
  cases hg : fieldsOk l with
  | false =>
    refine ⟨((⟨#[]⟩ : ByteArray), false), LoopK.Ev.bind_ (specFields_ev l hl hx) ?_, LoopK.Ev.bind_ (implFields_ev l) ?_⟩
    · simp only [hg, Bool.false_eq_true, if_false]
      exact Ev.now _
    · simp only [hg, Bool.false_eq_true, if_false]
      exact Ev.now _
  | true =>
    obtain ⟨v, _, v1, v2⟩ := fieldsBytes_ev l hg
    refine ⟨(v, true), LoopK.Ev.bind_ (specFields_ev l hl hx) ?_, LoopK.Ev.bind_ (implFields_ev l) ?_⟩
    · simp only [hg, if_true]
      exact LoopK.Ev.bind_ v1 (Ev.now _)
    · simp only [hg, if_true]
      exact LoopK.Ev.bind_ v2 (Ev.now _)
theorem FnExactFieldsBytes : SFnExactFieldsBytes.Pure := by
  intro l hl
  refine Ev.rounds ?_
  unfold laws_FnExactFieldsBytes.f
  have hx : ∀ x, x ∈ l → x.f0.size ≤ 140737488351232 ∧ x.f1.size ≤ 140737488351232 := fun x h => hl.2.2 x h
  obtain ⟨r, hr, hr1, hr2⟩ := szFieldS_ev l 1048576 (by omega) (by omega) hx
  refine LoopK.Ev.bind_ hr ?_
  by_cases h0 : r < 0
  · simp only [h0, if_true]
    exact Ev.now _
  · simp only [h0, if_false]
    have tn := totField_nonneg l
    have hl2 : l.length ≤ 1048576 := by have := hr2 (by omega); omega
    have hto := toFieldS_ev l hl2
    have hm : (l.map cvField).length ≤ 4611686018427387904 := by rw [List.length_map]; omega
    have hy : ∀ x, x ∈ l.map cvField → x.f0.size ≤ 140737488351232 ∧ x.f1.size ≤ 140737488351232 := by
      intro x h
      obtain ⟨y, hy, rfl⟩ := List.mem_map.1 h
      exact hx y hy
    obtain ⟨v, hv1, hv2⟩ := both_ev (l.map cvField) hm hy
    refine LoopK.Ev.bind_ hto ?_
    refine LoopK.Ev.bind_ hv1 ?_
    refine LoopK.Ev.bind_ hto ?_
    refine LoopK.Ev.bind_ hv2 ?_
    simp only [if_true, bne_self_eq_false]
    refine LoopK.Ev.succ ?_
    simp only [laws_FnExactFieldsBytes.j0, Bool.false_eq_true, if_false]
    refine LoopK.Ev.bind_ hto ?_
    refine LoopK.Ev.bind_ (eqFieldS_ev _ hm) ?_
    simp only [if_true]
    exact Ev.now _

end Go.Proofs.YtjmakjddhbdocaaDoor.Pure
