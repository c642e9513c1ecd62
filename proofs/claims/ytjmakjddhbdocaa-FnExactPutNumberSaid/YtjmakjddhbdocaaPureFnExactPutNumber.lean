/- The pure statement of the law FnExactPutNumber: the program's function and the reference answer alike. -/
import Derived.Test.YtjmakjddhbdocaaSFnExactPutNumber
import Derived.Test.YtjmakjddhbdocaaLoopK
namespace Go.Proofs.Ytjmakjddhbdocaa.Pure
open Go.RowKit Go.Proofs.Ytjmakjddhbdocaa.PFnExactPutNumber Go.Proofs.YtjmakjddhbdocaaW.PrintWords Go.Proofs.YtjmakjddhbdocaaW.PrintLast Go.Proofs.Ytjmakjddhbdocaa.SFnExactPutNumber
set_option linter.unusedVariables false
set_option linter.unusedSimpArgs false

open Go.Proofs.Ytjmakjddhbdocaa.LoopK (copyEv sameEv markEv heldEv foldEv mk mk_length at_lt at_lt' at_nn at_nlt at_stop at_getD at_set at_set2 at_snoc len_snoc at_w w64 firstEv find_any chk last_or at_prev at_prev_lt at_prev_nn at_prev_pos at_prev_w pairEv)

/-- The copy of an element. -/
def cvRange (x : S112) : S105 := ⟨x.f0, x.f1⟩

theorem toRangeS_ev (l : List S112) (h : l.length ≤ 1048576) : Ev (fun k => laws_toRangeS.f k l) (l.map cvRange) := by
  have key := copyEv (fun k xs ys i => laws_toRangeS.l0 k xs ys i) cvRange z105 1048576
    (fun xs ys => by
      refine LoopK.Ev.succ ?_
      simp only [laws_toRangeS.l0, at_stop, if_false]
      exact Ev.now _)
    (fun p x r q y s res hq hB hs ih => by
      refine LoopK.Ev.succ ?_
      have e1 := at_w p x r (by omega)
      have e2 := at_lt' p q y s hq
      have e3 : (q ++ y :: s).set (p.length : Int).toNat (cvRange x) = q ++ cvRange x :: s := at_set2 p q y _ s hq
      simp only [cvRange] at e3 ih
      simp only [laws_toRangeS.l0, at_lt, at_nn, if_true, laws_toRange.f, Option.bind_some, rd_T112, at_getD, e1, e2, e3]
      exact ih) l [] (by simpa using h)
  unfold laws_toRangeS.f
  have c1 : 0 ≤ (l.length : Int) := by omega
  have c2 : (l.length : Int).toNat = l.length := by omega
  simp only [c1, if_true, c2]
  have c3 : l.length ≤ 17592186044416 := by omega
  simp only [c3, if_true]
  simpa using key

theorem eqRange_self (x : S105) : laws_eqRange.f x.f0 x.f1 x.f0 x.f1 = some true := by
  unfold laws_eqRange.f
  simp
theorem eqRangeS_ev (l : List S105) (h : l.length ≤ 4611686018427387904) : Ev (fun k => laws_eqRangeS.f k l l) true := by
  have key := sameEv (fun k xs ys i => laws_eqRangeS.l0 k xs ys i) 4611686018427387904
    (fun xs ys => by
      refine LoopK.Ev.succ ?_
      simp only [laws_eqRangeS.l0, at_stop, if_false]
      exact Ev.now _)
    (fun p x r hB ih => by
      refine LoopK.Ev.succ ?_
      have e1 := at_w p x r hB
      simp only [laws_eqRangeS.l0, at_lt, at_nn, if_true, eqRange_self, Option.bind_some, rd_T105, at_getD, e1]
      exact ih) l [] (by simpa using h)
  unfold laws_eqRangeS.f
  simp only [if_true]
  simpa using key

theorem szRangeS_some (l : List S112) (a : Int) (ha : 0 ≤ a ∧ a ≤ 1048576) (h : l.length ≤ 140737488351232) : ∃ r, laws_szRangeS.f l a = some r ∧ -1 ≤ r ∧ (0 ≤ r → r = a - l.length) := by
  unfold laws_szRangeS.f
  have e : wrap64 (a - (l.length : Int)) = a - (l.length : Int) := w64 _ (by omega)
  rw [e]
  split
  · exact ⟨_, rfl, by omega, fun h => by omega⟩
  · exact ⟨_, rfl, by omega, fun h => rfl⟩


/-- An element's marks. -/
noncomputable def markRange (_ : S105) (a : Int) : S105 := ⟨a, a + 1⟩
theorem markRangeS_ev (l : List S105) (a : Int) (ha : 0 ≤ a) (hl : (l.length : Int) ≤ 1000000000000) (hb : a ≤ 1000000000000) : Ev (fun k => laws_markRangeS.f k l a) (a + 2 * (l.length : Int), mk markRange 2 l a) := by
  have key := markEv (fun k xs a i => laws_markRangeS.l0 k xs a i) markRange 2 (by omega) 4611686018427387904
    (fun xs a => by
      refine LoopK.Ev.succ ?_
      simp only [laws_markRangeS.l0, at_stop, if_false]
      exact Ev.now _)
    (fun p x r a res hB h0 h1 ih => by
      refine LoopK.Ev.succ ?_
      have e1 := at_w p x r hB
      have w0 : wrap64 (a + 1) = a + 1 := by rw [show a + 1 = a + 1 from by omega]; exact w64 _ (by omega)
      have w1 : wrap64 (a + 1 + 1) = a + 2 := by rw [show a + 1 + 1 = a + 2 from by omega]; exact w64 _ (by omega)
      simp only [laws_markRangeS.l0, at_lt, at_nn, if_true, Option.bind_some, rd_T105, at_getD, at_set, e1, w0, w1]

      exact ih) l [] a (by simp; omega) ha (by omega)
  unfold laws_markRangeS.f
  simpa using key
theorem heldRangeS_ev (l : List S105) (a : Int) (ha : 0 ≤ a) (hl : (l.length : Int) ≤ 1000000000000) (hb : a ≤ 1000000000000) : Ev (fun k => laws_heldRangeS.f k (mk markRange 2 l a) a) (a + 2 * (l.length : Int)) := by
  have key := heldEv (fun k xs a i => laws_heldRangeS.l0 k xs a i) markRange 2 (by omega) 4611686018427387904
    (fun xs a => by
      refine LoopK.Ev.succ ?_
      simp only [laws_heldRangeS.l0, at_stop, if_false]
      exact Ev.now _)
    (fun p x r a res hB h0 h1 ih => by
      refine LoopK.Ev.succ ?_
      have e1 := at_w p (markRange x a) r hB
      have w0 : wrap64 (a + 1) = a + 1 := by rw [show a + 1 = a + 1 from by omega]; exact w64 _ (by omega)
      have w1 : wrap64 (a + 1 + 1) = a + 2 := by rw [show a + 1 + 1 = a + 2 from by omega]; exact w64 _ (by omega)
      have v0 : (markRange x a).f0 = a := rfl
      have v1 : (markRange x a).f1 = a + 1 := rfl
      simp only [laws_heldRangeS.l0, at_lt, at_nn, if_true, rd_T105, at_getD, e1, w0, w1, v0, v1, bne_self_eq_false, Bool.false_eq_true, if_false]

      exact ih) l [] a (by simp; omega) ha (by omega)
  unfold laws_heldRangeS.f
  simpa using key

theorem l1In_eq (a b c : Int) : spec_l1In.f a b c = some (decide (b ≤ a ∧ a ≤ c)) := by
  unfold spec_l1In.f
  by_cases h : b ≤ a
  · rw [if_pos h]; simp [h]
  · rw [if_neg h]; simp [h]
theorem in_eq (a b c : Int) : impl_in.f a b c = some (decide (b ≤ a ∧ a ≤ c)) := l1In_eq a b c
theorem and_ite (p q : Prop) [Decidable p] [Decidable q] : (if p then some (decide q) else some false) = some (decide (p ∧ q)) := by
  by_cases h : p <;> simp [h]

/-- Is a range right, and does it fall behind the one before it? -/
def rgGood (o : Option S105) (x : S105) : Bool :=
  decide ((0 ≤ x.f0 ∧ x.f0 ≤ x.f1) ∧ x.f1 ≤ 4611686018427387903) && (match o with | none => true | some q => decide (x.f1 + 2 ≤ q.f0))
def rgInv (x : S105) : Prop := 0 ≤ x.f0 ∧ x.f0 ≤ 4611686018427387903
theorem rg_inv (o : Option S105) (x : S105) (h : rgGood o x = true) : rgInv x := by
  simp only [rgGood, Bool.and_eq_true, decide_eq_true_eq] at h
  unfold rgInv
  omega
theorem l1Known_eq (a : Int) : spec_l1Known.f a = some (decide (0 ≤ a ∧ a ≤ 4611686018427387903)) := by
  unfold spec_l1Known.f
  simp only [l1In_eq, Option.bind_some]
theorem isVarint_eq (a : Int) : impl_isVarint.f a = some (decide (0 ≤ a ∧ a ≤ 4611686018427387903)) := by
  unfold impl_isVarint.f
  simp only [in_eq, Option.bind_some]
theorem l1Ranges_ev (l : List S105) (hl : l.length ≤ 4611686018427387904) : Ev (fun k => spec_l1Ranges.f k l) (chk rgGood none l && decide (1 ≤ l.length ∧ l.length ≤ 20)) := by
  have key := pairEv (fun k xs i => spec_l1Ranges.l0 k xs xs (xs.length : Int) i) rgGood rgInv (fun xs => decide (1 ≤ xs.length ∧ xs.length ≤ 20)) 4611686018427387904
    (fun xs => by
      refine LoopK.Ev.succ ?_
      simp only [spec_l1Ranges.l0, at_stop, if_false, l1In_eq, Option.bind_some]
      refine LoopK.Ev.to (Ev.now _) ?_
      rw [decide_eq_decide]
      omega)
    rg_inv
    (fun p x r hB hI hg => by
      refine LoopK.Ev.succ ?_
      simp only [spec_l1Ranges.l0, at_lt, at_nn, if_true, rd_T105, at_getD, l1In_eq, l1Known_eq, Option.bind_some, decide_eq_true_eq]
      by_cases h1 : 0 ≤ x.f0 ∧ x.f0 ≤ x.f1
      · simp only [h1, and_self, if_true]
        by_cases h2 : 0 ≤ x.f1 ∧ x.f1 ≤ 4611686018427387903
        · simp only [h2, and_self, if_true]
          rcases last_or p with rfl | ⟨p0, q, rfl⟩
          · exfalso
            simp [rgGood, h1, h2] at hg
          · have hq := hI q (by simp)
            unfold rgInv at hq
            have e2 : wrap64 (q.f0 - 2) = q.f0 - 2 := w64 _ (by omega)
            have hlt : x.f1 > q.f0 - 2 := by
              simp [rgGood, h1, h2] at hg
              omega
            have c0 := at_prev_w p0 q x r hB
            simp only [at_prev_pos, if_true, c0, at_prev_nn, at_prev_lt, at_prev, e2, hlt]
            (first | exact Ev.now _ | (refine LoopK.Ev.succ ?_; simp only [spec_l1Ranges.j1, decide_true, if_true]; exact Ev.now _))
        · simp only [h2, if_false]
          (first | exact Ev.now _ | (refine LoopK.Ev.succ ?_; simp only [spec_l1Ranges.j1, decide_true, if_true]; exact Ev.now _))
      · simp only [h1, if_false]
        (first | exact Ev.now _ | (refine LoopK.Ev.succ ?_; simp only [spec_l1Ranges.j1, decide_true, if_true]; exact Ev.now _)))
    (fun p x r b hB hI hg hn => by
      refine LoopK.Ev.succ ?_
      have hx : (0 ≤ x.f0 ∧ x.f0 ≤ x.f1) ∧ x.f1 ≤ 4611686018427387903 := by
        simp only [rgGood, Bool.and_eq_true, decide_eq_true_eq] at hg
        exact hg.1
      have h2 : 0 ≤ x.f1 ∧ x.f1 ≤ 4611686018427387903 := by omega
      have e1 := at_w p x r hB
      simp only [spec_l1Ranges.l0, at_lt, at_nn, if_true, rd_T105, at_getD, l1In_eq, l1Known_eq, Option.bind_some, decide_eq_true_eq, hx.1, h2, and_self, e1]
      rcases last_or p with rfl | ⟨p0, q, rfl⟩
      · have c9 : ¬ ((([] : List S105).length : Int) > 0) := by simp
        simp only [c9, if_false]
        refine LoopK.Ev.succ ?_
        simp only [spec_l1Ranges.j1, Bool.false_eq_true, if_false]
        have e1' := e1
        simp only [e1']
        exact hn
      · have hq := hI q (by simp)
        unfold rgInv at hq
        have e2 : wrap64 (q.f0 - 2) = q.f0 - 2 := w64 _ (by omega)
        have hlt : ¬ (x.f1 > q.f0 - 2) := by
          simp [rgGood, hx, h2] at hg
          omega
        have c0 := at_prev_w p0 q x r hB
        simp only [at_prev_pos, if_true, c0, at_prev_nn, at_prev_lt, at_prev, e2, hlt, decide_false, if_false]
        refine LoopK.Ev.succ ?_
        simp only [spec_l1Ranges.j1, Bool.false_eq_true, if_false, e1]
        exact hn) l [] (by simpa using hl) (by simp)
  unfold spec_l1Ranges.f
  simpa using key
theorem rangesOk_ev (l : List S105) (hl : l.length ≤ 4611686018427387904) : Ev (fun k => impl_rangesOk.f k l) (chk rgGood none l) := by
  have key := pairEv (fun k xs i => impl_rangesOk.l0 k xs xs (xs.length : Int) i) rgGood rgInv (fun _ => true) 4611686018427387904
    (fun xs => by
      refine LoopK.Ev.succ ?_
      simp only [impl_rangesOk.l0, at_stop, if_false]
      exact Ev.now _)
    rg_inv
    (fun p x r hB hI hg => by
      refine LoopK.Ev.succ ?_
      simp only [impl_rangesOk.l0, at_lt, at_nn, if_true, rd_T105, at_getD, isVarint_eq, Option.bind_some, decide_eq_true_eq]
      by_cases h1 : 0 ≤ x.f0 ∧ x.f0 ≤ 4611686018427387903
      · simp only [h1, and_self, if_true]
        by_cases h2 : 0 ≤ x.f1 ∧ x.f1 ≤ 4611686018427387903
        · simp only [h2, and_self, if_true]
          by_cases h3 : x.f0 > x.f1
          · simp only [h3, if_true]
            (first | exact Ev.now _ | (refine LoopK.Ev.succ ?_; simp only [impl_rangesOk.j1, decide_true, if_true]; exact Ev.now _))
          · simp only [h3, if_false]
            rcases last_or p with rfl | ⟨p0, q, rfl⟩
            · exfalso
              simp [rgGood, h1, h2] at hg
              omega
            · have hq := hI q (by simp)
              unfold rgInv at hq
              have e2 : wrap64 (x.f1 + 2) = x.f1 + 2 := w64 _ (by omega)
              have hlt : q.f0 < x.f1 + 2 := by
                have h4 : x.f0 ≤ x.f1 := by omega
                simp [rgGood, h1, h2, h4] at hg
                omega
              have c0 := at_prev_w p0 q x r hB
              simp only [at_prev_pos, if_true, c0, at_prev_nn, at_prev_lt, at_prev, e2, hlt]
              (first | exact Ev.now _ | (refine LoopK.Ev.succ ?_; simp only [impl_rangesOk.j1, decide_true, if_true]; exact Ev.now _))
        · simp only [h2, if_false]
          (first | exact Ev.now _ | (refine LoopK.Ev.succ ?_; simp only [impl_rangesOk.j1, decide_true, if_true]; exact Ev.now _))
      · simp only [h1, if_false]
        (first | exact Ev.now _ | (refine LoopK.Ev.succ ?_; simp only [impl_rangesOk.j1, decide_true, if_true]; exact Ev.now _)))
    (fun p x r b hB hI hg hn => by
      refine LoopK.Ev.succ ?_
      have hx : (0 ≤ x.f0 ∧ x.f0 ≤ x.f1) ∧ x.f1 ≤ 4611686018427387903 := by
        simp only [rgGood, Bool.and_eq_true, decide_eq_true_eq] at hg
        exact hg.1
      have h1 : 0 ≤ x.f0 ∧ x.f0 ≤ 4611686018427387903 := by omega
      have h2 : 0 ≤ x.f1 ∧ x.f1 ≤ 4611686018427387903 := by omega
      have h3 : ¬ (x.f0 > x.f1) := by omega
      have e1 := at_w p x r hB
      simp only [impl_rangesOk.l0, at_lt, at_nn, if_true, rd_T105, at_getD, isVarint_eq, Option.bind_some, decide_eq_true_eq, h1, h2, and_self, h3, if_false, e1]
      rcases last_or p with rfl | ⟨p0, q, rfl⟩
      · have c9 : ¬ ((([] : List S105).length : Int) > 0) := by simp
        simp only [c9, if_false]
        refine LoopK.Ev.succ ?_
        simp only [impl_rangesOk.j1, Bool.false_eq_true, if_false]
        have e1' := e1
        simp only [e1']
        exact hn
      · have hq := hI q (by simp)
        unfold rgInv at hq
        have e2 : wrap64 (x.f1 + 2) = x.f1 + 2 := w64 _ (by omega)
        have hlt : ¬ (q.f0 < x.f1 + 2) := by
          simp [rgGood, hx, h2] at hg
          omega
        have c0 := at_prev_w p0 q x r hB
        simp only [at_prev_pos, if_true, c0, at_prev_nn, at_prev_lt, at_prev, e2, hlt, decide_false, if_false]
        refine LoopK.Ev.succ ?_
        simp only [impl_rangesOk.j1, Bool.false_eq_true, if_false, e1]
        exact hn) l [] (by simpa using hl) (by simp)
  unfold impl_rangesOk.f
  simpa using key

/-- Are ranges right? -/
def rgsGood (l : List S105) : Bool := decide (l.length ≤ 20) && chk rgGood none l
theorem l12Ranges_ev (l : List S105) (hl : l.length ≤ 4611686018427387904) : Ev (fun k => spec_l12Ranges.f k l) (rgsGood l) := by
  unfold spec_l12Ranges.f
  by_cases h0 : (l.length : Int) = 0
  · simp only [h0, if_true]
    have : l = [] := List.eq_nil_of_length_eq_zero (by omega)
    subst this
    exact Ev.now _
  · simp only [h0, if_false]
    by_cases h1 : (l.length : Int) ≤ 20
    · simp only [h1, if_true]
      refine LoopK.Ev.bind_ (l1Ranges_ev l hl) (LoopK.Ev.to (Ev.now _) ?_)
      have h2 : 1 ≤ l.length ∧ l.length ≤ 20 := by omega
      simp [rgsGood, h2]
    · simp only [h1, if_false]
      refine LoopK.Ev.to (Ev.now _) ?_
      have h2 : ¬ (l.length ≤ 20) := by omega
      simp [rgsGood, h2]
theorem goodRanges_ev (l : List S105) (hl : l.length ≤ 4611686018427387904) : Ev (fun k => impl_GoodRanges.f k l) (rgsGood l) := by
  unfold impl_GoodRanges.f
  by_cases h1 : (l.length : Int) ≤ 20
  · simp only [h1, if_true]
    refine LoopK.Ev.bind_ (rangesOk_ev l hl) (LoopK.Ev.to (Ev.now _) ?_)
    have h2 : l.length ≤ 20 := by omega
    simp [rgsGood, h2]
  · simp only [h1, if_false]
    refine LoopK.Ev.to (Ev.now _) ?_
    have h2 : ¬ (l.length ≤ 20) := by omega
    simp [rgsGood, h2]

/-- Ranges that fall below b, with a gap between each and the next. -/
def Can : Int → List S105 → Prop
  | _, [] => True
  | b, x :: r => (0 ≤ x.f0 ∧ x.f0 ≤ x.f1 ∧ x.f1 + 2 ≤ b) ∧ Can x.f0 r
def Mem (m : Int) (l : List S105) : Prop := ∃ x, x ∈ l ∧ x.f0 ≤ m ∧ m ≤ x.f1
theorem Mem_nil (m : Int) : ¬ Mem m ([] : List S105) := by rintro ⟨x, hx, _⟩; cases hx
theorem Mem_cons (m : Int) (x : S105) (r : List S105) : Mem m (x :: r) ↔ (x.f0 ≤ m ∧ m ≤ x.f1) ∨ Mem m r := by
  constructor
  · rintro ⟨y, hy, h⟩
    rcases List.mem_cons.1 hy with rfl | hy
    · exact .inl h
    · exact .inr ⟨y, hy, h⟩
  · rintro (h | ⟨y, hy, h⟩)
    · exact ⟨x, by simp, h⟩
    · exact ⟨y, by simp [hy], h⟩
theorem Mem_app (m : Int) (a b : List S105) : Mem m (a ++ b) ↔ Mem m a ∨ Mem m b := by
  induction a with
  | nil => exact ⟨.inr, fun h => h.elim (fun h => absurd h (Mem_nil m)) id⟩
  | cons x a ih => rw [List.cons_append, Mem_cons, Mem_cons, ih, or_assoc]
theorem Can_le : ∀ {l : List S105} {b b' : Int}, Can b l → b ≤ b' → Can b' l
  | [], _, _, _, _ => trivial
  | x :: r, b, b', h, hb => ⟨⟨h.1.1, h.1.2.1, by have := h.1.2.2; omega⟩, h.2⟩
theorem Can_mem : ∀ {l : List S105} {b m : Int}, Can b l → Mem m l → m + 2 ≤ b
  | [], _, m, _, hm => absurd hm (Mem_nil m)
  | x :: r, b, m, h, hm => by
    rcases (Mem_cons m x r).1 hm with h2 | h2
    · have := h.1.2.2; omega
    · have h3 := Can_mem h.2 h2
      have := h.1
      omega
theorem Can_inj : ∀ {l l' : List S105} {b : Int}, Can b l → Can b l' → (∀ m, Mem m l ↔ Mem m l') → l = l'
  | [], [], _, _, _, _ => rfl
  | [], y :: s, _, _, h', e => absurd ((e y.f0).2 ((Mem_cons _ y s).2 (.inl ⟨by omega, h'.1.2.1⟩))) (Mem_nil _)
  | x :: r, [], _, h, _, e => absurd ((e x.f0).1 ((Mem_cons _ x r).2 (.inl ⟨by omega, h.1.2.1⟩))) (Mem_nil _)
  | x :: r, y :: s, b, h, h', e => by
    have hx := h.1
    have hy := h'.1
    have top : ∀ {u : S105} {t : List S105} {m : Int}, Can b (u :: t) → Mem m (u :: t) → m ≤ u.f1 := fun {u t m} hc hm => by
      rcases (Mem_cons m u t).1 hm with h2 | h2
      · exact h2.2
      · have := Can_mem hc.2 h2
        have := hc.1
        omega
    have e1 : x.f1 = y.f1 := by
      have a1 := top h' ((e x.f1).1 ((Mem_cons _ x r).2 (.inl ⟨hx.2.1, by omega⟩)))
      have a2 := top h ((e y.f1).2 ((Mem_cons _ y s).2 (.inl ⟨hy.2.1, by omega⟩)))
      omega
    have e0 : x.f0 = y.f0 := by
      rcases Int.lt_trichotomy x.f0 y.f0 with hlt | heq | hgt
      · exfalso
        rcases (Mem_cons _ y s).1 ((e (y.f0 - 1)).1 ((Mem_cons _ x r).2 (.inl ⟨by omega, by omega⟩))) with h2 | h2
        · omega
        · have := Can_mem h'.2 h2
          omega
      · exact heq
      · exfalso
        rcases (Mem_cons _ x r).1 ((e (x.f0 - 1)).2 ((Mem_cons _ y s).2 (.inl ⟨by omega, by omega⟩))) with h2 | h2
        · omega
        · have := Can_mem h.2 h2
          omega
    have exy : x = y := by
      cases x
      cases y
      simp only at e0 e1
      rw [e0, e1]
    subst exy
    have er : r = s := Can_inj h.2 h'.2 (fun m => by
      constructor
      · intro hm
        have hb := Can_mem h.2 hm
        rcases (Mem_cons _ x s).1 ((e m).1 ((Mem_cons _ x r).2 (.inr hm))) with h2 | h2
        · omega
        · exact h2
      · intro hm
        have hb := Can_mem h'.2 hm
        rcases (Mem_cons _ x r).1 ((e m).2 ((Mem_cons _ x s).2 (.inr hm))) with h2 | h2
        · omega
        · exact h2)
    rw [er]
/-- What the reference's put makes. -/
def putR : List S105 → Int → Int → List S105
  | [], a, b => [⟨a, b⟩]
  | x :: r, a, b => if x.f0 > b + 1 then x :: putR r a b else if x.f1 < a - 1 then ⟨a, b⟩ :: x :: r else putR r (if x.f0 < a then x.f0 else a) (if x.f1 > b then x.f1 else b)
theorem putR_len : ∀ (l : List S105) (a b : Int), (putR l a b).length ≤ l.length + 1
  | [], _, _ => by simp [putR]
  | x :: r, a, b => by
    unfold putR
    split
    · have := putR_len r a b; simp only [List.length_cons]; omega
    · split
      · simp
      · have := putR_len r (if x.f0 < a then x.f0 else a) (if x.f1 > b then x.f1 else b); simp only [List.length_cons]; omega
theorem putR_can : ∀ (l : List S105) (a b B : Int), Can B l → 0 ≤ a → a ≤ b → b + 2 ≤ B → Can B (putR l a b) ∧ ∀ m, Mem m (putR l a b) ↔ Mem m l ∨ (a ≤ m ∧ m ≤ b)
  | [], a, b, B, _, h0, h1, h2 => ⟨⟨⟨h0, h1, h2⟩, trivial⟩, fun m => by unfold putR; rw [Mem_cons]; exact ⟨fun h => h.elim .inr (fun h => absurd h (Mem_nil m)), fun h => h.elim (fun h => absurd h (Mem_nil m)) .inl⟩⟩
  | x :: r, a, b, B, h, h0, h1, h2 => by
    have hx := h.1
    unfold putR
    by_cases c1 : x.f0 > b + 1
    · rw [if_pos c1]
      obtain ⟨k1, k2⟩ := putR_can r a b x.f0 h.2 h0 h1 (by omega)
      exact ⟨⟨hx, k1⟩, fun m => by rw [Mem_cons, k2, Mem_cons, or_assoc]⟩
    · rw [if_neg c1]
      by_cases c2 : x.f1 < a - 1
      · rw [if_pos c2]
        exact ⟨⟨⟨h0, h1, h2⟩, ⟨hx.1, hx.2.1, show x.f1 + 2 ≤ a by omega⟩, h.2⟩, fun m => by rw [Mem_cons]; exact ⟨fun h => h.elim .inr .inl, fun h => h.elim .inr .inl⟩⟩
      · rw [if_neg c2]
        obtain ⟨k1, k2⟩ := putR_can r (if x.f0 < a then x.f0 else a) (if x.f1 > b then x.f1 else b) B (Can_le h.2 (by omega)) (by split <;> omega) (by split <;> split <;> omega) (by split <;> omega)
        refine ⟨k1, fun m => ?_⟩
        rw [k2, Mem_cons]
        constructor
        · rintro (h3 | h3)
          · exact .inl (.inr h3)
          · by_cases c3 : a ≤ m ∧ m ≤ b
            · exact .inr c3
            · refine .inl (.inl ?_)
              split at h3 <;> split at h3 <;> omega
        · rintro ((h3 | h3) | h3)
          · refine .inr ?_
            split <;> split <;> omega
          · exact .inl h3
          · refine .inr ?_
            split <;> split <;> omega
/-- What united makes of a falling list, the head ahead. -/
def unR : S105 → List S105 → List S105
  | c, [] => [c]
  | c, x :: r => if c.f0 ≤ x.f1 + 1 then unR ⟨if x.f0 < c.f0 then x.f0 else c.f0, c.f1⟩ r else c :: unR x r
theorem unR_can : ∀ (r : List S105) (c : S105) (B : Int), (∀ x, x ∈ c :: r → 0 ≤ x.f0 ∧ x.f0 ≤ x.f1) → (∀ x, x ∈ r → x.f1 ≤ c.f1) → r.Pairwise (fun x y => y.f1 ≤ x.f1) → c.f1 + 2 ≤ B → Can B (unR c r) ∧ ∀ m, Mem m (unR c r) ↔ Mem m (c :: r)
  | [], c, B, ho, _, _, hB => ⟨⟨⟨(ho c (by simp)).1, (ho c (by simp)).2, hB⟩, trivial⟩, fun m => Iff.rfl⟩
  | x :: r, c, B, ho, ht, hp, hB => by
    have hc := ho c (by simp)
    have hx := ho x (by simp)
    have hxt := ht x (by simp)
    rw [List.pairwise_cons] at hp
    unfold unR
    by_cases c1 : c.f0 ≤ x.f1 + 1
    · rw [if_pos c1]
      obtain ⟨k1, k2⟩ := unR_can r ⟨if x.f0 < c.f0 then x.f0 else c.f0, c.f1⟩ B (fun y hy => by
        rcases List.mem_cons.1 hy with rfl | hy
        · simp only
          split <;> omega
        · exact ho y (by simp [hy])) (fun y hy => ht y (by simp [hy])) hp.2 hB
      refine ⟨k1, fun m => ?_⟩
      rw [k2, Mem_cons, Mem_cons, Mem_cons]
      simp only
      constructor
      · rintro (h | h)
        · by_cases c3 : c.f0 ≤ m
          · exact .inl ⟨c3, h.2⟩
          · refine .inr (.inl ?_)
            split at h <;> omega
        · exact .inr (.inr h)
      · rintro (h | h | h)
        · refine .inl ?_
          split <;> omega
        · refine .inl ?_
          split <;> omega
        · exact .inr h
    · rw [if_neg c1]
      obtain ⟨k1, k2⟩ := unR_can r x c.f0 (fun y hy => ho y (by simp at hy ⊢; exact .inr hy)) (fun y hy => hp.1 y hy) hp.2 (by omega)
      exact ⟨⟨⟨hc.1, hc.2, hB⟩, k1⟩, fun m => by rw [Mem_cons, k2]; exact (Mem_cons m c (x :: r)).symm⟩
theorem unStep_last (p : List S105) (c x : S105) (hc : 0 ≤ x.f1 ∧ x.f1 ≤ 4611686018427387903) : unStep (p ++ [c]) x = if c.f0 ≤ x.f1 + 1 then p ++ [⟨if x.f0 < c.f0 then x.f0 else c.f0, c.f1⟩] else p ++ [c, x] := by
  have e1 : wrap64 (x.f1 + 1) = x.f1 + 1 := w64 _ (by omega)
  have e2 : rd_T105 (p ++ [c]) (((p ++ [c]).length : Int) - 1) = c := by
    unfold rd_T105
    rw [List.length_append, List.length_singleton, show (((p.length + 1 : Nat) : Int) - 1).toNat = p.length from by omega]
    simp
  have e3 : 0 < (p ++ [c]).length := by simp
  unfold unStep
  rw [e2, e1]
  by_cases h : c.f0 ≤ x.f1 + 1
  · rw [if_pos ⟨e3, h⟩, if_pos h, List.length_append, List.length_singleton, Nat.add_sub_cancel, List.set_append_right _ _ (Nat.le_refl _), Nat.sub_self]
    rfl
  · rw [if_neg (fun k => h k.2), if_neg h, List.append_assoc]
    rfl
theorem fold_unR : ∀ (r : List S105) (p : List S105) (c : S105), (∀ x, x ∈ r → 0 ≤ x.f1 ∧ x.f1 ≤ 4611686018427387903) → r.foldl unStep (p ++ [c]) = p ++ unR c r
  | [], p, c, _ => rfl
  | x :: r, p, c, h => by
    rw [List.foldl_cons, unStep_last p c x (h x (by simp))]
    unfold unR
    by_cases c1 : c.f0 ≤ x.f1 + 1
    · rw [if_pos c1, if_pos c1]
      exact fold_unR r p _ (fun y hy => h y (by simp [hy]))
    · rw [if_neg c1, if_neg c1]
      have := fold_unR r (p ++ [c]) x (fun y hy => h y (by simp [hy]))
      simpa using this
theorem uniR_can (l : List S105) (ho : ∀ x, x ∈ l → 0 ≤ x.f0 ∧ x.f0 ≤ x.f1 ∧ x.f1 ≤ 4611686018427387903) : Can 4611686018427387905 (uniR l) ∧ ∀ m, Mem m (uniR l) ↔ Mem m l := by
  obtain ⟨hp, hs⟩ := sortR_facts l
  have ho' : ∀ x, x ∈ sortR' l → 0 ≤ x.f0 ∧ x.f0 ≤ x.f1 ∧ x.f1 ≤ 4611686018427387903 := fun x hx => ho x (hp.mem_iff.1 hx)
  have hm : ∀ m, Mem m (sortR' l) ↔ Mem m l := fun m => ⟨fun ⟨x, hx, h⟩ => ⟨x, hp.mem_iff.1 hx, h⟩, fun ⟨x, hx, h⟩ => ⟨x, hp.mem_iff.2 hx, h⟩⟩
  unfold uniR
  generalize sortR' l = s at hs ho' hm
  cases s with
  | nil => exact ⟨trivial, hm⟩
  | cons c r =>
    rw [List.pairwise_cons] at hs
    have e : (c :: r).foldl unStep [] = unR c r := by
      rw [List.foldl_cons]
      have e0 : unStep [] c = [c] := rfl
      rw [e0]
      exact fold_unR r [] c (fun x hx => by have := ho' x (by simp [hx]); omega)
    rw [e]
    obtain ⟨k1, k2⟩ := unR_can r c 4611686018427387905 (fun x hx => by have := ho' x hx; omega) hs.1 hs.2 (by have := ho' c (by simp); omega)
    exact ⟨k1, fun m => (k2 m).trans (hm m)⟩
theorem chk_can : ∀ (l : List S105) (o : Option S105) (b : Int), chk rgGood o l = true → (match o with | none => b = 4611686018427387905 | some q => b = q.f0) → Can b l
  | [], _, _, _, _ => trivial
  | x :: r, o, b, h, hb => by
    simp only [chk, Bool.and_eq_true] at h
    have hg := h.1
    simp only [rgGood, Bool.and_eq_true, decide_eq_true_eq] at hg
    refine ⟨⟨hg.1.1.1, hg.1.1.2, ?_⟩, chk_can r (some x) x.f0 h.2 rfl⟩
    cases o with
    | none => simp only at hb; omega
    | some q =>
      simp only at hb
      have := of_decide_eq_true hg.2
      omega
theorem Can_ok : ∀ {l : List S105} {b : Int}, Can b l → ∀ x, x ∈ l → 0 ≤ x.f0 ∧ x.f0 ≤ x.f1 ∧ x.f1 + 2 ≤ b
  | y :: r, b, h, x, hx => by
    rcases List.mem_cons.1 hx with rfl | hx
    · exact h.1
    · have := Can_ok h.2 x hx
      have := h.1
      omega
theorem l12Put_loop : ∀ (r p out : List S105) (done : Bool) (a b B : Int), Can B r → B ≤ 4611686018427387905 → 0 ≤ a → a ≤ b → b ≤ 4611686018427387903 → (done = true → ∀ x, x ∈ r → x.f1 < a - 1) → (p ++ r).length ≤ 1048576 → out.length ≤ 1048576 + p.length + (if done = true then 1 else 0) →
    Ev (fun k => spec_l12Put.l0 k out done (p ++ r) ((p ++ r).length : Int) (p.length : Int) a b) (out ++ (if done = true then r else putR r a b))
  | [], p, out, done, a, b, B, _, _, _, _, _, _, hl, hol => by
    refine LoopK.Ev.succ ?_
    have c1 : out.length < 8796093022208 := by rw [List.length_append] at hl; split at hol <;> omega
    simp only [spec_l12Put.l0, List.append_nil, at_stop, if_false, c1, if_true]
    cases done with
    | false => simp only [Bool.false_eq_true, if_false]; exact Ev.now _
    | true => simp only [if_true, List.append_nil]; exact Ev.now _
  | x :: r, p, out, done, a, b, B, hc, hB, h0, h1, h2, hd, hl, hol => by
    have hx := hc.1
    refine LoopK.Ev.succ ?_
    have e1 := at_w p x r (by omega)
    have hpl : p.length ≤ 1048576 := by rw [List.length_append] at hl; omega
    have c1 : out.length < 8796093022208 := by split at hol <;> omega
    have w1 : wrap64 (b + 1) = b + 1 := w64 _ (by omega)
    have w2 : wrap64 (a - 1) = a - 1 := w64 _ (by omega)
    have ex : (⟨x.f0, x.f1⟩ : S105) = x := rfl
    simp only [spec_l12Put.l0, at_lt, at_nn, if_true, rd_T105, at_getD, e1, c1, w1, w2, ex]
    have hl' : ((p ++ [x]) ++ r).length ≤ 1048576 := by rw [← at_snoc]; exact hl
    have ih := fun (out : List S105) (done : Bool) (a b : Int) (h0 : 0 ≤ a) (h1 : a ≤ b) (h2 : b ≤ 4611686018427387903) (hd : done = true → ∀ x, x ∈ r → x.f1 < a - 1) (ho : out.length ≤ 1048576 + (p ++ [x]).length + (if done = true then 1 else 0)) => l12Put_loop r (p ++ [x]) out done a b x.f0 hc.2 (by omega) h0 h1 h2 hd hl' ho
    rw [← at_snoc, len_snoc p x] at ih
    by_cases c2 : x.f0 > b + 1
    · simp only [c2, if_true]
      have k := ih (out ++ [x]) done a b h0 h1 h2 (fun h y hy => hd h y (by simp [hy])) (by simp at hol ⊢; omega)
      refine LoopK.Ev.to k ?_
      cases done with
      | true => simp
      | false => simp [putR, c2]
    · simp only [c2, if_false]
      by_cases c3 : x.f1 < a - 1
      · simp only [c3, if_true]
        have hr : ∀ y, y ∈ r → y.f1 < a - 1 := fun y hy => by have := Can_ok hc.2 y hy; omega
        cases done with
        | true =>
          simp only [if_true]
          refine LoopK.Ev.to (ih (out ++ [x]) true a b h0 h1 h2 (fun _ => hr) (by simp at hol ⊢; omega)) ?_
          simp
        | false =>
          have c4 : (out ++ [(⟨a, b⟩ : S105)]).length < 8796093022208 := by simp at hol ⊢; omega
          simp only [Bool.false_eq_true, if_false, Option.bind_some, c4, if_true]
          refine LoopK.Ev.to (ih (out ++ [(⟨a, b⟩ : S105)] ++ [x]) true a b h0 h1 h2 (fun _ => hr) (by simp at hol ⊢; omega)) ?_
          simp [putR, c2, c3]
      · simp only [c3, if_false]
        have hdn : done = false := by
          cases done with
          | false => rfl
          | true => exact absurd (hd rfl x (by simp)) c3
        subst hdn
        by_cases c5 : x.f0 < a
        · simp only [c5, if_true]
          refine LoopK.Ev.succ ?_
          simp only [spec_l12Put.j1]
          by_cases c6 : x.f1 > b
          · simp only [c6, if_true, e1]
            refine LoopK.Ev.to (ih out false x.f0 x.f1 hx.1 hx.2.1 (by omega) (fun h => by cases h) (by simp at hol ⊢; omega)) ?_
            simp [putR, c2, c3, c5, c6]
          · simp only [c6, if_false, e1]
            refine LoopK.Ev.to (ih out false x.f0 b hx.1 (by omega) h2 (fun h => by cases h) (by simp at hol ⊢; omega)) ?_
            simp [putR, c2, c3, c5, c6]
        · simp only [c5, if_false]
          refine LoopK.Ev.succ ?_
          simp only [spec_l12Put.j1]
          by_cases c6 : x.f1 > b
          · simp only [c6, if_true, e1]
            refine LoopK.Ev.to (ih out false a x.f1 h0 (by omega) (by omega) (fun h => by cases h) (by simp at hol ⊢; omega)) ?_
            simp [putR, c2, c3, c5, c6]
          · simp only [c6, if_false, e1]
            refine LoopK.Ev.to (ih out false a b h0 h1 h2 (fun h => by cases h) (by simp at hol ⊢; omega)) ?_
            simp [putR, c2, c3, c5, c6]

/-- The law's value. -/
def putF (l : List S105) (n : Int) : List S105 × Bool := if rgsGood l = true then (if 0 ≤ n ∧ n ≤ 4611686018427387903 then ((putR l n n).take 20, true) else ([], false)) else ([], false)
theorem putF_len (l : List S105) (n : Int) : (putF l n).1.length ≤ 20 := by
  unfold putF
  split
  · split
    · simp only [List.length_take]; omega
    · simp
  · simp
theorem good_can (l : List S105) (h : rgsGood l = true) : l.length ≤ 20 ∧ Can 4611686018427387905 l := by
  simp only [rgsGood, Bool.and_eq_true, decide_eq_true_eq] at h
  exact ⟨h.1, chk_can l none _ h.2 rfl⟩
theorem uni_put (l : List S105) (n : Int) (hc : Can 4611686018427387905 l) (hn : 0 ≤ n ∧ n ≤ 4611686018427387903) : uniR (l ++ [⟨n, n⟩]) = putR l n n := by
  obtain ⟨k1, k2⟩ := putR_can l n n 4611686018427387905 hc hn.1 (Int.le_refl _) (by omega)
  obtain ⟨k3, k4⟩ := uniR_can (l ++ [⟨n, n⟩]) (fun x hx => by
    rcases List.mem_append.1 hx with hx | hx
    · have := Can_ok hc x hx; omega
    · rw [List.mem_singleton] at hx
      subst hx
      simp only
      omega)
  refine Can_inj k3 k1 (fun m => ?_)
  rw [k4, k2, Mem_app, Mem_cons]
  simp only
  constructor
  · rintro (h | h | h)
    · exact .inl h
    · exact .inr h
    · exact absurd h (Mem_nil m)
  · rintro (h | h)
    · exact .inl h
    · exact .inr (.inl h)
theorem implPut_ev (l : List S105) (n : Int) (hl : l.length ≤ 1048576) : Ev (fun k => impl_PutNumber.f k l n) (putF l n) := by
  unfold impl_PutNumber.f putF
  refine LoopK.Ev.bind_ (goodRanges_ev l (by omega)) ?_
  cases hg : rgsGood l with
  | false => simp only [Bool.false_eq_true, if_false]; exact Ev.now _
  | true =>
    have e : impl_Range_131.f l = some l := by
      unfold impl_Range_131.f
      rw [if_pos (by omega)]
    simp only [if_true, isVarint_eq, Option.bind_some, decide_eq_true_eq, e]
    by_cases hn : 0 ≤ n ∧ n ≤ 4611686018427387903
    · simp only [hn, and_self, if_true]
      rw [uni_put l n (good_can l hg).2 hn]
      exact Ev.now _
    · simp only [hn, if_false]
      exact Ev.now _
theorem specPut_ev (l : List S105) (n : Int) (hl : l.length ≤ 1048576) : Ev (fun k => spec_PutNumber.f k l n) (putF l n) := by
  unfold spec_PutNumber.f putF
  refine LoopK.Ev.bind_ (l12Ranges_ev l (by omega)) ?_
  cases hg : rgsGood l with
  | false =>
    simp only [Bool.false_eq_true, if_false]
    refine LoopK.Ev.succ ?_
    simp only [spec_PutNumber.j0, if_true]
    exact Ev.now _
  | true =>
    simp only [if_true, l1Known_eq, Option.bind_some]
    by_cases hn : 0 ≤ n ∧ n ≤ 4611686018427387903
    · simp only [hn, and_self, decide_true, Bool.not_true, if_true]
      obtain ⟨n0, c0⟩ := good_can l hg
      refine LoopK.Ev.succ ?_
      simp only [spec_PutNumber.j0, Bool.false_eq_true, if_false]
      have k := l12Put_loop l [] [] false n n 4611686018427387905 c0 (by omega) hn.1 (Int.le_refl _) hn.2 (fun h => by cases h) (by simp; omega) (by simp)
      have k' : Ev (fun k => spec_l12Put.f k l n n) (putR l n n) := by
        unfold spec_l12Put.f
        simpa using k
      refine LoopK.Ev.bind_ k' ?_
      by_cases h20 : ((putR l n n).length : Int) > 20
      · have h21 : (20 : Int) ≤ ((putR l n n).length : Int) := by omega
        simp only [h20, h21, if_true]
        exact Ev.now _
      · simp only [h20, if_false]
        refine LoopK.Ev.to (Ev.now _) ?_
        rw [List.take_of_length_le (by omega)]
    · simp only [hn, decide_false, Bool.not_false, if_false]
      refine LoopK.Ev.succ ?_
      simp only [spec_PutNumber.j0, if_true]
      exact Ev.now _
theorem FnExactPutNumber : SFnExactPutNumber.Pure := by
  intro l0 n h0 _
  refine Ev.rounds ?_
  unfold laws_FnExactPutNumber.f
  obtain ⟨r, hr, hr1, hr2⟩ := szRangeS_some l0 1048576 (by omega) (by omega)
  simp only [hr, Option.bind_some]
  by_cases c0 : r < 0
  · simp only [c0, if_true]
    exact Ev.now _
  · simp only [c0, if_false]
    have e0 := hr2 (by omega)
    have hl0 : l0.length ≤ 1048576 := by omega
    have ht0 := toRangeS_ev l0 hl0
    have hm0 : (l0.map cvRange).length ≤ 1048576 := by rw [List.length_map]; omega
    generalize l0.map cvRange = L0 at ht0 hm0
    have hi := implPut_ev L0 n hm0
    have hp := specPut_ev L0 n hm0
    have hw := putF_len L0 n
    generalize putF L0 n = v at hi hp hw
    obtain ⟨v0, v1⟩ := v
    simp only at hw
    have he := eqRangeS_ev v0 (by omega)
    have n1 : (1 + 2 * (L0.length : Int) < 0) = False := eq_false (by omega)
    have n2 : (1 + 2 * (v0.length : Int) < 0) = False := eq_false (by omega)
    refine LoopK.Ev.bind_ ht0 ?_
    refine LoopK.Ev.bind_ hp ?_
    refine LoopK.Ev.bind_ ht0 ?_
    refine LoopK.Ev.bind_ hi ?_
    refine LoopK.Ev.bind_ he ?_
    simp only [if_true, bne_self_eq_false]
    refine LoopK.Ev.succ ?_
    simp only [laws_FnExactPutNumber.j0, Bool.false_eq_true, if_false]
    refine LoopK.Ev.bind_ ht0 ?_
    refine LoopK.Ev.bind_ (eqRangeS_ev _ (by omega)) ?_
    simp only [if_true]
    refine LoopK.Ev.bind_ (markRangeS_ev L0 1 (by omega) (by omega) (by omega)) ?_
    simp only [n1, if_false]
    refine LoopK.Ev.bind_ he ?_
    simp only [if_true, bne_self_eq_false]
    refine LoopK.Ev.succ ?_
    simp only [laws_FnExactPutNumber.j1, Bool.false_eq_true, if_false]
    refine LoopK.Ev.bind_ (markRangeS_ev v0 1 (by omega) (by omega) (by omega)) ?_
    refine LoopK.Ev.bind_ (heldRangeS_ev v0 1 (by omega) (by omega) (by omega)) ?_
    simp only [n2, if_false, if_true]
    refine LoopK.Ev.bind_ ht0 ?_
    refine LoopK.Ev.bind_ hi ?_
    refine LoopK.Ev.bind_ he ?_
    simp only [if_true, bne_self_eq_false]
    refine LoopK.Ev.succ ?_
    simp only [laws_FnExactPutNumber.j2, Bool.false_eq_true, if_false]
    refine LoopK.Ev.bind_ (heldRangeS_ev v0 1 (by omega) (by omega) (by omega)) ?_
    simp only [n2, if_false, if_true]
    exact Ev.now _

end Go.Proofs.Ytjmakjddhbdocaa.Pure
