/- The pure statement of the law FnExactTakeAck: the program's function and the reference answer alike. -/
import Derived.Test.YtpdoplkiaejpiaaSFnExactTakeAck
import Derived.Test.YtpdoplkiaejpiaaLoopK
namespace Go.Proofs.Ytpdoplkiaejpiaa.Pure
open Go.RowKit Go.Proofs.Ytpdoplkiaejpiaa.PFnExactTakeAck Go.Proofs.YtpdoplkiaejpiaaW.PrintWords Go.Proofs.YtpdoplkiaejpiaaW.PrintLast Go.Proofs.Ytpdoplkiaejpiaa.SFnExactTakeAck
set_option linter.unusedVariables false
set_option linter.unusedSimpArgs false

open Go.Proofs.Ytpdoplkiaejpiaa.LoopK (copyEv sameEv markEv heldEv foldEv mk mk_length at_lt at_lt' at_nn at_nlt at_stop at_getD at_set at_set2 at_snoc len_snoc at_w w64 firstEv find_any chk last_or at_prev at_prev_lt at_prev_nn at_prev_pos at_prev_w pairEv)

/-- The copy of an element. -/
def cvSent (x : S136) : S89 := ⟨x.f0, x.f1, x.f2⟩

theorem toSentS_ev (l : List S136) (h : l.length ≤ 1048576) : Ev (fun k => laws_toSentS.f k l) (l.map cvSent) := by
  have key := copyEv (fun k xs ys i => laws_toSentS.l0 k xs ys i) cvSent z89 1048576
    (fun xs ys => by
      refine LoopK.Ev.succ ?_
      simp only [laws_toSentS.l0, at_stop, if_false]
      exact Ev.now _)
    (fun p x r q y s res hq hB hs ih => by
      refine LoopK.Ev.succ ?_
      have e1 := at_w p x r (by omega)
      have e2 := at_lt' p q y s hq
      have e3 : (q ++ y :: s).set (p.length : Int).toNat (cvSent x) = q ++ cvSent x :: s := at_set2 p q y _ s hq
      simp only [cvSent] at e3 ih
      simp only [laws_toSentS.l0, at_lt, at_nn, if_true, laws_toSent.f, Option.bind_some, rd_T136, at_getD, e1, e2, e3]
      exact ih) l [] (by simpa using h)
  unfold laws_toSentS.f
  have c1 : 0 ≤ (l.length : Int) := by omega
  have c2 : (l.length : Int).toNat = l.length := by omega
  simp only [c1, if_true, c2]
  have c3 : l.length ≤ 11728124029610 := by omega
  simp only [c3, if_true]
  simpa using key

theorem eqSent_self (x : S89) : laws_eqSent.f x.f0 x.f1 x.f2 x.f0 x.f1 x.f2 = some true := by
  unfold laws_eqSent.f
  simp
theorem eqSentS_ev (l : List S89) (h : l.length ≤ 4611686018427387904) : Ev (fun k => laws_eqSentS.f k l l) true := by
  have key := sameEv (fun k xs ys i => laws_eqSentS.l0 k xs ys i) 4611686018427387904
    (fun xs ys => by
      refine LoopK.Ev.succ ?_
      simp only [laws_eqSentS.l0, at_stop, if_false]
      exact Ev.now _)
    (fun p x r hB ih => by
      refine LoopK.Ev.succ ?_
      have e1 := at_w p x r hB
      simp only [laws_eqSentS.l0, at_lt, at_nn, if_true, eqSent_self, Option.bind_some, rd_T89, at_getD, e1]
      exact ih) l [] (by simpa using h)
  unfold laws_eqSentS.f
  simp only [if_true]
  simpa using key

theorem szSentS_some (l : List S136) (a : Int) (ha : 0 ≤ a ∧ a ≤ 1048576) (h : l.length ≤ 140737488351232) : ∃ r, laws_szSentS.f l a = some r ∧ -1 ≤ r ∧ (0 ≤ r → r = a - l.length) := by
  unfold laws_szSentS.f
  have e : wrap64 (a - (l.length : Int)) = a - (l.length : Int) := w64 _ (by omega)
  rw [e]
  split
  · exact ⟨_, rfl, by omega, fun h => by omega⟩
  · exact ⟨_, rfl, by omega, fun h => rfl⟩

theorem toSpace_ev (a : Int) (l : List S136) (b : Bool) (c d e f : Int) (h : l.length ≤ 1048576) : Ev (fun k => laws_toSpace.f k a l b c d e f) (a, l.map cvSent, b, c, d, e, f) := by
  unfold laws_toSpace.f laws_toRtt.f
  refine LoopK.Ev.bind_ (toSentS_ev l h) ?_
  simp only [Option.bind_some]
  exact Ev.now _
theorem eqSpace_ev (a : Int) (l : List S89) (b : Bool) (c d e f : Int) (h : l.length ≤ 4611686018427387904) : Ev (fun k => laws_eqSpace.f k a l b c d e f a l b c d e f) true := by
  unfold laws_eqSpace.f laws_eqRtt.f
  simp only [if_true]
  refine LoopK.Ev.bind_ (eqSentS_ev l h) ?_
  simp only [if_true, bne_self_eq_false, Bool.false_eq_true, if_false, Option.bind_some]
  exact Ev.now _


/-- An element's marks. -/
noncomputable def markSent (_ : S89) (a : Int) : S89 := ⟨a, a + 1, a + 2⟩
theorem markSentS_ev (l : List S89) (a : Int) (ha : 0 ≤ a) (hl : (l.length : Int) ≤ 1000000000000) (hb : a ≤ 1000000000000) : Ev (fun k => laws_markSentS.f k l a) (a + 3 * (l.length : Int), mk markSent 3 l a) := by
  have key := markEv (fun k xs a i => laws_markSentS.l0 k xs a i) markSent 3 (by omega) 4611686018427387904
    (fun xs a => by
      refine LoopK.Ev.succ ?_
      simp only [laws_markSentS.l0, at_stop, if_false]
      exact Ev.now _)
    (fun p x r a res hB h0 h1 ih => by
      refine LoopK.Ev.succ ?_
      have e1 := at_w p x r hB
      have w0 : wrap64 (a + 1) = a + 1 := by rw [show a + 1 = a + 1 from by omega]; exact w64 _ (by omega)
      have w1 : wrap64 (a + 1 + 1) = a + 2 := by rw [show a + 1 + 1 = a + 2 from by omega]; exact w64 _ (by omega)
      have w2 : wrap64 (a + 2 + 1) = a + 3 := by rw [show a + 2 + 1 = a + 3 from by omega]; exact w64 _ (by omega)
      simp only [laws_markSentS.l0, at_lt, at_nn, if_true, Option.bind_some, rd_T89, at_getD, at_set, e1, w0, w1, w2]

      exact ih) l [] a (by simp; omega) ha (by omega)
  unfold laws_markSentS.f
  simpa using key
theorem heldSentS_ev (l : List S89) (a : Int) (ha : 0 ≤ a) (hl : (l.length : Int) ≤ 1000000000000) (hb : a ≤ 1000000000000) : Ev (fun k => laws_heldSentS.f k (mk markSent 3 l a) a) (a + 3 * (l.length : Int)) := by
  have key := heldEv (fun k xs a i => laws_heldSentS.l0 k xs a i) markSent 3 (by omega) 4611686018427387904
    (fun xs a => by
      refine LoopK.Ev.succ ?_
      simp only [laws_heldSentS.l0, at_stop, if_false]
      exact Ev.now _)
    (fun p x r a res hB h0 h1 ih => by
      refine LoopK.Ev.succ ?_
      have e1 := at_w p (markSent x a) r hB
      have w0 : wrap64 (a + 1) = a + 1 := by rw [show a + 1 = a + 1 from by omega]; exact w64 _ (by omega)
      have w1 : wrap64 (a + 1 + 1) = a + 2 := by rw [show a + 1 + 1 = a + 2 from by omega]; exact w64 _ (by omega)
      have w2 : wrap64 (a + 2 + 1) = a + 3 := by rw [show a + 2 + 1 = a + 3 from by omega]; exact w64 _ (by omega)
      have v0 : (markSent x a).f0 = a := rfl
      have v1 : (markSent x a).f1 = a + 1 := rfl
      have v2 : (markSent x a).f2 = a + 2 := rfl
      simp only [laws_heldSentS.l0, at_lt, at_nn, if_true, rd_T89, at_getD, e1, w0, w1, w2, v0, v1, v2, bne_self_eq_false, Bool.false_eq_true, if_false]

      exact ih) l [] a (by simp; omega) ha (by omega)
  unfold laws_heldSentS.f
  simpa using key

theorem markSpace_ev (a : Int) (l : List S89) (b : Bool) (c d e f : Int) (h : l.length ≤ 1000000000) : Ev (fun k => laws_markSpace.f k a l b c d e f 1) (1 + 3 * (l.length : Int), mk markSent 3 l 1) := by
  unfold laws_markSpace.f
  exact LoopK.Ev.bind_ (markSentS_ev l 1 (by omega) (by omega) (by omega)) (Ev.now _)
theorem heldSpace_ev (a : Int) (l : List S89) (b : Bool) (c d e f : Int) (h : l.length ≤ 1000000000) : Ev (fun k => laws_heldSpace.f k a (mk markSent 3 l 1) b c d e f 1) (1 + 3 * (l.length : Int)) := by
  unfold laws_heldSpace.f
  refine LoopK.Ev.bind_ (heldSentS_ev l 1 (by omega) (by omega) (by omega)) ?_
  have h1 : ¬ (1 + 3 * (l.length : Int) < 0) := by omega
  simp only [h1, if_false]
  exact Ev.now _

theorem l1In_eq (a b c : Int) : spec_l1In.f a b c = some (decide (b ≤ a ∧ a ≤ c)) := by
  unfold spec_l1In.f
  by_cases h : b ≤ a
  · rw [if_pos h]; simp [h]
  · rw [if_neg h]; simp [h]
theorem in_eq (a b c : Int) : impl_in.f a b c = some (decide (b ≤ a ∧ a ≤ c)) := l1In_eq a b c
theorem and_ite (p q : Prop) [Decidable p] [Decidable q] : (if p then some (decide q) else some false) = some (decide (p ∧ q)) := by
  by_cases h : p <;> simp [h]

theorem tick_eq (a : Int) : spec_l12Tick.f a = some (decide (0 ≤ a ∧ a ≤ 1000000000)) := by
  unfold spec_l12Tick.f
  simp only [l1In_eq, Option.bind_some]
theorem isTick_eq (a : Int) : impl_isTick.f a = some (decide (0 ≤ a ∧ a ≤ 1000000000)) := by
  unfold impl_isTick.f
  simp only [in_eq, Option.bind_some]
/-- A right round trip. -/
def RttOk (k : Bool) (a b c d : Int) : Prop := if k = true then (0 ≤ b ∧ b ≤ 1000000000) ∧ (b ≤ a ∧ a ≤ 1000000000) ∧ (0 ≤ c ∧ c ≤ 1000000000) ∧ (0 ≤ d ∧ d ≤ 1000000000) else a = 0 ∧ b = 0 ∧ c = 0 ∧ d = 0
instance (k : Bool) (a b c d : Int) : Decidable (RttOk k a b c d) := by unfold RttOk; infer_instance
theorem l12Rtt_eq (k : Bool) (a b c d : Int) : spec_l12Rtt.f k a b c d = some (decide (RttOk k a b c d)) := by
  unfold spec_l12Rtt.f RttOk
  simp only [tick_eq, l1In_eq, Option.bind_some, decide_eq_true_eq, and_ite]
  cases k
  · simp [Bool.decide_and, Bool.beq_eq_decide_eq]
  · simp
theorem goodRtt_eq (k : Bool) (a b c d : Int) : impl_goodRtt.f k a b c d = some (decide (RttOk k a b c d)) := by
  unfold impl_goodRtt.f RttOk
  simp only [isTick_eq, Option.bind_some, decide_eq_true_eq, and_ite]
  cases k
  · simp [Bool.decide_and, Bool.beq_eq_decide_eq]
  · simp only [if_true, ge_iff_le]
    congr 1
    rw [decide_eq_decide]
    omega

theorem sp_known (a : Int) : spec_l1Known.f a = some (decide (0 ≤ a ∧ a ≤ 4611686018427387903)) := by
  unfold spec_l1Known.f
  simp only [l1In_eq, Option.bind_some]
theorem sp_isVarint (a : Int) : impl_isVarint.f a = some (decide (0 ≤ a ∧ a ≤ 4611686018427387903)) := by
  unfold impl_isVarint.f
  simp only [in_eq, Option.bind_some]
/-- Is a sent packet right? -/
def StOk (x : S89) : Prop := (0 ≤ x.f0 ∧ x.f0 ≤ 4611686018427387903) ∧ (0 ≤ x.f1 ∧ x.f1 ≤ 1000000000) ∧ (0 ≤ x.f2 ∧ x.f2 ≤ 1500)
instance (x : S89) : Decidable (StOk x) := by unfold StOk; infer_instance
theorem sentOk_eq (x : S89) : impl_sentOk.f x.f0 x.f1 x.f2 = some (decide (StOk x)) := by
  unfold impl_sentOk.f StOk
  simp only [sp_isVarint, isTick_eq, in_eq, Option.bind_some, decide_eq_true_eq, and_ite]
/-- Does it fall behind the one before it, too? -/
def stGood (o : Option S89) (x : S89) : Bool :=
  decide (StOk x) && (match o with | none => true | some q => !(decide (q.f0 ≥ x.f0) || decide (q.f1 > x.f1)))
/-- What a space asks besides its packets. -/
def spEnd (n : Int) (b : Bool) (c d e f : Int) (l : List S89) : Bool := decide ((-1 ≤ n ∧ n ≤ 4611686018427387903) ∧ (l.length : Int) ≤ 60 ∧ RttOk b c d e f)
def spGood (n : Int) (l : List S89) (b : Bool) (c d e f : Int) : Bool := chk stGood none l && spEnd n b c d e f l
theorem specSpace_ev (n : Int) (l : List S89) (b : Bool) (c d e f : Int) (hl : l.length ≤ 4611686018427387904) : Ev (fun k => spec_GoodSpace.f k n l b c d e f) (spGood n l b c d e f) := by
  have key := pairEv (fun k xs i => spec_GoodSpace.l0 k xs (xs.length : Int) i n xs b c d e f) stGood (fun _ => True) (spEnd n b c d e f) 4611686018427387904
    (fun xs => by
      refine LoopK.Ev.succ ?_
      simp only [spec_GoodSpace.l0, at_stop, if_false, l1In_eq, l12Rtt_eq, Option.bind_some, decide_eq_true_eq, and_ite]
      exact Ev.now _)
    (fun _ _ _ => trivial)
    (fun p x r hB hI hg => by
      refine LoopK.Ev.succ ?_
      simp only [spec_GoodSpace.l0, at_lt, at_nn, if_true, rd_T89, at_getD, l1In_eq, sp_known, tick_eq, Option.bind_some, decide_eq_true_eq]
      have bad : ∀ n' xs i z s b' c' d' e' f', Ev (fun k => spec_GoodSpace.j1 k xs n' i true z s b' c' d' e' f') false := fun n' xs i z s b' c' d' e' f' => by
        refine LoopK.Ev.succ ?_
        simp only [spec_GoodSpace.j1, if_true]
        exact Ev.now _
      by_cases h1 : 0 ≤ x.f0 ∧ x.f0 ≤ 4611686018427387903
      · simp only [h1, and_self, if_true]
        by_cases h2 : 0 ≤ x.f1 ∧ x.f1 ≤ 1000000000
        · simp only [h2, and_self, if_true]
          by_cases h3 : 0 ≤ x.f2 ∧ x.f2 ≤ 1500
          · simp only [h3, and_self, if_true]
            rcases last_or p with rfl | ⟨p0, q, rfl⟩
            · exfalso
              simp [stGood, StOk, h1, h2, h3] at hg
            · have c0 := at_prev_w p0 q x r hB
              simp only [at_prev_pos, if_true, c0, at_prev_nn, at_prev_lt, at_prev]
              by_cases h4 : q.f0 ≥ x.f0
              · simp only [h4, if_true]
                exact bad _ _ _ _ _ _ _ _ _ _
              · have h5 : q.f1 > x.f1 := by
                  simp [stGood, StOk, h1, h2, h3] at hg
                  omega
                simp only [h4, if_false, h5, decide_true]
                exact bad _ _ _ _ _ _ _ _ _ _
          · simp only [h3, if_false]
            exact bad _ _ _ _ _ _ _ _ _ _
        · simp only [h2, if_false]
          exact bad _ _ _ _ _ _ _ _ _ _
      · simp only [h1, if_false]
        exact bad _ _ _ _ _ _ _ _ _ _)
    (fun p x r b' hB hI hg hn => by
      refine LoopK.Ev.succ ?_
      have hx : StOk x := by
        simp only [stGood, Bool.and_eq_true, decide_eq_true_eq] at hg
        exact hg.1
      obtain ⟨h1, h2, h3⟩ := hx
      have e1 := at_w p x r hB
      simp only [spec_GoodSpace.l0, at_lt, at_nn, if_true, rd_T89, at_getD, l1In_eq, sp_known, tick_eq, Option.bind_some, decide_eq_true_eq, h1, h2, h3, and_self]
      have good : Ev (fun k => spec_GoodSpace.j1 k (p ++ x :: r) ((p ++ x :: r).length : Int) (p.length : Int) false n (p ++ x :: r) b c d e f) b' := by
        refine LoopK.Ev.succ ?_
        simp only [spec_GoodSpace.j1, Bool.false_eq_true, if_false, e1]
        exact hn
      rcases last_or p with rfl | ⟨p0, q, rfl⟩
      · simpa using good
      · have c0 := at_prev_w p0 q x r hB
        have h4 : ¬ (q.f0 ≥ x.f0) ∧ ¬ (q.f1 > x.f1) := by
          simp [stGood, StOk, h1, h2, h3] at hg
          omega
        simp only [at_prev_pos, if_true, c0, at_prev_nn, at_prev_lt, at_prev, h4.1, h4.2, if_false, decide_false]
        exact good) l [] (by simpa using hl) (by simp)
  unfold spec_GoodSpace.f spGood
  simpa using key
theorem implSpace_ev (n : Int) (l : List S89) (b : Bool) (c d e f : Int) (hl : l.length ≤ 4611686018427387904) : Ev (fun k => impl_GoodSpace.f k n l b c d e f) (spGood n l b c d e f) := by
  have key := pairEv (fun k xs i => impl_GoodSpace.l0 k xs (xs.length : Int) i n xs b c d e f) stGood (fun _ => True) (spEnd n b c d e f) 4611686018427387904
    (fun xs => by
      refine LoopK.Ev.succ ?_
      simp only [impl_GoodSpace.l0, at_stop, if_false, in_eq, goodRtt_eq, Option.bind_some, decide_eq_true_eq, and_ite]
      exact Ev.now _)
    (fun _ _ _ => trivial)
    (fun p x r hB hI hg => by
      refine LoopK.Ev.succ ?_
      simp only [impl_GoodSpace.l0, at_lt, at_nn, if_true, rd_T89, at_getD, sentOk_eq, Option.bind_some, decide_eq_true_eq]
      have bad : ∀ n' xs i z s b' c' d' e' f', Ev (fun k => impl_GoodSpace.j1 k xs n' i true z s b' c' d' e' f') false := fun n' xs i z s b' c' d' e' f' => by
        refine LoopK.Ev.succ ?_
        simp only [impl_GoodSpace.j1, if_true]
        exact Ev.now _
      by_cases h1 : StOk x
      · simp only [h1, if_true]
        rcases last_or p with rfl | ⟨p0, q, rfl⟩
        · exfalso
          simp [stGood, h1] at hg
        · have c0 := at_prev_w p0 q x r hB
          simp only [at_prev_pos, if_true, c0, at_prev_nn, at_prev_lt, at_prev]
          by_cases h4 : q.f0 ≥ x.f0
          · simp only [h4, if_true]
            exact bad _ _ _ _ _ _ _ _ _ _
          · have h5 : q.f1 > x.f1 := by
              simp [stGood, h1] at hg
              omega
            simp only [h4, if_false, h5, decide_true]
            exact bad _ _ _ _ _ _ _ _ _ _
      · simp only [h1, if_false]
        exact bad _ _ _ _ _ _ _ _ _ _)
    (fun p x r b' hB hI hg hn => by
      refine LoopK.Ev.succ ?_
      have hx : StOk x := by
        simp only [stGood, Bool.and_eq_true, decide_eq_true_eq] at hg
        exact hg.1
      have e1 := at_w p x r hB
      simp only [impl_GoodSpace.l0, at_lt, at_nn, if_true, rd_T89, at_getD, sentOk_eq, Option.bind_some, decide_eq_true_eq, hx]
      have good : Ev (fun k => impl_GoodSpace.j1 k (p ++ x :: r) ((p ++ x :: r).length : Int) (p.length : Int) false n (p ++ x :: r) b c d e f) b' := by
        refine LoopK.Ev.succ ?_
        simp only [impl_GoodSpace.j1, Bool.false_eq_true, if_false, e1]
        exact hn
      rcases last_or p with rfl | ⟨p0, q, rfl⟩
      · simpa using good
      · have c0 := at_prev_w p0 q x r hB
        have h4 : ¬ (q.f0 ≥ x.f0) ∧ ¬ (q.f1 > x.f1) := by
          simp [stGood, hx] at hg
          omega
        simp only [at_prev_pos, if_true, c0, at_prev_nn, at_prev_lt, at_prev, h4.1, h4.2, if_false, decide_false]
        exact good) l [] (by simpa using hl) (by simp)
  unfold impl_GoodSpace.f spGood
  simpa using key

/-- Is a range right, and does it fall behind the one before it? -/
def rgGood (o : Option S92) (x : S92) : Bool :=
  decide ((0 ≤ x.f0 ∧ x.f0 ≤ x.f1) ∧ x.f1 ≤ 4611686018427387903) && (match o with | none => true | some q => decide (x.f1 + 2 ≤ q.f0))
def rgInv (x : S92) : Prop := 0 ≤ x.f0 ∧ x.f0 ≤ 4611686018427387903
theorem rg_inv (o : Option S92) (x : S92) (h : rgGood o x = true) : rgInv x := by
  simp only [rgGood, Bool.and_eq_true, decide_eq_true_eq] at h
  unfold rgInv
  omega
theorem l1Known_eq (a : Int) : spec_l1Known.f a = some (decide (0 ≤ a ∧ a ≤ 4611686018427387903)) := by
  unfold spec_l1Known.f
  simp only [l1In_eq, Option.bind_some]
theorem isVarint_eq (a : Int) : impl_isVarint.f a = some (decide (0 ≤ a ∧ a ≤ 4611686018427387903)) := by
  unfold impl_isVarint.f
  simp only [in_eq, Option.bind_some]
theorem l1Ranges_ev (l : List S92) (hl : l.length ≤ 4611686018427387904) : Ev (fun k => spec_l1Ranges.f k l) (chk rgGood none l && decide (1 ≤ l.length ∧ l.length ≤ 20)) := by
  have key := pairEv (fun k xs i => spec_l1Ranges.l0 k xs xs (xs.length : Int) i) rgGood rgInv (fun xs => decide (1 ≤ xs.length ∧ xs.length ≤ 20)) 4611686018427387904
    (fun xs => by
      refine LoopK.Ev.succ ?_
      simp only [spec_l1Ranges.l0, at_stop, if_false, l1In_eq, Option.bind_some]
      refine LoopK.Ev.to (Ev.now _) ?_
      rw [decide_eq_decide]
      omega)
    rg_inv
    (fun p x r hB hI hg => by
      refine LoopK.Ev.succ ?_
      simp only [spec_l1Ranges.l0, at_lt, at_nn, if_true, rd_T92, at_getD, l1In_eq, l1Known_eq, Option.bind_some, decide_eq_true_eq]
      by_cases h1 : 0 ≤ x.f0 ∧ x.f0 ≤ x.f1
      · simp only [h1, and_self, if_true]
        by_cases h2 : 0 ≤ x.f1 ∧ x.f1 ≤ 4611686018427387903
        · simp only [h2, and_self, if_true]
          rcases last_or p with rfl | ⟨p0, q, rfl⟩
          · exfalso
            simp [rgGood, h1, h2] at hg
          · have hq := hI q (by simp)
            unfold rgInv at hq
            have e2 : wrap64 (q.f0 - 2) = q.f0 - 2 := w64 _ (by omega)
            have hlt : x.f1 > q.f0 - 2 := by
              simp [rgGood, h1, h2] at hg
              omega
            have c0 := at_prev_w p0 q x r hB
            simp only [at_prev_pos, if_true, c0, at_prev_nn, at_prev_lt, at_prev, e2, hlt]
            (first | exact Ev.now _ | (refine LoopK.Ev.succ ?_; simp only [spec_l1Ranges.j1, decide_true, if_true]; exact Ev.now _))
        · simp only [h2, if_false]
          (first | exact Ev.now _ | (refine LoopK.Ev.succ ?_; simp only [spec_l1Ranges.j1, decide_true, if_true]; exact Ev.now _))
      · simp only [h1, if_false]
        (first | exact Ev.now _ | (refine LoopK.Ev.succ ?_; simp only [spec_l1Ranges.j1, decide_true, if_true]; exact Ev.now _)))
    (fun p x r b hB hI hg hn => by
      refine LoopK.Ev.succ ?_
      have hx : (0 ≤ x.f0 ∧ x.f0 ≤ x.f1) ∧ x.f1 ≤ 4611686018427387903 := by
        simp only [rgGood, Bool.and_eq_true, decide_eq_true_eq] at hg
        exact hg.1
      have h2 : 0 ≤ x.f1 ∧ x.f1 ≤ 4611686018427387903 := by omega
      have e1 := at_w p x r hB
      simp only [spec_l1Ranges.l0, at_lt, at_nn, if_true, rd_T92, at_getD, l1In_eq, l1Known_eq, Option.bind_some, decide_eq_true_eq, hx.1, h2, and_self, e1]
      rcases last_or p with rfl | ⟨p0, q, rfl⟩
      · have c9 : ¬ ((([] : List S92).length : Int) > 0) := by simp
        simp only [c9, if_false]
        refine LoopK.Ev.succ ?_
        simp only [spec_l1Ranges.j1, Bool.false_eq_true, if_false]
        have e1' := e1
        simp only [e1']
        exact hn
      · have hq := hI q (by simp)
        unfold rgInv at hq
        have e2 : wrap64 (q.f0 - 2) = q.f0 - 2 := w64 _ (by omega)
        have hlt : ¬ (x.f1 > q.f0 - 2) := by
          simp [rgGood, hx, h2] at hg
          omega
        have c0 := at_prev_w p0 q x r hB
        simp only [at_prev_pos, if_true, c0, at_prev_nn, at_prev_lt, at_prev, e2, hlt, decide_false, if_false]
        refine LoopK.Ev.succ ?_
        simp only [spec_l1Ranges.j1, Bool.false_eq_true, if_false, e1]
        exact hn) l [] (by simpa using hl) (by simp)
  unfold spec_l1Ranges.f
  simpa using key
theorem rangesOk_ev (l : List S92) (hl : l.length ≤ 4611686018427387904) : Ev (fun k => impl_rangesOk.f k l) (chk rgGood none l) := by
  have key := pairEv (fun k xs i => impl_rangesOk.l0 k xs xs (xs.length : Int) i) rgGood rgInv (fun _ => true) 4611686018427387904
    (fun xs => by
      refine LoopK.Ev.succ ?_
      simp only [impl_rangesOk.l0, at_stop, if_false]
      exact Ev.now _)
    rg_inv
    (fun p x r hB hI hg => by
      refine LoopK.Ev.succ ?_
      simp only [impl_rangesOk.l0, at_lt, at_nn, if_true, rd_T92, at_getD, isVarint_eq, Option.bind_some, decide_eq_true_eq]
      by_cases h1 : 0 ≤ x.f0 ∧ x.f0 ≤ 4611686018427387903
      · simp only [h1, and_self, if_true]
        by_cases h2 : 0 ≤ x.f1 ∧ x.f1 ≤ 4611686018427387903
        · simp only [h2, and_self, if_true]
          by_cases h3 : x.f0 > x.f1
          · simp only [h3, if_true]
            (first | exact Ev.now _ | (refine LoopK.Ev.succ ?_; simp only [impl_rangesOk.j1, decide_true, if_true]; exact Ev.now _))
          · simp only [h3, if_false]
            rcases last_or p with rfl | ⟨p0, q, rfl⟩
            · exfalso
              simp [rgGood, h1, h2] at hg
              omega
            · have hq := hI q (by simp)
              unfold rgInv at hq
              have e2 : wrap64 (x.f1 + 2) = x.f1 + 2 := w64 _ (by omega)
              have hlt : q.f0 < x.f1 + 2 := by
                have h4 : x.f0 ≤ x.f1 := by omega
                simp [rgGood, h1, h2, h4] at hg
                omega
              have c0 := at_prev_w p0 q x r hB
              simp only [at_prev_pos, if_true, c0, at_prev_nn, at_prev_lt, at_prev, e2, hlt]
              (first | exact Ev.now _ | (refine LoopK.Ev.succ ?_; simp only [impl_rangesOk.j1, decide_true, if_true]; exact Ev.now _))
        · simp only [h2, if_false]
          (first | exact Ev.now _ | (refine LoopK.Ev.succ ?_; simp only [impl_rangesOk.j1, decide_true, if_true]; exact Ev.now _))
      · simp only [h1, if_false]
        (first | exact Ev.now _ | (refine LoopK.Ev.succ ?_; simp only [impl_rangesOk.j1, decide_true, if_true]; exact Ev.now _)))
    (fun p x r b hB hI hg hn => by
      refine LoopK.Ev.succ ?_
      have hx : (0 ≤ x.f0 ∧ x.f0 ≤ x.f1) ∧ x.f1 ≤ 4611686018427387903 := by
        simp only [rgGood, Bool.and_eq_true, decide_eq_true_eq] at hg
        exact hg.1
      have h1 : 0 ≤ x.f0 ∧ x.f0 ≤ 4611686018427387903 := by omega
      have h2 : 0 ≤ x.f1 ∧ x.f1 ≤ 4611686018427387903 := by omega
      have h3 : ¬ (x.f0 > x.f1) := by omega
      have e1 := at_w p x r hB
      simp only [impl_rangesOk.l0, at_lt, at_nn, if_true, rd_T92, at_getD, isVarint_eq, Option.bind_some, decide_eq_true_eq, h1, h2, and_self, h3, if_false, e1]
      rcases last_or p with rfl | ⟨p0, q, rfl⟩
      · have c9 : ¬ ((([] : List S92).length : Int) > 0) := by simp
        simp only [c9, if_false]
        refine LoopK.Ev.succ ?_
        simp only [impl_rangesOk.j1, Bool.false_eq_true, if_false]
        have e1' := e1
        simp only [e1']
        exact hn
      · have hq := hI q (by simp)
        unfold rgInv at hq
        have e2 : wrap64 (x.f1 + 2) = x.f1 + 2 := w64 _ (by omega)
        have hlt : ¬ (q.f0 < x.f1 + 2) := by
          simp [rgGood, hx, h2] at hg
          omega
        have c0 := at_prev_w p0 q x r hB
        simp only [at_prev_pos, if_true, c0, at_prev_nn, at_prev_lt, at_prev, e2, hlt, decide_false, if_false]
        refine LoopK.Ev.succ ?_
        simp only [impl_rangesOk.j1, Bool.false_eq_true, if_false, e1]
        exact hn) l [] (by simpa using hl) (by simp)
  unfold impl_rangesOk.f
  simpa using key

/-- Are ranges right? -/
def rgsGood (l : List S92) : Bool := decide (l.length ≤ 20) && chk rgGood none l
theorem l12Ranges_ev (l : List S92) (hl : l.length ≤ 4611686018427387904) : Ev (fun k => spec_l12Ranges.f k l) (rgsGood l) := by
  unfold spec_l12Ranges.f
  by_cases h0 : (l.length : Int) = 0
  · simp only [h0, if_true]
    have : l = [] := List.eq_nil_of_length_eq_zero (by omega)
    subst this
    exact Ev.now _
  · simp only [h0, if_false]
    by_cases h1 : (l.length : Int) ≤ 20
    · simp only [h1, if_true]
      refine LoopK.Ev.bind_ (l1Ranges_ev l hl) (LoopK.Ev.to (Ev.now _) ?_)
      have h2 : 1 ≤ l.length ∧ l.length ≤ 20 := by omega
      simp [rgsGood, h2]
    · simp only [h1, if_false]
      refine LoopK.Ev.to (Ev.now _) ?_
      have h2 : ¬ (l.length ≤ 20) := by omega
      simp [rgsGood, h2]
theorem goodRanges_ev (l : List S92) (hl : l.length ≤ 4611686018427387904) : Ev (fun k => impl_GoodRanges.f k l) (rgsGood l) := by
  unfold impl_GoodRanges.f
  by_cases h1 : (l.length : Int) ≤ 20
  · simp only [h1, if_true]
    refine LoopK.Ev.bind_ (rangesOk_ev l hl) (LoopK.Ev.to (Ev.now _) ?_)
    have h2 : l.length ≤ 20 := by omega
    simp [rgsGood, h2]
  · simp only [h1, if_false]
    refine LoopK.Ev.to (Ev.now _) ?_
    have h2 : ¬ (l.length ≤ 20) := by omega
    simp [rgsGood, h2]

/-- Is a number in one of the ranges? -/
def inRg (n : Int) (l : List S92) : Bool := l.any fun r => decide (r.f0 ≤ n ∧ n ≤ r.f1)
theorem l12Has_ev (l : List S92) (n : Int) (hl : l.length ≤ 4611686018427387904) : Ev (fun k => spec_l12Has.f k l n) (inRg n l) := by
  have key := firstEv (fun k xs i => spec_l12Has.l0 k n xs (xs.length : Int) i) (fun r => decide (r.f0 ≤ n ∧ n ≤ r.f1)) (fun o => o.isSome) 4611686018427387904
    (fun xs => by
      refine LoopK.Ev.succ ?_
      simp only [spec_l12Has.l0, at_stop, if_false]
      exact Ev.now _)
    (fun p x r hB hx => by
      refine LoopK.Ev.succ ?_
      simp only [decide_eq_true_eq] at hx
      simp only [spec_l12Has.l0, at_lt, at_nn, if_true, rd_T92, at_getD, l1In_eq, Option.bind_some, decide_eq_true_eq, hx, and_self]
      exact Ev.now _)
    (fun p x r b hB hx hn => by
      refine LoopK.Ev.succ ?_
      simp only [decide_eq_false_iff_not] at hx
      have e1 := at_w p x r hB
      simp only [spec_l12Has.l0, at_lt, at_nn, if_true, rd_T92, at_getD, l1In_eq, Option.bind_some, decide_eq_true_eq, hx, if_false, e1]
      exact hn) l [] (by simpa using hl)
  unfold spec_l12Has.f
  refine LoopK.Ev.to key ?_
  unfold inRg
  exact find_any (fun r : S92 => decide (r.f0 ≤ n ∧ n ≤ r.f1)) l
theorem hasNumber_eq (l : List S92) (n : Int) : impl_hasNumber.f l n = some (inRg n l) := rfl
/-- Right ranges hold numbers that are right alone. -/
theorem rg_in (n : Int) : ∀ (l : List S92) (o : Option S92), chk rgGood o l = true → inRg n l = true → 0 ≤ n ∧ n ≤ 4611686018427387903
  | [], _, _, h => by simp [inRg] at h
  | x :: r, o, hc, h => by
    simp only [chk, Bool.and_eq_true] at hc
    have hg := hc.1
    simp only [rgGood, Bool.and_eq_true, decide_eq_true_eq] at hg
    simp only [inRg, List.any_cons, Bool.or_eq_true, decide_eq_true_eq] at h
    rcases h with h | h
    · omega
    · exact rg_in n r (some x) hc.2 h

/-- A round trip with a further one. -/
def smp (k : Bool) (a b c d l y : Int) : Bool × Int × Int × Int × Int :=
  if k = true then
    (let m := if l < b then l else b
     if wrap64 (l - y) ≥ m then (k, l, m, wrap64 (Int.tdiv (wrap64 (wrap64 (7 * c) + wrap64 (l - y))) 8), wrap64 (Int.tdiv (wrap64 (wrap64 (3 * d) + (if wrap64 (c - wrap64 (l - y)) < 0 then wrap64 (-(wrap64 (c - wrap64 (l - y)))) else wrap64 (c - wrap64 (l - y))))) 4))
     else (k, l, m, wrap64 (Int.tdiv (wrap64 (wrap64 (7 * c) + l)) 8), wrap64 (Int.tdiv (wrap64 (wrap64 (3 * d) + (if wrap64 (c - l) < 0 then wrap64 (-(wrap64 (c - l))) else wrap64 (c - l)))) 4)))
  else (true, l, l, l, wrap64 (Int.tdiv l 2))
theorem l12Sample_ev (k : Bool) (a b c d l y : Int) : Ev (fun n => spec_l12Sample.f n k a b c d l y) (smp k a b c d l y) := by
  unfold spec_l12Sample.f smp
  cases k with
  | false => exact Ev.now _
  | true =>
    simp only [if_true]
    have key : ∀ m : Int, Ev (fun n => spec_l12Sample.j0 n l y true l m c d) (if wrap64 (l - y) ≥ m then (true, l, m, wrap64 (Int.tdiv (wrap64 (wrap64 (7 * c) + wrap64 (l - y))) 8), wrap64 (Int.tdiv (wrap64 (wrap64 (3 * d) + (if wrap64 (c - wrap64 (l - y)) < 0 then wrap64 (-(wrap64 (c - wrap64 (l - y)))) else wrap64 (c - wrap64 (l - y))))) 4))
        else (true, l, m, wrap64 (Int.tdiv (wrap64 (wrap64 (7 * c) + l)) 8), wrap64 (Int.tdiv (wrap64 (wrap64 (3 * d) + (if wrap64 (c - l) < 0 then wrap64 (-(wrap64 (c - l))) else wrap64 (c - l)))) 4))) := by
      intro m
      refine LoopK.Ev.succ ?_
      simp only [spec_l12Sample.j0]
      by_cases h1 : wrap64 (l - y) ≥ m
      · by_cases h2 : wrap64 (c - wrap64 (l - y)) < 0
        · simp only [h1, h2, if_true]
          (first | exact Ev.now _ | (refine LoopK.Ev.succ ?_; simp only [spec_l12Sample.j1, h2, if_true, if_false]; exact Ev.now _))
        · simp only [h1, h2, if_true, if_false]
          (first | exact Ev.now _ | (refine LoopK.Ev.succ ?_; simp only [spec_l12Sample.j1, h2, if_true, if_false]; exact Ev.now _))
      · by_cases h2 : wrap64 (c - l) < 0
        · simp only [h1, h2, if_true, if_false]
          (first | exact Ev.now _ | (refine LoopK.Ev.succ ?_; simp only [spec_l12Sample.j1, h2, if_true, if_false]; exact Ev.now _))
        · simp only [h1, h2, if_false]
          (first | exact Ev.now _ | (refine LoopK.Ev.succ ?_; simp only [spec_l12Sample.j1, h2, if_true, if_false]; exact Ev.now _))
    by_cases h : l < b
    · simp only [h, if_true]
      exact key l
    · simp only [h, if_false]
      exact key b
theorem sampled_eq (k : Bool) (a b c d l y : Int) (hr : RttOk k a b c d) (hl : 0 ≤ l ∧ l ≤ 1000000000) (hy : 0 ≤ y ∧ y ≤ 1000000000) : impl_sampled.f k a b c d l y = some (smp k a b c d l y) := by
  unfold impl_sampled.f smp
  cases k with
  | false => rfl
  | true =>
    simp only [if_true]
    have hv : (0 ≤ b ∧ b ≤ 1000000000) ∧ (b ≤ a ∧ a ≤ 1000000000) ∧ (0 ≤ c ∧ c ≤ 1000000000) ∧ (0 ≤ d ∧ d ≤ 1000000000) := by simpa [RttOk] using hr
    have em : mn l b = if l < b then l else b := by unfold mn; split <;> split <;> omega
    have ea : ∀ q : Int, -9000000000000 ≤ q → q ≤ 9000000000000 → mx (wrap64 q) (wrap64 (-(wrap64 q))) = if wrap64 q < 0 then wrap64 (-(wrap64 q)) else wrap64 q := by
      intro q h1 h2
      rw [w64 q (by omega), w64 (-q) (by omega)]
      unfold mx
      split <;> split <;> omega
    have e1 : wrap64 (l - y) = l - y := w64 _ (by omega)
    rw [em, ea (c - l) (by omega) (by omega), ea (c - wrap64 (l - y)) (by omega) (by omega)]
    generalize (if l < b then l else b) = m
    by_cases h : wrap64 (l - y) ≥ m <;> simp only [h, if_true, if_false]

theorem eqIntS_ev (l : List Int) (h : l.length ≤ 4611686018427387904) : Ev (fun k => laws_eqIntS.f k l l) true := by
  have key := sameEv (fun k xs ys i => laws_eqIntS.l0 k xs ys i) 4611686018427387904
    (fun xs ys => by
      refine LoopK.Ev.succ ?_
      simp only [laws_eqIntS.l0, at_stop, if_false]
      exact Ev.now _)
    (fun p x r hB ih => by
      refine LoopK.Ev.succ ?_
      have e1 := at_w p x r hB
      simp only [laws_eqIntS.l0, at_lt, at_nn, if_true, e1]
      exact ih) l [] (by simpa using h)
  unfold laws_eqIntS.f
  simp only [if_true]
  simpa using key
/-- A number's mark. -/
noncomputable def markInt (_ : Int) (a : Int) : Int := a
theorem markIntS_ev (l : List Int) (a : Int) (ha : 0 ≤ a) (hl : (l.length : Int) ≤ 1000000000000) (hb : a ≤ 1000000000000) : Ev (fun k => laws_markIntS.f k l a) (a + 1 * (l.length : Int), mk markInt 1 l a) := by
  have key := markEv (fun k xs a i => laws_markIntS.l0 k xs a i) markInt 1 (by omega) 4611686018427387904
    (fun xs a => by
      refine LoopK.Ev.succ ?_
      simp only [laws_markIntS.l0, at_stop, if_false]
      exact Ev.now _)
    (fun p x r a res hB h0 h1 ih => by
      refine LoopK.Ev.succ ?_
      have e1 := at_w p x r hB
      have w0 : wrap64 (a + 1) = a + 1 := w64 _ (by omega)
      have v0 : markInt x a = a := rfl
      rw [v0] at ih
      simp only [laws_markIntS.l0, at_lt, at_nn, if_true, at_set, e1, w0]
      exact ih) l [] a (by simp; omega) ha (by omega)
  unfold laws_markIntS.f
  simpa using key
theorem heldIntS_ev (l : List Int) (a : Int) (ha : 0 ≤ a) (hl : (l.length : Int) ≤ 1000000000000) (hb : a ≤ 1000000000000) : Ev (fun k => laws_heldIntS.f k (mk markInt 1 l a) a) (a + 1 * (l.length : Int)) := by
  have key := heldEv (fun k xs a i => laws_heldIntS.l0 k xs a i) markInt 1 (by omega) 4611686018427387904
    (fun xs a => by
      refine LoopK.Ev.succ ?_
      simp only [laws_heldIntS.l0, at_stop, if_false]
      exact Ev.now _)
    (fun p x r a res hB h0 h1 ih => by
      refine LoopK.Ev.succ ?_
      have e1 := at_w p (markInt x a) r hB
      have w0 : wrap64 (a + 1) = a + 1 := w64 _ (by omega)
      have v0 : markInt x a = a := rfl
      simp only [laws_heldIntS.l0, at_lt, at_nn, if_true, rd, at_getD, e1, w0, v0]
      simpa [v0] using ih) l [] a (by simp; omega) ha (by omega)
  unfold laws_heldIntS.f
  simpa using key

/-- The copy of an element. -/
def cvRange (x : S99) : S92 := ⟨x.f0, x.f1⟩

theorem toRangeS_ev (l : List S99) (h : l.length ≤ 1048576) : Ev (fun k => laws_toRangeS.f k l) (l.map cvRange) := by
  have key := copyEv (fun k xs ys i => laws_toRangeS.l0 k xs ys i) cvRange z92 1048576
    (fun xs ys => by
      refine LoopK.Ev.succ ?_
      simp only [laws_toRangeS.l0, at_stop, if_false]
      exact Ev.now _)
    (fun p x r q y s res hq hB hs ih => by
      refine LoopK.Ev.succ ?_
      have e1 := at_w p x r (by omega)
      have e2 := at_lt' p q y s hq
      have e3 : (q ++ y :: s).set (p.length : Int).toNat (cvRange x) = q ++ cvRange x :: s := at_set2 p q y _ s hq
      simp only [cvRange] at e3 ih
      simp only [laws_toRangeS.l0, at_lt, at_nn, if_true, laws_toRange.f, Option.bind_some, rd_T99, at_getD, e1, e2, e3]
      exact ih) l [] (by simpa using h)
  unfold laws_toRangeS.f
  have c1 : 0 ≤ (l.length : Int) := by omega
  have c2 : (l.length : Int).toNat = l.length := by omega
  simp only [c1, if_true, c2]
  have c3 : l.length ≤ 17592186044416 := by omega
  simp only [c3, if_true]
  simpa using key

theorem eqRange_self (x : S92) : laws_eqRange.f x.f0 x.f1 x.f0 x.f1 = some true := by
  unfold laws_eqRange.f
  simp
theorem eqRangeS_ev (l : List S92) (h : l.length ≤ 4611686018427387904) : Ev (fun k => laws_eqRangeS.f k l l) true := by
  have key := sameEv (fun k xs ys i => laws_eqRangeS.l0 k xs ys i) 4611686018427387904
    (fun xs ys => by
      refine LoopK.Ev.succ ?_
      simp only [laws_eqRangeS.l0, at_stop, if_false]
      exact Ev.now _)
    (fun p x r hB ih => by
      refine LoopK.Ev.succ ?_
      have e1 := at_w p x r hB
      simp only [laws_eqRangeS.l0, at_lt, at_nn, if_true, eqRange_self, Option.bind_some, rd_T92, at_getD, e1]
      exact ih) l [] (by simpa using h)
  unfold laws_eqRangeS.f
  simp only [if_true]
  simpa using key

theorem szRangeS_some (l : List S99) (a : Int) (ha : 0 ≤ a ∧ a ≤ 1048576) (h : l.length ≤ 140737488351232) : ∃ r, laws_szRangeS.f l a = some r ∧ -1 ≤ r ∧ (0 ≤ r → r = a - l.length) := by
  unfold laws_szRangeS.f
  have e : wrap64 (a - (l.length : Int)) = a - (l.length : Int) := w64 _ (by omega)
  rw [e]
  split
  · exact ⟨_, rfl, by omega, fun h => by omega⟩
  · exact ⟨_, rfl, by omega, fun h => rfl⟩


/-- An element's marks. -/
noncomputable def markRange (_ : S92) (a : Int) : S92 := ⟨a, a + 1⟩
theorem markRangeS_ev (l : List S92) (a : Int) (ha : 0 ≤ a) (hl : (l.length : Int) ≤ 1000000000000) (hb : a ≤ 1000000000000) : Ev (fun k => laws_markRangeS.f k l a) (a + 2 * (l.length : Int), mk markRange 2 l a) := by
  have key := markEv (fun k xs a i => laws_markRangeS.l0 k xs a i) markRange 2 (by omega) 4611686018427387904
    (fun xs a => by
      refine LoopK.Ev.succ ?_
      simp only [laws_markRangeS.l0, at_stop, if_false]
      exact Ev.now _)
    (fun p x r a res hB h0 h1 ih => by
      refine LoopK.Ev.succ ?_
      have e1 := at_w p x r hB
      have w0 : wrap64 (a + 1) = a + 1 := by rw [show a + 1 = a + 1 from by omega]; exact w64 _ (by omega)
      have w1 : wrap64 (a + 1 + 1) = a + 2 := by rw [show a + 1 + 1 = a + 2 from by omega]; exact w64 _ (by omega)
      simp only [laws_markRangeS.l0, at_lt, at_nn, if_true, Option.bind_some, rd_T92, at_getD, at_set, e1, w0, w1]

      exact ih) l [] a (by simp; omega) ha (by omega)
  unfold laws_markRangeS.f
  simpa using key

abbrev SN := S89
abbrev RG := S92
abbrev RT := Bool × Int × Int × Int × Int
/-- The first rounds. -/
def tkM1 (rs : List RG) (top now dl : Int) : List SN → List Int → List SN → RT → List Int × List SN × RT
  | [], ak, lf, rt => (ak, lf, rt)
  | x :: r, ak, lf, rt => if inRg x.f0 rs = true then (if x.f0 = top then tkM1 rs top now dl r (ak ++ [x.f0]) lf (smp rt.1 rt.2.1 rt.2.2.1 rt.2.2.2.1 rt.2.2.2.2 (wrap64 (now - x.f1)) dl) else tkM1 rs top now dl r (ak ++ [x.f0]) lf rt) else tkM1 rs top now dl r ak (lf ++ [x]) rt
/-- The second rounds. -/
def tkM2 (L : SN → Bool) : List SN → List Int → List SN → List Int × List SN
  | [], lo, ks => (lo, ks)
  | x :: r, lo, ks => if L x = true then tkM2 L r (lo ++ [x.f0]) ks else tkM2 L r lo (ks ++ [x])
theorem tk1_spec (rs : List RG) (hl : rs.length ≤ 4611686018427387904) (top now dl : Int) : ∀ (r p : List SN) (ak : List Int) (lf : List SN) (rt : RT),
    Ev (fun k => tk1 (fun x => spec_l12Has.f k rs x) (fun rt d => spec_l12Sample.f k rt.1 rt.2.1 rt.2.2.1 rt.2.2.2.1 rt.2.2.2.2 d dl) top now (p ++ r) r.length (p.length : Int) ak lf rt) (tkM1 rs top now dl r ak lf rt)
  | [], p, ak, lf, rt => by
    simp only [tk1, List.length_nil, tkM1]
    exact Ev.now _
  | x :: r, p, ak, lf, rt => by
    simp only [tk1, List.length_cons, rd_T89, at_getD, tkM1]
    refine LoopK.Ev.bind_ (l12Has_ev rs x.f0 hl) ?_
    have ih := tk1_spec rs hl top now dl r (p ++ [x])
    rw [← at_snoc, len_snoc] at ih
    cases inRg x.f0 rs with
    | false =>
      simp only [Bool.false_eq_true, if_false]
      exact ih _ _ _
    | true =>
      simp only [if_true]
      by_cases ht : x.f0 = top
      · simp only [ht, if_true]
        have ih2 := ih (ak ++ [top]) lf (smp rt.1 rt.2.1 rt.2.2.1 rt.2.2.2.1 rt.2.2.2.2 (wrap64 (now - x.f1)) dl)
        exact LoopK.Ev.bind_ (l12Sample_ev _ _ _ _ _ _ _) ih2
      · simp only [ht, if_false]
        exact ih _ _ _
/-- Packets behind one have higher numbers, and times that are no lower. -/
theorem st_up (x : SN) : ∀ (r : List SN), chk stGood (some x) r = true → ∀ y, y ∈ r → x.f0 < y.f0 ∧ x.f1 ≤ y.f1
  | [], _, y, hy => by cases hy
  | z :: r, h, y, hy => by
    simp only [chk, Bool.and_eq_true, stGood, Bool.not_eq_true', Bool.or_eq_false_iff, decide_eq_false_iff_not, decide_eq_true_eq] at h
    obtain ⟨⟨_, h1, h2⟩, h3⟩ := h
    rcases List.mem_cons.1 hy with rfl | hy
    · omega
    · have := st_up z r h3 y hy
      omega
theorem st_tail (o : Option SN) (x : SN) (r : List SN) (h : chk stGood o (x :: r) = true) : chk stGood (some x) r = true := by
  simp only [chk, Bool.and_eq_true] at h
  exact h.2
theorem st_ok : ∀ (l : List SN) (o : Option SN), chk stGood o l = true → ∀ y, y ∈ l → StOk y
  | [], _, _, y, hy => by cases hy
  | z :: r, o, h, y, hy => by
    rcases List.mem_cons.1 hy with rfl | hy
    · simp only [chk, Bool.and_eq_true, stGood, decide_eq_true_eq] at h
      exact h.1.1
    · exact st_ok r (some z) (st_tail o z r h) y hy
theorem st_last : ∀ (p : List SN) (q : SN) (o : Option SN), chk stGood o (p ++ [q]) = true → ∀ y, y ∈ p ++ [q] → y.f1 ≤ q.f1
  | [], q, _, _, y, hy => by
    rw [List.nil_append, List.mem_singleton] at hy
    rw [hy]
    exact Int.le_refl _
  | z :: r, q, o, h, y, hy => by
    have ht := st_tail o z (r ++ [q]) h
    rw [List.cons_append] at hy
    rcases List.mem_cons.1 hy with rfl | hy
    · exact (st_up y (r ++ [q]) ht q (by simp)).2
    · exact st_last r q (some z) ht y hy
theorem tk1_impl (rs : List RG) (top now dl : Int) (rt0 : RT) (hr : RttOk rt0.1 rt0.2.1 rt0.2.2.1 rt0.2.2.2.1 rt0.2.2.2.2) (hdl : 0 ≤ dl ∧ dl ≤ 1000000000) (hnow : 0 ≤ now ∧ now ≤ 1000000000) : ∀ (r p : List SN) (o : Option SN) (ak : List Int) (lf : List SN) (rt : RT), chk stGood o r = true → (∀ y, y ∈ r → y.f1 ≤ now) → (rt = rt0 ∨ ∀ y, y ∈ r → y.f0 ≠ top) →
    tk1 (fun x => impl_hasNumber.f rs x) (fun _ d => impl_sampled.f rt0.1 rt0.2.1 rt0.2.2.1 rt0.2.2.2.1 rt0.2.2.2.2 d dl) top now (p ++ r) r.length (p.length : Int) ak lf rt = some (tkM1 rs top now dl r ak lf rt)
  | [], p, o, ak, lf, rt, _, _, _ => rfl
  | x :: r, p, o, ak, lf, rt, hc, hn, hm => by
    have ht1 := st_tail o x r hc
    have hx := st_ok (x :: r) o hc x (by simp)
    have hxn := hn x (by simp)
    simp only [tk1, List.length_cons, rd_T89, at_getD, tkM1, hasNumber_eq, Option.bind_some]
    have ih := tk1_impl rs top now dl rt0 hr hdl hnow r (p ++ [x]) (some x)
    rw [← at_snoc, len_snoc] at ih
    have hn' : ∀ y, y ∈ r → y.f1 ≤ now := fun y hy => hn y (by simp [hy])
    have hm' : rt = rt0 ∨ ∀ y, y ∈ r → y.f0 ≠ top := hm.imp id (fun h y hy => h y (by simp [hy]))
    cases inRg x.f0 rs with
    | false =>
      simp only [Bool.false_eq_true, if_false]
      exact ih _ _ _ ht1 hn' hm'
    | true =>
      simp only [if_true]
      by_cases ht : x.f0 = top
      · obtain rfl : rt = rt0 := hm.resolve_right (fun h => h x (by simp) ht)
        have hw : wrap64 (now - x.f1) = now - x.f1 := w64 _ (by have := hx.2.1; omega)
        have hs := sampled_eq rt.1 rt.2.1 rt.2.2.1 rt.2.2.2.1 rt.2.2.2.2 (wrap64 (now - x.f1)) dl hr (by rw [hw]; have := hx.2.1; omega) hdl
        have hno : ∀ y, y ∈ r → y.f0 ≠ top := fun y hy => by have := st_up x r ht1 y hy; omega
        simp only [ht, if_true, hs, Option.bind_some]
        exact ih _ _ _ ht1 hn' (Or.inr hno)
      · simp only [ht, if_false]
        exact ih _ _ _ ht1 hn' hm'
theorem tk2_eq (f : SN → Option Bool) (L : SN → Bool) (h : ∀ x, f x = some (L x)) : ∀ (r p : List SN) (lo : List Int) (ks : List SN), tk2 f (p ++ r) r.length (p.length : Int) lo ks = some (tkM2 L r lo ks)
  | [], p, lo, ks => rfl
  | x :: r, p, lo, ks => by
    have ih := tk2_eq f L h r (p ++ [x])
    rw [← at_snoc, len_snoc] at ih
    simp only [tk2, List.length_cons, rd_T89, at_getD, tkM2, h, Option.bind_some]
    cases L x with
    | false => simp only [Bool.false_eq_true, if_false]; exact ih _ _
    | true => simp only [if_true]; exact ih _ _
/-- How long a packet is waited for. -/
def wtOf (kn : Bool) (la sm : Int) : Int := if kn = true then mx (wrap64 (Int.tdiv (wrap64 (mx sm la * 9)) 8)) 1 else -1
theorem wait_ev (kn : Bool) (la mi sm va : Int) : Ev (fun k => spec_l12Wait.f k kn la mi sm va) (wtOf kn la sm) := by
  unfold spec_l12Wait.f wtOf mx
  cases kn with
  | false =>
    simp only [Bool.false_eq_true, if_false]
    exact Ev.now _
  | true =>
    simp only [if_true]
    have key : ∀ x : Int, Ev (fun k => spec_l12Wait.j0 k x) (if wrap64 (Int.tdiv (wrap64 (x * 9)) 8) < 1 then 1 else wrap64 (Int.tdiv (wrap64 (x * 9)) 8)) := fun x => by
      refine LoopK.Ev.succ ?_
      simp only [spec_l12Wait.j0]
      by_cases h : wrap64 (Int.tdiv (wrap64 (x * 9)) 8) < 1
      · simp only [h, if_true]; exact Ev.now _
      · simp only [h, if_false]; exact Ev.now _
    by_cases h : sm < la
    · have h' : la > sm := h
      simp only [h, h', if_true]
      exact key la
    · have h' : ¬ la > sm := h
      simp only [h, h', if_false]
      exact key sm
theorem isLost_eq (lg : Int) (kn : Bool) (la mi sm va now : Int) (x : SN) : impl_Space_isLost.f lg kn la mi sm va x.f0 x.f1 now = some (lostS lg (wtOf kn la sm) now x) := by
  unfold impl_Space_isLost.f lateOf lostS wtOf impl_Rtt_wait.f
  cases kn with
  | false => simp
  | true =>
    have h : 0 ≤ mx (wrap64 (Int.tdiv (wrap64 (mx sm la * 9)) 8)) 1 := by
      generalize wrap64 (Int.tdiv (wrap64 (mx sm la * 9)) 8) = y
      unfold mx
      split <;> omega
    simp [h]
abbrev TK := Int × List SN × Bool × Int × Int × Int × Int × List Int × List Int × Bool
/-- What TakeAck answers, if it is not refused. -/
def tkV (n : Int) (l : List SN) (rt : RT) (rs : List RG) (now dl : Int) : TK :=
  (mx n (rd_T92 rs 0).f1, (tkM2 (lostS (mx n (rd_T92 rs 0).f1) (wtOf (tkM1 rs (rd_T92 rs 0).f1 now dl l [] [] rt).2.2.1 (tkM1 rs (rd_T92 rs 0).f1 now dl l [] [] rt).2.2.2.1 (tkM1 rs (rd_T92 rs 0).f1 now dl l [] [] rt).2.2.2.2.2.1) now) (tkM1 rs (rd_T92 rs 0).f1 now dl l [] [] rt).2.1 [] []).2,
   (tkM1 rs (rd_T92 rs 0).f1 now dl l [] [] rt).2.2.1, (tkM1 rs (rd_T92 rs 0).f1 now dl l [] [] rt).2.2.2.1, (tkM1 rs (rd_T92 rs 0).f1 now dl l [] [] rt).2.2.2.2.1, (tkM1 rs (rd_T92 rs 0).f1 now dl l [] [] rt).2.2.2.2.2.1, (tkM1 rs (rd_T92 rs 0).f1 now dl l [] [] rt).2.2.2.2.2.2,
   (tkM1 rs (rd_T92 rs 0).f1 now dl l [] [] rt).1, (tkM2 (lostS (mx n (rd_T92 rs 0).f1) (wtOf (tkM1 rs (rd_T92 rs 0).f1 now dl l [] [] rt).2.2.1 (tkM1 rs (rd_T92 rs 0).f1 now dl l [] [] rt).2.2.2.1 (tkM1 rs (rd_T92 rs 0).f1 now dl l [] [] rt).2.2.2.2.2.1) now) (tkM1 rs (rd_T92 rs 0).f1 now dl l [] [] rt).2.1 [] []).1, true)
def tkOk (n : Int) (l : List SN) (b : Bool) (c d e f : Int) (rs : List RG) (now dl : Int) : Bool :=
  spGood n l b c d e f && (rgsGood rs && (!decide ((rs.length : Int) = 0) && (decide (0 ≤ now ∧ now ≤ 1000000000) && (decide (0 ≤ dl ∧ dl ≤ 1000000000) && !tkLate l now))))
def tkF (n : Int) (l : List SN) (b : Bool) (c d e f : Int) (rs : List RG) (now dl : Int) : TK := if tkOk n l b c d e f rs now dl = true then tkV n l (b, c, d, e, f) rs now dl else tkFail
theorem late_cases (n : Int) (l : List SN) (b : Bool) (c d e f now : Int) (hl : l.length ≤ 1048576) (hnow : 0 ≤ now) : ∃ t, spec_l12Last.f n l b c d e f = some t ∧ ((now < t.2.1) ↔ tkLate l now = true) := by
  rcases last_or l with h7 | ⟨p, q, h7⟩
  · refine ⟨(-1, 0, 0), ?_, ?_⟩
    · unfold spec_l12Last.f
      rw [h7]
      rfl
    · subst h7
      simp only [tkLate, List.length_nil, Nat.lt_irrefl, decide_false, Bool.false_and, Bool.false_eq_true, iff_false]
      omega
  · have e0 : (l.length : Int) = (p.length : Int) + 1 := by rw [h7]; simp
    have e2 : (p ++ [q]).getD (p.length : Int).toNat z89 = q := by simp
    have e3 : wrap64 ((l.length : Int) - 1) = (p.length : Int) := by rw [e0]; unfold wrap64; omega
    refine ⟨(q.f0, q.f1, q.f2), ?_, ?_⟩
    · unfold spec_l12Last.f
      have g1 : (l.length : Int) > 0 := by omega
      have g2 : 0 ≤ (p.length : Int) := by omega
      have g3 : (p.length : Int) < (l.length : Int) := by omega
      simp only [g1, if_true, e3, g2, g3, rd_T89]
      rw [h7, e2]
    · have g1 : 0 < l.length := by omega
      have g4 : (l.length : Int) - 1 = (p.length : Int) := by omega
      have e5 : rd_T89 l ((l.length : Int) - 1) = q := by rw [g4]; unfold rd_T89; rw [h7, e2]
      have e6 : tkLate l now = decide (now < q.f1) := by unfold tkLate; rw [e5, decide_eq_true g1, Bool.true_and]
      rw [e6]
      exact decide_eq_true_iff.symm
theorem specTk_ev (n : Int) (l : List SN) (b : Bool) (c d e f : Int) (rs : List RG) (now dl : Int) (hl : l.length ≤ 1048576) (hr : rs.length ≤ 1048576) : Ev (fun k => spec_TakeAck.f k n l b c d e f rs now dl) (tkF n l b c d e f rs now dl) := by
  unfold spec_TakeAck.f tkF
  have c0 : l.length ≤ 4000000 ∧ rs.length ≤ 4611686018427387904 := by omega
  simp only [c0, and_self, if_true]
  have hchk : Ev (fun k => tsChk k n l b c d e f rs now dl) (!tkOk n l b c d e f rs now dl) := by
    unfold tsChk tkOk
    refine LoopK.Ev.bind_ (specSpace_ev n l b c d e f (by omega)) ?_
    cases spGood n l b c d e f with
    | false => simpa using Ev.now true
    | true =>
      simp only [if_true, Bool.true_and]
      refine LoopK.Ev.bind_ (l12Ranges_ev rs (by omega)) ?_
      cases rgsGood rs with
      | false => simpa using Ev.now true
      | true =>
        simp only [if_true, Bool.true_and]
        by_cases h0 : (rs.length : Int) = 0
        · simp only [h0, if_true, decide_true, Bool.not_true, Bool.false_and, Bool.not_false]
          exact Ev.now _
        · simp only [h0, if_false, decide_false, Bool.not_false, Bool.true_and, tick_eq, Option.bind_some]
          by_cases h1 : 0 ≤ now ∧ now ≤ 1000000000
          · obtain ⟨t, ht, hlt⟩ := late_cases n l b c d e f now hl h1.1
            simp only [h1, and_self, decide_true, if_true, Bool.true_and, ht, Option.bind_some]
            by_cases h2 : now < t.2.1
            · simp only [h2, if_true, hlt.1 h2, Bool.not_true, Bool.and_false, Bool.not_false]
              exact Ev.now _
            · have h3 : tkLate l now = false := by
                cases h4 : tkLate l now with
                | false => rfl
                | true => exact absurd (hlt.2 h4) h2
              simp only [h2, if_false, h3, Bool.not_false, Bool.and_true]
              exact Ev.now _
          · simp only [h1, decide_false, Bool.false_eq_true, if_false, Bool.false_and, Bool.not_false]
            exact Ev.now _
  refine LoopK.Ev.bind_ hchk ?_
  cases hq : tkOk n l b c d e f rs now dl with
  | false =>
    simp only [Bool.not_false, if_true, Bool.false_eq_true, if_false]
    exact Ev.now _
  | true =>
    simp only [Bool.not_true, Bool.false_eq_true, if_false, if_true]
    unfold tsMain
    have h1 := tk1_spec rs (by omega) (rd_T92 rs 0).f1 now dl l [] [] [] (b, c, d, e, f)
    simp only [List.nil_append, List.length_nil, Int.natCast_zero] at h1
    refine LoopK.Ev.bind_ h1 ?_
    refine LoopK.Ev.bind_ (wait_ev _ _ _ _ _) ?_
    have h2 := tk2_eq _ (lostS (mx n (rd_T92 rs 0).f1) (wtOf (tkM1 rs (rd_T92 rs 0).f1 now dl l [] [] (b, c, d, e, f)).2.2.1 (tkM1 rs (rd_T92 rs 0).f1 now dl l [] [] (b, c, d, e, f)).2.2.2.1 (tkM1 rs (rd_T92 rs 0).f1 now dl l [] [] (b, c, d, e, f)).2.2.2.2.2.1) now) (fun x => rfl) (tkM1 rs (rd_T92 rs 0).f1 now dl l [] [] (b, c, d, e, f)).2.1 [] [] []
    simp only [List.nil_append, List.length_nil, Int.natCast_zero] at h2
    rw [h2]
    exact Ev.now _
theorem implTk_ev (n : Int) (l : List SN) (b : Bool) (c d e f : Int) (rs : List RG) (now dl : Int) (hl : l.length ≤ 1048576) (hr : rs.length ≤ 1048576) : Ev (fun k => impl_TakeAck.f k n l b c d e f rs now dl) (tkF n l b c d e f rs now dl) := by
  unfold impl_TakeAck.f tkF
  have c0 : l.length ≤ 4000000 ∧ rs.length ≤ 4611686018427387904 := by omega
  simp only [c0, and_self, if_true]
  have hchk : Ev (fun k => tkChk k n l b c d e f rs now dl) (!(spGood n l b c d e f && (rgsGood rs && (!decide ((rs.length : Int) = 0) && (decide (0 ≤ now ∧ now ≤ 1000000000) && decide (0 ≤ dl ∧ dl ≤ 1000000000)))))) := by
    unfold tkChk
    refine LoopK.Ev.bind_ (implSpace_ev n l b c d e f (by omega)) ?_
    cases spGood n l b c d e f with
    | false => simpa using Ev.now true
    | true =>
      simp only [if_true, Bool.true_and]
      refine LoopK.Ev.bind_ (goodRanges_ev rs (by omega)) ?_
      cases rgsGood rs with
      | false => simpa using Ev.now true
      | true =>
        simp only [if_true, Bool.true_and]
        by_cases h0 : (rs.length : Int) = 0
        · simp only [h0, if_true, decide_true, Bool.not_true, Bool.false_and, Bool.not_false]
          exact Ev.now _
        · simp only [h0, if_false, decide_false, Bool.not_false, Bool.true_and, isTick_eq, Option.bind_some]
          by_cases h1 : 0 ≤ now ∧ now ≤ 1000000000
          · simp only [h1, and_self, decide_true, if_true, Bool.true_and]
            exact Ev.now _
          · simp only [h1, decide_false, Bool.false_eq_true, if_false, Bool.false_and, Bool.not_false]
            exact Ev.now _
  refine LoopK.Ev.bind_ hchk ?_
  cases hq : (spGood n l b c d e f && (rgsGood rs && (!decide ((rs.length : Int) = 0) && (decide (0 ≤ now ∧ now ≤ 1000000000) && decide (0 ≤ dl ∧ dl ≤ 1000000000))))) with
  | false =>
    have h3 : tkOk n l b c d e f rs now dl = false := by
      unfold tkOk
      revert hq
      cases spGood n l b c d e f <;> cases rgsGood rs <;> cases decide ((rs.length : Int) = 0) <;> cases decide (0 ≤ now ∧ now ≤ 1000000000) <;> cases decide (0 ≤ dl ∧ dl ≤ 1000000000) <;> simp
    simp only [Bool.not_false, if_true, h3, Bool.false_eq_true, if_false]
    exact Ev.now _
  | true =>
    have h3 : tkOk n l b c d e f rs now dl = !tkLate l now := by
      unfold tkOk
      revert hq
      cases spGood n l b c d e f <;> cases rgsGood rs <;> cases decide ((rs.length : Int) = 0) <;> cases decide (0 ≤ now ∧ now ≤ 1000000000) <;> cases decide (0 ≤ dl ∧ dl ≤ 1000000000) <;> simp
    simp only [Bool.not_true, Bool.false_eq_true, if_false, h3]
    cases hlate : tkLate l now with
    | true =>
      simp only [if_true, Bool.not_true, Bool.false_eq_true, if_false]
      exact Ev.now _
    | false =>
      simp only [Bool.not_false, if_true, Bool.false_eq_true, if_false]
      simp only [Bool.and_eq_true, Bool.not_eq_true', decide_eq_false_iff_not, decide_eq_true_eq] at hq
      obtain ⟨hg, _, _, hnow, hdl⟩ := hq
      unfold spGood spEnd at hg
      simp only [Bool.and_eq_true, decide_eq_true_eq] at hg
      obtain ⟨hck, _, _, hrtt⟩ := hg
      have hn : ∀ y, y ∈ l → y.f1 ≤ now := by
        rcases last_or l with h7 | ⟨p, q, h7⟩
        · intro y hy
          rw [h7] at hy
          cases hy
        · have h8 : ¬ now < q.f1 := by
            intro h9
            have : tkLate l now = true := by
              have e0 : (l.length : Int) = (p.length : Int) + 1 := by rw [h7]; simp
              have e2 : (p ++ [q]).getD (p.length : Int).toNat z89 = q := by simp
              have g1 : 0 < l.length := by omega
              have g4 : (l.length : Int) - 1 = (p.length : Int) := by omega
              have e5 : rd_T89 l ((l.length : Int) - 1) = q := by rw [g4]; unfold rd_T89; rw [h7, e2]
              unfold tkLate
              rw [e5, decide_eq_true g1, Bool.true_and]
              exact decide_eq_true h9
            rw [hlate] at this
            cases this
          intro y hy
          rw [h7] at hy hck
          have := st_last p q none hck y hy
          omega
      unfold tkMain
      have h1 := tk1_impl rs (rd_T92 rs 0).f1 now dl (b, c, d, e, f) hrtt hdl hnow l [] none [] [] (b, c, d, e, f) hck hn (Or.inl rfl)
      simp only [List.nil_append, List.length_nil, Int.natCast_zero] at h1
      rw [h1]
      simp only [Option.bind_some]
      have h2 := tk2_eq (fun x => impl_Space_isLost.f (mx n (rd_T92 rs 0).f1) (tkM1 rs (rd_T92 rs 0).f1 now dl l [] [] (b, c, d, e, f)).2.2.1 (tkM1 rs (rd_T92 rs 0).f1 now dl l [] [] (b, c, d, e, f)).2.2.2.1 (tkM1 rs (rd_T92 rs 0).f1 now dl l [] [] (b, c, d, e, f)).2.2.2.2.1 (tkM1 rs (rd_T92 rs 0).f1 now dl l [] [] (b, c, d, e, f)).2.2.2.2.2.1 (tkM1 rs (rd_T92 rs 0).f1 now dl l [] [] (b, c, d, e, f)).2.2.2.2.2.2 x.f0 x.f1 now) (lostS (mx n (rd_T92 rs 0).f1) (wtOf (tkM1 rs (rd_T92 rs 0).f1 now dl l [] [] (b, c, d, e, f)).2.2.1 (tkM1 rs (rd_T92 rs 0).f1 now dl l [] [] (b, c, d, e, f)).2.2.2.1 (tkM1 rs (rd_T92 rs 0).f1 now dl l [] [] (b, c, d, e, f)).2.2.2.2.2.1) now) (fun x => isLost_eq _ _ _ _ _ _ _ x) (tkM1 rs (rd_T92 rs 0).f1 now dl l [] [] (b, c, d, e, f)).2.1 [] [] []
      simp only [List.nil_append, List.length_nil, Int.natCast_zero] at h2
      rw [h2]
      exact Ev.now _
theorem tkM1_len (rs : List RG) (top now dl : Int) : ∀ (r : List SN) (ak : List Int) (lf : List SN) (rt : RT), (tkM1 rs top now dl r ak lf rt).1.length + (tkM1 rs top now dl r ak lf rt).2.1.length = ak.length + lf.length + r.length
  | [], _, _, _ => by simp [tkM1]
  | x :: r, ak, lf, rt => by
    unfold tkM1
    split
    · split
      · rw [tkM1_len rs top now dl r]; simp; omega
      · rw [tkM1_len rs top now dl r]; simp; omega
    · rw [tkM1_len rs top now dl r]; simp; omega
theorem tkM2_len (L : SN → Bool) : ∀ (r : List SN) (lo : List Int) (ks : List SN), (tkM2 L r lo ks).1.length + (tkM2 L r lo ks).2.length = lo.length + ks.length + r.length
  | [], _, _ => by simp [tkM2]
  | x :: r, lo, ks => by
    unfold tkM2
    split
    · rw [tkM2_len L r]; simp; omega
    · rw [tkM2_len L r]; simp; omega
theorem tkF_len (n : Int) (l : List SN) (b : Bool) (c d e f : Int) (rs : List RG) (now dl : Int) : (tkF n l b c d e f rs now dl).2.1.length ≤ l.length ∧ (tkF n l b c d e f rs now dl).2.2.2.2.2.2.2.1.length ≤ l.length ∧ (tkF n l b c d e f rs now dl).2.2.2.2.2.2.2.2.1.length ≤ l.length := by
  unfold tkF
  split
  · have h1 := tkM1_len rs (rd_T92 rs 0).f1 now dl l [] [] (b, c, d, e, f)
    have h2 := tkM2_len (lostS (mx n (rd_T92 rs 0).f1) (wtOf (tkM1 rs (rd_T92 rs 0).f1 now dl l [] [] (b, c, d, e, f)).2.2.1 (tkM1 rs (rd_T92 rs 0).f1 now dl l [] [] (b, c, d, e, f)).2.2.2.1 (tkM1 rs (rd_T92 rs 0).f1 now dl l [] [] (b, c, d, e, f)).2.2.2.2.2.1) now) (tkM1 rs (rd_T92 rs 0).f1 now dl l [] [] (b, c, d, e, f)).2.1 [] []
    simp only [List.length_nil] at h1 h2
    unfold tkV
    refine ⟨?_, ?_, ?_⟩ <;> (simp only; omega)
  · exact ⟨Nat.zero_le _, Nat.zero_le _, Nat.zero_le _⟩
theorem FnExactTakeAck : SFnExactTakeAck.Pure := by
  intro n l b c d e f rs now dl _ hl _ _ _ _ hrs _ _
  obtain ⟨r, hr, hr1, hr2⟩ := szSentS_some l 1048576 (by omega) (by omega)
  have hsz : laws_szSpace.f n l b c d e f 1048576 = some (if r < 0 then -1 else r) := by
    unfold laws_szSpace.f
    rw [hr]
    simp only [Option.bind_some]
    split <;> rfl
  by_cases h0 : r < 0
  · rw [if_pos h0] at hsz
    exact ⟨0, laws_FnExactTakeAck.of_good (Or.inl ⟨-1, hsz, by omega⟩)⟩
  · rw [if_neg h0] at hsz
    have hl1 := hr2 (by omega)
    have hl2 : l.length ≤ 1048576 := by omega
    obtain ⟨r2, hr3, hr4, hr5⟩ := szRangeS_some rs r (by omega) (by omega)
    by_cases h1 : r2 < 0
    · exact ⟨0, laws_FnExactTakeAck.of_good (Or.inr (Or.inl ⟨_, _, hsz, hr3, by omega, h1⟩))⟩
    have hrl := hr5 (by omega)
    have hrs2 : rs.length ≤ 1048576 := by omega
    have hm : (l.map cvSent).length ≤ 1048576 := by rw [List.length_map]; omega
    have hmr : (rs.map cvRange).length ≤ 1048576 := by rw [List.length_map]; omega
    obtain ⟨k1, g1⟩ := toSpace_ev n l b c d e f hl2
    obtain ⟨k2, g2⟩ := toRangeS_ev rs hrs2
    obtain ⟨k3, g3⟩ := specTk_ev n (l.map cvSent) b c d e f (rs.map cvRange) now dl hm hmr
    obtain ⟨k4, g4⟩ := implTk_ev n (l.map cvSent) b c d e f (rs.map cvRange) now dl hm hmr
    have hw := tkF_len n (l.map cvSent) b c d e f (rs.map cvRange) now dl
    generalize tkF n (l.map cvSent) b c d e f (rs.map cvRange) now dl = v at g3 g4 hw
    obtain ⟨v0, v1, v2, v3, v4, v5, v6, v7, v8, v9⟩ := v
    simp only at hw
    obtain ⟨w1, w2, w3⟩ := hw
    obtain ⟨k5, g5⟩ := eqSpace_ev v0 v1 v2 v3 v4 v5 v6 (by omega)
    obtain ⟨k6, g6⟩ := eqIntS_ev v7 (by omega)
    obtain ⟨k7, g7⟩ := eqIntS_ev v8 (by omega)
    obtain ⟨k8, g8⟩ := eqSpace_ev n (l.map cvSent) b c d e f (by omega)
    obtain ⟨k9, g9⟩ := eqRangeS_ev (rs.map cvRange) (by omega)
    obtain ⟨k10, g10⟩ := markSpace_ev n (l.map cvSent) b c d e f (by omega)
    obtain ⟨k11, g11⟩ := markRangeS_ev (rs.map cvRange) (1 + 3 * ((l.map cvSent).length : Int)) (by omega) (by omega) (by omega)
    obtain ⟨k12, g12⟩ := markSpace_ev v0 v1 v2 v3 v4 v5 v6 (by omega)
    obtain ⟨k13, g13⟩ := markIntS_ev v7 (1 + 3 * (v1.length : Int)) (by omega) (by omega) (by omega)
    obtain ⟨k14, g14⟩ := markIntS_ev v8 (1 + 3 * (v1.length : Int) + 1 * (v7.length : Int)) (by omega) (by omega) (by omega)
    obtain ⟨k15, g15⟩ := heldSpace_ev v0 v1 v2 v3 v4 v5 v6 (by omega)
    obtain ⟨k16, g16⟩ := heldIntS_ev v7 (1 + 3 * (v1.length : Int)) (by omega) (by omega) (by omega)
    obtain ⟨k17, g17⟩ := heldIntS_ev v8 (1 + 3 * (v1.length : Int) + 1 * (v7.length : Int)) (by omega) (by omega) (by omega)
    refine ⟨k1 + k2 + k3 + k4 + k5 + k6 + k7 + k8 + k9 + k10 + k11 + k12 + k13 + k14 + k15 + k16 + k17, laws_FnExactTakeAck.of_good (Or.inr (Or.inr ⟨_, _, _, _, _, _, _, _, _, _, _, _, _, _, _, _, _, _, _, _, _, _, _, _, _, _, _, _, _, _, hsz, hr3, g1 _ (by omega), g2 _ (by omega), g3 _ (by omega), g4 _ (by omega), g5 _ (by omega), g6 _ (by omega), g7 _ (by omega), g8 _ (by omega), g9 _ (by omega), g10 _ (by omega), g11 _ (by omega), g12 _ (by omega), g13 _ (by omega), g14 _ (by omega), g15 _ (by omega), g16 _ (by omega), g17 _ (by omega), by omega, by omega, by omega, by omega, by omega, by omega, by omega⟩))⟩

end Go.Proofs.Ytpdoplkiaejpiaa.Pure
