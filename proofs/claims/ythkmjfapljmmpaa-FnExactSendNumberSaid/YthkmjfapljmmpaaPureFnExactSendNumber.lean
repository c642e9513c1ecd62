/- The pure statement of the law FnExactSendNumber: the program's function and the reference answer alike. -/
import Derived.Test.YthkmjfapljmmpaaSFnExactSendNumber
import Derived.Test.YthkmjfapljmmpaaLoopK
namespace Go.Proofs.Ythkmjfapljmmpaa.Pure
open Go.RowKit Go.Proofs.Ythkmjfapljmmpaa.PFnExactSendNumber Go.Proofs.YthkmjfapljmmpaaW.PrintWords Go.Proofs.YthkmjfapljmmpaaW.PrintLast Go.Proofs.Ythkmjfapljmmpaa.SFnExactSendNumber
set_option linter.unusedVariables false
set_option linter.unusedSimpArgs false

open Go.Proofs.Ythkmjfapljmmpaa.LoopK (copyEv sameEv markEv heldEv foldEv mk mk_length at_lt at_lt' at_nn at_nlt at_stop at_getD at_set at_set2 at_snoc len_snoc at_w w64 firstEv find_any chk last_or at_prev at_prev_lt at_prev_nn at_prev_pos at_prev_w pairEv)

/-- The copy of an element. -/
def cvSent (x : S74) : S83 := ⟨x.f0, x.f1, x.f2⟩

theorem toSentS_ev (l : List S74) (h : l.length ≤ 1048576) : Ev (fun k => laws_toSentS.f k l) (l.map cvSent) := by
  have key := copyEv (fun k xs ys i => laws_toSentS.l0 k xs ys i) cvSent z83 1048576
    (fun xs ys => by
      refine LoopK.Ev.succ ?_
      simp only [laws_toSentS.l0, at_stop, if_false]
      exact Ev.now _)
    (fun p x r q y s res hq hB hs ih => by
      refine LoopK.Ev.succ ?_
      have e1 := at_w p x r (by omega)
      have e2 := at_lt' p q y s hq
      have e3 : (q ++ y :: s).set (p.length : Int).toNat (cvSent x) = q ++ cvSent x :: s := at_set2 p q y _ s hq
      simp only [cvSent] at e3 ih
      simp only [laws_toSentS.l0, at_lt, at_nn, if_true, laws_toSent.f, Option.bind_some, rd_T74, at_getD, e1, e2, e3]
      exact ih) l [] (by simpa using h)
  unfold laws_toSentS.f
  have c1 : 0 ≤ (l.length : Int) := by omega
  have c2 : (l.length : Int).toNat = l.length := by omega
  simp only [c1, if_true, c2]
  have c3 : l.length ≤ 11728124029610 := by omega
  simp only [c3, if_true]
  simpa using key

theorem eqSent_self (x : S83) : laws_eqSent.f x.f0 x.f1 x.f2 x.f0 x.f1 x.f2 = some true := by
  unfold laws_eqSent.f
  simp
theorem eqSentS_ev (l : List S83) (h : l.length ≤ 4611686018427387904) : Ev (fun k => laws_eqSentS.f k l l) true := by
  have key := sameEv (fun k xs ys i => laws_eqSentS.l0 k xs ys i) 4611686018427387904
    (fun xs ys => by
      refine LoopK.Ev.succ ?_
      simp only [laws_eqSentS.l0, at_stop, if_false]
      exact Ev.now _)
    (fun p x r hB ih => by
      refine LoopK.Ev.succ ?_
      have e1 := at_w p x r hB
      simp only [laws_eqSentS.l0, at_lt, at_nn, if_true, eqSent_self, Option.bind_some, rd_T83, at_getD, e1]
      exact ih) l [] (by simpa using h)
  unfold laws_eqSentS.f
  simp only [if_true]
  simpa using key

theorem szSentS_some (l : List S74) (a : Int) (ha : 0 ≤ a ∧ a ≤ 1048576) (h : l.length ≤ 140737488351232) : ∃ r, laws_szSentS.f l a = some r ∧ -1 ≤ r ∧ (0 ≤ r → r = a - l.length) := by
  unfold laws_szSentS.f
  have e : wrap64 (a - (l.length : Int)) = a - (l.length : Int) := w64 _ (by omega)
  rw [e]
  split
  · exact ⟨_, rfl, by omega, fun h => by omega⟩
  · exact ⟨_, rfl, by omega, fun h => rfl⟩

theorem toSpace_ev (a : Int) (l : List S74) (b : Bool) (c d e f : Int) (h : l.length ≤ 1048576) : Ev (fun k => laws_toSpace.f k a l b c d e f) (a, l.map cvSent, b, c, d, e, f) := by
  unfold laws_toSpace.f laws_toRtt.f
  refine LoopK.Ev.bind_ (toSentS_ev l h) ?_
  simp only [Option.bind_some]
  exact Ev.now _
theorem eqSpace_ev (a : Int) (l : List S83) (b : Bool) (c d e f : Int) (h : l.length ≤ 4611686018427387904) : Ev (fun k => laws_eqSpace.f k a l b c d e f a l b c d e f) true := by
  unfold laws_eqSpace.f laws_eqRtt.f
  simp only [if_true]
  refine LoopK.Ev.bind_ (eqSentS_ev l h) ?_
  simp only [if_true, bne_self_eq_false, Bool.false_eq_true, if_false, Option.bind_some]
  exact Ev.now _


/-- An element's marks. -/
noncomputable def markSent (_ : S83) (a : Int) : S83 := ⟨a, a + 1, a + 2⟩
theorem markSentS_ev (l : List S83) (a : Int) (ha : 0 ≤ a) (hl : (l.length : Int) ≤ 1000000000000) (hb : a ≤ 1000000000000) : Ev (fun k => laws_markSentS.f k l a) (a + 3 * (l.length : Int), mk markSent 3 l a) := by
  have key := markEv (fun k xs a i => laws_markSentS.l0 k xs a i) markSent 3 (by omega) 4611686018427387904
    (fun xs a => by
      refine LoopK.Ev.succ ?_
      simp only [laws_markSentS.l0, at_stop, if_false]
      exact Ev.now _)
    (fun p x r a res hB h0 h1 ih => by
      refine LoopK.Ev.succ ?_
      have e1 := at_w p x r hB
      have w0 : wrap64 (a + 1) = a + 1 := by rw [show a + 1 = a + 1 from by omega]; exact w64 _ (by omega)
      have w1 : wrap64 (a + 1 + 1) = a + 2 := by rw [show a + 1 + 1 = a + 2 from by omega]; exact w64 _ (by omega)
      have w2 : wrap64 (a + 2 + 1) = a + 3 := by rw [show a + 2 + 1 = a + 3 from by omega]; exact w64 _ (by omega)
      simp only [laws_markSentS.l0, at_lt, at_nn, if_true, Option.bind_some, rd_T83, at_getD, at_set, e1, w0, w1, w2]

      exact ih) l [] a (by simp; omega) ha (by omega)
  unfold laws_markSentS.f
  simpa using key
theorem heldSentS_ev (l : List S83) (a : Int) (ha : 0 ≤ a) (hl : (l.length : Int) ≤ 1000000000000) (hb : a ≤ 1000000000000) : Ev (fun k => laws_heldSentS.f k (mk markSent 3 l a) a) (a + 3 * (l.length : Int)) := by
  have key := heldEv (fun k xs a i => laws_heldSentS.l0 k xs a i) markSent 3 (by omega) 4611686018427387904
    (fun xs a => by
      refine LoopK.Ev.succ ?_
      simp only [laws_heldSentS.l0, at_stop, if_false]
      exact Ev.now _)
    (fun p x r a res hB h0 h1 ih => by
      refine LoopK.Ev.succ ?_
      have e1 := at_w p (markSent x a) r hB
      have w0 : wrap64 (a + 1) = a + 1 := by rw [show a + 1 = a + 1 from by omega]; exact w64 _ (by omega)
      have w1 : wrap64 (a + 1 + 1) = a + 2 := by rw [show a + 1 + 1 = a + 2 from by omega]; exact w64 _ (by omega)
      have w2 : wrap64 (a + 2 + 1) = a + 3 := by rw [show a + 2 + 1 = a + 3 from by omega]; exact w64 _ (by omega)
      have v0 : (markSent x a).f0 = a := rfl
      have v1 : (markSent x a).f1 = a + 1 := rfl
      have v2 : (markSent x a).f2 = a + 2 := rfl
      simp only [laws_heldSentS.l0, at_lt, at_nn, if_true, rd_T83, at_getD, e1, w0, w1, w2, v0, v1, v2, bne_self_eq_false, Bool.false_eq_true, if_false]

      exact ih) l [] a (by simp; omega) ha (by omega)
  unfold laws_heldSentS.f
  simpa using key

theorem markSpace_ev (a : Int) (l : List S83) (b : Bool) (c d e f : Int) (h : l.length ≤ 1000000000) : Ev (fun k => laws_markSpace.f k a l b c d e f 1) (1 + 3 * (l.length : Int), mk markSent 3 l 1) := by
  unfold laws_markSpace.f
  exact LoopK.Ev.bind_ (markSentS_ev l 1 (by omega) (by omega) (by omega)) (Ev.now _)
theorem heldSpace_ev (a : Int) (l : List S83) (b : Bool) (c d e f : Int) (h : l.length ≤ 1000000000) : Ev (fun k => laws_heldSpace.f k a (mk markSent 3 l 1) b c d e f 1) (1 + 3 * (l.length : Int)) := by
  unfold laws_heldSpace.f
  refine LoopK.Ev.bind_ (heldSentS_ev l 1 (by omega) (by omega) (by omega)) ?_
  have h1 : ¬ (1 + 3 * (l.length : Int) < 0) := by omega
  simp only [h1, if_false]
  exact Ev.now _

theorem l1In_eq (a b c : Int) : spec_l1In.f a b c = some (decide (b ≤ a ∧ a ≤ c)) := by
  unfold spec_l1In.f
  by_cases h : b ≤ a
  · rw [if_pos h]; simp [h]
  · rw [if_neg h]; simp [h]
theorem in_eq (a b c : Int) : impl_in.f a b c = some (decide (b ≤ a ∧ a ≤ c)) := l1In_eq a b c
theorem and_ite (p q : Prop) [Decidable p] [Decidable q] : (if p then some (decide q) else some false) = some (decide (p ∧ q)) := by
  by_cases h : p <;> simp [h]

theorem tick_eq (a : Int) : spec_l12Tick.f a = some (decide (0 ≤ a ∧ a ≤ 1000000000)) := by
  unfold spec_l12Tick.f
  simp only [l1In_eq, Option.bind_some]
theorem isTick_eq (a : Int) : impl_isTick.f a = some (decide (0 ≤ a ∧ a ≤ 1000000000)) := by
  unfold impl_isTick.f
  simp only [in_eq, Option.bind_some]
/-- A right round trip. -/
def RttOk (k : Bool) (a b c d : Int) : Prop := if k = true then (0 ≤ b ∧ b ≤ 1000000000) ∧ (b ≤ a ∧ a ≤ 1000000000) ∧ (0 ≤ c ∧ c ≤ 1000000000) ∧ (0 ≤ d ∧ d ≤ 1000000000) else a = 0 ∧ b = 0 ∧ c = 0 ∧ d = 0
instance (k : Bool) (a b c d : Int) : Decidable (RttOk k a b c d) := by unfold RttOk; infer_instance
theorem l12Rtt_eq (k : Bool) (a b c d : Int) : spec_l12Rtt.f k a b c d = some (decide (RttOk k a b c d)) := by
  unfold spec_l12Rtt.f RttOk
  simp only [tick_eq, l1In_eq, Option.bind_some, decide_eq_true_eq, and_ite]
  cases k
  · simp [Bool.decide_and, Bool.beq_eq_decide_eq]
  · simp
theorem goodRtt_eq (k : Bool) (a b c d : Int) : impl_goodRtt.f k a b c d = some (decide (RttOk k a b c d)) := by
  unfold impl_goodRtt.f RttOk
  simp only [isTick_eq, Option.bind_some, decide_eq_true_eq, and_ite]
  cases k
  · simp [Bool.decide_and, Bool.beq_eq_decide_eq]
  · simp only [if_true, ge_iff_le]
    congr 1
    rw [decide_eq_decide]
    omega

theorem sp_known (a : Int) : spec_l1Known.f a = some (decide (0 ≤ a ∧ a ≤ 4611686018427387903)) := by
  unfold spec_l1Known.f
  simp only [l1In_eq, Option.bind_some]
theorem sp_isVarint (a : Int) : impl_isVarint.f a = some (decide (0 ≤ a ∧ a ≤ 4611686018427387903)) := by
  unfold impl_isVarint.f
  simp only [in_eq, Option.bind_some]
/-- Is a sent packet right? -/
def StOk (x : S83) : Prop := (0 ≤ x.f0 ∧ x.f0 ≤ 4611686018427387903) ∧ (0 ≤ x.f1 ∧ x.f1 ≤ 1000000000) ∧ (0 ≤ x.f2 ∧ x.f2 ≤ 1500)
instance (x : S83) : Decidable (StOk x) := by unfold StOk; infer_instance
theorem sentOk_eq (x : S83) : impl_sentOk.f x.f0 x.f1 x.f2 = some (decide (StOk x)) := by
  unfold impl_sentOk.f StOk
  simp only [sp_isVarint, isTick_eq, in_eq, Option.bind_some, decide_eq_true_eq, and_ite]
/-- Does it fall behind the one before it, too? -/
def stGood (o : Option S83) (x : S83) : Bool :=
  decide (StOk x) && (match o with | none => true | some q => !(decide (q.f0 ≥ x.f0) || decide (q.f1 > x.f1)))
/-- What a space asks besides its packets. -/
def spEnd (n : Int) (b : Bool) (c d e f : Int) (l : List S83) : Bool := decide ((-1 ≤ n ∧ n ≤ 4611686018427387903) ∧ (l.length : Int) ≤ 60 ∧ RttOk b c d e f)
def spGood (n : Int) (l : List S83) (b : Bool) (c d e f : Int) : Bool := chk stGood none l && spEnd n b c d e f l
theorem specSpace_ev (n : Int) (l : List S83) (b : Bool) (c d e f : Int) (hl : l.length ≤ 4611686018427387904) : Ev (fun k => spec_GoodSpace.f k n l b c d e f) (spGood n l b c d e f) := by
  have key := pairEv (fun k xs i => spec_GoodSpace.l0 k xs (xs.length : Int) i n xs b c d e f) stGood (fun _ => True) (spEnd n b c d e f) 4611686018427387904
    (fun xs => by
      refine LoopK.Ev.succ ?_
      simp only [spec_GoodSpace.l0, at_stop, if_false, l1In_eq, l12Rtt_eq, Option.bind_some, decide_eq_true_eq, and_ite]
      exact Ev.now _)
    (fun _ _ _ => trivial)
    (fun p x r hB hI hg => by
      refine LoopK.Ev.succ ?_
      simp only [spec_GoodSpace.l0, at_lt, at_nn, if_true, rd_T83, at_getD, l1In_eq, sp_known, tick_eq, Option.bind_some, decide_eq_true_eq]
      have bad : ∀ n' xs i z s b' c' d' e' f', Ev (fun k => spec_GoodSpace.j1 k xs n' i true z s b' c' d' e' f') false := fun n' xs i z s b' c' d' e' f' => by
        refine LoopK.Ev.succ ?_
        simp only [spec_GoodSpace.j1, if_true]
        exact Ev.now _
      by_cases h1 : 0 ≤ x.f0 ∧ x.f0 ≤ 4611686018427387903
      · simp only [h1, and_self, if_true]
        by_cases h2 : 0 ≤ x.f1 ∧ x.f1 ≤ 1000000000
        · simp only [h2, and_self, if_true]
          by_cases h3 : 0 ≤ x.f2 ∧ x.f2 ≤ 1500
          · simp only [h3, and_self, if_true]
            rcases last_or p with rfl | ⟨p0, q, rfl⟩
            · exfalso
              simp [stGood, StOk, h1, h2, h3] at hg
            · have c0 := at_prev_w p0 q x r hB
              simp only [at_prev_pos, if_true, c0, at_prev_nn, at_prev_lt, at_prev]
              by_cases h4 : q.f0 ≥ x.f0
              · simp only [h4, if_true]
                exact bad _ _ _ _ _ _ _ _ _ _
              · have h5 : q.f1 > x.f1 := by
                  simp [stGood, StOk, h1, h2, h3] at hg
                  omega
                simp only [h4, if_false, h5, decide_true]
                exact bad _ _ _ _ _ _ _ _ _ _
          · simp only [h3, if_false]
            exact bad _ _ _ _ _ _ _ _ _ _
        · simp only [h2, if_false]
          exact bad _ _ _ _ _ _ _ _ _ _
      · simp only [h1, if_false]
        exact bad _ _ _ _ _ _ _ _ _ _)
    (fun p x r b' hB hI hg hn => by
      refine LoopK.Ev.succ ?_
      have hx : StOk x := by
        simp only [stGood, Bool.and_eq_true, decide_eq_true_eq] at hg
        exact hg.1
      obtain ⟨h1, h2, h3⟩ := hx
      have e1 := at_w p x r hB
      simp only [spec_GoodSpace.l0, at_lt, at_nn, if_true, rd_T83, at_getD, l1In_eq, sp_known, tick_eq, Option.bind_some, decide_eq_true_eq, h1, h2, h3, and_self]
      have good : Ev (fun k => spec_GoodSpace.j1 k (p ++ x :: r) ((p ++ x :: r).length : Int) (p.length : Int) false n (p ++ x :: r) b c d e f) b' := by
        refine LoopK.Ev.succ ?_
        simp only [spec_GoodSpace.j1, Bool.false_eq_true, if_false, e1]
        exact hn
      rcases last_or p with rfl | ⟨p0, q, rfl⟩
      · simpa using good
      · have c0 := at_prev_w p0 q x r hB
        have h4 : ¬ (q.f0 ≥ x.f0) ∧ ¬ (q.f1 > x.f1) := by
          simp [stGood, StOk, h1, h2, h3] at hg
          omega
        simp only [at_prev_pos, if_true, c0, at_prev_nn, at_prev_lt, at_prev, h4.1, h4.2, if_false, decide_false]
        exact good) l [] (by simpa using hl) (by simp)
  unfold spec_GoodSpace.f spGood
  simpa using key
theorem implSpace_ev (n : Int) (l : List S83) (b : Bool) (c d e f : Int) (hl : l.length ≤ 4611686018427387904) : Ev (fun k => impl_GoodSpace.f k n l b c d e f) (spGood n l b c d e f) := by
  have key := pairEv (fun k xs i => impl_GoodSpace.l0 k xs (xs.length : Int) i n xs b c d e f) stGood (fun _ => True) (spEnd n b c d e f) 4611686018427387904
    (fun xs => by
      refine LoopK.Ev.succ ?_
      simp only [impl_GoodSpace.l0, at_stop, if_false, in_eq, goodRtt_eq, Option.bind_some, decide_eq_true_eq, and_ite]
      exact Ev.now _)
    (fun _ _ _ => trivial)
    (fun p x r hB hI hg => by
      refine LoopK.Ev.succ ?_
      simp only [impl_GoodSpace.l0, at_lt, at_nn, if_true, rd_T83, at_getD, sentOk_eq, Option.bind_some, decide_eq_true_eq]
      have bad : ∀ n' xs i z s b' c' d' e' f', Ev (fun k => impl_GoodSpace.j1 k xs n' i true z s b' c' d' e' f') false := fun n' xs i z s b' c' d' e' f' => by
        refine LoopK.Ev.succ ?_
        simp only [impl_GoodSpace.j1, if_true]
        exact Ev.now _
      by_cases h1 : StOk x
      · simp only [h1, if_true]
        rcases last_or p with rfl | ⟨p0, q, rfl⟩
        · exfalso
          simp [stGood, h1] at hg
        · have c0 := at_prev_w p0 q x r hB
          simp only [at_prev_pos, if_true, c0, at_prev_nn, at_prev_lt, at_prev]
          by_cases h4 : q.f0 ≥ x.f0
          · simp only [h4, if_true]
            exact bad _ _ _ _ _ _ _ _ _ _
          · have h5 : q.f1 > x.f1 := by
              simp [stGood, h1] at hg
              omega
            simp only [h4, if_false, h5, decide_true]
            exact bad _ _ _ _ _ _ _ _ _ _
      · simp only [h1, if_false]
        exact bad _ _ _ _ _ _ _ _ _ _)
    (fun p x r b' hB hI hg hn => by
      refine LoopK.Ev.succ ?_
      have hx : StOk x := by
        simp only [stGood, Bool.and_eq_true, decide_eq_true_eq] at hg
        exact hg.1
      have e1 := at_w p x r hB
      simp only [impl_GoodSpace.l0, at_lt, at_nn, if_true, rd_T83, at_getD, sentOk_eq, Option.bind_some, decide_eq_true_eq, hx]
      have good : Ev (fun k => impl_GoodSpace.j1 k (p ++ x :: r) ((p ++ x :: r).length : Int) (p.length : Int) false n (p ++ x :: r) b c d e f) b' := by
        refine LoopK.Ev.succ ?_
        simp only [impl_GoodSpace.j1, Bool.false_eq_true, if_false, e1]
        exact hn
      rcases last_or p with rfl | ⟨p0, q, rfl⟩
      · simpa using good
      · have c0 := at_prev_w p0 q x r hB
        have h4 : ¬ (q.f0 ≥ x.f0) ∧ ¬ (q.f1 > x.f1) := by
          simp [stGood, hx] at hg
          omega
        simp only [at_prev_pos, if_true, c0, at_prev_nn, at_prev_lt, at_prev, h4.1, h4.2, if_false, decide_false]
        exact good) l [] (by simpa using hl) (by simp)
  unfold impl_GoodSpace.f spGood
  simpa using key

theorem chk_snoc (x : S83) : ∀ (l : List S83) (o : Option S83), chk stGood o (l ++ [x]) = (chk stGood o l && stGood (if l = [] then o else l.getLast?) x) := by
  intro l
  induction l with
  | nil => intro o; simp [chk]
  | cons y r ih =>
    intro o
    rw [List.cons_append]
    simp only [chk, ih (some y), Bool.and_assoc]
    congr 2
    cases r with
    | nil => simp
    | cons z s => simp
theorem at_last (p : List S83) (q z : S83) (h : (p ++ [q]).length ≤ 1048576) : wrap64 (((p ++ [q]).length : Int) - 1) = (p.length : Int) ∧ (p ++ [q]).getD (p.length : Int).toNat z = q ∧ (p.length : Int) < ((p ++ [q]).length : Int) ∧ ((p ++ [q]).length : Int) > 0 ∧ 0 ≤ (p.length : Int) := by
  have e : ((p ++ [q]).length : Int) = (p.length : Int) + 1 := by simp
  refine ⟨?_, by simp, by omega, by omega, by omega⟩
  rw [e]
  have h2 : p.length ≤ 1048576 := by have := h; simp at this; omega
  rw [show (p.length : Int) + 1 - 1 = (p.length : Int) by omega]
  exact w64 _ (by omega)
abbrev SendV := Int × (List S83) × Bool × Int × Int × Int × Int × Bool
def sendNo : SendV := (0, [], false, 0, 0, 0, 0, false)
/-- May the packet be sent behind those that are there? -/
def sendOk (n : Int) (l : List S83) (b : Bool) (c d e f : Int) (x : S83) : Bool := spGood n l b c d e f && decide ((l.length : Int) < 60) && decide (n < x.f0) && stGood l.getLast? x
def sendF (n : Int) (l : List S83) (b : Bool) (c d e f : Int) (x : S83) : SendV := if sendOk n l b c d e f x = true then (n, l ++ [x], b, c, d, e, f, true) else sendNo
theorem spGood_len {n : Int} {l : List S83} {b : Bool} {c d e f : Int} (h : spGood n l b c d e f = true) : (l.length : Int) ≤ 60 := by
  simp only [spGood, spEnd, Bool.and_eq_true, decide_eq_true_eq] at h
  exact h.2.2.1
theorem spGood_snoc {n : Int} {l : List S83} {b : Bool} {c d e f : Int} (x : S83) (h : spGood n l b c d e f = true) (hl : (l.length : Int) < 60) : spGood n (l ++ [x]) b c d e f = stGood l.getLast? x := by
  have e1 : (if l = [] then none else l.getLast?) = l.getLast? := by
    split
    · rename_i h1; subst h1; rfl
    · rfl
  simp only [spGood, spEnd, Bool.and_eq_true, decide_eq_true_eq] at h
  obtain ⟨h1, h2, h3, h4⟩ := h
  simp only [spGood, spEnd, chk_snoc, h1, Bool.true_and, e1]
  have h5 : ((l ++ [x]).length : Int) ≤ 60 := by simp; omega
  have h6 : decide ((-1 ≤ n ∧ n ≤ 4611686018427387903) ∧ ((l ++ [x]).length : Int) ≤ 60 ∧ RttOk b c d e f) = true := decide_eq_true ⟨h2, h5, h4⟩
  rw [h6, Bool.and_true]
theorem specSend_ev (n : Int) (l : List S83) (b : Bool) (c d e f : Int) (x0 x1 x2 : Int) (hl : l.length ≤ 1048576) : Ev (fun k => spec_SendNumber.f k n l b c d e f x0 x1 x2) (sendF n l b c d e f ⟨x0, x1, x2⟩) := by
  have no : Ev (fun k => spec_SendNumber.j0 k true n l b c d e f x0 x1 x2) sendNo := by
    refine LoopK.Ev.succ ?_
    simp only [spec_SendNumber.j0, if_true]
    exact Ev.now _
  have yes : spGood n l b c d e f = true → (l.length : Int) < 60 → Ev (fun k => spec_SendNumber.j0 k false n l b c d e f x0 x1 x2) (if stGood l.getLast? ⟨x0, x1, x2⟩ = true then (n, l ++ [(⟨x0, x1, x2⟩ : S83)], b, c, d, e, f, true) else sendNo) := by
    intro hg hn
    refine LoopK.Ev.succ ?_
    have c1 : ([] : List S83).length + l.length < 5864062014805 := by simp; omega
    have c2 : l.length + [(⟨x0, x1, x2⟩ : S83)].length < 5864062014805 := by simp; omega
    simp only [spec_SendNumber.j0, Bool.false_eq_true, if_false, Option.bind_some, c1, if_true, List.nil_append, c2]
    refine LoopK.Ev.bind_ (specSpace_ev n (l ++ [⟨x0, x1, x2⟩]) b c d e f (by simp; omega)) ?_
    rw [spGood_snoc _ hg hn]
    refine LoopK.Ev.eq_ fun _ => ?_
    split <;> rfl
  unfold spec_SendNumber.f
  have body : ∀ y : Int × Int × Int, (∀ q, l.getLast? = some q → y = (q.f0, q.f1, q.f2)) → (l = [] → y = (-1, 0, 0)) → Ev (fun k => (spec_GoodSpace.f k n l b c d e f).bind fun t130 => (if t130 = true then (if (l.length : Int) = 60 then (spec_SendNumber.j0 k true n l b c d e f x0 x1 x2) else (if x0 ≤ y.1 then (spec_SendNumber.j0 k true n l b c d e f x0 x1 x2) else (if x0 ≤ n then (spec_SendNumber.j0 k true n l b c d e f x0 x1 x2) else (spec_SendNumber.j0 k (decide (x1 < y.2.1)) n l b c d e f x0 x1 x2)))) else (spec_SendNumber.j0 k true n l b c d e f x0 x1 x2))) (sendF n l b c d e f ⟨x0, x1, x2⟩) := by
    intro y hy hy0
    refine LoopK.Ev.bind_ (specSpace_ev n l b c d e f (by omega)) ?_
    unfold sendF sendOk
    by_cases hg : spGood n l b c d e f = true
    · have hn := spGood_len hg
      simp only [hg, if_true, Bool.true_and]
      by_cases h1 : (l.length : Int) = 60
      · have h2 : ¬ ((l.length : Int) < 60) := by omega
        simp only [h1, if_true, show ¬ ((60 : Int) < 60) by omega, decide_false, Bool.false_and, Bool.false_eq_true, if_false]
        exact no
      · have h2 : (l.length : Int) < 60 := by omega
        simp only [h1, if_false, h2, decide_true, Bool.true_and]
        by_cases h3 : x0 ≤ n
        · have h4 : ¬ (n < x0) := by omega
          simp only [h3, if_true, h4, decide_false, Bool.false_and, Bool.false_eq_true, if_false]
          split <;> exact no
        · have h4 : n < x0 := by omega
          simp only [h3, if_false, h4, decide_true, Bool.true_and]
          by_cases h5 : x0 ≤ y.1 ∨ x1 < y.2.1
          · have h6 : stGood l.getLast? (⟨x0, x1, x2⟩ : S83) = false := by
              rcases last_or l with h7 | ⟨p, q, h7⟩
              · have h8 := hy0 h7
                subst h7
                rw [h8] at h5
                simp only at h5
                have hno : ¬ StOk (⟨x0, x1, x2⟩ : S83) := by
                  rintro ⟨⟨h9, _⟩, ⟨h10, _⟩, _⟩
                  simp only at h9 h10
                  omega
                simp [stGood, hno]
              · have h8 : l.getLast? = some q := by rw [h7]; simp
                have h9 := hy q h8
                rw [h9] at h5
                rw [h8]
                simp only [stGood, StOk]
                simp only at h5
                rcases h5 with h5 | h5
                · simp; intros; omega
                · simp; intros; omega
            rw [h6]
            simp only [Bool.false_eq_true, if_false]
            by_cases h7 : x0 ≤ y.1
            · simp only [h7, if_true]
              exact no
            · have h8 : x1 < y.2.1 := by omega
              simp only [h7, if_false, h8, decide_true]
              exact no
          · have h7 : ¬ (x0 ≤ y.1) := fun h => h5 (Or.inl h)
            have h8 : ¬ (x1 < y.2.1) := fun h => h5 (Or.inr h)
            simp only [h7, if_false, h8, decide_false]
            exact yes hg h2
    · simp only [Bool.not_eq_true] at hg
      simp only [hg, Bool.false_eq_true, if_false, Bool.false_and]
      exact no
  rcases last_or l with h7 | ⟨p, q, h7⟩
  · have e : spec_l12Last.f n l b c d e f = some (-1, 0, 0) := by
      unfold spec_l12Last.f
      rw [h7]
      rfl
    rw [e]
    simp only [Option.bind_some]
    exact body (-1, 0, 0) (fun q hq => by rw [h7] at hq; simp at hq) (fun _ => rfl)
  · have e : spec_l12Last.f n l b c d e f = some (q.f0, q.f1, q.f2) := by
      unfold spec_l12Last.f
      obtain ⟨e1, e2, e3, e4, e5⟩ := at_last p q z83 (by rw [← h7]; exact hl)
      rw [h7]
      simp only [e4, if_true, e1, e5, e3, rd_T83, e2]
    rw [e]
    simp only [Option.bind_some]
    exact body (q.f0, q.f1, q.f2) (fun q' hq => by rw [h7] at hq; simp at hq; rw [hq]) (fun h8 => by rw [h8] at h7; simp at h7)
theorem implSend_ev (n : Int) (l : List S83) (b : Bool) (c d e f : Int) (x0 x1 x2 : Int) (hl : l.length ≤ 1048576) : Ev (fun k => impl_SendNumber.f k n l b c d e f x0 x1 x2) (sendF n l b c d e f ⟨x0, x1, x2⟩) := by
  have no : Ev (fun k => impl_SendNumber.j0 k true n l b c d e f x0 x1 x2) sendNo := by
    refine LoopK.Ev.succ ?_
    simp only [impl_SendNumber.j0, if_true]
    exact Ev.now _
  have no1 : Ev (fun k => impl_SendNumber.j1 k true n l b c d e f x0 x1 x2) sendNo := by
    refine LoopK.Ev.succ ?_
    simp only [impl_SendNumber.j1, if_true]
    exact Ev.now _
  have yes1 : Ev (fun k => impl_SendNumber.j1 k false n l b c d e f x0 x1 x2) (n, l ++ [(⟨x0, x1, x2⟩ : S83)], b, c, d, e, f, true) := by
    refine LoopK.Ev.succ ?_
    have c2 : l.length + [(⟨x0, x1, x2⟩ : S83)].length < 5864062014805 := by simp; omega
    have c3 : impl_Sent.f l = some l := by unfold impl_Sent.f; rw [if_pos (by omega)]
    simp only [impl_SendNumber.j1, Bool.false_eq_true, if_false, Option.bind_some, c3, if_true, c2]
    exact Ev.now _
  unfold impl_SendNumber.f
  refine LoopK.Ev.bind_ (implSpace_ev n l b c d e f (by omega)) ?_
  unfold sendF sendOk
  by_cases hg : spGood n l b c d e f = true
  · have hn := spGood_len hg
    simp only [hg, if_true, Bool.true_and]
    by_cases h1 : (l.length : Int) ≥ 60
    · have h2 : ¬ ((l.length : Int) < 60) := by omega
      simp only [h1, if_true, h2, decide_false, Bool.false_and, Bool.false_eq_true, if_false]
      exact no
    · have h2 : (l.length : Int) < 60 := by omega
      have hs := sentOk_eq (⟨x0, x1, x2⟩ : S83)
      simp only at hs
      simp only [h1, if_false, h2, decide_true, Bool.true_and, hs, Option.bind_some, decide_eq_true_eq]
      by_cases h3 : StOk (⟨x0, x1, x2⟩ : S83)
      · simp only [h3, if_true]
        by_cases h4 : x0 ≤ n
        · have h5 : ¬ (n < x0) := by omega
          simp only [h4, decide_true, h5, decide_false, Bool.false_and, Bool.false_eq_true, if_false]
          exact no
        · have h5 : n < x0 := by omega
          simp only [h4, decide_false, h5, decide_true, Bool.true_and]
          refine LoopK.Ev.succ ?_
          simp only [impl_SendNumber.j0, Bool.false_eq_true, if_false]
          rcases last_or l with h7 | ⟨p, q, h7⟩
          · have h8 : ¬ ((l.length : Int) > 0) := by rw [h7]; simp
            have h9 : stGood l.getLast? (⟨x0, x1, x2⟩ : S83) = true := by rw [h7]; simp [stGood, h3]
            simp only [h8, if_false, h9, if_true]
            exact yes1
          · obtain ⟨e1, e2, e3, e4, e5⟩ := at_last p q z83 (by rw [← h7]; exact hl)
            have h8 : l.getLast? = some q := by rw [h7]; simp
            rw [← h7] at e1 e2 e3 e4
            simp only [e4, if_true, e1, e5, e3, rd_T83, e2, h8, stGood, h3, decide_true, Bool.true_and]
            by_cases h9 : q.f0 ≥ x0
            · simp only [h9, if_true, decide_true, Bool.true_or, Bool.not_true, Bool.false_eq_true, if_false]
              exact no1
            · by_cases h10 : q.f1 > x1
              · simp only [h9, if_false, h10, decide_true, decide_false, Bool.or_true, Bool.not_true, Bool.false_eq_true]
                exact no1
              · simp only [h9, if_false, h10, decide_false, Bool.or_false, Bool.not_false, if_true]
                exact yes1
      · have h4 : stGood l.getLast? (⟨x0, x1, x2⟩ : S83) = false := by simp [stGood, h3]
        simp only [h3, if_false, h4, Bool.and_false, Bool.false_eq_true]
        exact no
  · simp only [Bool.not_eq_true] at hg
    simp only [hg, Bool.false_eq_true, if_false, Bool.false_and]
    exact no
theorem sendF_len (n : Int) (l : List S83) (b : Bool) (c d e f : Int) (x : S83) : (sendF n l b c d e f x).2.1.length ≤ l.length + 1 := by
  unfold sendF sendNo
  split <;> simp
theorem FnExactSendNumber : SFnExactSendNumber.Pure := by
  intro n l b c d e f x0 x1 x2 _ hl _ _ _ _ _ _ _
  obtain ⟨r, hr, hr1, hr2⟩ := szSentS_some l 1048576 (by omega) (by omega)
  have hsz : laws_szSpace.f n l b c d e f 1048576 = some (if r < 0 then -1 else r) := by
    unfold laws_szSpace.f
    rw [hr]
    simp only [Option.bind_some]
    split <;> rfl
  by_cases h0 : r < 0
  · rw [if_pos h0] at hsz
    exact ⟨0, laws_FnExactSendNumber.of_good (Or.inl ⟨-1, hsz, by omega⟩)⟩
  · rw [if_neg h0] at hsz
    have hl2 : l.length ≤ 1048576 := by have := hr2 (by omega); omega
    have hm : (l.map cvSent).length ≤ 1048576 := by rw [List.length_map]; omega
    obtain ⟨k1, h1⟩ := toSpace_ev n l b c d e f hl2
    obtain ⟨k2, h2⟩ := specSend_ev n (l.map cvSent) b c d e f x0 x1 x2 hm
    obtain ⟨k3, h3⟩ := implSend_ev n (l.map cvSent) b c d e f x0 x1 x2 hm
    have hw := sendF_len n (l.map cvSent) b c d e f ⟨x0, x1, x2⟩
    generalize sendF n (l.map cvSent) b c d e f ⟨x0, x1, x2⟩ = v at h2 h3 hw
    obtain ⟨v0, v1, v2, v3, v4, v5, v6, v7⟩ := v
    simp only at hw
    obtain ⟨k4, h4⟩ := eqSpace_ev v0 v1 v2 v3 v4 v5 v6 (by omega)
    obtain ⟨k5, h5⟩ := eqSpace_ev n (l.map cvSent) b c d e f (by omega)
    obtain ⟨k6, h6⟩ := markSpace_ev n (l.map cvSent) b c d e f (by omega)
    obtain ⟨k7, h7⟩ := markSpace_ev v0 v1 v2 v3 v4 v5 v6 (by omega)
    obtain ⟨k8, h8⟩ := heldSpace_ev v0 v1 v2 v3 v4 v5 v6 (by omega)
    refine ⟨k1 + k2 + k3 + k4 + k5 + k6 + k7 + k8, laws_FnExactSendNumber.of_good (Or.inr ⟨_, _, _, _, _, _, _, _, _, _, _, _, _, _, _, _, _, _, _, _, _, _, _, hsz, h1 _ (by omega), rfl, h2 _ (by omega), h3 _ (by omega), h4 _ (by omega), h5 _ (by omega), h6 _ (by omega), h7 _ (by omega), h8 _ (by omega), by omega, by omega, by omega⟩)⟩

end Go.Proofs.Ythkmjfapljmmpaa.Pure
