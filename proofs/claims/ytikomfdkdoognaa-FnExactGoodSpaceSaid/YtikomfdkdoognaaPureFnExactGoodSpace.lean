/- The pure statement of the law FnExactGoodSpace: the program's function and the reference answer alike. -/
import Derived.Test.YtikomfdkdoognaaSFnExactGoodSpace
import Derived.Test.YtikomfdkdoognaaLoopK
namespace Go.Proofs.Ytikomfdkdoognaa.Pure
open Go.RowKit Go.Proofs.Ytikomfdkdoognaa.PFnExactGoodSpace Go.Proofs.YtikomfdkdoognaaW.PrintWords Go.Proofs.YtikomfdkdoognaaW.PrintLast Go.Proofs.Ytikomfdkdoognaa.SFnExactGoodSpace
set_option linter.unusedVariables false
set_option linter.unusedSimpArgs false

open Go.Proofs.Ytikomfdkdoognaa.LoopK (copyEv sameEv markEv heldEv foldEv mk mk_length at_lt at_lt' at_nn at_nlt at_stop at_getD at_set at_set2 at_snoc len_snoc at_w w64 firstEv find_any chk last_or at_prev at_prev_lt at_prev_nn at_prev_pos at_prev_w pairEv)

/-- The copy of an element. -/
def cvSent (x : S139) : S123 := ⟨x.f0, x.f1, x.f2⟩

theorem toSentS_ev (l : List S139) (h : l.length ≤ 1048576) : Ev (fun k => laws_toSentS.f k l) (l.map cvSent) := by
  have key := copyEv (fun k xs ys i => laws_toSentS.l0 k xs ys i) cvSent z123 1048576
    (fun xs ys => by
      refine LoopK.Ev.succ ?_
      simp only [laws_toSentS.l0, at_stop, if_false]
      exact Ev.now _)
    (fun p x r q y s res hq hB hs ih => by
      refine LoopK.Ev.succ ?_
      have e1 := at_w p x r (by omega)
      have e2 := at_lt' p q y s hq
      have e3 : (q ++ y :: s).set (p.length : Int).toNat (cvSent x) = q ++ cvSent x :: s := at_set2 p q y _ s hq
      simp only [cvSent] at e3 ih
      simp only [laws_toSentS.l0, at_lt, at_nn, if_true, laws_toSent.f, Option.bind_some, rd_T139, at_getD, e1, e2, e3]
      exact ih) l [] (by simpa using h)
  unfold laws_toSentS.f
  have c1 : 0 ≤ (l.length : Int) := by omega
  have c2 : (l.length : Int).toNat = l.length := by omega
  simp only [c1, if_true, c2]
  have c3 : l.length ≤ 11728124029610 := by omega
  simp only [c3, if_true]
  simpa using key

theorem eqSent_self (x : S123) : laws_eqSent.f x.f0 x.f1 x.f2 x.f0 x.f1 x.f2 = some true := by
  unfold laws_eqSent.f
  simp
theorem eqSentS_ev (l : List S123) (h : l.length ≤ 4611686018427387904) : Ev (fun k => laws_eqSentS.f k l l) true := by
  have key := sameEv (fun k xs ys i => laws_eqSentS.l0 k xs ys i) 4611686018427387904
    (fun xs ys => by
      refine LoopK.Ev.succ ?_
      simp only [laws_eqSentS.l0, at_stop, if_false]
      exact Ev.now _)
    (fun p x r hB ih => by
      refine LoopK.Ev.succ ?_
      have e1 := at_w p x r hB
      simp only [laws_eqSentS.l0, at_lt, at_nn, if_true, eqSent_self, Option.bind_some, rd_T123, at_getD, e1]
      exact ih) l [] (by simpa using h)
  unfold laws_eqSentS.f
  simp only [if_true]
  simpa using key

theorem szSentS_some (l : List S139) (a : Int) (ha : 0 ≤ a ∧ a ≤ 1048576) (h : l.length ≤ 140737488351232) : ∃ r, laws_szSentS.f l a = some r ∧ -1 ≤ r ∧ (0 ≤ r → r = a - l.length) := by
  unfold laws_szSentS.f
  have e : wrap64 (a - (l.length : Int)) = a - (l.length : Int) := w64 _ (by omega)
  rw [e]
  split
  · exact ⟨_, rfl, by omega, fun h => by omega⟩
  · exact ⟨_, rfl, by omega, fun h => rfl⟩

theorem toSpace_ev (a : Int) (l : List S139) (b : Bool) (c d e f : Int) (h : l.length ≤ 1048576) : Ev (fun k => laws_toSpace.f k a l b c d e f) (a, l.map cvSent, b, c, d, e, f) := by
  unfold laws_toSpace.f laws_toRtt.f
  refine LoopK.Ev.bind_ (toSentS_ev l h) ?_
  simp only [Option.bind_some]
  exact Ev.now _
theorem eqSpace_ev (a : Int) (l : List S123) (b : Bool) (c d e f : Int) (h : l.length ≤ 4611686018427387904) : Ev (fun k => laws_eqSpace.f k a l b c d e f a l b c d e f) true := by
  unfold laws_eqSpace.f laws_eqRtt.f
  simp only [if_true]
  refine LoopK.Ev.bind_ (eqSentS_ev l h) ?_
  simp only [if_true, bne_self_eq_false, Bool.false_eq_true, if_false, Option.bind_some]
  exact Ev.now _

theorem l1In_eq (a b c : Int) : spec_l1In.f a b c = some (decide (b ≤ a ∧ a ≤ c)) := by
  unfold spec_l1In.f
  by_cases h : b ≤ a
  · rw [if_pos h]; simp [h]
  · rw [if_neg h]; simp [h]
theorem in_eq (a b c : Int) : impl_in.f a b c = some (decide (b ≤ a ∧ a ≤ c)) := l1In_eq a b c
theorem and_ite (p q : Prop) [Decidable p] [Decidable q] : (if p then some (decide q) else some false) = some (decide (p ∧ q)) := by
  by_cases h : p <;> simp [h]

theorem tick_eq (a : Int) : spec_l12Tick.f a = some (decide (0 ≤ a ∧ a ≤ 1000000000)) := by
  unfold spec_l12Tick.f
  simp only [l1In_eq, Option.bind_some]
theorem isTick_eq (a : Int) : impl_isTick.f a = some (decide (0 ≤ a ∧ a ≤ 1000000000)) := by
  unfold impl_isTick.f
  simp only [in_eq, Option.bind_some]
/-- A right round trip. -/
def RttOk (k : Bool) (a b c d : Int) : Prop := if k = true then (0 ≤ b ∧ b ≤ 1000000000) ∧ (b ≤ a ∧ a ≤ 1000000000) ∧ (0 ≤ c ∧ c ≤ 1000000000) ∧ (0 ≤ d ∧ d ≤ 1000000000) else a = 0 ∧ b = 0 ∧ c = 0 ∧ d = 0
instance (k : Bool) (a b c d : Int) : Decidable (RttOk k a b c d) := by unfold RttOk; infer_instance
theorem l12Rtt_eq (k : Bool) (a b c d : Int) : spec_l12Rtt.f k a b c d = some (decide (RttOk k a b c d)) := by
  unfold spec_l12Rtt.f RttOk
  simp only [tick_eq, l1In_eq, Option.bind_some, decide_eq_true_eq, and_ite]
  cases k
  · simp [Bool.decide_and, Bool.beq_eq_decide_eq]
  · simp
theorem goodRtt_eq (k : Bool) (a b c d : Int) : impl_goodRtt.f k a b c d = some (decide (RttOk k a b c d)) := by
  unfold impl_goodRtt.f RttOk
  simp only [isTick_eq, Option.bind_some, decide_eq_true_eq, and_ite]
  cases k
  · simp [Bool.decide_and, Bool.beq_eq_decide_eq]
  · simp only [if_true, ge_iff_le]
    congr 1
    rw [decide_eq_decide]
    omega

theorem sp_known (a : Int) : spec_l1Known.f a = some (decide (0 ≤ a ∧ a ≤ 4611686018427387903)) := by
  unfold spec_l1Known.f
  simp only [l1In_eq, Option.bind_some]
theorem sp_isVarint (a : Int) : impl_isVarint.f a = some (decide (0 ≤ a ∧ a ≤ 4611686018427387903)) := by
  unfold impl_isVarint.f
  simp only [in_eq, Option.bind_some]
/-- Is a sent packet right? -/
def StOk (x : S123) : Prop := (0 ≤ x.f0 ∧ x.f0 ≤ 4611686018427387903) ∧ (0 ≤ x.f1 ∧ x.f1 ≤ 1000000000) ∧ (0 ≤ x.f2 ∧ x.f2 ≤ 1500)
instance (x : S123) : Decidable (StOk x) := by unfold StOk; infer_instance
theorem sentOk_eq (x : S123) : impl_sentOk.f x.f0 x.f1 x.f2 = some (decide (StOk x)) := by
  unfold impl_sentOk.f StOk
  simp only [sp_isVarint, isTick_eq, in_eq, Option.bind_some, decide_eq_true_eq, and_ite]
/-- Does it fall behind the one before it, too? -/
def stGood (o : Option S123) (x : S123) : Bool :=
  decide (StOk x) && (match o with | none => true | some q => !(decide (q.f0 ≥ x.f0) || decide (q.f1 > x.f1)))
/-- What a space asks besides its packets. -/
def spEnd (n : Int) (b : Bool) (c d e f : Int) (l : List S123) : Bool := decide ((-1 ≤ n ∧ n ≤ 4611686018427387903) ∧ (l.length : Int) ≤ 60 ∧ RttOk b c d e f)
def spGood (n : Int) (l : List S123) (b : Bool) (c d e f : Int) : Bool := chk stGood none l && spEnd n b c d e f l
theorem specSpace_ev (n : Int) (l : List S123) (b : Bool) (c d e f : Int) (hl : l.length ≤ 4611686018427387904) : Ev (fun k => spec_GoodSpace.f k n l b c d e f) (spGood n l b c d e f) := by
  have key := pairEv (fun k xs i => spec_GoodSpace.l0 k xs (xs.length : Int) i n xs b c d e f) stGood (fun _ => True) (spEnd n b c d e f) 4611686018427387904
    (fun xs => by
      refine LoopK.Ev.succ ?_
      simp only [spec_GoodSpace.l0, at_stop, if_false, l1In_eq, l12Rtt_eq, Option.bind_some, decide_eq_true_eq, and_ite]
      exact Ev.now _)
    (fun _ _ _ => trivial)
    (fun p x r hB hI hg => by
      refine LoopK.Ev.succ ?_
      simp only [spec_GoodSpace.l0, at_lt, at_nn, if_true, rd_T123, at_getD, l1In_eq, sp_known, tick_eq, Option.bind_some, decide_eq_true_eq]
      have bad : ∀ n' xs i z s b' c' d' e' f', Ev (fun k => spec_GoodSpace.j1 k xs n' i true z s b' c' d' e' f') false := fun n' xs i z s b' c' d' e' f' => by
        refine LoopK.Ev.succ ?_
        simp only [spec_GoodSpace.j1, if_true]
        exact Ev.now _
      by_cases h1 : 0 ≤ x.f0 ∧ x.f0 ≤ 4611686018427387903
      · simp only [h1, and_self, if_true]
        by_cases h2 : 0 ≤ x.f1 ∧ x.f1 ≤ 1000000000
        · simp only [h2, and_self, if_true]
          by_cases h3 : 0 ≤ x.f2 ∧ x.f2 ≤ 1500
          · simp only [h3, and_self, if_true]
            rcases last_or p with rfl | ⟨p0, q, rfl⟩
            · exfalso
              simp [stGood, StOk, h1, h2, h3] at hg
            · have c0 := at_prev_w p0 q x r hB
              simp only [at_prev_pos, if_true, c0, at_prev_nn, at_prev_lt, at_prev]
              by_cases h4 : q.f0 ≥ x.f0
              · simp only [h4, if_true]
                exact bad _ _ _ _ _ _ _ _ _ _
              · have h5 : q.f1 > x.f1 := by
                  simp [stGood, StOk, h1, h2, h3] at hg
                  omega
                simp only [h4, if_false, h5, decide_true]
                exact bad _ _ _ _ _ _ _ _ _ _
          · simp only [h3, if_false]
            exact bad _ _ _ _ _ _ _ _ _ _
        · simp only [h2, if_false]
          exact bad _ _ _ _ _ _ _ _ _ _
      · simp only [h1, if_false]
        exact bad _ _ _ _ _ _ _ _ _ _)
    (fun p x r b' hB hI hg hn => by
      refine LoopK.Ev.succ ?_
      have hx : StOk x := by
        simp only [stGood, Bool.and_eq_true, decide_eq_true_eq] at hg
        exact hg.1
      obtain ⟨h1, h2, h3⟩ := hx
      have e1 := at_w p x r hB
      simp only [spec_GoodSpace.l0, at_lt, at_nn, if_true, rd_T123, at_getD, l1In_eq, sp_known, tick_eq, Option.bind_some, decide_eq_true_eq, h1, h2, h3, and_self]
      have good : Ev (fun k => spec_GoodSpace.j1 k (p ++ x :: r) ((p ++ x :: r).length : Int) (p.length : Int) false n (p ++ x :: r) b c d e f) b' := by
        refine LoopK.Ev.succ ?_
        simp only [spec_GoodSpace.j1, Bool.false_eq_true, if_false, e1]
        exact hn
      rcases last_or p with rfl | ⟨p0, q, rfl⟩
      · simpa using good
      · have c0 := at_prev_w p0 q x r hB
        have h4 : ¬ (q.f0 ≥ x.f0) ∧ ¬ (q.f1 > x.f1) := by
          simp [stGood, StOk, h1, h2, h3] at hg
          omega
        simp only [at_prev_pos, if_true, c0, at_prev_nn, at_prev_lt, at_prev, h4.1, h4.2, if_false, decide_false]
        exact good) l [] (by simpa using hl) (by simp)
  unfold spec_GoodSpace.f spGood
  simpa using key
theorem implSpace_ev (n : Int) (l : List S123) (b : Bool) (c d e f : Int) (hl : l.length ≤ 4611686018427387904) : Ev (fun k => impl_GoodSpace.f k n l b c d e f) (spGood n l b c d e f) := by
  have key := pairEv (fun k xs i => impl_GoodSpace.l0 k xs (xs.length : Int) i n xs b c d e f) stGood (fun _ => True) (spEnd n b c d e f) 4611686018427387904
    (fun xs => by
      refine LoopK.Ev.succ ?_
      simp only [impl_GoodSpace.l0, at_stop, if_false, in_eq, goodRtt_eq, Option.bind_some, decide_eq_true_eq, and_ite]
      exact Ev.now _)
    (fun _ _ _ => trivial)
    (fun p x r hB hI hg => by
      refine LoopK.Ev.succ ?_
      simp only [impl_GoodSpace.l0, at_lt, at_nn, if_true, rd_T123, at_getD, sentOk_eq, Option.bind_some, decide_eq_true_eq]
      have bad : ∀ n' xs i z s b' c' d' e' f', Ev (fun k => impl_GoodSpace.j1 k xs n' i true z s b' c' d' e' f') false := fun n' xs i z s b' c' d' e' f' => by
        refine LoopK.Ev.succ ?_
        simp only [impl_GoodSpace.j1, if_true]
        exact Ev.now _
      by_cases h1 : StOk x
      · simp only [h1, if_true]
        rcases last_or p with rfl | ⟨p0, q, rfl⟩
        · exfalso
          simp [stGood, h1] at hg
        · have c0 := at_prev_w p0 q x r hB
          simp only [at_prev_pos, if_true, c0, at_prev_nn, at_prev_lt, at_prev]
          by_cases h4 : q.f0 ≥ x.f0
          · simp only [h4, if_true]
            exact bad _ _ _ _ _ _ _ _ _ _
          · have h5 : q.f1 > x.f1 := by
              simp [stGood, h1] at hg
              omega
            simp only [h4, if_false, h5, decide_true]
            exact bad _ _ _ _ _ _ _ _ _ _
      · simp only [h1, if_false]
        exact bad _ _ _ _ _ _ _ _ _ _)
    (fun p x r b' hB hI hg hn => by
      refine LoopK.Ev.succ ?_
      have hx : StOk x := by
        simp only [stGood, Bool.and_eq_true, decide_eq_true_eq] at hg
        exact hg.1
      have e1 := at_w p x r hB
      simp only [impl_GoodSpace.l0, at_lt, at_nn, if_true, rd_T123, at_getD, sentOk_eq, Option.bind_some, decide_eq_true_eq, hx]
      have good : Ev (fun k => impl_GoodSpace.j1 k (p ++ x :: r) ((p ++ x :: r).length : Int) (p.length : Int) false n (p ++ x :: r) b c d e f) b' := by
        refine LoopK.Ev.succ ?_
        simp only [impl_GoodSpace.j1, Bool.false_eq_true, if_false, e1]
        exact hn
      rcases last_or p with rfl | ⟨p0, q, rfl⟩
      · simpa using good
      · have c0 := at_prev_w p0 q x r hB
        have h4 : ¬ (q.f0 ≥ x.f0) ∧ ¬ (q.f1 > x.f1) := by
          simp [stGood, hx] at hg
          omega
        simp only [at_prev_pos, if_true, c0, at_prev_nn, at_prev_lt, at_prev, h4.1, h4.2, if_false, decide_false]
        exact good) l [] (by simpa using hl) (by simp)
  unfold impl_GoodSpace.f spGood
  simpa using key

theorem FnExactGoodSpace : SFnExactGoodSpace.Pure := by
  intro a l b c d e f _ hl _ _ _ _
  refine Ev.rounds ?_
  unfold laws_FnExactGoodSpace.f laws_szSpace.f
  obtain ⟨r, hr, hr1, hr2⟩ := szSentS_some l 1048576 (by omega) (by omega)
  simp only [hr, Option.bind_some]
  by_cases h0 : r < 0
  · simp only [h0, if_true, Option.bind_some, show (-1 : Int) < 0 by omega]
    exact Ev.now _
  · simp only [h0, if_false, Option.bind_some]
    have hl2 : l.length ≤ 1048576 := by have := hr2 (by omega); omega
    have hto := toSpace_ev a l b c d e f hl2
    have hm : (l.map cvSent).length ≤ 4611686018427387904 := by rw [List.length_map]; omega
    refine LoopK.Ev.bind_ hto ?_
    refine LoopK.Ev.bind_ (specSpace_ev _ _ _ _ _ _ _ hm) ?_
    refine LoopK.Ev.bind_ hto ?_
    refine LoopK.Ev.bind_ (implSpace_ev _ _ _ _ _ _ _ hm) ?_
    simp only [bne_self_eq_false, Bool.false_eq_true, if_false]
    refine LoopK.Ev.bind_ hto ?_
    refine LoopK.Ev.bind_ (eqSpace_ev _ _ _ _ _ _ _ hm) ?_
    simp only [if_true]
    exact Ev.now _

end Go.Proofs.Ytikomfdkdoognaa.Pure
