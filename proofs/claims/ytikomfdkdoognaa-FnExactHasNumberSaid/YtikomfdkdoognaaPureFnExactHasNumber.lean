/- The pure statement of the law FnExactHasNumber: the program's function and the reference answer alike. -/
import Derived.Test.YtikomfdkdoognaaSFnExactHasNumber
import Derived.Test.YtikomfdkdoognaaLoopK
namespace Go.Proofs.Ytikomfdkdoognaa.Pure
open Go.RowKit Go.Proofs.Ytikomfdkdoognaa.PFnExactHasNumber Go.Proofs.YtikomfdkdoognaaW.PrintWords Go.Proofs.YtikomfdkdoognaaW.PrintLast Go.Proofs.Ytikomfdkdoognaa.SFnExactHasNumber
set_option linter.unusedVariables false
set_option linter.unusedSimpArgs false

open Go.Proofs.Ytikomfdkdoognaa.LoopK (copyEv sameEv markEv heldEv foldEv mk mk_length at_lt at_lt' at_nn at_nlt at_stop at_getD at_set at_set2 at_snoc len_snoc at_w w64 firstEv find_any chk last_or at_prev at_prev_lt at_prev_nn at_prev_pos at_prev_w pairEv)

/-- The copy of an element. -/
def cvRange (x : S106) : S104 := ⟨x.f0, x.f1⟩

theorem toRangeS_ev (l : List S106) (h : l.length ≤ 1048576) : Ev (fun k => laws_toRangeS.f k l) (l.map cvRange) := by
  have key := copyEv (fun k xs ys i => laws_toRangeS.l0 k xs ys i) cvRange z104 1048576
    (fun xs ys => by
      refine LoopK.Ev.succ ?_
      simp only [laws_toRangeS.l0, at_stop, if_false]
      exact Ev.now _)
    (fun p x r q y s res hq hB hs ih => by
      refine LoopK.Ev.succ ?_
      have e1 := at_w p x r (by omega)
      have e2 := at_lt' p q y s hq
      have e3 : (q ++ y :: s).set (p.length : Int).toNat (cvRange x) = q ++ cvRange x :: s := at_set2 p q y _ s hq
      simp only [cvRange] at e3 ih
      simp only [laws_toRangeS.l0, at_lt, at_nn, if_true, laws_toRange.f, Option.bind_some, rd_T106, at_getD, e1, e2, e3]
      exact ih) l [] (by simpa using h)
  unfold laws_toRangeS.f
  have c1 : 0 ≤ (l.length : Int) := by omega
  have c2 : (l.length : Int).toNat = l.length := by omega
  simp only [c1, if_true, c2]
  have c3 : l.length ≤ 17592186044416 := by omega
  simp only [c3, if_true]
  simpa using key

theorem eqRange_self (x : S104) : laws_eqRange.f x.f0 x.f1 x.f0 x.f1 = some true := by
  unfold laws_eqRange.f
  simp
theorem eqRangeS_ev (l : List S104) (h : l.length ≤ 4611686018427387904) : Ev (fun k => laws_eqRangeS.f k l l) true := by
  have key := sameEv (fun k xs ys i => laws_eqRangeS.l0 k xs ys i) 4611686018427387904
    (fun xs ys => by
      refine LoopK.Ev.succ ?_
      simp only [laws_eqRangeS.l0, at_stop, if_false]
      exact Ev.now _)
    (fun p x r hB ih => by
      refine LoopK.Ev.succ ?_
      have e1 := at_w p x r hB
      simp only [laws_eqRangeS.l0, at_lt, at_nn, if_true, eqRange_self, Option.bind_some, rd_T104, at_getD, e1]
      exact ih) l [] (by simpa using h)
  unfold laws_eqRangeS.f
  simp only [if_true]
  simpa using key

theorem szRangeS_some (l : List S106) (a : Int) (ha : 0 ≤ a ∧ a ≤ 1048576) (h : l.length ≤ 140737488351232) : ∃ r, laws_szRangeS.f l a = some r ∧ -1 ≤ r ∧ (0 ≤ r → r = a - l.length) := by
  unfold laws_szRangeS.f
  have e : wrap64 (a - (l.length : Int)) = a - (l.length : Int) := w64 _ (by omega)
  rw [e]
  split
  · exact ⟨_, rfl, by omega, fun h => by omega⟩
  · exact ⟨_, rfl, by omega, fun h => rfl⟩

theorem l1In_eq (a b c : Int) : spec_l1In.f a b c = some (decide (b ≤ a ∧ a ≤ c)) := by
  unfold spec_l1In.f
  by_cases h : b ≤ a
  · rw [if_pos h]; simp [h]
  · rw [if_neg h]; simp [h]
theorem in_eq (a b c : Int) : impl_in.f a b c = some (decide (b ≤ a ∧ a ≤ c)) := l1In_eq a b c
theorem and_ite (p q : Prop) [Decidable p] [Decidable q] : (if p then some (decide q) else some false) = some (decide (p ∧ q)) := by
  by_cases h : p <;> simp [h]

/-- Is a range right, and does it fall behind the one before it? -/
def rgGood (o : Option S104) (x : S104) : Bool :=
  decide ((0 ≤ x.f0 ∧ x.f0 ≤ x.f1) ∧ x.f1 ≤ 4611686018427387903) && (match o with | none => true | some q => decide (x.f1 + 2 ≤ q.f0))
def rgInv (x : S104) : Prop := 0 ≤ x.f0 ∧ x.f0 ≤ 4611686018427387903
theorem rg_inv (o : Option S104) (x : S104) (h : rgGood o x = true) : rgInv x := by
  simp only [rgGood, Bool.and_eq_true, decide_eq_true_eq] at h
  unfold rgInv
  omega
theorem l1Known_eq (a : Int) : spec_l1Known.f a = some (decide (0 ≤ a ∧ a ≤ 4611686018427387903)) := by
  unfold spec_l1Known.f
  simp only [l1In_eq, Option.bind_some]
theorem isVarint_eq (a : Int) : impl_isVarint.f a = some (decide (0 ≤ a ∧ a ≤ 4611686018427387903)) := by
  unfold impl_isVarint.f
  simp only [in_eq, Option.bind_some]
theorem l1Ranges_ev (l : List S104) (hl : l.length ≤ 4611686018427387904) : Ev (fun k => spec_l1Ranges.f k l) (chk rgGood none l && decide (1 ≤ l.length ∧ l.length ≤ 20)) := by
  have key := pairEv (fun k xs i => spec_l1Ranges.l0 k xs xs (xs.length : Int) i) rgGood rgInv (fun xs => decide (1 ≤ xs.length ∧ xs.length ≤ 20)) 4611686018427387904
    (fun xs => by
      refine LoopK.Ev.succ ?_
      simp only [spec_l1Ranges.l0, at_stop, if_false, l1In_eq, Option.bind_some]
      refine LoopK.Ev.to (Ev.now _) ?_
      rw [decide_eq_decide]
      omega)
    rg_inv
    (fun p x r hB hI hg => by
      refine LoopK.Ev.succ ?_
      simp only [spec_l1Ranges.l0, at_lt, at_nn, if_true, rd_T104, at_getD, l1In_eq, l1Known_eq, Option.bind_some, decide_eq_true_eq]
      by_cases h1 : 0 ≤ x.f0 ∧ x.f0 ≤ x.f1
      · simp only [h1, and_self, if_true]
        by_cases h2 : 0 ≤ x.f1 ∧ x.f1 ≤ 4611686018427387903
        · simp only [h2, and_self, if_true]
          rcases last_or p with rfl | ⟨p0, q, rfl⟩
          · exfalso
            simp [rgGood, h1, h2] at hg
          · have hq := hI q (by simp)
            unfold rgInv at hq
            have e2 : wrap64 (q.f0 - 2) = q.f0 - 2 := w64 _ (by omega)
            have hlt : x.f1 > q.f0 - 2 := by
              simp [rgGood, h1, h2] at hg
              omega
            have c0 := at_prev_w p0 q x r hB
            simp only [at_prev_pos, if_true, c0, at_prev_nn, at_prev_lt, at_prev, e2, hlt]
            exact Ev.now _
        · simp only [h2, if_false]
          exact Ev.now _
      · simp only [h1, if_false]
        exact Ev.now _)
    (fun p x r b hB hI hg hn => by
      refine LoopK.Ev.succ ?_
      have hx : (0 ≤ x.f0 ∧ x.f0 ≤ x.f1) ∧ x.f1 ≤ 4611686018427387903 := by
        simp only [rgGood, Bool.and_eq_true, decide_eq_true_eq] at hg
        exact hg.1
      have h2 : 0 ≤ x.f1 ∧ x.f1 ≤ 4611686018427387903 := by omega
      have e1 := at_w p x r hB
      simp only [spec_l1Ranges.l0, at_lt, at_nn, if_true, rd_T104, at_getD, l1In_eq, l1Known_eq, Option.bind_some, decide_eq_true_eq, hx.1, h2, and_self, e1]
      rcases last_or p with rfl | ⟨p0, q, rfl⟩
      · simpa using hn
      · have hq := hI q (by simp)
        unfold rgInv at hq
        have e2 : wrap64 (q.f0 - 2) = q.f0 - 2 := w64 _ (by omega)
        have hlt : ¬ (x.f1 > q.f0 - 2) := by
          simp [rgGood, hx, h2] at hg
          omega
        have c0 := at_prev_w p0 q x r hB
        simp only [at_prev_pos, if_true, c0, at_prev_nn, at_prev_lt, at_prev, e2, hlt, if_false]
        exact hn) l [] (by simpa using hl) (by simp)
  unfold spec_l1Ranges.f
  simpa using key
theorem rangesOk_ev (l : List S104) (hl : l.length ≤ 4611686018427387904) : Ev (fun k => impl_rangesOk.f k l) (chk rgGood none l) := by
  have key := pairEv (fun k xs i => impl_rangesOk.l0 k xs xs (xs.length : Int) i) rgGood rgInv (fun _ => true) 4611686018427387904
    (fun xs => by
      refine LoopK.Ev.succ ?_
      simp only [impl_rangesOk.l0, at_stop, if_false]
      exact Ev.now _)
    rg_inv
    (fun p x r hB hI hg => by
      refine LoopK.Ev.succ ?_
      simp only [impl_rangesOk.l0, at_lt, at_nn, if_true, rd_T104, at_getD, isVarint_eq, Option.bind_some, decide_eq_true_eq]
      by_cases h1 : 0 ≤ x.f0 ∧ x.f0 ≤ 4611686018427387903
      · simp only [h1, and_self, if_true]
        by_cases h2 : 0 ≤ x.f1 ∧ x.f1 ≤ 4611686018427387903
        · simp only [h2, and_self, if_true]
          by_cases h3 : x.f0 > x.f1
          · simp only [h3, if_true]
            exact Ev.now _
          · simp only [h3, if_false]
            rcases last_or p with rfl | ⟨p0, q, rfl⟩
            · exfalso
              simp [rgGood, h1, h2] at hg
              omega
            · have hq := hI q (by simp)
              unfold rgInv at hq
              have e2 : wrap64 (x.f1 + 2) = x.f1 + 2 := w64 _ (by omega)
              have hlt : q.f0 < x.f1 + 2 := by
                have h4 : x.f0 ≤ x.f1 := by omega
                simp [rgGood, h1, h2, h4] at hg
                omega
              have c0 := at_prev_w p0 q x r hB
              simp only [at_prev_pos, if_true, c0, at_prev_nn, at_prev_lt, at_prev, e2, hlt]
              exact Ev.now _
        · simp only [h2, if_false]
          exact Ev.now _
      · simp only [h1, if_false]
        exact Ev.now _)
    (fun p x r b hB hI hg hn => by
      refine LoopK.Ev.succ ?_
      have hx : (0 ≤ x.f0 ∧ x.f0 ≤ x.f1) ∧ x.f1 ≤ 4611686018427387903 := by
        simp only [rgGood, Bool.and_eq_true, decide_eq_true_eq] at hg
        exact hg.1
      have h1 : 0 ≤ x.f0 ∧ x.f0 ≤ 4611686018427387903 := by omega
      have h2 : 0 ≤ x.f1 ∧ x.f1 ≤ 4611686018427387903 := by omega
      have h3 : ¬ (x.f0 > x.f1) := by omega
      have e1 := at_w p x r hB
      simp only [impl_rangesOk.l0, at_lt, at_nn, if_true, rd_T104, at_getD, isVarint_eq, Option.bind_some, decide_eq_true_eq, h1, h2, and_self, h3, if_false, e1]
      rcases last_or p with rfl | ⟨p0, q, rfl⟩
      · simpa using hn
      · have hq := hI q (by simp)
        unfold rgInv at hq
        have e2 : wrap64 (x.f1 + 2) = x.f1 + 2 := w64 _ (by omega)
        have hlt : ¬ (q.f0 < x.f1 + 2) := by
          simp [rgGood, hx, h2] at hg
          omega
        have c0 := at_prev_w p0 q x r hB
        simp only [at_prev_pos, if_true, c0, at_prev_nn, at_prev_lt, at_prev, e2, hlt, if_false]
        exact hn) l [] (by simpa using hl) (by simp)
  unfold impl_rangesOk.f
  simpa using key

/-- Are ranges right? -/
def rgsGood (l : List S104) : Bool := decide (l.length ≤ 20) && chk rgGood none l
theorem l12Ranges_ev (l : List S104) (hl : l.length ≤ 4611686018427387904) : Ev (fun k => spec_l12Ranges.f k l) (rgsGood l) := by
  unfold spec_l12Ranges.f
  by_cases h0 : (l.length : Int) = 0
  · simp only [h0, if_true]
    have : l = [] := List.eq_nil_of_length_eq_zero (by omega)
    subst this
    exact Ev.now _
  · simp only [h0, if_false]
    by_cases h1 : (l.length : Int) ≤ 20
    · simp only [h1, if_true]
      refine LoopK.Ev.bind_ (l1Ranges_ev l hl) (LoopK.Ev.to (Ev.now _) ?_)
      have h2 : 1 ≤ l.length ∧ l.length ≤ 20 := by omega
      simp [rgsGood, h2]
    · simp only [h1, if_false]
      refine LoopK.Ev.to (Ev.now _) ?_
      have h2 : ¬ (l.length ≤ 20) := by omega
      simp [rgsGood, h2]
theorem goodRanges_ev (l : List S104) (hl : l.length ≤ 4611686018427387904) : Ev (fun k => impl_GoodRanges.f k l) (rgsGood l) := by
  unfold impl_GoodRanges.f
  by_cases h1 : (l.length : Int) ≤ 20
  · simp only [h1, if_true]
    refine LoopK.Ev.bind_ (rangesOk_ev l hl) (LoopK.Ev.to (Ev.now _) ?_)
    have h2 : l.length ≤ 20 := by omega
    simp [rgsGood, h2]
  · simp only [h1, if_false]
    refine LoopK.Ev.to (Ev.now _) ?_
    have h2 : ¬ (l.length ≤ 20) := by omega
    simp [rgsGood, h2]

/-- Is a number in one of the ranges? -/
def inRg (n : Int) (l : List S104) : Bool := l.any fun r => decide (r.f0 ≤ n ∧ n ≤ r.f1)
theorem l12Has_ev (l : List S104) (n : Int) (hl : l.length ≤ 4611686018427387904) : Ev (fun k => spec_l12Has.f k l n) (inRg n l) := by
  have key := firstEv (fun k xs i => spec_l12Has.l0 k n xs (xs.length : Int) i) (fun r => decide (r.f0 ≤ n ∧ n ≤ r.f1)) (fun o => o.isSome) 4611686018427387904
    (fun xs => by
      refine LoopK.Ev.succ ?_
      simp only [spec_l12Has.l0, at_stop, if_false]
      exact Ev.now _)
    (fun p x r hB hx => by
      refine LoopK.Ev.succ ?_
      simp only [decide_eq_true_eq] at hx
      simp only [spec_l12Has.l0, at_lt, at_nn, if_true, rd_T104, at_getD, l1In_eq, Option.bind_some, decide_eq_true_eq, hx, and_self]
      exact Ev.now _)
    (fun p x r b hB hx hn => by
      refine LoopK.Ev.succ ?_
      simp only [decide_eq_false_iff_not] at hx
      have e1 := at_w p x r hB
      simp only [spec_l12Has.l0, at_lt, at_nn, if_true, rd_T104, at_getD, l1In_eq, Option.bind_some, decide_eq_true_eq, hx, if_false, e1]
      exact hn) l [] (by simpa using hl)
  unfold spec_l12Has.f
  refine LoopK.Ev.to key ?_
  unfold inRg
  exact find_any (fun r : S104 => decide (r.f0 ≤ n ∧ n ≤ r.f1)) l
theorem hasNumber_eq (l : List S104) (n : Int) : impl_hasNumber.f l n = some (inRg n l) := rfl
/-- Right ranges hold numbers that are right alone. -/
theorem rg_in (n : Int) : ∀ (l : List S104) (o : Option S104), chk rgGood o l = true → inRg n l = true → 0 ≤ n ∧ n ≤ 4611686018427387903
  | [], _, _, h => by simp [inRg] at h
  | x :: r, o, hc, h => by
    simp only [chk, Bool.and_eq_true] at hc
    have hg := hc.1
    simp only [rgGood, Bool.and_eq_true, decide_eq_true_eq] at hg
    simp only [inRg, List.any_cons, Bool.or_eq_true, decide_eq_true_eq] at h
    rcases h with h | h
    · omega
    · exact rg_in n r (some x) hc.2 h

theorem FnExactHasNumber : SFnExactHasNumber.Pure := by
  intro l n hl _
  refine Ev.rounds ?_
  unfold laws_FnExactHasNumber.f
  obtain ⟨r, hr, hr1, hr2⟩ := szRangeS_some l 1048576 (by omega) (by omega)
  simp only [hr, Option.bind_some]
  by_cases h0 : r < 0
  · simp only [h0, if_true]
    exact Ev.now _
  · simp only [h0, if_false]
    have hl2 : l.length ≤ 1048576 := by have := hr2 (by omega); omega
    have hto := toRangeS_ev l hl2
    have hm : (l.map cvRange).length ≤ 4611686018427387904 := by rw [List.length_map]; omega
    generalize hL : l.map cvRange = L at hto hm
    have key : ∃ a b, Ev (fun k => spec_HasNumber.f k L n) (a, b) ∧ Ev (fun k => impl_HasNumber.f k L n) (a, b) := by
      unfold spec_HasNumber.f impl_HasNumber.f
      cases hg : rgsGood L with
      | false => exact ⟨false, false, LoopK.Ev.bind_ (LoopK.Ev.to (l12Ranges_ev L hm) hg) (by simp only [Bool.false_eq_true, if_false]; exact Ev.now _), LoopK.Ev.bind_ (LoopK.Ev.to (goodRanges_ev L hm) hg) (by simp only [Bool.false_eq_true, if_false]; exact Ev.now _)⟩
      | true =>
        refine ⟨inRg n L, true, LoopK.Ev.bind_ (LoopK.Ev.to (l12Ranges_ev L hm) hg) ?_, LoopK.Ev.bind_ (LoopK.Ev.to (goodRanges_ev L hm) hg) ?_⟩
        · simp only [if_true]
          exact LoopK.Ev.bind_ (l12Has_ev L n hm) (Ev.now _)
        · simp only [if_true, isVarint_eq, Option.bind_some, hasNumber_eq, decide_eq_true_eq]
          by_cases hv : 0 ≤ n ∧ n ≤ 4611686018427387903
          · simp only [hv, and_self, if_true]
            exact Ev.now _
          · simp only [hv, if_false]
            refine LoopK.Ev.to (Ev.now _) ?_
            cases hi : inRg n L with
            | false => rfl
            | true =>
              simp only [rgsGood, Bool.and_eq_true] at hg
              exact absurd (rg_in n L none hg.2 hi) hv
    obtain ⟨a, b, k1, k2⟩ := key
    refine LoopK.Ev.bind_ hto ?_
    refine LoopK.Ev.bind_ k1 ?_
    refine LoopK.Ev.bind_ hto ?_
    refine LoopK.Ev.bind_ k2 ?_
    simp only [bne_self_eq_false, Bool.false_eq_true, if_false]
    refine LoopK.Ev.succ ?_
    simp only [laws_FnExactHasNumber.j0, Bool.false_eq_true, if_false]
    refine LoopK.Ev.bind_ hto ?_
    refine LoopK.Ev.bind_ (eqRangeS_ev _ hm) ?_
    simp only [if_true]
    exact Ev.now _

end Go.Proofs.Ytikomfdkdoognaa.Pure
