/- The pure statement of the law FnExactNewInflow: the program's function and the reference answer alike. -/
import Derived.Test.YtikomfdkdoognaaPFnExactNewInflowx3
import Derived.Test.YtikomfdkdoognaaLoopK
namespace Go.Proofs.Ytikomfdkdoognaa.Pure
open Go.RowKit Go.Proofs.Ytikomfdkdoognaa.PFnExactNewInflow Go.Proofs.YtikomfdkdoognaaW.PrintWords Go.Proofs.YtikomfdkdoognaaW.PrintLast
set_option linter.unusedVariables false
set_option linter.unusedSimpArgs false

theorem l1In_eq (a b c : Int) : spec_l1In.f a b c = some (decide (b ≤ a ∧ a ≤ c)) := by
  unfold spec_l1In.f
  by_cases h : b ≤ a
  · rw [if_pos h]; simp [h]
  · rw [if_neg h]; simp [h]
theorem in_eq (a b c : Int) : impl_in.f a b c = some (decide (b ≤ a ∧ a ≤ c)) := l1In_eq a b c
theorem and_ite (p q : Prop) [Decidable p] [Decidable q] : (if p then some (decide q) else some false) = some (decide (p ∧ q)) := by
  by_cases h : p <;> simp [h]

open Go.Proofs.Ytikomfdkdoognaa.LoopK (copyEv sameEv markEv heldEv foldEv mk mk_length at_lt at_lt' at_nn at_nlt at_stop at_getD at_set at_set2 at_snoc len_snoc at_w w64)

theorem strOfNums_one (n : Int) : (strOfNums [n]).size = 1 := rfl
theorem markText_loop : ∀ (d : Nat) (x : Int) (s : ByteArray), x < 10 ^ d → s.size + d ≤ 1000 → ∃ r, Ev (fun k => laws_markText.l0 k x s) r
  | d, x, s, hx, hs => by
    by_cases h0 : x > 0
    · match d with
      | 0 => simp at hx; omega
      | d + 1 =>
        have e1 : wrap64 (Int.tdiv x 10) = Int.tdiv x 10 ∨ True := Or.inr trivial
        have ht : Int.tdiv x 10 = x / 10 := Int.tdiv_eq_ediv_of_nonneg (by omega)
        have hlt : x / 10 < 10 ^ d := by
          have : (10 : Int) ^ (d + 1) = 10 ^ d * 10 := by rw [Int.pow_succ]
          omega
        have hw : wrap64 (x / 10) < 10 ^ d ∧ True := ⟨by
          by_cases hb : x / 10 ≤ 9223372036854775807
          · rw [w64 _ (by omega)]; exact hlt
          · have hp : (0 : Int) < 10 ^ d := Int.pow_pos (by decide)
            unfold wrap64
            have := Int.emod_lt_of_pos (x / 10 + 9223372036854775808) (show (0 : Int) < 18446744073709551616 by decide)
            omega, trivial⟩
        obtain ⟨r, hr⟩ := markText_loop d (wrap64 (x / 10)) (strOfNums [(wrap64 (48 + (Int.tmod x 10))) % 256] ++ s) hw.1 (by rw [ByteArray.size_append, strOfNums_one]; omega)
        refine ⟨r, LoopK.Ev.succ ?_⟩
        have c : (strOfNums [(wrap64 (48 + (Int.tmod x 10))) % 256]).size + s.size ≤ 9223372036854775807 := by rw [strOfNums_one]; omega
        simp only [laws_markText.l0, h0, if_true, Option.bind_some, c, ht]
        exact hr
    · refine ⟨(⟨#[109]⟩ : ByteArray) ++ s, LoopK.Ev.succ ?_⟩
      have c : 1 + s.size ≤ 9223372036854775807 := by omega
      simp only [laws_markText.l0, h0, if_false, c, if_true]
      exact Ev.now _
theorem markText_some (x : Int) (h : x ≤ 9223372036854775807) : ∃ r, Ev (fun k => laws_markText.f k x) r := by
  unfold laws_markText.f
  by_cases h0 : x ≤ 0
  · simp only [h0, if_true]
    exact ⟨_, Ev.now _⟩
  · simp only [h0, if_false]
    exact markText_loop 20 x _ (by omega) (by decide)
/-- The text of a mark. -/
noncomputable def mtx (x : Int) : ByteArray := Classical.epsilon fun r => Ev (fun k => laws_markText.f k x) r
theorem mtx_ev (x : Int) (h : x ≤ 9223372036854775807) : Ev (fun k => laws_markText.f k x) (mtx x) := Classical.epsilon_spec (markText_some x h)

theorem eqPiece_self (x : S118) : laws_eqPiece.f x.f0 x.f1 x.f0 x.f1 = some true := by
  unfold laws_eqPiece.f
  simp
theorem eqPieceS_ev (l : List S118) (h : l.length ≤ 4611686018427387904) : Ev (fun k => laws_eqPieceS.f k l l) true := by
  have key := sameEv (fun k xs ys i => laws_eqPieceS.l0 k xs ys i) 4611686018427387904
    (fun xs ys => by
      refine LoopK.Ev.succ ?_
      simp only [laws_eqPieceS.l0, at_stop, if_false]
      exact Ev.now _)
    (fun p x r hB ih => by
      refine LoopK.Ev.succ ?_
      have e1 := at_w p x r hB
      simp only [laws_eqPieceS.l0, at_lt, at_nn, if_true, eqPiece_self, Option.bind_some, rd_T118, at_getD, e1]
      exact ih) l [] (by simpa using h)
  unfold laws_eqPieceS.f
  simp only [if_true]
  simpa using key

/-- An element's marks. -/
noncomputable def markPiece (_ : S118) (a : Int) : S118 := ⟨a, mtx (a + 1)⟩
theorem markPieceS_ev (l : List S118) (a : Int) (ha : 0 ≤ a) (hl : (l.length : Int) ≤ 1000000000000) (hb : a ≤ 1000000000000) : Ev (fun k => laws_markPieceS.f k l a) (a + 2 * (l.length : Int), mk markPiece 2 l a) := by
  have key := markEv (fun k xs a i => laws_markPieceS.l0 k xs a i) markPiece 2 (by omega) 4611686018427387904
    (fun xs a => by
      refine LoopK.Ev.succ ?_
      simp only [laws_markPieceS.l0, at_stop, if_false]
      exact Ev.now _)
    (fun p x r a res hB h0 h1 ih => by
      refine LoopK.Ev.succ ?_
      have e1 := at_w p x r hB
      have w0 : wrap64 (a + 1) = a + 1 := by rw [show a + 1 = a + 1 from by omega]; exact w64 _ (by omega)
      have w1 : wrap64 (a + 1 + 1) = a + 2 := by rw [show a + 1 + 1 = a + 2 from by omega]; exact w64 _ (by omega)
      simp only [laws_markPieceS.l0, at_lt, at_nn, if_true, Option.bind_some, rd_T118, at_getD, at_set, e1, w0, w1]
      refine LoopK.Ev.bind_ (mtx_ev _ (by omega)) ?_
      exact ih) l [] a (by simp; omega) ha (by omega)
  unfold laws_markPieceS.f
  simpa using key
theorem heldPieceS_ev (l : List S118) (a : Int) (ha : 0 ≤ a) (hl : (l.length : Int) ≤ 1000000000000) (hb : a ≤ 1000000000000) : Ev (fun k => laws_heldPieceS.f k (mk markPiece 2 l a) a) (a + 2 * (l.length : Int)) := by
  have key := heldEv (fun k xs a i => laws_heldPieceS.l0 k xs a i) markPiece 2 (by omega) 4611686018427387904
    (fun xs a => by
      refine LoopK.Ev.succ ?_
      simp only [laws_heldPieceS.l0, at_stop, if_false]
      exact Ev.now _)
    (fun p x r a res hB h0 h1 ih => by
      refine LoopK.Ev.succ ?_
      have e1 := at_w p (markPiece x a) r hB
      have w0 : wrap64 (a + 1) = a + 1 := by rw [show a + 1 = a + 1 from by omega]; exact w64 _ (by omega)
      have w1 : wrap64 (a + 1 + 1) = a + 2 := by rw [show a + 1 + 1 = a + 2 from by omega]; exact w64 _ (by omega)
      have v0 : (markPiece x a).f0 = a := rfl
      have v1 : (markPiece x a).f1 = mtx (a + 1) := rfl
      simp only [laws_heldPieceS.l0, at_lt, at_nn, if_true, rd_T118, at_getD, e1, w0, w1, v0, v1, bne_self_eq_false, Bool.false_eq_true, if_false]
      refine LoopK.Ev.bind_ (mtx_ev _ (by omega)) ?_
      simp only [if_true, bne_self_eq_false, Bool.false_eq_true, if_false]
      exact ih) l [] a (by simp; omega) ha (by omega)
  unfold laws_heldPieceS.f
  simpa using key

theorem FnExactNewInflow : laws_FnExactNewInflow.Pure := by
  intro a ha
  refine Ev.rounds ?_
  have key : ∃ r0 r1 r2 r3 b, spec_NewInflow.f a = some (r0, r1, r2, r3, b) ∧ impl_NewInflow.f a = some (r0, r1, r2, r3, b) ∧ r3 = [] := by
    unfold spec_NewInflow.f impl_NewInflow.f
    simp only [l1In_eq, in_eq, Option.bind_some, decide_eq_true_eq]
    by_cases h : 0 ≤ a ∧ a ≤ 4000
    · simp only [h, and_self, if_true]
      exact ⟨_, _, _, _, _, rfl, rfl, rfl⟩
    · simp only [h, if_false]
      exact ⟨_, _, _, _, _, rfl, rfl, rfl⟩
  obtain ⟨r0, r1, r2, r3, b, h1, h2, rfl⟩ := key
  unfold laws_FnExactNewInflow.f
  simp only [h1, h2, Option.bind_some]
  have eqi : ∀ x0 x1 x2 l, l.length ≤ 1000 → Ev (fun k => laws_eqInflow.f k x0 x1 x2 l x0 x1 x2 l) true := by
    intro x0 x1 x2 l hl
    unfold laws_eqInflow.f
    simp only [if_true]
    refine LoopK.Ev.bind_ (eqPieceS_ev l (by omega)) ?_
    simp only [if_true]
    exact Ev.now _
  refine LoopK.Ev.bind_ (eqi r0 r1 r2 [] (by simp)) ?_
  simp only [if_true, bne_self_eq_false]
  refine LoopK.Ev.succ ?_
  simp only [laws_FnExactNewInflow.j0, Bool.false_eq_true, if_false, laws_markInflow.f, laws_heldInflow.f]
  refine LoopK.Ev.bind_ (LoopK.Ev.bind_ (markPieceS_ev [] 1 (by omega) (by simp) (by omega)) (Ev.now _)) ?_
  have hh := heldPieceS_ev [] 1 (by omega) (by simp) (by omega)
  refine LoopK.Ev.bind_ (LoopK.Ev.bind_ hh (by simp only [List.length_nil]; exact Ev.now _)) ?_
  simp only [List.length_nil, h2, Option.bind_some]
  have c : ¬ (1 + 2 * ((0 : Nat) : Int) < 0) := by omega
  simp only [c, if_false, if_true]
  refine LoopK.Ev.bind_ (eqi r0 r1 r2 [] (by simp)) ?_
  simp only [if_true, bne_self_eq_false]
  refine LoopK.Ev.succ ?_
  simp only [laws_FnExactNewInflow.j1, Bool.false_eq_true, if_false, laws_heldInflow.f]
  refine LoopK.Ev.bind_ (LoopK.Ev.bind_ hh (by simp only [List.length_nil, c, if_false]; exact Ev.now _)) ?_
  simp only [c, if_false, if_true]
  exact Ev.now _

end Go.Proofs.Ytikomfdkdoognaa.Pure
