/- The pure statement of the law FnExactStaticAt: the program's function and the reference answer alike. -/
import Derived.Test.YtikomfdkdoognaaSFnExactStaticAt
import Derived.Test.YtikomfdkdoognaaLoopK
namespace Go.Proofs.Ytikomfdkdoognaa.Pure
open Go.RowKit Go.Proofs.Ytikomfdkdoognaa.PFnExactStaticAt Go.Proofs.YtikomfdkdoognaaW.PrintWords Go.Proofs.YtikomfdkdoognaaW.PrintLast Go.Proofs.Ytikomfdkdoognaa.SFnExactStaticAt
set_option linter.unusedVariables false
set_option linter.unusedSimpArgs false

open Go.Proofs.Ytikomfdkdoognaa.LoopK (copyEv sameEv markEv heldEv foldEv mk mk_length at_lt at_lt' at_nn at_nlt at_stop at_getD at_set at_set2 at_snoc len_snoc at_w w64 firstEv find_any chk last_or at_prev at_prev_lt at_prev_nn at_prev_pos at_prev_w pairEv)

open Go.Proofs.Ytikomfdkdoognaa.IdxK (idxF idxFrom)
/-- Is a field the one that is asked for? -/
def fldE (a b : ByteArray) (g : S30) : Bool := g.f0.toList == a.toList && (g.f1.toList == b.toList)
/-- Has it the name? -/
def fldN (a : ByteArray) (g : S30) : Bool := g.f0.toList == a.toList
theorem fldE_comm (a b : ByteArray) (g : S30) : (a.toList == g.f0.toList && (b.toList == g.f1.toList)) = fldE a b g := by
  unfold fldE
  rw [BEq.comm (a := a.toList), BEq.comm (a := b.toList)]
theorem index_loop (a b : ByteArray) : ∀ (r p : List S30), (p ++ r).length ≤ 1000000 → Ev (fun k => impl_Field_64.l0 k (p ++ r) ((p ++ r).length : Int) (p.length : Int) a b) (idxFrom (fldE a b) r p.length)
  | [], p, _ => by
    refine LoopK.Ev.succ ?_
    simp only [impl_Field_64.l0, List.append_nil, at_stop, if_false]
    exact Ev.now _
  | x :: r, p, hB => by
    refine LoopK.Ev.succ ?_
    have e1 := at_w p x r (by omega)
    simp only [impl_Field_64.l0, at_lt, at_nn, if_true, rd_T30, at_getD, e1, fldE_comm, idxFrom]
    by_cases h : fldE a b x = true
    · simp only [h, if_true]
      exact Ev.now _
    · simp only [h, if_false]
      have ih := index_loop a b r (p ++ [x]) (by simpa using hB)
      rw [← at_snoc, len_snoc p x] at ih
      simpa using ih
theorem specAt_loop (a b : ByteArray) : ∀ (r p : List S30) (e n : Int), (p ++ r).length ≤ 1000000 → (e = -1 ∨ 0 ≤ e) → (n = -1 ∨ 0 ≤ n) →
    Ev (fun k => spec_l15At.l0 k e n (p ++ r) ((p ++ r).length : Int) (p.length : Int) a b) (if e < 0 then idxFrom (fldE a b) r p.length else e, if n < 0 then idxFrom (fldN a) r p.length else n)
  | [], p, e, n, _, he, hn => by
    refine LoopK.Ev.succ ?_
    simp only [spec_l15At.l0, List.append_nil, at_stop, if_false, idxFrom]
    refine LoopK.Ev.to (Ev.now _) ?_
    congr 1
    · split <;> omega
    · split <;> omega
  | x :: r, p, e, n, hB, he, hn => by
    have e1 := at_w p x r (by omega)
    have step2 : ∀ e' : Int, (e' = -1 ∨ 0 ≤ e') → Ev (fun k => spec_l15At.j2 k e' n (p.length : Int) (p ++ x :: r) ((p ++ x :: r).length : Int) (p.length : Int) a b x.f0 x.f1) (if e' < 0 then idxFrom (fldE a b) r (p.length + 1) else e', if n < 0 then idxFrom (fldN a) (x :: r) p.length else n) := by
      intro e' he'
      refine LoopK.Ev.succ ?_
      simp only [spec_l15At.j2, e1]
      by_cases h1 : n < 0
      · simp only [h1, if_true, idxFrom]
        by_cases h2 : x.f0.toList = a.toList
        · have h3 : fldN a x = true := by unfold fldN; rw [h2]; simp
          simp only [h2, if_true, h3]
          have ih := specAt_loop a b r (p ++ [x]) e' (p.length : Int) (by simpa using hB) he' (Or.inr (by omega))
          rw [← at_snoc, len_snoc p x] at ih
          have h4 : ¬ ((p.length : Int) < 0) := by omega
          simp only [h4, if_false] at ih
          simpa using ih
        · have h3 : ¬ (fldN a x = true) := by unfold fldN; simpa using h2
          simp only [h2, if_false, h3]
          have ih := specAt_loop a b r (p ++ [x]) e' n (by simpa using hB) he' hn
          rw [← at_snoc, len_snoc p x] at ih
          simp only [h1, if_true] at ih
          simpa using ih
      · simp only [h1, if_false]
        have ih := specAt_loop a b r (p ++ [x]) e' n (by simpa using hB) he' hn
        rw [← at_snoc, len_snoc p x] at ih
        simp only [h1, if_false] at ih
        simpa using ih
    refine LoopK.Ev.succ ?_
    simp only [spec_l15At.l0, at_lt, at_nn, if_true, rd_T30, at_getD]
    have hE : (x.f0.toList == a.toList && (x.f1.toList == b.toList)) = fldE a b x := rfl
    by_cases h1 : e < 0
    · simp only [h1, if_true, hE]
      refine LoopK.Ev.succ ?_
      simp only [spec_l15At.j1]
      by_cases h2 : fldE a b x = true
      · have h4 : ¬ ((p.length : Int) < 0) := by omega
        have h5 : idxFrom (fldE a b) (x :: r) p.length = (p.length : Int) := by simp only [idxFrom, h2, if_true]
        have s := step2 (p.length : Int) (Or.inr (by omega))
        simp only [h4, if_false] at s
        rw [h5]
        simp only [h2, if_true]
        exact s
      · have h5 : idxFrom (fldE a b) (x :: r) p.length = idxFrom (fldE a b) r (p.length + 1) := by simp only [idxFrom, h2, Bool.false_eq_true, if_false]
        have s := step2 e he
        simp only [h1, if_true] at s
        rw [h5]
        simp only [h2, if_false]
        exact s
    · simp only [h1, if_false]
      refine LoopK.Ev.succ ?_
      simp only [spec_l15At.j1, Bool.false_eq_true, if_false]
      have s := step2 e he
      simp only [h1, if_false] at s
      exact s
/-- Both places of a field. -/
theorem staticAt_ev (a b : ByteArray) : ∃ v, Ev (fun k => spec_StaticAt.f k a b) v ∧ Ev (fun k => impl_StaticAt.f k a b) v := by
  obtain ⟨l, hl, hlen⟩ : ∃ l, spec_l15Static.f = some l ∧ l.length ≤ 1000 := ⟨_, rfl, by decide⟩
  have hi : impl_static.f = some l := hl
  refine ⟨(idxF (fldE a b) l, idxF (fldN a) l), ?_, ?_⟩
  · unfold spec_StaticAt.f spec_l15At.f
    simp only [hl, Option.bind_some]
    have h := specAt_loop a b l [] (-1) (-1) (by simp; omega) (Or.inl rfl) (Or.inl rfl)
    simp only [show ((-1 : Int) < 0) by omega, if_true, List.nil_append, List.length_nil] at h
    exact LoopK.Ev.bind_ h (Ev.now _)
  · unfold impl_StaticAt.f impl_Field_64.f
    simp only [hi, Option.bind_some]
    have h := index_loop a b l [] (by simp; omega)
    simp only [List.nil_append, List.length_nil] at h
    exact LoopK.Ev.bind_ h (Ev.now _)

theorem FnExactStaticAt : SFnExactStaticAt.Pure := by
  intro a b ha hb
  refine Ev.rounds ?_
  unfold laws_FnExactStaticAt.f
  have hsz : ∃ r, laws_szField.f a b 1048576 = some r := by
    unfold laws_szField.f
    split
    · exact ⟨_, rfl⟩
    · split <;> exact ⟨_, rfl⟩
  obtain ⟨r, hr⟩ := hsz
  simp only [hr, Option.bind_some]
  by_cases h0 : r < 0
  · simp only [h0, if_true]
    exact Ev.now _
  · obtain ⟨v, h1, h2⟩ := staticAt_ev a b
    simp only [h0, if_false, laws_toField.f, Option.bind_some]
    refine LoopK.Ev.bind_ h1 ?_
    refine LoopK.Ev.bind_ h2 ?_
    simp only [if_true]
    exact Ev.now _

end Go.Proofs.Ytikomfdkdoognaa.Pure
