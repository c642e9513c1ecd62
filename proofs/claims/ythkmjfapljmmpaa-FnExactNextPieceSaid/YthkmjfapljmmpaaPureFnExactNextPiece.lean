/- The pure statement of the law FnExactNextPiece: the program's function and the reference answer alike. -/
import Derived.Test.YthkmjfapljmmpaaSFnExactNextPiece
import Derived.Test.YthkmjfapljmmpaaLoopK
namespace Go.Proofs.Ythkmjfapljmmpaa.Pure
open Go.RowKit Go.Proofs.Ythkmjfapljmmpaa.PFnExactNextPiece Go.Proofs.YthkmjfapljmmpaaW.PrintWords Go.Proofs.YthkmjfapljmmpaaW.PrintLast Go.Proofs.Ythkmjfapljmmpaa.SFnExactNextPiece
set_option linter.unusedVariables false
set_option linter.unusedSimpArgs false

theorem l1In_eq (a b c : Int) : spec_l1In.f a b c = some (decide (b ≤ a ∧ a ≤ c)) := by
  unfold spec_l1In.f
  by_cases h : b ≤ a
  · rw [if_pos h]; simp [h]
  · rw [if_neg h]; simp [h]
theorem in_eq (a b c : Int) : impl_in.f a b c = some (decide (b ≤ a ∧ a ≤ c)) := l1In_eq a b c
theorem and_ite (p q : Prop) [Decidable p] [Decidable q] : (if p then some (decide q) else some false) = some (decide (p ∧ q)) := by
  by_cases h : p <;> simp [h]

open Go.Proofs.Ythkmjfapljmmpaa.LoopK (copyEv sameEv markEv heldEv foldEv mk mk_length at_lt at_lt' at_nn at_nlt at_stop at_getD at_set at_set2 at_snoc len_snoc at_w w64 firstEv find_any chk last_or at_prev at_prev_lt at_prev_nn at_prev_pos at_prev_w pairEv)

theorem eqRange_self (x : S203) : laws_eqRange.f x.f0 x.f1 x.f0 x.f1 = some true := by
  unfold laws_eqRange.f
  simp
theorem eqRangeS_ev (l : List S203) (h : l.length ≤ 4611686018427387904) : Ev (fun k => laws_eqRangeS.f k l l) true := by
  have key := sameEv (fun k xs ys i => laws_eqRangeS.l0 k xs ys i) 4611686018427387904
    (fun xs ys => by
      refine LoopK.Ev.succ ?_
      simp only [laws_eqRangeS.l0, at_stop, if_false]
      exact Ev.now _)
    (fun p x r hB ih => by
      refine LoopK.Ev.succ ?_
      have e1 := at_w p x r hB
      simp only [laws_eqRangeS.l0, at_lt, at_nn, if_true, eqRange_self, Option.bind_some, rd_T203, at_getD, e1]
      exact ih) l [] (by simpa using h)
  unfold laws_eqRangeS.f
  simp only [if_true]
  simpa using key


/-- An element's marks. -/
noncomputable def markRange (_ : S203) (a : Int) : S203 := ⟨a, a + 1⟩
theorem markRangeS_ev (l : List S203) (a : Int) (ha : 0 ≤ a) (hl : (l.length : Int) ≤ 1000000000000) (hb : a ≤ 1000000000000) : Ev (fun k => laws_markRangeS.f k l a) (a + 2 * (l.length : Int), mk markRange 2 l a) := by
  have key := markEv (fun k xs a i => laws_markRangeS.l0 k xs a i) markRange 2 (by omega) 4611686018427387904
    (fun xs a => by
      refine LoopK.Ev.succ ?_
      simp only [laws_markRangeS.l0, at_stop, if_false]
      exact Ev.now _)
    (fun p x r a res hB h0 h1 ih => by
      refine LoopK.Ev.succ ?_
      have e1 := at_w p x r hB
      have w0 : wrap64 (a + 1) = a + 1 := by rw [show a + 1 = a + 1 from by omega]; exact w64 _ (by omega)
      have w1 : wrap64 (a + 1 + 1) = a + 2 := by rw [show a + 1 + 1 = a + 2 from by omega]; exact w64 _ (by omega)
      simp only [laws_markRangeS.l0, at_lt, at_nn, if_true, Option.bind_some, rd_T203, at_getD, at_set, e1, w0, w1]

      exact ih) l [] a (by simp; omega) ha (by omega)
  unfold laws_markRangeS.f
  simpa using key
theorem heldRangeS_ev (l : List S203) (a : Int) (ha : 0 ≤ a) (hl : (l.length : Int) ≤ 1000000000000) (hb : a ≤ 1000000000000) : Ev (fun k => laws_heldRangeS.f k (mk markRange 2 l a) a) (a + 2 * (l.length : Int)) := by
  have key := heldEv (fun k xs a i => laws_heldRangeS.l0 k xs a i) markRange 2 (by omega) 4611686018427387904
    (fun xs a => by
      refine LoopK.Ev.succ ?_
      simp only [laws_heldRangeS.l0, at_stop, if_false]
      exact Ev.now _)
    (fun p x r a res hB h0 h1 ih => by
      refine LoopK.Ev.succ ?_
      have e1 := at_w p (markRange x a) r hB
      have w0 : wrap64 (a + 1) = a + 1 := by rw [show a + 1 = a + 1 from by omega]; exact w64 _ (by omega)
      have w1 : wrap64 (a + 1 + 1) = a + 2 := by rw [show a + 1 + 1 = a + 2 from by omega]; exact w64 _ (by omega)
      have v0 : (markRange x a).f0 = a := rfl
      have v1 : (markRange x a).f1 = a + 1 := rfl
      simp only [laws_heldRangeS.l0, at_lt, at_nn, if_true, rd_T203, at_getD, e1, w0, w1, v0, v1, bne_self_eq_false, Bool.false_eq_true, if_false]

      exact ih) l [] a (by simp; omega) ha (by omega)
  unfold laws_heldRangeS.f
  simpa using key

theorem str_nil (s : ByteArray) : (s.toList = ([] : List UInt8)) ↔ s.size = 0 := by
  rw [ByteArray.toList_eq]
  constructor
  · intro h
    have := congrArg List.length h
    simpa using this
  · intro h
    apply List.eq_nil_of_length_eq_zero
    simpa using h
/-- Is an outflow right? -/
def OutOk (L S : Int) (d : ByteArray) : Prop := (0 ≤ L ∧ L ≤ 4611686018427387903) ∧ (d.size : Int) ≤ 4000 ∧ (0 ≤ S ∧ S ≤ (d.size : Int)) ∧ S ≤ L
instance (L S : Int) (d : ByteArray) : Decidable (OutOk L S d) := by unfold OutOk; infer_instance
theorem specOut_eq (L S : Int) (d : ByteArray) (e : Bool) : spec_GoodOutflow.f L S d e = some (decide (OutOk L S d)) := by
  unfold spec_GoodOutflow.f spec_l1Known.f OutOk
  simp only [l1In_eq, Option.bind_some, decide_eq_true_eq, and_ite]
theorem implOut_eq (L S : Int) (d : ByteArray) (e : Bool) : impl_GoodOutflow.f L S d e = some (decide (OutOk L S d)) := specOut_eq L S d e
abbrev NextV := Int × Int × ByteArray × Bool × Int × Int × Int × Int × Bool × ByteArray × (List S203) × Bool
def nextNo : NextV := (0, 0, (⟨#[]⟩ : ByteArray), false, 0, 0, 0, 0, false, (⟨#[]⟩ : ByteArray), [], false)
def nextYes (L S E : Int) (d : ByteArray) (e f : Bool) : NextV := (L, E, d, e, 8, 0, S, 0, f, d.extract S.toNat E.toNat, [], true)
/-- Where the next piece ends. -/
def nextEnd (L S m : Int) (d : ByteArray) : Int := S + mn (mn m (L - S)) ((d.size : Int) - S)
/-- The law's value. -/
def nextF (L S : Int) (d : ByteArray) (e : Bool) (m : Int) : NextV :=
  if OutOk L S d ∧ (1 ≤ m ∧ m ≤ 200) then
    (if e = true then (if nextEnd L S m d = S then (if nextEnd L S m d = (d.size : Int) then nextYes L S (nextEnd L S m d) d e (nextEnd L S m d == (d.size : Int)) else nextNo) else nextYes L S (nextEnd L S m d) d e (nextEnd L S m d == (d.size : Int)))
     else (if nextEnd L S m d = S then nextNo else nextYes L S (nextEnd L S m d) d e false))
  else nextNo
theorem nextEnd_in (L S m : Int) (d : ByteArray) (h : OutOk L S d) (hm : 1 ≤ m ∧ m ≤ 200) : S ≤ nextEnd L S m d ∧ nextEnd L S m d ≤ (d.size : Int) ∧ nextEnd L S m d ≤ L ∧ nextEnd L S m d ≤ S + m ∧ (nextEnd L S m d = S + m ∨ nextEnd L S m d = L ∨ nextEnd L S m d = (d.size : Int)) := by
  obtain ⟨h1, h2, h3, h4⟩ := h
  unfold nextEnd mn
  split <;> split <;> omega
theorem cut_nil (d : ByteArray) (S E : Int) (h : 0 ≤ S ∧ S ≤ E ∧ E ≤ (d.size : Int)) : ((d.extract S.toNat E.toNat).toList = ([] : List UInt8)) ↔ E = S := by
  rw [str_nil, ByteArray.size_extract]
  omega
theorem specNext_ev (L S : Int) (d : ByteArray) (e : Bool) (m : Int) : Ev (fun k => spec_NextPiece.f k L S d e m) (nextF L S d e m) := by
  unfold spec_NextPiece.f
  simp only [specOut_eq, l1In_eq, Option.bind_some, decide_eq_true_eq]
  by_cases h : OutOk L S d
  · simp only [h, if_true]
    by_cases hm : 1 ≤ m ∧ m ≤ 200
    · obtain ⟨k1, k2, k3, k4, k5⟩ := nextEnd_in L S m d h hm
      have hh := h
      obtain ⟨h1, h2, h3, h4⟩ := hh
      have w1 : wrap64 (S + m) = S + m := w64 _ (by omega)
      have last : Ev (fun k => spec_NextPiece.j2 k (nextEnd L S m d) L S d e) (nextF L S d e m) := by
        refine LoopK.Ev.succ ?_
        have c := cut_nil d S (nextEnd L S m d) (by omega)
        have hg : OutOk L S d ∧ (1 ≤ m ∧ m ≤ 200) := ⟨h, hm⟩
        unfold nextF nextYes nextNo
        rw [if_pos hg]
        simp only [spec_NextPiece.j2, h3.1, k1, k2, if_true, c]
        refine LoopK.Ev.eq_ fun _ => ?_
        cases e with
        | true =>
          simp only [if_true]
          split
          · split <;> rfl
          · rfl
        | false =>
          simp only [Bool.false_eq_true, if_false]
          split <;> rfl
      have e0 : decide (1 ≤ m ∧ m ≤ 200) = true := decide_eq_true hm
      simp only [e0, Bool.not_true]
      refine LoopK.Ev.succ ?_
      simp only [spec_NextPiece.j0, Bool.false_eq_true, if_false, w1]
      have mid : ∀ x : Int, (x = S + m ∨ x = (d.size : Int)) → x ≤ S + m → x ≤ (d.size : Int) → Ev (fun k => spec_NextPiece.j1 k x L S d e) (nextF L S d e m) := by
        intro x hx hx1 hx2
        refine LoopK.Ev.succ ?_
        simp only [spec_NextPiece.j1]
        by_cases hx3 : x > L
        · simp only [hx3, if_true]
          have : nextEnd L S m d = L := by omega
          rw [← this]
          rw [this]
          have h9 := last
          rw [this] at h9
          exact h9
        · simp only [hx3, if_false]
          have : nextEnd L S m d = x := by omega
          have h9 := last
          rw [this] at h9
          exact h9
      by_cases hs : S + m > (d.size : Int)
      · simp only [hs, if_true]
        exact mid _ (Or.inr rfl) (by omega) (by omega)
      · simp only [hs, if_false]
        exact mid _ (Or.inl rfl) (by omega) (by omega)
    · have e0 : decide (1 ≤ m ∧ m ≤ 200) = false := decide_eq_false hm
      simp only [e0, Bool.not_false]
      refine LoopK.Ev.succ ?_
      simp only [spec_NextPiece.j0, if_true]
      unfold nextF
      rw [if_neg (fun hc => hm hc.2)]
      exact Ev.now _
  · simp only [h, if_false]
    refine LoopK.Ev.succ ?_
    simp only [spec_NextPiece.j0, if_true]
    unfold nextF
    rw [if_neg (fun hc => h hc.1)]
    exact Ev.now _
theorem implNext_ev (L S : Int) (d : ByteArray) (e : Bool) (m : Int) : Ev (fun k => impl_NextPiece.f k L S d e m) (nextF L S d e m) := by
  unfold impl_NextPiece.f
  simp only [implOut_eq, in_eq, Option.bind_some, decide_eq_true_eq]
  by_cases h : OutOk L S d
  · simp only [h, if_true]
    by_cases hm : 1 ≤ m ∧ m ≤ 200
    · obtain ⟨k1, k2, k3, k4, k5⟩ := nextEnd_in L S m d h hm
      have hh := h
      obtain ⟨h1, h2, h3, h4⟩ := hh
      have w1 : wrap64 (L - S) = L - S := w64 _ (by omega)
      have w2 : wrap64 ((d.size : Int) - S) = (d.size : Int) - S := w64 _ (by omega)
      have w3 : wrap64 (S + mn (mn m (L - S)) ((d.size : Int) - S)) = nextEnd L S m d := w64 _ (by unfold nextEnd at k1 k2; omega)
      have w4 : (mn (mn m (L - S)) ((d.size : Int) - S) = 0) = (nextEnd L S m d = S) := by unfold nextEnd; exact propext (by omega)
      have e0 : decide (1 ≤ m ∧ m ≤ 200) = true := decide_eq_true hm
      have hg : OutOk L S d ∧ (1 ≤ m ∧ m ≤ 200) := ⟨h, hm⟩
      simp only [e0, Bool.not_true]
      refine LoopK.Ev.succ ?_
      simp only [impl_NextPiece.j0, Bool.false_eq_true, if_false, w1, w2, w3, w4, h3.1, k1, k2, if_true]
      unfold nextF nextYes nextNo
      rw [if_pos hg]
      refine LoopK.Ev.eq_ fun _ => ?_
      cases e with
      | true =>
        simp only [if_true]
        split
        · split <;> rfl
        · rfl
      | false =>
        simp only [Bool.false_eq_true, if_false]
        split <;> rfl
    · have e0 : decide (1 ≤ m ∧ m ≤ 200) = false := decide_eq_false hm
      simp only [e0, Bool.not_false]
      refine LoopK.Ev.succ ?_
      simp only [impl_NextPiece.j0, if_true]
      unfold nextF
      rw [if_neg (fun hc => hm hc.2)]
      exact Ev.now _
  · simp only [h, if_false]
    refine LoopK.Ev.succ ?_
    simp only [impl_NextPiece.j0, if_true]
    unfold nextF
    rw [if_neg (fun hc => h hc.1)]
    exact Ev.now _
theorem nextF_ranges (L S : Int) (d : ByteArray) (e : Bool) (m : Int) : (nextF L S d e m).2.2.2.2.2.2.2.2.2.2.1 = [] := by
  unfold nextF nextYes nextNo
  repeat' split
  all_goals rfl
theorem eqFrame_ev (a b c d : Int) (f : Bool) (s : ByteArray) : Ev (fun k => laws_eqFrame.f k a b c d f s [] a b c d f s []) true := by
  unfold laws_eqFrame.f
  simp only [if_true, bne_self_eq_false, Bool.false_eq_true, if_false]
  refine LoopK.Ev.bind_ (eqRangeS_ev [] (by simp)) ?_
  simp only [if_true]
  exact Ev.now _
theorem markFrame_ev (a b c d : Int) (f : Bool) (s : ByteArray) : Ev (fun k => laws_markFrame.f k a b c d f s [] 1) (1, []) := by
  unfold laws_markFrame.f
  have h := markRangeS_ev [] 1 (by omega) (by simp) (by omega)
  simp only [List.length_nil, mk] at h
  exact LoopK.Ev.bind_ h (Ev.now _)
theorem heldFrame_ev (a b c d : Int) (f : Bool) (s : ByteArray) : Ev (fun k => laws_heldFrame.f k a b c d f s [] 1) 1 := by
  unfold laws_heldFrame.f
  have h := heldRangeS_ev [] 1 (by omega) (by simp) (by omega)
  simp only [List.length_nil, mk] at h
  exact LoopK.Ev.bind_ h (Ev.now _)
theorem FnExactNextPiece : SFnExactNextPiece.Pure := by
  intro L S d e m _ _ hd _
  by_cases h0 : wrap64 (1048576 - (d.size : Int)) < 0
  · exact ⟨0, laws_FnExactNextPiece.of_good (Or.inl ⟨-1, by unfold laws_szOutflow.f; rw [if_pos h0], by omega⟩)⟩
  · obtain ⟨k1, h1⟩ := implNext_ev L S d e m
    obtain ⟨k2, h2⟩ := specNext_ev L S d e m
    have hn := nextF_ranges L S d e m
    generalize nextF L S d e m = v at h1 h2 hn
    obtain ⟨v0, v1, v2, v3, v4, v5, v6, v7, v8, v9, v10, v11⟩ := v
    simp only at hn
    subst hn
    have eo : laws_eqOutflow.f v0 v1 v2 v3 v0 v1 v2 v3 = some true := by unfold laws_eqOutflow.f; simp
    obtain ⟨k3, h3⟩ := eqFrame_ev v4 v5 v6 v7 v8 v9
    obtain ⟨k4, h4⟩ := markFrame_ev v4 v5 v6 v7 v8 v9
    obtain ⟨k5, h5⟩ := heldFrame_ev v4 v5 v6 v7 v8 v9
    refine ⟨k1 + k2 + k3 + k4 + k5, laws_FnExactNextPiece.of_good (Or.inr ⟨wrap64 (1048576 - (d.size : Int)), _, _, _, _, _, _, _, _, _, _, _, _, _, _, _, _, _, _, by unfold laws_szOutflow.f; rw [if_neg h0], rfl, h2 _ (by omega), h1 _ (by omega), eo, h3 _ (by omega), h4 _ (by omega), h5 _ (by omega), by omega, by omega⟩)⟩

end Go.Proofs.Ythkmjfapljmmpaa.Pure
