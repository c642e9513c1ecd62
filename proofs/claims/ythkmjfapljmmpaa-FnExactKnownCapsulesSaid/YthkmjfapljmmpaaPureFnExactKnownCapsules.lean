/- The pure statement of the law FnExactKnownCapsules: the program's function and the reference answer alike. -/
import Derived.Test.YthkmjfapljmmpaaSFnExactKnownCapsules
import Derived.Test.YthkmjfapljmmpaaLoopK
namespace Go.Proofs.Ythkmjfapljmmpaa.Pure
open Go.RowKit Go.Proofs.Ythkmjfapljmmpaa.PFnExactKnownCapsules Go.Proofs.YthkmjfapljmmpaaW.PrintWords Go.Proofs.YthkmjfapljmmpaaW.PrintLast Go.Proofs.Ythkmjfapljmmpaa.SFnExactKnownCapsules
set_option linter.unusedVariables false
set_option linter.unusedSimpArgs false

theorem l1In_eq (a b c : Int) : spec_l1In.f a b c = some (decide (b ≤ a ∧ a ≤ c)) := by
  unfold spec_l1In.f
  by_cases h : b ≤ a
  · rw [if_pos h]; simp [h]
  · rw [if_neg h]; simp [h]
theorem in_eq (a b c : Int) : impl_in.f a b c = some (decide (b ≤ a ∧ a ≤ c)) := l1In_eq a b c
theorem and_ite (p q : Prop) [Decidable p] [Decidable q] : (if p then some (decide q) else some false) = some (decide (p ∧ q)) := by
  by_cases h : p <;> simp [h]

open Go.Proofs.Ythkmjfapljmmpaa.LoopK (copyEv sameEv markEv heldEv foldEv mk mk_length at_lt at_lt' at_nn at_nlt at_stop at_getD at_set at_set2 at_snoc len_snoc at_w w64 firstEv find_any chk last_or at_prev at_prev_lt at_prev_nn at_prev_pos at_prev_w pairEv)

/-- Are capsules right? -/
def capsGood (l : List S139) : Bool := decide ((l.length : Int) ≤ 30) && !(l.any fun c => !capOk c)
theorem capsKnown_eq (a : Int) : spec_l1Known.f a = some (decide (0 ≤ a ∧ a ≤ 4611686018427387903)) := by
  unfold spec_l1Known.f
  simp only [l1In_eq, Option.bind_some]
theorem capsulesOk_eq (l : List S139) : impl_capsulesOk.f l = some (capsGood l) := rfl
theorem l16Good_ev (l : List S139) (hl : l.length ≤ 4611686018427387904) : Ev (fun k => spec_l16Good.f k l) (capsGood l) := by
  have key := firstEv (fun k xs i => spec_l16Good.l0 k l xs (xs.length : Int) i) (fun c => !capOk c) (fun o : Option S139 => decide ((l.length : Int) ≤ 30) && !o.isSome) 4611686018427387904
    (fun xs => by
      refine LoopK.Ev.succ ?_
      simp only [spec_l16Good.l0, at_stop, if_false, Option.isSome_none, Bool.not_false, Bool.and_true]
      exact Ev.now _)
    (fun p x r hB hg => by
      refine LoopK.Ev.succ ?_
      simp only [spec_l16Good.l0, at_lt, at_nn, if_true, rd_T139, at_getD, capsKnown_eq, Option.bind_some, decide_eq_true_eq, Option.isSome_some, Bool.not_true, Bool.and_false]
      simp only [capOk, Bool.not_and, Bool.or_eq_true, Bool.not_eq_true', decide_eq_false_iff_not] at hg
      by_cases h1 : 0 ≤ x.f0 ∧ x.f0 ≤ 4611686018427387903
      · have h2 : (x.f1.size : Int) > 200 := by
          rcases hg with h | h
          · exact absurd h1 h
          · omega
        simp only [h1, and_self, if_true, h2]
        exact Ev.now _
      · simp only [h1, if_false]
        exact Ev.now _)
    (fun p x r b hB hg ih => by
      refine LoopK.Ev.succ ?_
      have e1 := at_w p x r hB
      simp only [capOk, Bool.not_eq_false', Bool.and_eq_true, decide_eq_true_eq] at hg
      have h2 : ¬ ((x.f1.size : Int) > 200) := by omega
      simp only [spec_l16Good.l0, at_lt, at_nn, if_true, rd_T139, at_getD, capsKnown_eq, Option.bind_some, decide_eq_true_eq, hg.1, and_self, h2, if_false, e1]
      exact ih) l [] (by simpa using hl)
  unfold spec_l16Good.f capsGood
  rw [find_any] at key
  simpa using key
theorem capsGood_in (l : List S139) (h : capsGood l = true) : l.length ≤ 30 ∧ ∀ x, x ∈ l → x.f1.size ≤ 200 := by
  simp only [capsGood, Bool.and_eq_true, decide_eq_true_eq, Bool.not_eq_true', List.any_eq_false] at h
  refine ⟨by omega, fun x hx => ?_⟩
  have h2 := h.2 x hx
  simp only [capOk, Bool.not_eq_true', Bool.and_eq_false_iff, decide_eq_false_iff_not, not_or, Classical.not_not] at h2
  omega

/-- The copy of an element. -/
def cvCapsule (x : S137) : S139 := ⟨x.f0, x.f1⟩

theorem toCapsuleS_ev (l : List S137) (h : l.length ≤ 1048576) : Ev (fun k => laws_toCapsuleS.f k l) (l.map cvCapsule) := by
  have key := copyEv (fun k xs ys i => laws_toCapsuleS.l0 k xs ys i) cvCapsule z139 1048576
    (fun xs ys => by
      refine LoopK.Ev.succ ?_
      simp only [laws_toCapsuleS.l0, at_stop, if_false]
      exact Ev.now _)
    (fun p x r q y s res hq hB hs ih => by
      refine LoopK.Ev.succ ?_
      have e1 := at_w p x r (by omega)
      have e2 := at_lt' p q y s hq
      have e3 : (q ++ y :: s).set (p.length : Int).toNat (cvCapsule x) = q ++ cvCapsule x :: s := at_set2 p q y _ s hq
      simp only [cvCapsule] at e3 ih
      simp only [laws_toCapsuleS.l0, at_lt, at_nn, if_true, laws_toCapsule.f, Option.bind_some, rd_T137, at_getD, e1, e2, e3]
      exact ih) l [] (by simpa using h)
  unfold laws_toCapsuleS.f
  have c1 : 0 ≤ (l.length : Int) := by omega
  have c2 : (l.length : Int).toNat = l.length := by omega
  simp only [c1, if_true, c2]
  have c3 : l.length ≤ 11728124029610 := by omega
  simp only [c3, if_true]
  simpa using key

theorem eqCapsule_self (x : S139) : laws_eqCapsule.f x.f0 x.f1 x.f0 x.f1 = some true := by
  unfold laws_eqCapsule.f
  simp
theorem eqCapsuleS_ev (l : List S139) (h : l.length ≤ 4611686018427387904) : Ev (fun k => laws_eqCapsuleS.f k l l) true := by
  have key := sameEv (fun k xs ys i => laws_eqCapsuleS.l0 k xs ys i) 4611686018427387904
    (fun xs ys => by
      refine LoopK.Ev.succ ?_
      simp only [laws_eqCapsuleS.l0, at_stop, if_false]
      exact Ev.now _)
    (fun p x r hB ih => by
      refine LoopK.Ev.succ ?_
      have e1 := at_w p x r hB
      simp only [laws_eqCapsuleS.l0, at_lt, at_nn, if_true, eqCapsule_self, Option.bind_some, rd_T139, at_getD, e1]
      exact ih) l [] (by simpa using h)
  unfold laws_eqCapsuleS.f
  simp only [if_true]
  simpa using key

/-- What the strings of elements take. -/
def totCapsule : List S137 → Int
  | [] => 0
  | x :: r => (x.f1.size : Int) + totCapsule r
theorem totCapsule_nonneg : ∀ l, 0 ≤ totCapsule l
  | [] => by simp [totCapsule]
  | x :: r => by
    have := totCapsule_nonneg r
    simp only [totCapsule]
    omega
theorem szCapsule_some (x : S137) (a : Int) (ha : 0 ≤ a ∧ a ≤ 1048576) (hx : x.f1.size ≤ 140737488351232) : ∃ r, laws_szCapsule.f x.f0 x.f1 a = some r ∧ (0 ≤ r → r = a - ((x.f1.size : Int))) := by
  unfold laws_szCapsule.f
  have e : wrap64 (a - (x.f1.size : Int)) = a - (x.f1.size : Int) := w64 _ (by omega)
  rw [e]
  by_cases h1 : a - (x.f1.size : Int) < 0
  · rw [if_pos h1]
    exact ⟨_, rfl, fun h => by omega⟩
  · rw [if_neg h1]
    exact ⟨_, rfl, fun h => rfl⟩
theorem szCapsuleS_loop : ∀ (r p : List S137) (a : Int), (p ++ r).length ≤ 4611686018427387904 → 0 ≤ a → a ≤ 1048576 → (∀ x, x ∈ r → x.f1.size ≤ 140737488351232) →
    ∃ q, Ev (fun k => laws_szCapsuleS.l0 k (p ++ r) a (p.length : Int)) q ∧ -1 ≤ q ∧ (0 ≤ q → q = a - totCapsule r)
  | [], p, a, hB, h0, h1, _ => by
    refine ⟨a, LoopK.Ev.succ ?_, by omega, fun _ => by simp [totCapsule]⟩
    simp only [List.append_nil, laws_szCapsuleS.l0, at_stop, if_false]
    exact Ev.now _
  | x :: r, p, a, hB, h0, h1, hx => by
    have hx0 : x.f1.size ≤ 140737488351232 := hx x (by simp)
    have e1 := at_w p x r hB
    have tn := totCapsule_nonneg r
    obtain ⟨t, ht, ht1⟩ := szCapsule_some x a ⟨h0, h1⟩ hx0
    by_cases hn : t < 0
    · refine ⟨-1, LoopK.Ev.succ ?_, by omega, fun h => by omega⟩
      simp only [laws_szCapsuleS.l0, at_lt, at_nn, if_true, rd_T137, at_getD, ht, Option.bind_some, hn]
      exact Ev.now _
    · have ht2 := ht1 (by omega)
      obtain ⟨q, hq, q2, q3⟩ := szCapsuleS_loop r (p ++ [x]) t (by simpa using hB) (by omega) (by omega) (fun y hy => hx y (by simp [hy]))
      rw [← at_snoc, len_snoc] at hq
      refine ⟨q, LoopK.Ev.succ ?_, q2, fun h => ?_⟩
      · simp only [laws_szCapsuleS.l0, at_lt, at_nn, if_true, rd_T137, at_getD, ht, Option.bind_some, hn, if_false, e1]
        exact hq
      · rw [q3 h]
        simp only [totCapsule]
        omega
theorem szCapsuleS_ev (l : List S137) (a : Int) (ha : 0 ≤ a ∧ a ≤ 1048576) (h : l.length ≤ 140737488351232) (hx : ∀ x, x ∈ l → x.f1.size ≤ 140737488351232) :
    ∃ r, Ev (fun k => laws_szCapsuleS.f k l a) r ∧ -1 ≤ r ∧ (0 ≤ r → r = a - l.length - totCapsule l) := by
  unfold laws_szCapsuleS.f
  have e : wrap64 (a - (l.length : Int)) = a - (l.length : Int) := w64 _ (by omega)
  simp only [e]
  by_cases hn : a - (l.length : Int) < 0
  · simp only [hn, if_true]
    exact ⟨-1, Ev.now _, by omega, fun h => by omega⟩
  · simp only [hn, if_false]
    obtain ⟨q, hq, q2, q3⟩ := szCapsuleS_loop l [] (a - l.length) (by simp; omega) (by omega) (by omega) hx
    exact ⟨q, by simpa using hq, q2, q3⟩

theorem strOfNums_one (n : Int) : (strOfNums [n]).size = 1 := rfl
theorem markText_loop : ∀ (d : Nat) (x : Int) (s : ByteArray), x < 10 ^ d → s.size + d ≤ 1000 → ∃ r, Ev (fun k => laws_markText.l0 k x s) r
  | d, x, s, hx, hs => by
    by_cases h0 : x > 0
    · match d with
      | 0 => simp at hx; omega
      | d + 1 =>
        have e1 : wrap64 (Int.tdiv x 10) = Int.tdiv x 10 ∨ True := Or.inr trivial
        have ht : Int.tdiv x 10 = x / 10 := Int.tdiv_eq_ediv_of_nonneg (by omega)
        have hlt : x / 10 < 10 ^ d := by
          have : (10 : Int) ^ (d + 1) = 10 ^ d * 10 := by rw [Int.pow_succ]
          omega
        have hw : wrap64 (x / 10) < 10 ^ d ∧ True := ⟨by
          by_cases hb : x / 10 ≤ 9223372036854775807
          · rw [w64 _ (by omega)]; exact hlt
          · have hp : (0 : Int) < 10 ^ d := Int.pow_pos (by decide)
            unfold wrap64
            have := Int.emod_lt_of_pos (x / 10 + 9223372036854775808) (show (0 : Int) < 18446744073709551616 by decide)
            omega, trivial⟩
        obtain ⟨r, hr⟩ := markText_loop d (wrap64 (x / 10)) (strOfNums [(wrap64 (48 + (Int.tmod x 10))) % 256] ++ s) hw.1 (by rw [ByteArray.size_append, strOfNums_one]; omega)
        refine ⟨r, LoopK.Ev.succ ?_⟩
        have c : (strOfNums [(wrap64 (48 + (Int.tmod x 10))) % 256]).size + s.size ≤ 9223372036854775807 := by rw [strOfNums_one]; omega
        simp only [laws_markText.l0, h0, if_true, Option.bind_some, c, ht]
        exact hr
    · refine ⟨(⟨#[109]⟩ : ByteArray) ++ s, LoopK.Ev.succ ?_⟩
      have c : 1 + s.size ≤ 9223372036854775807 := by omega
      simp only [laws_markText.l0, h0, if_false, c, if_true]
      exact Ev.now _
theorem markText_some (x : Int) (h : x ≤ 9223372036854775807) : ∃ r, Ev (fun k => laws_markText.f k x) r := by
  unfold laws_markText.f
  by_cases h0 : x ≤ 0
  · simp only [h0, if_true]
    exact ⟨_, Ev.now _⟩
  · simp only [h0, if_false]
    exact markText_loop 20 x _ (by omega) (by decide)
/-- The text of a mark. -/
noncomputable def mtx (x : Int) : ByteArray := Classical.epsilon fun r => Ev (fun k => laws_markText.f k x) r
theorem mtx_ev (x : Int) (h : x ≤ 9223372036854775807) : Ev (fun k => laws_markText.f k x) (mtx x) := Classical.epsilon_spec (markText_some x h)

/-- An element's marks. -/
noncomputable def markCapsule (_ : S139) (a : Int) : S139 := ⟨a, mtx (a + 1)⟩
theorem markCapsuleS_ev (l : List S139) (a : Int) (ha : 0 ≤ a) (hl : (l.length : Int) ≤ 1000000000000) (hb : a ≤ 1000000000000) : Ev (fun k => laws_markCapsuleS.f k l a) (a + 2 * (l.length : Int), mk markCapsule 2 l a) := by
  have key := markEv (fun k xs a i => laws_markCapsuleS.l0 k xs a i) markCapsule 2 (by omega) 4611686018427387904
    (fun xs a => by
      refine LoopK.Ev.succ ?_
      simp only [laws_markCapsuleS.l0, at_stop, if_false]
      exact Ev.now _)
    (fun p x r a res hB h0 h1 ih => by
      refine LoopK.Ev.succ ?_
      have e1 := at_w p x r hB
      have w0 : wrap64 (a + 1) = a + 1 := by rw [show a + 1 = a + 1 from by omega]; exact w64 _ (by omega)
      have w1 : wrap64 (a + 1 + 1) = a + 2 := by rw [show a + 1 + 1 = a + 2 from by omega]; exact w64 _ (by omega)
      simp only [laws_markCapsuleS.l0, at_lt, at_nn, if_true, Option.bind_some, rd_T139, at_getD, at_set, e1, w0, w1]
      refine LoopK.Ev.bind_ (mtx_ev _ (by omega)) ?_
      exact ih) l [] a (by simp; omega) ha (by omega)
  unfold laws_markCapsuleS.f
  simpa using key
theorem heldCapsuleS_ev (l : List S139) (a : Int) (ha : 0 ≤ a) (hl : (l.length : Int) ≤ 1000000000000) (hb : a ≤ 1000000000000) : Ev (fun k => laws_heldCapsuleS.f k (mk markCapsule 2 l a) a) (a + 2 * (l.length : Int)) := by
  have key := heldEv (fun k xs a i => laws_heldCapsuleS.l0 k xs a i) markCapsule 2 (by omega) 4611686018427387904
    (fun xs a => by
      refine LoopK.Ev.succ ?_
      simp only [laws_heldCapsuleS.l0, at_stop, if_false]
      exact Ev.now _)
    (fun p x r a res hB h0 h1 ih => by
      refine LoopK.Ev.succ ?_
      have e1 := at_w p (markCapsule x a) r hB
      have w0 : wrap64 (a + 1) = a + 1 := by rw [show a + 1 = a + 1 from by omega]; exact w64 _ (by omega)
      have w1 : wrap64 (a + 1 + 1) = a + 2 := by rw [show a + 1 + 1 = a + 2 from by omega]; exact w64 _ (by omega)
      have v0 : (markCapsule x a).f0 = a := rfl
      have v1 : (markCapsule x a).f1 = mtx (a + 1) := rfl
      simp only [laws_heldCapsuleS.l0, at_lt, at_nn, if_true, rd_T139, at_getD, e1, w0, w1, v0, v1, bne_self_eq_false, Bool.false_eq_true, if_false]
      refine LoopK.Ev.bind_ (mtx_ev _ (by omega)) ?_
      simp only [if_true, bne_self_eq_false, Bool.false_eq_true, if_false]
      exact ih) l [] a (by simp; omega) ha (by omega)
  unfold laws_heldCapsuleS.f
  simpa using key

theorem own_Capsule (l : List S139) (h : l.length ≤ 1048576) : impl_Capsule_89.f l = some l := by
  unfold impl_Capsule_89.f
  rw [if_pos (by omega)]
/-- The capsules of known kinds. -/
def capKnown (l : List S139) : List S139 := l.filter fun x => !capUnknown x
theorem capKnown_cons (x : S139) (r : List S139) : capKnown (x :: r) = if x.f0 = 0 ∨ x.f0 = 1 then x :: capKnown r else capKnown r := by
  unfold capKnown
  rw [List.filter_cons]
  have e : ((!capUnknown x) = true) = (x.f0 = 0 ∨ x.f0 = 1) := by
    unfold capUnknown
    rw [Bool.not_not, decide_eq_true_eq]
    exact propext ⟨fun h => by omega, fun h => by omega⟩
  by_cases h : x.f0 = 0 ∨ x.f0 = 1
  · rw [if_pos h, if_pos (e ▸ h)]
  · rw [if_neg h, if_neg (e ▸ h)]
theorem specKnown_loop : ∀ (r p out : List S139), (p ++ r).length ≤ 1048576 → out.length ≤ p.length →
    Ev (fun k => spec_KnownCapsules.l0 k out (p ++ r) ((p ++ r).length : Int) (p.length : Int)) (out ++ capKnown r, true)
  | [], p, out, _, _ => by
    refine LoopK.Ev.succ ?_
    simp only [spec_KnownCapsules.l0, List.append_nil, at_stop, if_false]
    have e : capKnown ([] : List S139) = [] := rfl
    rw [e, List.append_nil]
    exact Ev.now _
  | x :: r, p, out, hB, ho => by
    refine LoopK.Ev.succ ?_
    have e1 := at_w p x r (by omega)
    have hpl : p.length ≤ 1048576 := by rw [List.length_append] at hB; omega
    have c1 : out.length < 5864062014805 := by omega
    rw [capKnown_cons]
    simp only [spec_KnownCapsules.l0, at_lt, at_nn, if_true, rd_T139, at_getD, e1, c1]
    have ih1 := specKnown_loop r (p ++ [x]) (out ++ [x]) (by simpa using hB) (by simp; omega)
    have ih2 := specKnown_loop r (p ++ [x]) out (by simpa using hB) (by simp; omega)
    rw [← at_snoc, len_snoc p x] at ih1 ih2
    have ex : (⟨x.f0, x.f1⟩ : S139) = x := rfl
    rw [ex]
    by_cases h0 : x.f0 = 0
    · simp only [h0, if_true, true_or]
      rw [List.append_assoc] at ih1
      exact ih1
    · by_cases h1 : x.f0 = 1
      · simp only [h1, if_true, or_true, show ¬ ((1 : Int) = 0) from by decide, if_false]
        rw [List.append_assoc] at ih1
        exact ih1
      · simp only [h0, h1, if_false, or_self]
        exact ih2
/-- The law's value. -/
def knownF (l : List S139) : List S139 × Bool := if capsGood l = true then (capKnown l, true) else ([], false)
theorem knownF_len (l : List S139) : (knownF l).1.length ≤ l.length := by
  unfold knownF
  split
  · exact List.length_filter_le _ _
  · simp
theorem specKnown_ev (l : List S139) (hl : l.length ≤ 1048576) : Ev (fun k => spec_KnownCapsules.f k l) (knownF l) := by
  unfold spec_KnownCapsules.f knownF
  refine LoopK.Ev.bind_ (l16Good_ev l (by omega)) ?_
  cases capsGood l with
  | false =>
    simp only [Bool.false_eq_true, if_false]
    exact Ev.now _
  | true =>
    simp only [if_true]
    simpa using specKnown_loop l [] [] (by simpa using hl) (by simp)
theorem implKnown_eq (l : List S139) (hl : l.length ≤ 1048576) : impl_KnownCapsules.f l = some (knownF l) := by
  unfold impl_KnownCapsules.f knownF
  rw [capsulesOk_eq, Option.bind_some, own_Capsule l hl, Option.bind_some]
  cases capsGood l with
  | false => rfl
  | true => rfl
theorem FnExactKnownCapsules : SFnExactKnownCapsules.Pure := by
  intro l hl
  refine Ev.rounds ?_
  unfold laws_FnExactKnownCapsules.f
  have hx : ∀ x, x ∈ l → x.f1.size ≤ 140737488351232 := fun x h => (hl.2.2 x h).2
  obtain ⟨r, hr, hr1, hr2⟩ := szCapsuleS_ev l 1048576 (by omega) (by omega) hx
  refine LoopK.Ev.bind_ hr ?_
  by_cases h0 : r < 0
  · simp only [h0, if_true]
    exact Ev.now _
  · simp only [h0, if_false]
    have tn := totCapsule_nonneg l
    have hl2 : l.length ≤ 1048576 := by have := hr2 (by omega); omega
    have hto := toCapsuleS_ev l hl2
    have hm : (l.map cvCapsule).length ≤ 1048576 := by rw [List.length_map]; omega
    have hi := implKnown_eq (l.map cvCapsule) hm
    have hp := specKnown_ev (l.map cvCapsule) hm
    have hw := knownF_len (l.map cvCapsule)
    generalize knownF (l.map cvCapsule) = v at hi hp hw
    obtain ⟨v0, v1⟩ := v
    simp only at hw
    have he := eqCapsuleS_ev v0 (by omega)
    have n1 : (1 + 2 * ((l.map cvCapsule).length : Int) < 0) = False := eq_false (by omega)
    have n2 : (1 + 2 * (v0.length : Int) < 0) = False := eq_false (by omega)
    refine LoopK.Ev.bind_ hto ?_
    refine LoopK.Ev.bind_ hp ?_
    refine LoopK.Ev.bind_ hto ?_
    simp only [hi, Option.bind_some]
    refine LoopK.Ev.bind_ he ?_
    simp only [if_true, bne_self_eq_false]
    refine LoopK.Ev.succ ?_
    simp only [laws_FnExactKnownCapsules.j0, Bool.false_eq_true, if_false]
    refine LoopK.Ev.bind_ hto ?_
    refine LoopK.Ev.bind_ (eqCapsuleS_ev _ (by omega)) ?_
    simp only [if_true]
    refine LoopK.Ev.bind_ (markCapsuleS_ev _ 1 (by omega) (by omega) (by omega)) ?_
    simp only [n1, if_false]
    refine LoopK.Ev.bind_ he ?_
    simp only [if_true, bne_self_eq_false]
    refine LoopK.Ev.succ ?_
    simp only [laws_FnExactKnownCapsules.j1, Bool.false_eq_true, if_false]
    refine LoopK.Ev.bind_ (markCapsuleS_ev v0 1 (by omega) (by omega) (by omega)) ?_
    refine LoopK.Ev.bind_ (heldCapsuleS_ev v0 1 (by omega) (by omega) (by omega)) ?_
    simp only [n2, if_false, if_true]
    refine LoopK.Ev.bind_ hto ?_
    simp only [hi, Option.bind_some]
    refine LoopK.Ev.bind_ he ?_
    simp only [if_true, bne_self_eq_false]
    refine LoopK.Ev.succ ?_
    simp only [laws_FnExactKnownCapsules.j2, Bool.false_eq_true, if_false]
    refine LoopK.Ev.bind_ (heldCapsuleS_ev v0 1 (by omega) (by omega) (by omega)) ?_
    simp only [n2, if_false, if_true]
    exact Ev.now _

end Go.Proofs.Ythkmjfapljmmpaa.Pure
