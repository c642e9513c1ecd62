/- The pure statement of the law FnExactReadSome: the program's function and the reference answer alike. -/
import Derived.Test.YthkmjfapljmmpaaSFnExactReadSome
import Derived.Test.YthkmjfapljmmpaaLoopK
namespace Go.Proofs.Ythkmjfapljmmpaa.Pure
open Go.RowKit Go.Proofs.Ythkmjfapljmmpaa.PFnExactReadSome Go.Proofs.YthkmjfapljmmpaaW.PrintWords Go.Proofs.YthkmjfapljmmpaaW.PrintLast Go.Proofs.Ythkmjfapljmmpaa.SFnExactReadSome
set_option linter.unusedVariables false
set_option linter.unusedSimpArgs false

open Go.Proofs.Ythkmjfapljmmpaa.LoopK (copyEv sameEv markEv heldEv foldEv mk mk_length at_lt at_lt' at_nn at_nlt at_stop at_getD at_set at_set2 at_snoc len_snoc at_w w64 firstEv find_any chk last_or at_prev at_prev_lt at_prev_nn at_prev_pos at_prev_w pairEv)

/-- The copy of an element. -/
def cvPiece (x : S218) : S177 := ⟨x.f0, x.f1⟩

theorem toPieceS_ev (l : List S218) (h : l.length ≤ 1048576) : Ev (fun k => laws_toPieceS.f k l) (l.map cvPiece) := by
  have key := copyEv (fun k xs ys i => laws_toPieceS.l0 k xs ys i) cvPiece z177 1048576
    (fun xs ys => by
      refine LoopK.Ev.succ ?_
      simp only [laws_toPieceS.l0, at_stop, if_false]
      exact Ev.now _)
    (fun p x r q y s res hq hB hs ih => by
      refine LoopK.Ev.succ ?_
      have e1 := at_w p x r (by omega)
      have e2 := at_lt' p q y s hq
      have e3 : (q ++ y :: s).set (p.length : Int).toNat (cvPiece x) = q ++ cvPiece x :: s := at_set2 p q y _ s hq
      simp only [cvPiece] at e3 ih
      simp only [laws_toPieceS.l0, at_lt, at_nn, if_true, laws_toPiece.f, Option.bind_some, rd_T218, at_getD, e1, e2, e3]
      exact ih) l [] (by simpa using h)
  unfold laws_toPieceS.f
  have c1 : 0 ≤ (l.length : Int) := by omega
  have c2 : (l.length : Int).toNat = l.length := by omega
  simp only [c1, if_true, c2]
  have c3 : l.length ≤ 11728124029610 := by omega
  simp only [c3, if_true]
  simpa using key

theorem eqPiece_self (x : S177) : laws_eqPiece.f x.f0 x.f1 x.f0 x.f1 = some true := by
  unfold laws_eqPiece.f
  simp
theorem eqPieceS_ev (l : List S177) (h : l.length ≤ 4611686018427387904) : Ev (fun k => laws_eqPieceS.f k l l) true := by
  have key := sameEv (fun k xs ys i => laws_eqPieceS.l0 k xs ys i) 4611686018427387904
    (fun xs ys => by
      refine LoopK.Ev.succ ?_
      simp only [laws_eqPieceS.l0, at_stop, if_false]
      exact Ev.now _)
    (fun p x r hB ih => by
      refine LoopK.Ev.succ ?_
      have e1 := at_w p x r hB
      simp only [laws_eqPieceS.l0, at_lt, at_nn, if_true, eqPiece_self, Option.bind_some, rd_T177, at_getD, e1]
      exact ih) l [] (by simpa using h)
  unfold laws_eqPieceS.f
  simp only [if_true]
  simpa using key

/-- What the strings of elements take. -/
def totPiece : List S218 → Int
  | [] => 0
  | x :: r => (x.f1.size : Int) + totPiece r
theorem totPiece_nonneg : ∀ l, 0 ≤ totPiece l
  | [] => by simp [totPiece]
  | x :: r => by
    have := totPiece_nonneg r
    simp only [totPiece]
    omega
theorem szPiece_some (x : S218) (a : Int) (ha : 0 ≤ a ∧ a ≤ 1048576) (hx : x.f1.size ≤ 140737488351232) : ∃ r, laws_szPiece.f x.f0 x.f1 a = some r ∧ (0 ≤ r → r = a - ((x.f1.size : Int))) := by
  unfold laws_szPiece.f
  have e : wrap64 (a - (x.f1.size : Int)) = a - (x.f1.size : Int) := w64 _ (by omega)
  rw [e]
  by_cases h1 : a - (x.f1.size : Int) < 0
  · rw [if_pos h1]
    exact ⟨_, rfl, fun h => by omega⟩
  · rw [if_neg h1]
    exact ⟨_, rfl, fun h => rfl⟩
theorem szPieceS_loop : ∀ (r p : List S218) (a : Int), (p ++ r).length ≤ 4611686018427387904 → 0 ≤ a → a ≤ 1048576 → (∀ x, x ∈ r → x.f1.size ≤ 140737488351232) →
    ∃ q, Ev (fun k => laws_szPieceS.l0 k (p ++ r) a (p.length : Int)) q ∧ -1 ≤ q ∧ (0 ≤ q → q = a - totPiece r)
  | [], p, a, hB, h0, h1, _ => by
    refine ⟨a, LoopK.Ev.succ ?_, by omega, fun _ => by simp [totPiece]⟩
    simp only [List.append_nil, laws_szPieceS.l0, at_stop, if_false]
    exact Ev.now _
  | x :: r, p, a, hB, h0, h1, hx => by
    have hx0 : x.f1.size ≤ 140737488351232 := hx x (by simp)
    have e1 := at_w p x r hB
    have tn := totPiece_nonneg r
    obtain ⟨t, ht, ht1⟩ := szPiece_some x a ⟨h0, h1⟩ hx0
    by_cases hn : t < 0
    · refine ⟨-1, LoopK.Ev.succ ?_, by omega, fun h => by omega⟩
      simp only [laws_szPieceS.l0, at_lt, at_nn, if_true, rd_T218, at_getD, ht, Option.bind_some, hn]
      exact Ev.now _
    · have ht2 := ht1 (by omega)
      obtain ⟨q, hq, q2, q3⟩ := szPieceS_loop r (p ++ [x]) t (by simpa using hB) (by omega) (by omega) (fun y hy => hx y (by simp [hy]))
      rw [← at_snoc, len_snoc] at hq
      refine ⟨q, LoopK.Ev.succ ?_, q2, fun h => ?_⟩
      · simp only [laws_szPieceS.l0, at_lt, at_nn, if_true, rd_T218, at_getD, ht, Option.bind_some, hn, if_false, e1]
        exact hq
      · rw [q3 h]
        simp only [totPiece]
        omega
theorem szPieceS_ev (l : List S218) (a : Int) (ha : 0 ≤ a ∧ a ≤ 1048576) (h : l.length ≤ 140737488351232) (hx : ∀ x, x ∈ l → x.f1.size ≤ 140737488351232) :
    ∃ r, Ev (fun k => laws_szPieceS.f k l a) r ∧ -1 ≤ r ∧ (0 ≤ r → r = a - l.length - totPiece l) := by
  unfold laws_szPieceS.f
  have e : wrap64 (a - (l.length : Int)) = a - (l.length : Int) := w64 _ (by omega)
  simp only [e]
  by_cases hn : a - (l.length : Int) < 0
  · simp only [hn, if_true]
    exact ⟨-1, Ev.now _, by omega, fun h => by omega⟩
  · simp only [hn, if_false]
    obtain ⟨q, hq, q2, q3⟩ := szPieceS_loop l [] (a - l.length) (by simp; omega) (by omega) (by omega) hx
    exact ⟨q, by simpa using hq, q2, q3⟩

theorem toInflow_ev (a b c : Int) (l : List S218) (h : l.length ≤ 1048576) : Ev (fun k => laws_toInflow.f k a b c l) (a, b, c, l.map cvPiece) := by
  unfold laws_toInflow.f
  exact LoopK.Ev.bind_ (toPieceS_ev l h) (Ev.now _)
theorem eqInflow_ev (a b c : Int) (l : List S177) (h : l.length ≤ 4611686018427387904) : Ev (fun k => laws_eqInflow.f k a b c l a b c l) true := by
  unfold laws_eqInflow.f
  simp only [if_true]
  refine LoopK.Ev.bind_ (eqPieceS_ev l h) ?_
  simp only [if_true]
  exact Ev.now _
theorem szInflow_ev (a b c : Int) (l : List S218) (n : Int) (hn : 0 ≤ n ∧ n ≤ 1048576) (hl : l.length ≤ 140737488351232) (hx : ∀ x, x ∈ l → x.f1.size ≤ 140737488351232) :
    ∃ r, Ev (fun k => laws_szInflow.f k a b c l n) r ∧ -1 ≤ r ∧ (0 ≤ r → r = n - l.length - totPiece l) := by
  obtain ⟨q, h1, h2, h3⟩ := szPieceS_ev l n hn hl hx
  unfold laws_szInflow.f
  by_cases h : q < 0
  · refine ⟨-1, LoopK.Ev.bind_ h1 ?_, by omega, fun h => by omega⟩
    simp only [h, if_true]
    exact Ev.now _
  · refine ⟨q, LoopK.Ev.bind_ h1 ?_, h2, h3⟩
    simp only [h, if_false]
    exact Ev.now _
theorem cvPiece_size (l : List S218) (hx : ∀ x, x ∈ l → x.f1.size ≤ 140737488351232) : ∀ x, x ∈ l.map cvPiece → x.f1.size ≤ 140737488351232 := by
  intro x h
  obtain ⟨y, hy, rfl⟩ := List.mem_map.1 h
  exact hx y hy

theorem strOfNums_one (n : Int) : (strOfNums [n]).size = 1 := rfl
theorem markText_loop : ∀ (d : Nat) (x : Int) (s : ByteArray), x < 10 ^ d → s.size + d ≤ 1000 → ∃ r, Ev (fun k => laws_markText.l0 k x s) r
  | d, x, s, hx, hs => by
    by_cases h0 : x > 0
    · match d with
      | 0 => simp at hx; omega
      | d + 1 =>
        have e1 : wrap64 (Int.tdiv x 10) = Int.tdiv x 10 ∨ True := Or.inr trivial
        have ht : Int.tdiv x 10 = x / 10 := Int.tdiv_eq_ediv_of_nonneg (by omega)
        have hlt : x / 10 < 10 ^ d := by
          have : (10 : Int) ^ (d + 1) = 10 ^ d * 10 := by rw [Int.pow_succ]
          omega
        have hw : wrap64 (x / 10) < 10 ^ d ∧ True := ⟨by
          by_cases hb : x / 10 ≤ 9223372036854775807
          · rw [w64 _ (by omega)]; exact hlt
          · have hp : (0 : Int) < 10 ^ d := Int.pow_pos (by decide)
            unfold wrap64
            have := Int.emod_lt_of_pos (x / 10 + 9223372036854775808) (show (0 : Int) < 18446744073709551616 by decide)
            omega, trivial⟩
        obtain ⟨r, hr⟩ := markText_loop d (wrap64 (x / 10)) (strOfNums [(wrap64 (48 + (Int.tmod x 10))) % 256] ++ s) hw.1 (by rw [ByteArray.size_append, strOfNums_one]; omega)
        refine ⟨r, LoopK.Ev.succ ?_⟩
        have c : (strOfNums [(wrap64 (48 + (Int.tmod x 10))) % 256]).size + s.size ≤ 9223372036854775807 := by rw [strOfNums_one]; omega
        simp only [laws_markText.l0, h0, if_true, Option.bind_some, c, ht]
        exact hr
    · refine ⟨(⟨#[109]⟩ : ByteArray) ++ s, LoopK.Ev.succ ?_⟩
      have c : 1 + s.size ≤ 9223372036854775807 := by omega
      simp only [laws_markText.l0, h0, if_false, c, if_true]
      exact Ev.now _
theorem markText_some (x : Int) (h : x ≤ 9223372036854775807) : ∃ r, Ev (fun k => laws_markText.f k x) r := by
  unfold laws_markText.f
  by_cases h0 : x ≤ 0
  · simp only [h0, if_true]
    exact ⟨_, Ev.now _⟩
  · simp only [h0, if_false]
    exact markText_loop 20 x _ (by omega) (by decide)
/-- The text of a mark. -/
noncomputable def mtx (x : Int) : ByteArray := Classical.epsilon fun r => Ev (fun k => laws_markText.f k x) r
theorem mtx_ev (x : Int) (h : x ≤ 9223372036854775807) : Ev (fun k => laws_markText.f k x) (mtx x) := Classical.epsilon_spec (markText_some x h)

/-- An element's marks. -/
noncomputable def markPiece (_ : S177) (a : Int) : S177 := ⟨a, mtx (a + 1)⟩
theorem markPieceS_ev (l : List S177) (a : Int) (ha : 0 ≤ a) (hl : (l.length : Int) ≤ 1000000000000) (hb : a ≤ 1000000000000) : Ev (fun k => laws_markPieceS.f k l a) (a + 2 * (l.length : Int), mk markPiece 2 l a) := by
  have key := markEv (fun k xs a i => laws_markPieceS.l0 k xs a i) markPiece 2 (by omega) 4611686018427387904
    (fun xs a => by
      refine LoopK.Ev.succ ?_
      simp only [laws_markPieceS.l0, at_stop, if_false]
      exact Ev.now _)
    (fun p x r a res hB h0 h1 ih => by
      refine LoopK.Ev.succ ?_
      have e1 := at_w p x r hB
      have w0 : wrap64 (a + 1) = a + 1 := by rw [show a + 1 = a + 1 from by omega]; exact w64 _ (by omega)
      have w1 : wrap64 (a + 1 + 1) = a + 2 := by rw [show a + 1 + 1 = a + 2 from by omega]; exact w64 _ (by omega)
      simp only [laws_markPieceS.l0, at_lt, at_nn, if_true, Option.bind_some, rd_T177, at_getD, at_set, e1, w0, w1]
      refine LoopK.Ev.bind_ (mtx_ev _ (by omega)) ?_
      exact ih) l [] a (by simp; omega) ha (by omega)
  unfold laws_markPieceS.f
  simpa using key
theorem heldPieceS_ev (l : List S177) (a : Int) (ha : 0 ≤ a) (hl : (l.length : Int) ≤ 1000000000000) (hb : a ≤ 1000000000000) : Ev (fun k => laws_heldPieceS.f k (mk markPiece 2 l a) a) (a + 2 * (l.length : Int)) := by
  have key := heldEv (fun k xs a i => laws_heldPieceS.l0 k xs a i) markPiece 2 (by omega) 4611686018427387904
    (fun xs a => by
      refine LoopK.Ev.succ ?_
      simp only [laws_heldPieceS.l0, at_stop, if_false]
      exact Ev.now _)
    (fun p x r a res hB h0 h1 ih => by
      refine LoopK.Ev.succ ?_
      have e1 := at_w p (markPiece x a) r hB
      have w0 : wrap64 (a + 1) = a + 1 := by rw [show a + 1 = a + 1 from by omega]; exact w64 _ (by omega)
      have w1 : wrap64 (a + 1 + 1) = a + 2 := by rw [show a + 1 + 1 = a + 2 from by omega]; exact w64 _ (by omega)
      have v0 : (markPiece x a).f0 = a := rfl
      have v1 : (markPiece x a).f1 = mtx (a + 1) := rfl
      simp only [laws_heldPieceS.l0, at_lt, at_nn, if_true, rd_T177, at_getD, e1, w0, w1, v0, v1, bne_self_eq_false, Bool.false_eq_true, if_false]
      refine LoopK.Ev.bind_ (mtx_ev _ (by omega)) ?_
      simp only [if_true, bne_self_eq_false, Bool.false_eq_true, if_false]
      exact ih) l [] a (by simp; omega) ha (by omega)
  unfold laws_heldPieceS.f
  simpa using key

theorem markInflow_ev (a b c : Int) (l : List S177) (h : l.length ≤ 1000000000) : Ev (fun k => laws_markInflow.f k a b c l 1) (1 + 2 * (l.length : Int), mk markPiece 2 l 1) := by
  unfold laws_markInflow.f
  exact LoopK.Ev.bind_ (markPieceS_ev l 1 (by omega) (by omega) (by omega)) (Ev.now _)
theorem heldInflow_ev (a b c : Int) (l : List S177) (h : l.length ≤ 1000000000) : Ev (fun k => laws_heldInflow.f k a b c (mk markPiece 2 l 1) 1) (1 + 2 * (l.length : Int)) := by
  unfold laws_heldInflow.f
  refine LoopK.Ev.bind_ (heldPieceS_ev l 1 (by omega) (by omega) (by omega)) ?_
  have h1 : ¬ (1 + 2 * (l.length : Int) < 0) := by omega
  simp only [h1, if_false]
  exact Ev.now _

theorem l1In_eq (a b c : Int) : spec_l1In.f a b c = some (decide (b ≤ a ∧ a ≤ c)) := by
  unfold spec_l1In.f
  by_cases h : b ≤ a
  · rw [if_pos h]; simp [h]
  · rw [if_neg h]; simp [h]
theorem in_eq (a b c : Int) : impl_in.f a b c = some (decide (b ≤ a ∧ a ≤ c)) := l1In_eq a b c
theorem and_ite (p q : Prop) [Decidable p] [Decidable q] : (if p then some (decide q) else some false) = some (decide (p ∧ q)) := by
  by_cases h : p <;> simp [h]

theorem pairEvQ {S : Type} (L : Nat → List S → Int → Option Bool) (good : Option S → S → Bool) (Inv Q : S → Prop) (fin : List S → Bool) (B : Nat)
    (stop : ∀ xs, Ev (fun k => L k xs (xs.length : Int)) (fin xs))
    (inv : ∀ o x, Q x → good o x = true → Inv x)
    (bad : ∀ (p : List S) (x : S) (r : List S), (p ++ x :: r).length ≤ B → Q x → (∀ q, p.getLast? = some q → Inv q) → good p.getLast? x = false → Ev (fun k => L k (p ++ x :: r) (p.length : Int)) false)
    (next : ∀ (p : List S) (x : S) (r : List S) (b : Bool), (p ++ x :: r).length ≤ B → Q x → (∀ q, p.getLast? = some q → Inv q) → good p.getLast? x = true → Ev (fun k => L k (p ++ x :: r) ((p.length : Int) + 1)) b → Ev (fun k => L k (p ++ x :: r) (p.length : Int)) b) :
    ∀ (r p : List S), (p ++ r).length ≤ B → (∀ y, y ∈ r → Q y) → (∀ q, p.getLast? = some q → Inv q) → Ev (fun k => L k (p ++ r) (p.length : Int)) (chk good p.getLast? r && fin (p ++ r))
  | [], p, _, _, _ => by
    have h := stop (p ++ [])
    simpa [chk] using h
  | x :: r, p, hB, hQ, hI => by
    have hx : Q x := hQ x (by simp)
    cases hg : good p.getLast? x with
    | false =>
      have h := bad p x r hB hx hI hg
      simpa [chk, hg] using h
    | true =>
      have ih := pairEvQ L good Inv Q fin B stop inv bad next r (p ++ [x]) (by simpa using hB) (fun y hy => hQ y (by simp [hy])) (fun q hq => by
        have e : q = x := by simpa using hq.symm
        exact e ▸ inv _ _ hx hg)
      have h := next p x r (chk good (some x) r && fin (p ++ x :: r)) hB hx hI hg (by
        rw [at_snoc, ← len_snoc p x]
        simpa using ih)
      simpa [chk, hg] using h

theorem str_nil (s : ByteArray) : (s.toList = ([] : List UInt8)) ↔ s.size = 0 := by
  rw [ByteArray.toList_eq]
  constructor
  · intro h
    have := congrArg List.length h
    simpa using this
  · intro h
    apply List.eq_nil_of_length_eq_zero
    simpa using h
/-- Is a piece right, behind the one before it? -/
def inGood (L R F : Int) (o : Option S177) (x : S177) : Bool :=
  decide ((R ≤ x.f0 ∧ x.f0 ≤ L) ∧ x.f1.size ≠ 0 ∧ x.f0 + (x.f1.size : Int) ≤ L ∧ (F = -1 ∨ x.f0 + (x.f1.size : Int) ≤ F)) && (match o with | none => true | some q => decide (q.f0 + (q.f1.size : Int) < x.f0))
def inInv (L R : Int) (x : S177) : Prop := R ≤ x.f0 ∧ x.f0 + (x.f1.size : Int) ≤ L
theorem in_inv (L R F : Int) (o : Option S177) (x : S177) (h : inGood L R F o x = true) : inInv L R x := by
  simp only [inGood, Bool.and_eq_true, decide_eq_true_eq] at h
  unfold inInv
  omega
def inHead (L R F : Int) (l : List S177) : Prop := (0 ≤ L ∧ L ≤ 4000) ∧ (0 ≤ R ∧ R ≤ L) ∧ (F = -1 ∨ (R ≤ F ∧ F ≤ L)) ∧ ¬ ((l.length : Int) > 40)
instance (L R F : Int) (l : List S177) : Decidable (inHead L R F l) := by unfold inHead; infer_instance
/-- Is an inflow right? -/
def inflowGood (L R F : Int) (l : List S177) : Bool := decide (inHead L R F l) && chk (inGood L R F) none l
/-- Where the piece before place i ends. -/
def endAt (R : Int) (xs : List S177) (i : Int) : Int :=
  if i = 0 then wrap64 (R - 1) else wrap64 ((xs.getD (i - 1).toNat z177).f0 + ((xs.getD (i - 1).toNat z177).f1.size : Int))
theorem endAt_next (R : Int) (p : List S177) (x : S177) (r : List S177) : endAt R (p ++ x :: r) ((p.length : Int) + 1) = wrap64 (x.f0 + (x.f1.size : Int)) := by
  unfold endAt
  have e : ¬ ((p.length : Int) + 1 = 0) := by omega
  have e2 : (p.length : Int) + 1 - 1 = (p.length : Int) := by omega
  rw [if_neg e, e2, at_getD]
theorem endAt_last (R : Int) (p : List S177) (q x : S177) (r : List S177) : endAt R ((p ++ [q]) ++ x :: r) ((p ++ [q]).length : Int) = wrap64 (q.f0 + (q.f1.size : Int)) := by
  unfold endAt
  have e : ¬ (((p ++ [q]).length : Int) = 0) := by simp <;> omega
  rw [if_neg e, at_prev]
theorem specInflow_loop (L R F : Int) (hL : 0 ≤ L ∧ L ≤ 4000) (hR : 0 ≤ R ∧ R ≤ L) (hF : F = -1 ∨ (R ≤ F ∧ F ≤ L)) (l : List S177) (hl : l.length ≤ 4611686018427387904) (hs : ∀ x, x ∈ l → x.f1.size ≤ 140737488351232) :
    Ev (fun k => spec_GoodInflow.l0 k (wrap64 (R - 1)) l (l.length : Int) 0 L R F l) (chk (inGood L R F) none l) := by
  have key := pairEvQ (fun k xs i => spec_GoodInflow.l0 k (endAt R xs i) xs (xs.length : Int) i L R F xs) (inGood L R F) (inInv L R) (fun x => x.f1.size ≤ 140737488351232) (fun _ => true) 4611686018427387904
    (fun xs => by
      refine LoopK.Ev.succ ?_
      simp only [spec_GoodInflow.l0, at_stop, if_false]
      exact Ev.now _)
    (fun o x _ h => in_inv L R F o x h)
    (fun p x r hB hx hI hg => by
      have bad2 : ∀ xs n' i a b c d e f, Ev (fun k => spec_GoodInflow.j2 k xs n' i true a b c d e f) false := fun xs n' i a b c d e f => by
        refine LoopK.Ev.succ ?_
        simp only [spec_GoodInflow.j2, if_true]
        exact Ev.now _
      have bad3 : ∀ xs n' i a b c d e f, Ev (fun k => spec_GoodInflow.j3 k xs n' i true a b c d e f) false := fun xs n' i a b c d e f => by
        refine LoopK.Ev.succ ?_
        simp only [spec_GoodInflow.j3, if_true]
        exact Ev.now _
      have e3 : wrap64 (L - (x.f1.size : Int)) = L - (x.f1.size : Int) := w64 _ (by omega)
      have e4 : wrap64 (F - (x.f1.size : Int)) = F - (x.f1.size : Int) := w64 _ (by omega)
      have rest : ¬ (x.f0 ≤ L - (x.f1.size : Int) ∧ (F = -1 ∨ x.f0 ≤ F - (x.f1.size : Int))) → Ev (fun k => spec_GoodInflow.j2 k (p ++ x :: r) ((p ++ x :: r).length : Int) (p.length : Int) false L R F (p ++ x :: r) x.f0 x.f1) false := by
        intro hn
        refine LoopK.Ev.succ ?_
        simp only [spec_GoodInflow.j2, Bool.false_eq_true, if_false, e3, e4]
        by_cases h5 : x.f0 > L - (x.f1.size : Int)
        · simp only [h5, if_true]
          exact bad3 _ _ _ _ _ _ _ _ _
        · simp only [h5, if_false]
          by_cases h6 : F = -1
          · exact absurd ⟨by omega, Or.inl h6⟩ hn
          · have h7 : x.f0 > F - (x.f1.size : Int) := by
              rcases Int.lt_or_le (F - (x.f1.size : Int)) x.f0 with h | h
              · exact h
              · exact absurd ⟨by omega, Or.inr h⟩ hn
            simp only [h6, if_false, h7, decide_true]
            exact bad3 _ _ _ _ _ _ _ _ _
      refine LoopK.Ev.succ ?_
      simp only [spec_GoodInflow.l0, at_lt, at_nn, if_true, rd_T177, at_getD, str_nil]
      by_cases h1 : x.f1.size = 0
      · simp only [h1, if_true]
        exact bad2 _ _ _ _ _ _ _ _ _
      · simp only [h1, if_false]
        rcases last_or p with rfl | ⟨p0, q, rfl⟩
        · have ee : endAt R ([] ++ x :: r) (([] : List S177).length : Int) = R - 1 := by
            unfold endAt
            simp
            exact w64 _ (by omega)
          have h0 : ¬ ((([] : List S177).length : Int) > 0) := by simp
          simp only [ee, h0, if_false]
          by_cases h2 : x.f0 ≤ R - 1
          · have h3 : x.f0 < R := by omega
            simp only [h2, if_true, h3, decide_true]
            exact bad2 _ _ _ _ _ _ _ _ _
          · simp only [h2, if_false]
            refine rest fun hn => ?_
            have hh : inGood L R F none x = true := by
              simp only [inGood, Bool.and_true, decide_eq_true_eq]
              refine ⟨⟨by omega, by omega⟩, h1, by omega, ?_⟩
              rcases hn.2 with h | h
              · exact Or.inl h
              · exact Or.inr (by omega)
            rw [show (([] : List S177).getLast?) = none from rfl, hh] at hg
            exact absurd hg (by simp)
        · have hq := hI q (by simp)
          unfold inInv at hq
          have ee : endAt R ((p0 ++ [q]) ++ x :: r) ((p0 ++ [q]).length : Int) = q.f0 + (q.f1.size : Int) := by
            rw [endAt_last]
            exact w64 _ (by omega)
          simp only [ee, at_prev_pos, if_true]
          by_cases h2 : x.f0 ≤ q.f0 + (q.f1.size : Int)
          · simp only [h2, if_true]
            exact bad2 _ _ _ _ _ _ _ _ _
          · simp only [h2, if_false]
            refine rest fun hn => ?_
            have hh : inGood L R F (some q) x = true := by
              simp only [inGood, Bool.and_eq_true, decide_eq_true_eq]
              refine ⟨⟨⟨by omega, by omega⟩, h1, by omega, ?_⟩, by omega⟩
              rcases hn.2 with h | h
              · exact Or.inl h
              · exact Or.inr (by omega)
            rw [show (p0 ++ [q]).getLast? = some q by simp, hh] at hg
            exact absurd hg (by simp))
    (fun p x r b hB hx hI hg hn => by
      have e1 := at_w p x r hB
      have e3 : wrap64 (L - (x.f1.size : Int)) = L - (x.f1.size : Int) := w64 _ (by omega)
      have e4 : wrap64 (F - (x.f1.size : Int)) = F - (x.f1.size : Int) := w64 _ (by omega)
      have hc : (R ≤ x.f0 ∧ x.f0 ≤ L) ∧ x.f1.size ≠ 0 ∧ x.f0 + (x.f1.size : Int) ≤ L ∧ (F = -1 ∨ x.f0 + (x.f1.size : Int) ≤ F) := by
        simp only [inGood, Bool.and_eq_true, decide_eq_true_eq] at hg
        exact hg.1
      have last : Ev (fun k => spec_GoodInflow.j3 k (p ++ x :: r) ((p ++ x :: r).length : Int) (p.length : Int) false L R F (p ++ x :: r) x.f0 x.f1) b := by
        refine LoopK.Ev.succ ?_
        simp only [spec_GoodInflow.j3, Bool.false_eq_true, if_false, e1]
        rw [endAt_next] at hn
        exact hn
      have rest : Ev (fun k => spec_GoodInflow.j2 k (p ++ x :: r) ((p ++ x :: r).length : Int) (p.length : Int) false L R F (p ++ x :: r) x.f0 x.f1) b := by
        refine LoopK.Ev.succ ?_
        have h5 : ¬ (x.f0 > L - (x.f1.size : Int)) := by omega
        simp only [spec_GoodInflow.j2, Bool.false_eq_true, if_false, e3, e4, h5]
        by_cases h6 : F = -1
        · simp only [h6, if_true]
          rw [← h6]
          exact last
        · have h7 : ¬ (x.f0 > F - (x.f1.size : Int)) := by omega
          simp only [h6, if_false, h7, decide_false]
          exact last
      refine LoopK.Ev.succ ?_
      simp only [spec_GoodInflow.l0, at_lt, at_nn, if_true, rd_T177, at_getD, str_nil, hc.2.1, if_false]
      rcases last_or p with rfl | ⟨p0, q, rfl⟩
      · have ee : endAt R ([] ++ x :: r) (([] : List S177).length : Int) = R - 1 := by
          unfold endAt
          simp
          exact w64 _ (by omega)
        have h2 : ¬ (x.f0 ≤ R - 1) := by omega
        simp only [ee, h2, if_false]
        exact rest
      · have hq := hI q (by simp)
        unfold inInv at hq
        have ee : endAt R ((p0 ++ [q]) ++ x :: r) ((p0 ++ [q]).length : Int) = q.f0 + (q.f1.size : Int) := by
          rw [endAt_last]
          exact w64 _ (by omega)
        have h2 : ¬ (x.f0 ≤ q.f0 + (q.f1.size : Int)) := by
          rw [show (p0 ++ [q]).getLast? = some q by simp] at hg
          simp only [inGood, Bool.and_eq_true, decide_eq_true_eq] at hg
          omega
        simp only [ee, h2, if_false]
        exact rest) l [] (by simpa using hl) hs (by simp)
  have e0 : endAt R l 0 = wrap64 (R - 1) := by unfold endAt; simp
  simpa [e0] using key
theorem implInflow_loop (L R F : Int) (hL : 0 ≤ L ∧ L ≤ 4000) (hR : 0 ≤ R ∧ R ≤ L) (hF : F = -1 ∨ (R ≤ F ∧ F ≤ L)) (l : List S177) (hl : l.length ≤ 4611686018427387904) (hs : ∀ x, x ∈ l → x.f1.size ≤ 140737488351232) :
    Ev (fun k => impl_GoodInflow.l0 k l (l.length : Int) 0 L R F l) (chk (inGood L R F) none l) := by
  have key := pairEvQ (fun k xs i => impl_GoodInflow.l0 k xs (xs.length : Int) i L R F xs) (inGood L R F) (inInv L R) (fun x => x.f1.size ≤ 140737488351232) (fun _ => true) 4611686018427387904
    (fun xs => by
      refine LoopK.Ev.succ ?_
      simp only [impl_GoodInflow.l0, at_stop, if_false]
      exact Ev.now _)
    (fun o x _ h => in_inv L R F o x h)
    (fun p x r hB hx hI hg => by
      have bad2 : ∀ xs n' i a b c d, Ev (fun k => impl_GoodInflow.j2 k xs n' i true a b c d) false := fun xs n' i a b c d => by
        refine LoopK.Ev.succ ?_
        simp only [impl_GoodInflow.j2, if_true]
        exact Ev.now _
      refine LoopK.Ev.succ ?_
      simp only [impl_GoodInflow.l0, at_lt, at_nn, if_true, rd_T177, at_getD, str_nil, in_eq, Option.bind_some, decide_eq_true_eq, impl_Piece_end.f]
      by_cases h1 : R ≤ x.f0 ∧ x.f0 ≤ L
      · have e3 : wrap64 (x.f0 + (x.f1.size : Int)) = x.f0 + (x.f1.size : Int) := w64 _ (by omega)
        simp only [h1, and_self, if_true, e3]
        by_cases h2 : x.f1.size = 0
        · simp only [h2, if_true]
          exact bad2 _ _ _ _ _ _ _
        · simp only [h2, if_false]
          by_cases h3 : x.f0 + (x.f1.size : Int) > L
          · simp only [h3, if_true]
            exact bad2 _ _ _ _ _ _ _
          · simp only [h3, if_false]
            have fin2 : (F = -1 ∨ x.f0 + (x.f1.size : Int) ≤ F) → ∃ p0 q, p = p0 ++ [q] ∧ q.f0 + (q.f1.size : Int) ≥ x.f0 ∧ wrap64 (q.f0 + (q.f1.size : Int)) = q.f0 + (q.f1.size : Int) := by
              intro hf
              rcases last_or p with rfl | ⟨p0, q, rfl⟩
              · exfalso
                have hh : inGood L R F none x = true := by
                  simp only [inGood, Bool.and_true, decide_eq_true_eq]
                  exact ⟨h1, h2, by omega, hf⟩
                rw [show (([] : List S177).getLast?) = none from rfl, hh] at hg
                exact absurd hg (by simp)
              · refine ⟨p0, q, rfl, ?_, ?_⟩
                · rcases Int.lt_or_le (q.f0 + (q.f1.size : Int)) x.f0 with h | h
                  · exfalso
                    have hh : inGood L R F (some q) x = true := by
                      simp only [inGood, Bool.and_eq_true, decide_eq_true_eq]
                      exact ⟨⟨h1, h2, by omega, hf⟩, h⟩
                    rw [show (p0 ++ [q]).getLast? = some q by simp, hh] at hg
                    exact absurd hg (by simp)
                  · exact h
                · have hq := hI q (by simp)
                  unfold inInv at hq
                  exact w64 _ (by omega)
            by_cases h4 : F = -1
            · obtain ⟨p0, q, rfl, h5, h6⟩ := fin2 (Or.inl h4)
              have c0 := at_prev_w p0 q x r hB
              simp only [h4, if_true, at_prev_pos, c0, at_prev_nn, at_prev_lt, at_prev, h6, h5, decide_true]
              exact bad2 _ _ _ _ _ _ _
            · simp only [h4, if_false]
              by_cases h7 : x.f0 + (x.f1.size : Int) > F
              · simp only [h7, if_true]
                exact bad2 _ _ _ _ _ _ _
              · obtain ⟨p0, q, rfl, h5, h6⟩ := fin2 (Or.inr (by omega))
                have c0 := at_prev_w p0 q x r hB
                simp only [h7, if_false, if_true, at_prev_pos, c0, at_prev_nn, at_prev_lt, at_prev, h6, h5, decide_true]
                exact bad2 _ _ _ _ _ _ _
      · simp only [h1, if_false]
        exact bad2 _ _ _ _ _ _ _)
    (fun p x r b hB hx hI hg hn => by
      have e1 := at_w p x r hB
      have hc : (R ≤ x.f0 ∧ x.f0 ≤ L) ∧ x.f1.size ≠ 0 ∧ x.f0 + (x.f1.size : Int) ≤ L ∧ (F = -1 ∨ x.f0 + (x.f1.size : Int) ≤ F) := by
        simp only [inGood, Bool.and_eq_true, decide_eq_true_eq] at hg
        exact hg.1
      obtain ⟨h1, h2, h3, h4⟩ := hc
      have e3 : wrap64 (x.f0 + (x.f1.size : Int)) = x.f0 + (x.f1.size : Int) := w64 _ (by omega)
      have h3' : ¬ (x.f0 + (x.f1.size : Int) > L) := by omega
      have rest : Ev (fun k => impl_GoodInflow.j2 k (p ++ x :: r) ((p ++ x :: r).length : Int) (p.length : Int) false L R F (p ++ x :: r)) b := by
        refine LoopK.Ev.succ ?_
        simp only [impl_GoodInflow.j2, Bool.false_eq_true, if_false, e1]
        exact hn
      refine LoopK.Ev.succ ?_
      simp only [impl_GoodInflow.l0, at_lt, at_nn, if_true, rd_T177, at_getD, str_nil, in_eq, Option.bind_some, decide_eq_true_eq, impl_Piece_end.f, h1, and_self, h2, if_false, e3, h3']
      rcases last_or p with rfl | ⟨p0, q, rfl⟩
      · have h0 : ¬ ((([] : List S177).length : Int) > 0) := by simp
        by_cases h6 : F = -1
        · simp only [h6, if_true, h0, if_false]
          rw [← h6]
          exact rest
        · have h7 : ¬ (x.f0 + (x.f1.size : Int) > F) := by omega
          simp only [h6, if_false, h7, h0]
          exact rest
      · have hq := hI q (by simp)
        unfold inInv at hq
        have c0 := at_prev_w p0 q x r hB
        have h5 : ¬ (q.f0 + (q.f1.size : Int) ≥ x.f0) := by
          rw [show (p0 ++ [q]).getLast? = some q by simp] at hg
          simp only [inGood, Bool.and_eq_true, decide_eq_true_eq] at hg
          omega
        have h8 : wrap64 (q.f0 + (q.f1.size : Int)) = q.f0 + (q.f1.size : Int) := w64 _ (by omega)
        by_cases h6 : F = -1
        · simp only [h6, if_true, at_prev_pos, c0, at_prev_nn, at_prev_lt, at_prev, h8, h5, decide_false]
          rw [← h6]
          exact rest
        · have h7 : ¬ (x.f0 + (x.f1.size : Int) > F) := by omega
          simp only [h6, if_false, if_true, h7, at_prev_pos, c0, at_prev_nn, at_prev_lt, at_prev, h8, h5, decide_false]
          exact rest) l [] (by simpa using hl) hs (by simp)
  simpa using key
theorem specInflow_ev (L R F : Int) (l : List S177) (hl : l.length ≤ 4611686018427387904) (hs : ∀ x, x ∈ l → x.f1.size ≤ 140737488351232) : Ev (fun k => spec_GoodInflow.f k L R F l) (inflowGood L R F l) := by
  have bad : ∀ a b c d, Ev (fun k => spec_GoodInflow.j0 k true a b c d) false := fun a b c d => by
    refine LoopK.Ev.succ ?_
    simp only [spec_GoodInflow.j0, if_true]
    exact Ev.now _
  have body : (0 ≤ L ∧ L ≤ 4000) → (0 ≤ R ∧ R ≤ L) → (F = -1 ∨ (R ≤ F ∧ F ≤ L)) → Ev (fun k => spec_GoodInflow.j0 k (decide ((l.length : Int) > 40)) L R F l) (inflowGood L R F l) := by
    intro h1 h2 h3
    by_cases h4 : (l.length : Int) > 40
    · have : inflowGood L R F l = false := by
        unfold inflowGood inHead
        simp [h4]
      rw [this]
      simp only [h4, decide_true]
      exact bad _ _ _ _
    · have : inflowGood L R F l = chk (inGood L R F) none l := by
        unfold inflowGood
        rw [decide_eq_true (show inHead L R F l from ⟨h1, h2, h3, h4⟩), Bool.true_and]
      rw [this]
      simp only [h4, decide_false]
      refine LoopK.Ev.succ ?_
      simp only [spec_GoodInflow.j0, Bool.false_eq_true, if_false]
      exact specInflow_loop L R F h1 h2 h3 l hl hs
  have no : ¬ ((0 ≤ L ∧ L ≤ 4000) ∧ (0 ≤ R ∧ R ≤ L) ∧ (F = -1 ∨ (R ≤ F ∧ F ≤ L))) → inflowGood L R F l = false := by
    intro h
    unfold inflowGood
    rw [decide_eq_false (fun hh : inHead L R F l => h ⟨hh.1, hh.2.1, hh.2.2.1⟩), Bool.false_and]
  unfold spec_GoodInflow.f
  simp only [l1In_eq, Option.bind_some, decide_eq_true_eq]
  by_cases h1 : 0 ≤ L ∧ L ≤ 4000
  · simp only [h1, and_self, if_true]
    by_cases h2 : 0 ≤ R ∧ R ≤ L
    · simp only [h2, and_self, if_true]
      by_cases h3 : F = -1
      · subst h3
        simp only [if_true]
        exact body h1 h2 (Or.inl rfl)
      · simp only [h3, if_false]
        by_cases h4 : R ≤ F ∧ F ≤ L
        · simp only [h4, and_self, if_true]
          exact body h1 h2 (Or.inr h4)
        · simp only [h4, if_false]
          rw [no (fun h => h.2.2.elim h3 h4)]
          exact bad _ _ _ _
    · simp only [h2, if_false]
      rw [no (fun h => h2 h.2.1)]
      exact bad _ _ _ _
  · simp only [h1, if_false]
    rw [no (fun h => h1 h.1)]
    exact bad _ _ _ _
theorem implInflow_ev (L R F : Int) (l : List S177) (hl : l.length ≤ 4611686018427387904) (hs : ∀ x, x ∈ l → x.f1.size ≤ 140737488351232) : Ev (fun k => impl_GoodInflow.f k L R F l) (inflowGood L R F l) := by
  have bad : ∀ a b c d, Ev (fun k => impl_GoodInflow.j0 k true a b c d) false := fun a b c d => by
    refine LoopK.Ev.succ ?_
    simp only [impl_GoodInflow.j0, if_true]
    exact Ev.now _
  have body : (0 ≤ L ∧ L ≤ 4000) → (0 ≤ R ∧ R ≤ L) → (F = -1 ∨ (R ≤ F ∧ F ≤ L)) → Ev (fun k => impl_GoodInflow.j0 k (decide ((l.length : Int) > 40)) L R F l) (inflowGood L R F l) := by
    intro h1 h2 h3
    by_cases h4 : (l.length : Int) > 40
    · have : inflowGood L R F l = false := by
        unfold inflowGood inHead
        simp [h4]
      rw [this]
      simp only [h4, decide_true]
      exact bad _ _ _ _
    · have : inflowGood L R F l = chk (inGood L R F) none l := by
        unfold inflowGood
        rw [decide_eq_true (show inHead L R F l from ⟨h1, h2, h3, h4⟩), Bool.true_and]
      rw [this]
      simp only [h4, decide_false]
      refine LoopK.Ev.succ ?_
      simp only [impl_GoodInflow.j0, Bool.false_eq_true, if_false]
      exact implInflow_loop L R F h1 h2 h3 l hl hs
  have no : ¬ ((0 ≤ L ∧ L ≤ 4000) ∧ (0 ≤ R ∧ R ≤ L) ∧ (F = -1 ∨ (R ≤ F ∧ F ≤ L))) → inflowGood L R F l = false := by
    intro h
    unfold inflowGood
    rw [decide_eq_false (fun hh : inHead L R F l => h ⟨hh.1, hh.2.1, hh.2.2.1⟩), Bool.false_and]
  unfold impl_GoodInflow.f
  simp only [in_eq, Option.bind_some, decide_eq_true_eq]
  by_cases h1 : 0 ≤ L ∧ L ≤ 4000
  · simp only [h1, and_self, if_true]
    by_cases h2 : 0 ≤ R ∧ R ≤ L
    · simp only [h2, and_self, if_true]
      by_cases h3 : F = -1
      · subst h3
        simp only [if_true]
        exact body h1 h2 (Or.inl rfl)
      · simp only [h3, if_false]
        by_cases h4 : R ≤ F ∧ F ≤ L
        · simp only [h4, and_self, if_true]
          exact body h1 h2 (Or.inr h4)
        · simp only [h4, if_false]
          rw [no (fun h => h.2.2.elim h3 h4)]
          exact bad _ _ _ _
    · simp only [h2, if_false]
      rw [no (fun h => h2 h.2.1)]
      exact bad _ _ _ _
  · simp only [h1, if_false]
    rw [no (fun h => h1 h.1)]
    exact bad _ _ _ _

abbrev ReadV := Int × Int × Int × List S177 × ByteArray
/-- What is read of an inflow that is right. -/
def readOf (L R F : Int) (l : List S177) (m : Int) : ReadV :=
  match l with
  | [] => (L, R, F, [], (⟨#[]⟩ : ByteArray))
  | p :: r => if p.f0 = R ∧ m ≠ 0 then (if m < (p.f1.size : Int) then (L, R + m, F, (⟨R + m, p.f1.extract m.toNat p.f1.size⟩ : S177) :: r, p.f1.extract 0 m.toNat) else (L, R + (p.f1.size : Int), F, r, p.f1.extract 0 p.f1.size))
      else (L, R, F, p :: r, (⟨#[]⟩ : ByteArray))
def readF (L R F : Int) (l : List S177) (m : Int) : Int × Int × Int × List S177 × ByteArray × Bool :=
  if inflowGood L R F l = true ∧ (0 ≤ m ∧ m ≤ 4000) then ((readOf L R F l m).1, (readOf L R F l m).2.1, (readOf L R F l m).2.2.1, (readOf L R F l m).2.2.2.1, (readOf L R F l m).2.2.2.2, true) else (0, 0, 0, [], (⟨#[]⟩ : ByteArray), false)
theorem good_head {L R F : Int} {l : List S177} (h : inflowGood L R F l = true) : (0 ≤ L ∧ L ≤ 4000) ∧ (0 ≤ R ∧ R ≤ L) ∧ ∀ p r, l = p :: r → p.f1.size ≠ 0 ∧ R ≤ p.f0 ∧ p.f0 + (p.f1.size : Int) ≤ L := by
  simp only [inflowGood, Bool.and_eq_true, decide_eq_true_eq] at h
  obtain ⟨⟨h1, h2, h3, h4⟩, h5⟩ := h
  refine ⟨h1, h2, fun p r hl => ?_⟩
  subst hl
  simp only [chk, inGood, Bool.and_eq_true, decide_eq_true_eq] at h5
  obtain ⟨⟨⟨h6, h7, h8, h9⟩, _⟩, _⟩ := h5
  exact ⟨h7, h6.1, h8⟩
theorem ext_none (s : ByteArray) : s.extract 0 (0 : Int).toNat = (⟨#[]⟩ : ByteArray) := by
  apply ByteArray.ext
  simp [ByteArray.data_extract]
theorem ext_all (s : ByteArray) : s.extract (0 : Int).toNat s.size = s := by
  show s.extract 0 s.size = s
  exact ByteArray.extract_zero_size
theorem specRead_ev (L R F : Int) (l : List S177) (m : Int) (hl : l.length ≤ 1048576) (hs : ∀ x, x ∈ l → x.f1.size ≤ 140737488351232) : Ev (fun k => spec_ReadSome.f k L R F l m) (readF L R F l m) := by
  unfold spec_ReadSome.f readF
  refine LoopK.Ev.bind_ (specInflow_ev L R F l (by omega) hs) ?_
  by_cases hg : inflowGood L R F l = true
  · simp only [hg, if_true, l1In_eq, Option.bind_some, decide_eq_true_eq]
    by_cases hm : 0 ≤ m ∧ m ≤ 4000
    · simp only [hm, and_self, if_true]
      refine LoopK.Ev.bind_ ?_ (Ev.now _)
      obtain ⟨h1, h2, h3⟩ := good_head hg
      unfold spec_l14Read.f spec_l14Own.f
      have c : ([] : List S177).length + l.length < 5864062014805 := by simp; omega
      simp only [Option.bind_some, c, if_true, List.nil_append]
      have skip : Ev (fun k => spec_l14Read.j0 k m true L R F l) (L, R, F, l, (⟨#[]⟩ : ByteArray)) := by
        refine LoopK.Ev.succ ?_
        simp only [spec_l14Read.j0, if_true]
        exact Ev.now _
      cases l with
      | nil =>
        simp only [List.length_nil, readOf, show ((0 : Nat) : Int) = 0 from rfl, if_true]
        exact skip
      | cons p r =>
        obtain ⟨h4, h5, h6⟩ := h3 p r rfl
        have n1 : ¬ (((p :: r).length : Int) = 0) := by simp <;> omega
        have n2 : 0 < ((p :: r).length : Int) := by simp <;> omega
        have n3 : 1 ≤ ((p :: r).length : Int) := by omega
        simp only [n1, if_false, n2, if_true, rd_T177, readOf, show (0 : Int).toNat = 0 from rfl, List.getD_cons_zero]
        by_cases h7 : p.f0 = R
        · by_cases h8 : m = 0
          · have e1 : ((m == 0) = true) := by simp [h8]
            simp only [h7, h8, if_true, and_true, ne_eq, not_true_eq_false, and_false, if_false, beq_self_eq_true]
            rw [h8] at skip
            exact skip
          · have e1 : (m == 0) = false := by simp [h8]
            have e2 : p.f0 = R ∧ m ≠ 0 := ⟨h7, h8⟩
            simp only [if_pos h7, if_pos e2, e1]
            refine LoopK.Ev.succ ?_
            simp only [spec_l14Read.j0, Bool.false_eq_true, if_false, n2, if_true, rd_T177, show (0 : Int).toNat = 0 from rfl, List.getD_cons_zero]
            by_cases h9 : m < (p.f1.size : Int)
            · have h10 : (p.f1.size : Int) > m := h9
              simp only [h10, if_true, h9]
              refine LoopK.Ev.succ ?_
              have h11 : ¬ (m = (p.f1.size : Int)) := by omega
              have h12 : m ≤ (p.f1.size : Int) := by omega
              have w1 : wrap64 (R + m) = R + m := w64 _ (by omega)
              simp only [spec_l14Read.j1, hm.1, if_true, h12, h11, if_false, n2, w1, show (0 : Int).toNat = 0 from rfl, List.set_cons_zero]
              exact Ev.now _
            · have h10 : ¬ ((p.f1.size : Int) > m) := h9
              simp only [h10, if_false, h9]
              refine LoopK.Ev.succ ?_
              have h12 : (0 : Int) ≤ (p.f1.size : Int) := by omega
              have w1 : wrap64 (R + (p.f1.size : Int)) = R + (p.f1.size : Int) := w64 _ (by omega)
              simp only [spec_l14Read.j1, h12, if_true, Int.le_refl, n3, w1, show (1 : Int).toNat = 1 from rfl, List.drop_succ_cons, List.drop_zero, Int.toNat_natCast]
              exact Ev.now _
        · have e2 : ¬ (p.f0 = R ∧ m ≠ 0) := fun h => h7 h.1
          simp only [if_neg h7, if_neg e2]
          exact skip
    · have e : decide (0 ≤ m ∧ m ≤ 4000) = false := decide_eq_false hm
      simp only [hm, if_false, and_false]
      exact Ev.now _
  · simp only [Bool.not_eq_true] at hg
    simp only [hg, Bool.false_eq_true, if_false, false_and]
    exact Ev.now _
theorem implRead_ev (L R F : Int) (l : List S177) (m : Int) (hl : l.length ≤ 1048576) (hs : ∀ x, x ∈ l → x.f1.size ≤ 140737488351232) : Ev (fun k => impl_ReadSome.f k L R F l m) (readF L R F l m) := by
  unfold impl_ReadSome.f readF
  refine LoopK.Ev.bind_ (implInflow_ev L R F l (by omega) hs) ?_
  have no : Ev (fun k => impl_ReadSome.j0 k m true L R F l) (0, 0, 0, [], (⟨#[]⟩ : ByteArray), false) := by
    refine LoopK.Ev.succ ?_
    simp only [impl_ReadSome.j0, if_true]
    exact Ev.now _
  by_cases hg : inflowGood L R F l = true
  · simp only [hg, if_true, in_eq, Option.bind_some, true_and]
    by_cases hm : 0 ≤ m ∧ m ≤ 4000
    · have e : decide (0 ≤ m ∧ m ≤ 4000) = true := decide_eq_true hm
      simp only [hm, if_true, e, Bool.not_true, and_self, decide_true]
      obtain ⟨h1, h2, h3⟩ := good_head hg
      refine LoopK.Ev.succ ?_
      have c : impl_Piece.f l = some l := by unfold impl_Piece.f; rw [if_pos (by omega)]
      simp only [impl_ReadSome.j0, impl_cloneInflow.f, Bool.false_eq_true, if_false, c, Option.bind_some]
      have skip : Ev (fun k => impl_ReadSome.j1 k m true L R F l) (L, R, F, l, (⟨#[]⟩ : ByteArray), true) := by
        refine LoopK.Ev.succ ?_
        simp only [impl_ReadSome.j1, if_true]
        exact Ev.now _
      cases l with
      | nil =>
        simp only [List.length_nil, readOf, show ((0 : Nat) : Int) = 0 from rfl, if_true]
        exact skip
      | cons p r =>
        obtain ⟨h4, h5, h6⟩ := h3 p r rfl
        have n1 : ¬ (((p :: r).length : Int) = 0) := by simp <;> omega
        have n2 : 0 < ((p :: r).length : Int) := by simp <;> omega
        have n3 : 1 ≤ ((p :: r).length : Int) := by omega
        simp only [n1, if_false, n2, if_true, rd_T177, readOf, show (0 : Int).toNat = 0 from rfl, List.getD_cons_zero]
        by_cases h7 : p.f0 = R
        · have e1 : (p.f0 != R) = false := by simp [h7]
          simp only [e1]
          refine LoopK.Ev.succ ?_
          simp only [impl_ReadSome.j1, Bool.false_eq_true, if_false, n2, if_true, rd_T177, show (0 : Int).toNat = 0 from rfl, List.getD_cons_zero]
          by_cases h9 : m < (p.f1.size : Int)
          · have h10 : mn m (p.f1.size : Int) = m := by unfold mn; split <;> omega
            have h12 : m ≤ (p.f1.size : Int) := by omega
            have w1 : wrap64 (R + m) = R + m := w64 _ (by omega)
            simp only [h10, h9, if_true, hm.1, h12, h7, w1, true_and, List.set_cons_zero]
            by_cases h8 : m = 0
            · subst h8
              have e2 : (⟨R, p.f1⟩ : S177) = p := by rw [← h7]
              simp only [ne_eq, not_true_eq_false, if_false, Int.add_zero, ext_none, ext_all, e2]
              exact Ev.now _
            · simp only [ne_eq, h8, not_false_eq_true, if_true]
              exact Ev.now _
          · have h10 : mn m (p.f1.size : Int) = (p.f1.size : Int) := by unfold mn; split <;> omega
            have h11 : ¬ ((p.f1.size : Int) < (p.f1.size : Int)) := by omega
            have h12 : (0 : Int) ≤ (p.f1.size : Int) := by omega
            have h8 : m ≠ 0 := by omega
            have w1 : wrap64 (R + (p.f1.size : Int)) = R + (p.f1.size : Int) := w64 _ (by omega)
            simp only [h10, h11, if_false, n3, if_true, h12, Int.le_refl, w1, h7, true_and, ne_eq, h8, not_false_eq_true, h9, show (1 : Int).toNat = 1 from rfl, List.drop_succ_cons, List.drop_zero, Int.toNat_natCast]
            exact Ev.now _
        · have e1 : (p.f0 != R) = true := by simp [h7]
          have e2 : ¬ (p.f0 = R ∧ m ≠ 0) := fun h => h7 h.1
          simp only [e1, if_neg e2]
          exact skip
    · have e : decide (0 ≤ m ∧ m ≤ 4000) = false := decide_eq_false hm
      simp only [hm, if_false, e, Bool.not_false, decide_false]
      exact no
  · simp only [Bool.not_eq_true] at hg
    simp only [hg, Bool.false_eq_true, if_false, false_and]
    exact no
theorem readF_len (L R F : Int) (l : List S177) (m : Int) : (readF L R F l m).2.2.2.1.length ≤ l.length := by
  unfold readF
  split
  · show (readOf L R F l m).2.2.2.1.length ≤ l.length
    unfold readOf
    split
    · simp
    · split
      · split <;> simp
      · simp
  · simp
theorem FnExactReadSome : SFnExactReadSome.Pure := by
  intro L R F l m _ _ _ hl _
  have hx : ∀ x, x ∈ l → x.f1.size ≤ 140737488351232 := fun x h => (hl.2.2 x h).2
  obtain ⟨r, ⟨k0, hr⟩, hr1, hr2⟩ := szInflow_ev L R F l 1048576 (by omega) (by omega) hx
  by_cases h0 : r < 0
  · exact ⟨k0, laws_FnExactReadSome.of_good (Or.inl ⟨r, hr _ (Nat.le_refl _), h0⟩)⟩
  · have tn := totPiece_nonneg l
    have hl2 : l.length ≤ 1048576 := by have := hr2 (by omega); omega
    have hm : (l.map cvPiece).length ≤ 1048576 := by rw [List.length_map]; omega
    have hs := cvPiece_size l hx
    obtain ⟨k1, h1⟩ := toInflow_ev L R F l hl2
    obtain ⟨k2, h2⟩ := specRead_ev L R F (l.map cvPiece) m hm hs
    obtain ⟨k3, h3⟩ := implRead_ev L R F (l.map cvPiece) m hm hs
    have hw := readF_len L R F (l.map cvPiece) m
    generalize readF L R F (l.map cvPiece) m = v at h2 h3 hw
    obtain ⟨v0, v1, v2, v3, v4, v5⟩ := v
    simp only at hw
    obtain ⟨k4, h4⟩ := eqInflow_ev v0 v1 v2 v3 (by omega)
    obtain ⟨k5, h5⟩ := eqInflow_ev L R F (l.map cvPiece) (by omega)
    obtain ⟨k6, h6⟩ := markInflow_ev L R F (l.map cvPiece) (by omega)
    obtain ⟨k7, h7⟩ := markInflow_ev v0 v1 v2 v3 (by omega)
    obtain ⟨k8, h8⟩ := heldInflow_ev v0 v1 v2 v3 (by omega)
    refine ⟨k0 + k1 + k2 + k3 + k4 + k5 + k6 + k7 + k8, laws_FnExactReadSome.of_good (Or.inr ⟨_, _, _, _, _, _, _, _, _, _, _, _, _, _, _, hr _ (by omega), h1 _ (by omega), h2 _ (by omega), h3 _ (by omega), h4 _ (by omega), h5 _ (by omega), h6 _ (by omega), h7 _ (by omega), h8 _ (by omega), by omega, by omega, by omega⟩)⟩

end Go.Proofs.Ythkmjfapljmmpaa.Pure
