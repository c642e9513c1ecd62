/- The pure statement of the law FnExactGoodBalancer: the program's function and the reference answer alike. -/
import Derived.Test.YtilkginahmfagaaDoorSFnExactGoodBalancer
import Derived.Test.YtilkginahmfagaaDoorLoopK
namespace Go.Proofs.YtilkginahmfagaaDoor.Pure
open Go.RowKit Go.Proofs.YtilkginahmfagaaDoor.PFnExactGoodBalancer Go.Proofs.YtilkginahmfagaaDoorW.PrintWords Go.Proofs.YtilkginahmfagaaDoorW.PrintLast Go.Proofs.YtilkginahmfagaaDoor.SFnExactGoodBalancer
set_option linter.unusedVariables false
set_option linter.unusedSimpArgs false

theorem l1In_eq (a b c : Int) : spec_l1In.f a b c = some (decide (b ≤ a ∧ a ≤ c)) := by
  unfold spec_l1In.f
  by_cases h : b ≤ a
  · rw [if_pos h]; simp [h]
  · rw [if_neg h]; simp [h]
theorem in_eq (a b c : Int) : impl_in.f a b c = some (decide (b ≤ a ∧ a ≤ c)) := l1In_eq a b c
theorem and_ite (p q : Prop) [Decidable p] [Decidable q] : (if p then some (decide q) else some false) = some (decide (p ∧ q)) := by
  by_cases h : p <;> simp [h]

open Go.Proofs.YtilkginahmfagaaDoor.LoopK (copyEv sameEv markEv heldEv foldEv mk mk_length at_lt at_lt' at_nn at_nlt at_stop at_getD at_set at_set2 at_snoc len_snoc at_w w64 firstEv find_any chk last_or at_prev at_prev_lt at_prev_nn at_prev_pos at_prev_w pairEv)

/-- Does p hold from i on, below n? -/
def allFrom (p : Nat → Bool) (n i : Nat) : Bool := decide (∀ j : Nat, j < n → i ≤ j → p j = true)
theorem allFrom_end (p : Nat → Bool) (n : Nat) : allFrom p n n = true := decide_eq_true (fun j h1 h2 => absurd h1 (by omega))
theorem allFrom_step (p : Nat → Bool) (n i : Nat) (h : i < n) : allFrom p n i = (p i && allFrom p n (i + 1)) := by
  rw [Bool.eq_iff_iff]
  simp only [allFrom, decide_eq_true_eq, Bool.and_eq_true]
  constructor
  · intro h2
    exact ⟨h2 i h (Nat.le_refl _), fun j h3 h4 => h2 j h3 (by omega)⟩
  · rintro ⟨h2, h3⟩ j h5 h4
    by_cases e : j = i
    · rw [e]; exact h2
    · exact h3 j h5 (by omega)
def backSign (b : Int) : Bool := decide ((97 ≤ b ∧ b ≤ 122) ∨ (48 ≤ b ∧ b ≤ 57))
def backOk (s : ByteArray) : Bool := allFrom (fun j => backSign (bt s (j : Int))) s.size 0 && decide (1 ≤ (s.size : Int) ∧ (s.size : Int) ≤ 12)
theorem back_loop (s : ByteArray) (hs : s.size ≤ 4611686018427387904) : ∀ d i : Nat, i + d = s.size → Ev (fun k => spec_l8Backend.l0 k s (i : Int)) (allFrom (fun j => backSign (bt s (j : Int))) s.size i && decide (1 ≤ (s.size : Int) ∧ (s.size : Int) ≤ 12)) := by
  intro d
  induction d with
  | zero =>
    intro i hi
    obtain rfl : i = s.size := by omega
    refine Ev.step (f := fun _ => some (decide (1 ≤ (s.size : Int) ∧ (s.size : Int) ≤ 12))) (fun k => ?_) ?_
    · simp only [spec_l8Backend.l0, Int.lt_irrefl, if_false, l1In_eq, Option.bind_some]
    · rw [allFrom_end, Bool.true_and]
      exact Ev.now _
  | succ d ih =>
    intro i hi
    have h1 : (i : Int) < (s.size : Int) := by omega
    have h2 : (0 : Int) ≤ (i : Int) := by omega
    have hw : wrap64 ((i : Int) + 1) = ((i + 1 : Nat) : Int) := by unfold wrap64; omega
    refine Ev.step (f := fun k => spec_l8Backend.j1 k s (i : Int) (!backSign (bt s (i : Int)))) (fun k => ?_) ?_
    · simp only [spec_l8Backend.l0, h1, h2, if_true]
      unfold backSign
      generalize bt s (i : Int) = b
      by_cases a1 : b ≥ 97
      · rw [if_pos a1]
        by_cases a2 : b ≤ 122
        · rw [if_pos a2, decide_eq_true (show (97 ≤ b ∧ b ≤ 122) ∨ (48 ≤ b ∧ b ≤ 57) by omega)]
        · rw [if_neg a2, if_pos (show b ≥ 48 by omega), decide_eq_false (show ¬ b ≤ 57 by omega), decide_eq_false (show ¬ ((97 ≤ b ∧ b ≤ 122) ∨ (48 ≤ b ∧ b ≤ 57)) by omega)]
      · rw [if_neg a1]
        by_cases a3 : b ≥ 48
        · rw [if_pos a3]
          by_cases a4 : b ≤ 57
          · rw [decide_eq_true a4, decide_eq_true (show (97 ≤ b ∧ b ≤ 122) ∨ (48 ≤ b ∧ b ≤ 57) by omega)]
          · rw [decide_eq_false a4, decide_eq_false (show ¬ ((97 ≤ b ∧ b ≤ 122) ∨ (48 ≤ b ∧ b ≤ 57)) by omega)]
        · rw [if_neg a3, decide_eq_false (show ¬ ((97 ≤ b ∧ b ≤ 122) ∨ (48 ≤ b ∧ b ≤ 57)) by omega)]
    · rw [allFrom_step _ _ _ (by omega)]
      cases backSign (bt s (i : Int)) with
      | false =>
        refine Ev.step (f := fun _ => some false) (fun k => ?_) (Ev.now _)
        simp only [spec_l8Backend.j1, Bool.not_false, if_true]
      | true =>
        refine Ev.step (f := fun k => spec_l8Backend.l0 k s ((i + 1 : Nat) : Int)) (fun k => ?_) ?_
        · simp only [spec_l8Backend.j1, Bool.not_true, Bool.false_eq_true, if_false, hw]
        · rw [Bool.true_and]
          exact ih (i + 1) (by omega)
theorem specBack_ev (s : ByteArray) (hs : s.size ≤ 4611686018427387904) : Ev (fun k => spec_l8Backend.f k s) (backOk s) := back_loop s hs s.size 0 (by omega)
/-- The signs of a backend's name. -/
def backSigns : ByteArray := ⟨#[97, 98, 99, 100, 101, 102, 103, 104, 105, 106, 107, 108, 109, 110, 111, 112, 113, 114, 115, 116, 117, 118, 119, 120, 121, 122, 48, 49, 50, 51, 52, 53, 54, 55, 56, 57]⟩
theorem backSigns_all : ∀ n : Fin 256, backSigns.data.toList.contains (UInt8.ofNat (n : Nat)) = backSign ((n : Nat) : Int) := by decide +kernel
theorem backSigns_eq (x : UInt8) : backSigns.data.toList.contains x = backSign (x.toNat : Int) := by
  have h := backSigns_all ⟨x.toNat, x.toNat_lt⟩
  simpa using h
theorem bt_nat (s : ByteArray) (j : Nat) (h : j < s.size) : bt s (j : Int) = ((s.data[j]'h).toNat : Int) := by
  unfold bt
  rw [dif_pos (show (j : Int).toNat < s.size by simpa using h)]
  rfl
theorem over_eq (s : ByteArray) (hs : s.size ≤ 9223372036854775807) : impl_over.f s backSigns = some (allFrom (fun j => backSign (bt s (j : Int))) s.size 0) := by
  unfold impl_over.f TrimLaid.overF
  rw [if_pos ⟨hs, by decide, by decide⟩]
  congr 1
  unfold TrimLaid.overAll
  rw [Bool.eq_iff_iff, List.all_eq_true]
  simp only [allFrom, decide_eq_true_eq, backSigns_eq]
  constructor
  · intro h j hj _
    rw [bt_nat s j hj]
    exact h _ (by simp)
  · intro h x hx
    obtain ⟨j, hj, rfl⟩ := List.mem_iff_getElem.1 hx
    have hj2 : j < s.size := by simpa using hj
    have := h j hj2 (Nat.zero_le _)
    rw [bt_nat s j hj2] at this
    simpa using this
theorem implBack_eq (s : ByteArray) : impl_GoodBackend.f s = some (backOk s) := by
  unfold impl_GoodBackend.f backOk
  rw [in_eq, Option.bind_some]
  by_cases h : 1 ≤ (s.size : Int) ∧ (s.size : Int) ≤ 12
  · rw [decide_eq_true h, if_pos rfl, Bool.and_true]
    show (impl_over.f s backSigns).bind _ = _
    rw [over_eq s (by omega), Option.bind_some]
  · rw [decide_eq_false h, if_neg (by decide), Bool.and_false]

def srvB (srv : Int) (l : List S93) : Nat → Int → Bool
  | 0, _ => true
  | n + 1, i => decide (((rd_T93 l i).f0.size : Int) = srv) && (!(decide (0 < i) && !(Op.bytesLess (rd_T93 l (i - 1)).f0.toList (rd_T93 l i).f0.toList)) && (backOk (rd_T93 l i).f1 && (!(sany (rd_T93 l i).f1 l i) && srvB srv l n (i + 1))))
theorem sany_mem (b : ByteArray) (l : List S93) (i : Int) : (b.data.toList ∈ (l.take i.toNat).map (fun a => a.f1.data.toList)) ↔ sany b l i = true := by
  unfold sany
  rw [List.any_eq_true, List.mem_map]
  constructor
  · rintro ⟨a, h1, h2⟩
    exact ⟨a, h1, by rw [beq_iff_eq, ByteArray.toList_eq, ByteArray.toList_eq]; exact h2⟩
  · rintro ⟨a, h1, h2⟩
    rw [beq_iff_eq, ByteArray.toList_eq, ByteArray.toList_eq] at h2
    exact ⟨a, h1, h2⟩
theorem gsrv_eq (srv : Int) (l : List S93) : ∀ n i, gsrv srv l n i = some (srvB srv l n i)
  | 0, _ => rfl
  | n + 1, i => by
    have ih := gsrv_eq srv l n (i + 1)
    unfold gsrv srvB
    rw [implBack_eq, Option.bind_some, ih]
    by_cases c1 : ((rd_T93 l i).f0.size : Int) = srv
    · rw [if_pos c1, decide_eq_true c1, Bool.true_and]
      by_cases c2 : 0 < i ∧ Op.bytesLess (rd_T93 l (i - 1)).f0.toList (rd_T93 l i).f0.toList = false
      · rw [if_pos c2, decide_eq_true c2.1, c2.2]
        rfl
      · rw [if_neg c2]
        have e : (!(decide (0 < i) && !(Op.bytesLess (rd_T93 l (i - 1)).f0.toList (rd_T93 l i).f0.toList))) = true := by
          by_cases h : 0 < i
          · cases hb : Op.bytesLess (rd_T93 l (i - 1)).f0.toList (rd_T93 l i).f0.toList with
            | true => simp
            | false => exact absurd ⟨h, hb⟩ c2
          · rw [decide_eq_false h]
            rfl
        rw [e, Bool.true_and]
        cases backOk (rd_T93 l i).f1 with
        | false => rfl
        | true =>
          rw [if_pos rfl, Bool.true_and]
          by_cases c3 : (rd_T93 l i).f1.data.toList ∈ (l.take i.toNat).map (fun a => a.f1.data.toList)
          · rw [if_pos c3, (sany_mem _ _ _).1 c3]
            rfl
          · rw [if_neg c3]
            have h : sany (rd_T93 l i).f1 l i = false := by
              cases hh : sany (rd_T93 l i).f1 l i with
              | false => rfl
              | true => exact absurd ((sany_mem _ _ _).2 hh) c3
            rw [h]
            rfl
    · rw [if_neg c1, decide_eq_false c1]
      rfl
theorem rd_in (l : List S93) (i : Int) : (rd_T93 l i) ∈ l ∨ (rd_T93 l i) = z93 := by
  unfold rd_T93
  rw [List.getD_eq_getElem?_getD]
  cases h : l[i.toNat]? with
  | none => exact Or.inr rfl
  | some x => exact Or.inl (List.mem_of_getElem? h)
theorem ssrv_ev (srv : Int) (l : List S93) (hl : ∀ x, x ∈ l → x.f1.size ≤ 140737488351232) : ∀ n i, Ev (fun k => ssrv k srv l n i) (srvB srv l n i)
  | 0, _ => by
    unfold ssrv srvB
    exact Ev.now _
  | n + 1, i => by
    have ih := ssrv_ev srv l hl n (i + 1)
    unfold ssrv srvB
    have hs : (rd_T93 l i).f1.size ≤ 4611686018427387904 := by
      rcases rd_in l i with h | h
      · have := hl _ h; omega
      · rw [h]; decide
    by_cases c1 : ((rd_T93 l i).f0.size : Int) = srv
    · simp only [c1, if_true, decide_true, Bool.true_and]
      refine LoopK.Ev.bind_ (specBack_ev _ hs) ?_
      cases backOk (rd_T93 l i).f1 with
      | false =>
        simp only [Bool.false_eq_true, if_false, Bool.false_and, Bool.and_false]
        exact Ev.now _
      | true =>
        simp only [if_true, Bool.true_and]
        by_cases c2 : 0 < i ∧ Op.bytesLess (rd_T93 l (i - 1)).f0.toList (rd_T93 l i).f0.toList = false
        · simp only [c2, and_self, if_true, decide_true, Bool.not_false, Bool.and_self, Bool.not_true, Bool.false_and]
          exact Ev.now _
        · simp only [c2, if_false]
          have e : (!(decide (0 < i) && !(Op.bytesLess (rd_T93 l (i - 1)).f0.toList (rd_T93 l i).f0.toList))) = true := by
            by_cases h : 0 < i
            · cases hb : Op.bytesLess (rd_T93 l (i - 1)).f0.toList (rd_T93 l i).f0.toList with
              | true => simp
              | false => exact absurd ⟨h, hb⟩ c2
            · rw [decide_eq_false h]
              rfl
          simp only [e, Bool.true_and]
          cases sany (rd_T93 l i).f1 l i with
          | true =>
            simp only [if_true, Bool.not_true, Bool.false_and]
            exact Ev.now _
          | false =>
            simp only [Bool.false_eq_true, if_false, Bool.not_false, Bool.true_and]
            exact ih
    · simp only [c1, if_false, decide_false, Bool.false_and]
      exact Ev.now _
theorem cfg_some (a b c : Int) (d : ByteArray) (e : Bool) : ∃ r, spec_GoodConfig.f a b c d e = some r := by
  unfold spec_GoodConfig.f
  simp only [l1In_eq, Option.bind_some]
  repeat' (first | exact ⟨_, rfl⟩ | split)
theorem cfg_same (a b c : Int) (d : ByteArray) (e : Bool) : impl_GoodConfig.f a b c d e = spec_GoodConfig.f a b c d e := rfl
def cfgB (x : S87) : Bool := (spec_GoodConfig.f x.f0 x.f1 x.f2 x.f3 x.f4).getD false
theorem cfg_eq (x : S87) : spec_GoodConfig.f x.f0 x.f1 x.f2 x.f3 x.f4 = some (cfgB x) := by
  unfold cfgB
  obtain ⟨r, h⟩ := cfg_some x.f0 x.f1 x.f2 x.f3 x.f4
  rw [h]
  rfl
/-- What is asked of an entry besides its servers. -/
def entB (x : S90) : Bool := cfgB x.f0 && (decide (0 ≤ x.f0.f0 ∧ x.f0.f0 ≤ 2) && (decide ((x.f1.length : Int) ≤ 12) && decide (0 ≤ x.f2 ∧ x.f2 ≤ 1000000000)))
def tabB (l : List S90) : Nat → Int → Bool
  | 0, _ => decide ((l.length : Int) ≤ 3)
  | n + 1, i => entB (rd_T90 l i) && (srvB (rd_T90 l i).f0.f1 (rd_T90 l i).f1 (rd_T90 l i).f1.length 0 && (!(decide (0 < i ∧ (rd_T90 l i).f0.f0 ≤ (rd_T90 l (i - 1)).f0.f0)) && tabB l n (i + 1)))
theorem good_eq (x : S90) (hx : (x.f1.length : Int) ≤ 9223372036854775807) : impl_Entry_good.f x.f0.f0 x.f0.f1 x.f0.f2 x.f0.f3 x.f0.f4 x.f1 x.f2 = some (entB x && srvB x.f0.f1 x.f1 x.f1.length 0) := by
  unfold impl_Entry_good.f
  rw [if_pos hx, gsrv_eq, Option.bind_some]
  unfold gtail entB
  rw [cfg_same, cfg_eq, Option.bind_some, in_eq, Option.bind_some, in_eq]
  cases srvB x.f0.f1 x.f1 x.f1.length 0 with
  | false => rw [if_neg (by decide), Bool.and_false]
  | true =>
    rw [if_pos rfl, Bool.and_true]
    cases cfgB x.f0 with
    | false => rfl
    | true =>
      rw [if_pos rfl, Bool.true_and]
      by_cases h2 : 0 ≤ x.f0.f0 ∧ x.f0.f0 ≤ 2
      · rw [decide_eq_true h2, if_pos rfl, Bool.true_and]
        by_cases h3 : (x.f1.length : Int) ≤ 12
        · rw [if_pos h3, decide_eq_true h3, Bool.true_and]
        · rw [if_neg h3, decide_eq_false h3, Bool.false_and]
      · rw [decide_eq_false h2, if_neg (by decide), Bool.false_and]
theorem rdE_in (l : List S90) (i : Int) : (rd_T90 l i) ∈ l ∨ (rd_T90 l i) = z90 := by
  unfold rd_T90
  rw [List.getD_eq_getElem?_getD]
  cases h : l[i.toNat]? with
  | none => exact Or.inr rfl
  | some x => exact Or.inl (List.mem_of_getElem? h)
/-- An entry whose lists and texts are not too long. -/
def EntSz (x : S90) : Prop := x.f1.length ≤ 1048576 ∧ ∀ y, y ∈ x.f1 → y.f1.size ≤ 140737488351232
theorem rdE_sz (l : List S90) (hl : ∀ x, x ∈ l → EntSz x) (i : Int) : EntSz (rd_T90 l i) := by
  rcases rdE_in l i with h | h
  · exact hl _ h
  · rw [h]
    exact ⟨by decide, fun y hy => by cases hy⟩
theorem gtab_eq (l : List S90) (hl : ∀ x, x ∈ l → EntSz x) : ∀ n i, gtab l n i = some (tabB l n i)
  | 0, _ => rfl
  | n + 1, i => by
    have ih := gtab_eq l hl n (i + 1)
    unfold gtab tabB
    rw [good_eq _ (by have := (rdE_sz l hl i).1; omega), Option.bind_some, ih]
    cases entB (rd_T90 l i) with
    | false => rfl
    | true =>
      rw [Bool.true_and, Bool.true_and]
      cases srvB (rd_T90 l i).f0.f1 (rd_T90 l i).f1 (rd_T90 l i).f1.length 0 with
      | false => rfl
      | true =>
        rw [if_pos rfl, Bool.true_and]
        by_cases h : 0 < i ∧ (rd_T90 l i).f0.f0 ≤ (rd_T90 l (i - 1)).f0.f0
        · rw [if_pos h, decide_eq_true h]
          rfl
        · rw [if_neg h, decide_eq_false h]
          rfl
theorem stab_ev (l : List S90) (hl : ∀ x, x ∈ l → EntSz x) : ∀ n i, Ev (fun k => stab k l n i) (tabB l n i)
  | 0, _ => by
    unfold stab tabB
    exact Ev.now _
  | n + 1, i => by
    have ih := stab_ev l hl n (i + 1)
    have hs := ssrv_ev (rd_T90 l i).f0.f1 (rd_T90 l i).f1 (rdE_sz l hl i).2 (rd_T90 l i).f1.length 0
    unfold stab tabB entB
    simp only [cfg_eq, l1In_eq, Option.bind_some]
    cases cfgB (rd_T90 l i).f0 with
    | false =>
      simp only [Bool.false_eq_true, if_false, Bool.false_and]
      exact Ev.now _
    | true =>
      simp only [if_true, Bool.true_and, decide_eq_true_eq]
      by_cases h2 : 0 ≤ (rd_T90 l i).f0.f0 ∧ (rd_T90 l i).f0.f0 ≤ 2
      · simp only [h2, and_self, if_true, decide_true, Bool.true_and]
        by_cases h3 : 12 < ((rd_T90 l i).f1.length : Int)
        · simp only [h3, if_true, decide_eq_false (Int.not_le.mpr h3), Bool.false_and]
          exact Ev.now _
        · simp only [h3, if_false, decide_eq_true (Int.not_lt.mp h3), Bool.true_and]
          by_cases h4 : 0 ≤ (rd_T90 l i).f2 ∧ (rd_T90 l i).f2 ≤ 1000000000
          · simp only [h4, and_self, if_true, decide_true, Bool.true_and]
            by_cases h5 : 0 < i ∧ (rd_T90 l i).f0.f0 ≤ (rd_T90 l (i - 1)).f0.f0
            · simp only [h5, and_self, if_true, decide_true, Bool.not_true, Bool.false_and, Bool.and_false]
              exact Ev.now _
            · simp only [h5, if_false, decide_false, Bool.not_false, Bool.true_and]
              refine LoopK.Ev.bind_ hs ?_
              cases srvB (rd_T90 l i).f0.f1 (rd_T90 l i).f1 (rd_T90 l i).f1.length 0 with
              | false =>
                simp only [Bool.false_eq_true, if_false, Bool.false_and]
                exact Ev.now _
              | true =>
                simp only [if_true, Bool.true_and]
                exact ih
          · simp only [h4, if_false, decide_false, Bool.false_and]
            exact Ev.now _
      · simp only [h2, if_false, decide_false, Bool.false_and]
        exact Ev.now _
def tableB (l : List S90) : Bool := tabB l l.length 0
theorem specTable_ev (l : List S90) (h : l.length ≤ 1048576) (hl : ∀ x, x ∈ l → EntSz x) : Ev (fun k => spec_GoodTable.f k l) (tableB l) := by
  have hc : (l.length : Int) ≤ 4611686018427387904 ∧ ∀ e, e ∈ l → (e.f1.length : Int) ≤ 4611686018427387904 := ⟨by omega, fun e he => by have := (hl e he).1; omega⟩
  have e : (fun k => spec_GoodTable.f k l) = fun k => stab k l l.length 0 := funext fun k => by
    unfold spec_GoodTable.f
    rw [if_pos hc]
  rw [e]
  exact stab_ev l hl _ _
theorem implTable_eq (l : List S90) (h : l.length ≤ 1048576) (hl : ∀ x, x ∈ l → EntSz x) : impl_GoodTable.f l = some (tableB l) := by
  unfold impl_GoodTable.f
  rw [if_pos (by omega)]
  exact gtab_eq l hl _ _

theorem rdS (p : List ByteArray) (x : ByteArray) (r : List ByteArray) : rdOf ByteArray.empty (p ++ x :: r) (p.length : Int) = x := by
  unfold rdOf
  simp
theorem rdS_prev (p : List ByteArray) (q x : ByteArray) (r : List ByteArray) : rdOf ByteArray.empty ((p ++ [q]) ++ x :: r) (((p ++ [q]).length : Int) - 1) = q := by
  unfold rdOf
  exact at_prev p q x r _
def liveGood (o : Option ByteArray) (x : ByteArray) : Bool := backOk x && (match o with | none => true | some q => Op.bytesLess q.toList x.toList)
def liveOk (l : List ByteArray) : Bool := chk liveGood none l && decide ((l.length : Int) ≤ 12)
theorem specLive_loop : ∀ (r p : List ByteArray), (p ++ r).length ≤ 4611686018427387904 → (∀ x, x ∈ r → x.size ≤ 140737488351232) →
    Ev (fun k => spec_GoodLive.l0 k (p ++ r) (p ++ r) ((p ++ r).length : Int) (p.length : Int)) (chk liveGood p.getLast? r && decide (((p ++ r).length : Int) ≤ 12))
  | [], p, _, _ => by
    refine LoopK.Ev.succ ?_
    simp only [spec_GoodLive.l0, List.append_nil, at_stop, if_false, chk, Bool.true_and]
    exact Ev.now _
  | x :: r, p, hB, hx => by
    refine LoopK.Ev.succ ?_
    have e1 := at_w p x r (by omega)
    have hx0 := hx x (by simp)
    have ih := specLive_loop r (p ++ [x]) (by simpa using hB) (fun y hy => hx y (by simp [hy]))
    rw [← at_snoc, len_snoc p x, List.getLast?_concat] at ih
    simp only [spec_GoodLive.l0, at_lt, at_nn, if_true, rdS]
    refine LoopK.Ev.bind_ (specBack_ev _ (by omega)) ?_
    have stopj : ∀ i, Ev (fun k => spec_GoodLive.j1 k (p ++ x :: r) (p ++ x :: r) ((p ++ x :: r).length : Int) i true) false := fun i => by
      refine LoopK.Ev.succ ?_
      simp only [spec_GoodLive.j1, if_true]
      exact Ev.now _
    have goj : Ev (fun k => spec_GoodLive.j1 k (p ++ x :: r) (p ++ x :: r) ((p ++ x :: r).length : Int) (p.length : Int) false) (chk liveGood (some x) r && decide (((p ++ x :: r).length : Int) ≤ 12)) := by
      refine LoopK.Ev.succ ?_
      simp only [spec_GoodLive.j1, Bool.false_eq_true, if_false, e1]
      exact ih
    cases h1 : backOk x with
    | false =>
      simp only [Bool.false_eq_true, if_false, chk, liveGood, h1, Bool.false_and]
      exact stopj _
    | true =>
      simp only [if_true]
      rcases last_or p with rfl | ⟨p0, q, rfl⟩
      · have c0 : ¬ (([] : List ByteArray).length : Int) > 0 := by simp
        simp only [c0, if_false, chk, liveGood, h1, List.getLast?_nil, Bool.true_and]
        exact goj
      · have c0 := at_prev_w p0 q x r hB
        simp only [at_prev_pos, if_true, c0, at_prev_nn, at_prev_lt, rdS_prev, chk, liveGood, h1, Bool.true_and, List.getLast?_concat]
        cases h2 : Op.bytesLess q.toList x.toList with
        | false =>
          simp only [Bool.not_false, Bool.false_and]
          exact stopj _
        | true =>
          simp only [Bool.not_true, Bool.true_and]
          exact goj
theorem specLive_ev (l : List ByteArray) (hl : l.length ≤ 4611686018427387904) (hx : ∀ x, x ∈ l → x.size ≤ 140737488351232) : Ev (fun k => spec_GoodLive.f k l) (liveOk l) := by
  have h := specLive_loop l [] (by simpa using hl) hx
  simp only [List.nil_append] at h
  exact h
theorem implLive_loop : ∀ (r p : List ByteArray), (p ++ r).length ≤ 4611686018427387904 →
    Ev (fun k => impl_GoodLive.l0 k (p ++ r) (p ++ r) ((p ++ r).length : Int) (p.length : Int)) (chk liveGood p.getLast? r && decide (((p ++ r).length : Int) ≤ 12))
  | [], p, _ => by
    refine LoopK.Ev.succ ?_
    simp only [impl_GoodLive.l0, List.append_nil, at_stop, if_false, chk, Bool.true_and]
    exact Ev.now _
  | x :: r, p, hB => by
    refine LoopK.Ev.succ ?_
    have e1 := at_w p x r (by omega)
    have ih := implLive_loop r (p ++ [x]) (by simpa using hB)
    rw [← at_snoc, len_snoc p x, List.getLast?_concat] at ih
    simp only [impl_GoodLive.l0, at_lt, at_nn, if_true, rdS, implBack_eq, Option.bind_some]
    have stopj : ∀ i, Ev (fun k => impl_GoodLive.j1 k (p ++ x :: r) (p ++ x :: r) ((p ++ x :: r).length : Int) i true) false := fun i => by
      refine LoopK.Ev.succ ?_
      simp only [impl_GoodLive.j1, if_true]
      exact Ev.now _
    have goj : Ev (fun k => impl_GoodLive.j1 k (p ++ x :: r) (p ++ x :: r) ((p ++ x :: r).length : Int) (p.length : Int) false) (chk liveGood (some x) r && decide (((p ++ x :: r).length : Int) ≤ 12)) := by
      refine LoopK.Ev.succ ?_
      simp only [impl_GoodLive.j1, Bool.false_eq_true, if_false, e1]
      exact ih
    cases h1 : backOk x with
    | false =>
      simp only [Bool.false_eq_true, if_false, chk, liveGood, h1, Bool.false_and]
      exact stopj _
    | true =>
      simp only [if_true]
      rcases last_or p with rfl | ⟨p0, q, rfl⟩
      · have c0 : ¬ (([] : List ByteArray).length : Int) > 0 := by simp
        simp only [c0, if_false, chk, liveGood, h1, List.getLast?_nil, Bool.true_and]
        exact goj
      · have c0 := at_prev_w p0 q x r hB
        simp only [at_prev_pos, if_true, c0, at_prev_nn, at_prev_lt, rdS_prev, chk, liveGood, h1, Bool.true_and, List.getLast?_concat]
        cases h2 : Op.bytesLess q.toList x.toList with
        | false =>
          simp only [Bool.not_false, Bool.false_and]
          exact stopj _
        | true =>
          simp only [Bool.not_true, Bool.true_and]
          exact goj
theorem implLive_ev (l : List ByteArray) (hl : l.length ≤ 4611686018427387904) : Ev (fun k => impl_GoodLive.f k l) (liveOk l) := by
  have h := implLive_loop l [] (by simpa using hl)
  simp only [List.nil_append] at h
  exact h

/-- What the strings of elements take. -/
def totAlloc : List S159 → Int
  | [] => 0
  | x :: r => (x.f0.size : Int) + (x.f1.size : Int) + totAlloc r
theorem totAlloc_nonneg : ∀ l, 0 ≤ totAlloc l
  | [] => by simp [totAlloc]
  | x :: r => by
    have := totAlloc_nonneg r
    simp only [totAlloc]
    omega
theorem szAlloc_some (x : S159) (a : Int) (ha : 0 ≤ a ∧ a ≤ 1048576) (hx : x.f0.size ≤ 140737488351232 ∧ x.f1.size ≤ 140737488351232) : ∃ r, laws_szAlloc.f x.f0 x.f1 a = some r ∧ (0 ≤ r → r = a - ((x.f0.size : Int) + (x.f1.size : Int))) := by
  unfold laws_szAlloc.f
  have e : wrap64 (a - (x.f0.size : Int)) = a - (x.f0.size : Int) := w64 _ (by omega)
  rw [e]
  by_cases h1 : a - (x.f0.size : Int) < 0
  · rw [if_pos h1]
    exact ⟨_, rfl, fun h => by omega⟩
  · rw [if_neg h1]
    have e2 : wrap64 (a - (x.f0.size : Int) - (x.f1.size : Int)) = a - (x.f0.size : Int) - (x.f1.size : Int) := w64 _ (by omega)
    rw [e2]
    split
    · exact ⟨_, rfl, fun h => by omega⟩
    · exact ⟨_, rfl, fun h => by omega⟩
theorem szAllocS_loop : ∀ (r p : List S159) (a : Int), (p ++ r).length ≤ 4611686018427387904 → 0 ≤ a → a ≤ 1048576 → (∀ x, x ∈ r → x.f0.size ≤ 140737488351232 ∧ x.f1.size ≤ 140737488351232) →
    ∃ q, Ev (fun k => laws_szAllocS.l0 k (p ++ r) a (p.length : Int)) q ∧ -1 ≤ q ∧ (0 ≤ q → q = a - totAlloc r)
  | [], p, a, hB, h0, h1, _ => by
    refine ⟨a, LoopK.Ev.succ ?_, by omega, fun _ => by simp [totAlloc]⟩
    simp only [List.append_nil, laws_szAllocS.l0, at_stop, if_false]
    exact Ev.now _
  | x :: r, p, a, hB, h0, h1, hx => by
    have hx0 : x.f0.size ≤ 140737488351232 ∧ x.f1.size ≤ 140737488351232 := hx x (by simp)
    have e1 := at_w p x r hB
    have tn := totAlloc_nonneg r
    obtain ⟨t, ht, ht1⟩ := szAlloc_some x a ⟨h0, h1⟩ hx0
    by_cases hn : t < 0
    · refine ⟨-1, LoopK.Ev.succ ?_, by omega, fun h => by omega⟩
      simp only [laws_szAllocS.l0, at_lt, at_nn, if_true, rd_T159, at_getD, ht, Option.bind_some, hn]
      exact Ev.now _
    · have ht2 := ht1 (by omega)
      obtain ⟨q, hq, q2, q3⟩ := szAllocS_loop r (p ++ [x]) t (by simpa using hB) (by omega) (by omega) (fun y hy => hx y (by simp [hy]))
      rw [← at_snoc, len_snoc] at hq
      refine ⟨q, LoopK.Ev.succ ?_, q2, fun h => ?_⟩
      · simp only [laws_szAllocS.l0, at_lt, at_nn, if_true, rd_T159, at_getD, ht, Option.bind_some, hn, if_false, e1]
        exact hq
      · rw [q3 h]
        simp only [totAlloc]
        omega
theorem szAllocS_ev (l : List S159) (a : Int) (ha : 0 ≤ a ∧ a ≤ 1048576) (h : l.length ≤ 140737488351232) (hx : ∀ x, x ∈ l → x.f0.size ≤ 140737488351232 ∧ x.f1.size ≤ 140737488351232) :
    ∃ r, Ev (fun k => laws_szAllocS.f k l a) r ∧ -1 ≤ r ∧ (0 ≤ r → r = a - l.length - totAlloc l) := by
  unfold laws_szAllocS.f
  have e : wrap64 (a - (l.length : Int)) = a - (l.length : Int) := w64 _ (by omega)
  simp only [e]
  by_cases hn : a - (l.length : Int) < 0
  · simp only [hn, if_true]
    exact ⟨-1, Ev.now _, by omega, fun h => by omega⟩
  · simp only [hn, if_false]
    obtain ⟨q, hq, q2, q3⟩ := szAllocS_loop l [] (a - l.length) (by simp; omega) (by omega) (by omega) hx
    exact ⟨q, by simpa using hq, q2, q3⟩

/-- The copy of an element. -/
def cvAlloc (x : S159) : S93 := ⟨x.f0, x.f1⟩

theorem toAllocS_ev (l : List S159) (h : l.length ≤ 1048576) : Ev (fun k => laws_toAllocS.f k l) (l.map cvAlloc) := by
  have key := copyEv (fun k xs ys i => laws_toAllocS.l0 k xs ys i) cvAlloc z93 1048576
    (fun xs ys => by
      refine LoopK.Ev.succ ?_
      simp only [laws_toAllocS.l0, at_stop, if_false]
      exact Ev.now _)
    (fun p x r q y s res hq hB hs ih => by
      refine LoopK.Ev.succ ?_
      have e1 := at_w p x r (by omega)
      have e2 := at_lt' p q y s hq
      have e3 : (q ++ y :: s).set (p.length : Int).toNat (cvAlloc x) = q ++ cvAlloc x :: s := at_set2 p q y _ s hq
      simp only [cvAlloc] at e3 ih
      simp only [laws_toAllocS.l0, at_lt, at_nn, if_true, laws_toAlloc.f, Option.bind_some, rd_T159, at_getD, e1, e2, e3]
      exact ih) l [] (by simpa using h)
  unfold laws_toAllocS.f
  have c1 : 0 ≤ (l.length : Int) := by omega
  have c2 : (l.length : Int).toNat = l.length := by omega
  simp only [c1, if_true, c2]
  have c3 : l.length ≤ 8796093022208 := by omega
  simp only [c3, if_true]
  simpa using key

theorem eqAlloc_self (x : S93) : laws_eqAlloc.f x.f0 x.f1 x.f0 x.f1 = some true := by
  unfold laws_eqAlloc.f
  simp
theorem eqAllocS_ev (l : List S93) (h : l.length ≤ 4611686018427387904) : Ev (fun k => laws_eqAllocS.f k l l) true := by
  have key := sameEv (fun k xs ys i => laws_eqAllocS.l0 k xs ys i) 4611686018427387904
    (fun xs ys => by
      refine LoopK.Ev.succ ?_
      simp only [laws_eqAllocS.l0, at_stop, if_false]
      exact Ev.now _)
    (fun p x r hB ih => by
      refine LoopK.Ev.succ ?_
      have e1 := at_w p x r hB
      simp only [laws_eqAllocS.l0, at_lt, at_nn, if_true, eqAlloc_self, Option.bind_some, rd_T93, at_getD, e1]
      exact ih) l [] (by simpa using h)
  unfold laws_eqAllocS.f
  simp only [if_true]
  simpa using key

/-! ### what a balancer takes -/
def totEnt : List S120 → Int
  | [] => 0
  | x :: r => (x.f0.f3.size : Int) + (x.f1.length : Int) + totAlloc x.f1 + totEnt r
theorem totEnt_nonneg : ∀ l, 0 ≤ totEnt l
  | [] => by simp [totEnt]
  | x :: r => by
    have := totEnt_nonneg r
    have := totAlloc_nonneg x.f1
    simp only [totEnt]
    omega
def EOk (x : S120) : Prop := x.f0.f3.size ≤ 140737488351232 ∧ x.f1.length ≤ 140737488351232 ∧ ∀ y, y ∈ x.f1 → y.f0.size ≤ 140737488351232 ∧ y.f1.size ≤ 140737488351232
theorem szEntry_ev (x : S120) (a : Int) (ha : 0 ≤ a ∧ a ≤ 1048576) (hx : EOk x) : ∃ r, Ev (fun k => laws_szEntry.f k x.f0.f0 x.f0.f1 x.f0.f2 x.f0.f3 x.f0.f4 x.f1 x.f2 a) r ∧ -1 ≤ r ∧ (0 ≤ r → r = a - ((x.f0.f3.size : Int) + (x.f1.length : Int) + totAlloc x.f1)) := by
  obtain ⟨h1, h2, h3⟩ := hx
  unfold laws_szEntry.f laws_szIdConfig.f
  have e : wrap64 (a - (x.f0.f3.size : Int)) = a - (x.f0.f3.size : Int) := w64 _ (by omega)
  simp only [e]
  by_cases hn : a - (x.f0.f3.size : Int) < 0
  · simp only [hn, if_true, Option.bind_some, show (-1 : Int) < 0 by omega]
    exact ⟨-1, Ev.now _, by omega, fun h => by omega⟩
  · simp only [hn, if_false, Option.bind_some]
    obtain ⟨q, hq, q2, q3⟩ := szAllocS_ev x.f1 (a - (x.f0.f3.size : Int)) (by omega) h2 h3
    by_cases hq0 : q < 0
    · refine ⟨-1, LoopK.Ev.bind_ hq ?_, by omega, fun h => by omega⟩
      simp only [hq0, if_true]
      exact Ev.now _
    · refine ⟨q, LoopK.Ev.bind_ hq ?_, by omega, fun h => ?_⟩
      · simp only [hq0, if_false]
        exact Ev.now _
      · rw [q3 h]
        omega
theorem szEntryS_loop : ∀ (r p : List S120) (a : Int), (p ++ r).length ≤ 4611686018427387904 → 0 ≤ a → a ≤ 1048576 → (∀ x, x ∈ r → EOk x) →
    ∃ q, Ev (fun k => laws_szEntryS.l0 k (p ++ r) a (p.length : Int)) q ∧ -1 ≤ q ∧ (0 ≤ q → q = a - totEnt r)
  | [], p, a, hB, h0, h1, _ => by
    refine ⟨a, LoopK.Ev.succ ?_, by omega, fun _ => by simp [totEnt]⟩
    simp only [List.append_nil, laws_szEntryS.l0, at_stop, if_false]
    exact Ev.now _
  | x :: r, p, a, hB, h0, h1, hx => by
    have e1 := at_w p x r hB
    have tn := totEnt_nonneg r
    have tm := totAlloc_nonneg x.f1
    obtain ⟨t, ht, ht0, ht1⟩ := szEntry_ev x a ⟨h0, h1⟩ (hx x (by simp))
    by_cases hn : t < 0
    · refine ⟨-1, LoopK.Ev.succ ?_, by omega, fun h => by omega⟩
      simp only [laws_szEntryS.l0, at_lt, at_nn, if_true, rd_T120, at_getD]
      refine LoopK.Ev.bind_ ht ?_
      simp only [hn, if_true]
      exact Ev.now _
    · have ht2 := ht1 (by omega)
      obtain ⟨q, hq, q2, q3⟩ := szEntryS_loop r (p ++ [x]) t (by simpa using hB) (by omega) (by omega) (fun y hy => hx y (by simp [hy]))
      rw [← at_snoc, len_snoc] at hq
      refine ⟨q, LoopK.Ev.succ ?_, q2, fun h => ?_⟩
      · simp only [laws_szEntryS.l0, at_lt, at_nn, if_true, rd_T120, at_getD]
        refine LoopK.Ev.bind_ ht ?_
        simp only [hn, if_false, e1]
        exact hq
      · rw [q3 h]
        simp only [totEnt]
        omega
theorem szTable_ev (l : List S120) (a : Int) (ha : 0 ≤ a ∧ a ≤ 1048576) (h : l.length ≤ 140737488351232) (hx : ∀ x, x ∈ l → EOk x) :
    ∃ r, Ev (fun k => laws_szTable.f k l a) r ∧ -1 ≤ r ∧ (0 ≤ r → r = a - l.length - totEnt l) := by
  unfold laws_szTable.f laws_szEntryS.f
  have e : wrap64 (a - (l.length : Int)) = a - (l.length : Int) := w64 _ (by omega)
  simp only [e]
  by_cases hn : a - (l.length : Int) < 0
  · simp only [hn, if_true, Option.bind_some, show (-1 : Int) < 0 by omega]
    exact ⟨-1, Ev.now _, by omega, fun h => by omega⟩
  · simp only [hn, if_false]
    obtain ⟨q, hq, q2, q3⟩ := szEntryS_loop l [] (a - l.length) (by simp; omega) (by omega) (by omega) hx
    simp only [List.nil_append, List.length_nil, Int.natCast_zero] at hq
    by_cases hq0 : q < 0
    · refine ⟨-1, LoopK.Ev.bind_ hq ?_, by omega, fun h => by omega⟩
      simp only [hq0, if_true]
      exact Ev.now _
    · refine ⟨q, LoopK.Ev.bind_ hq ?_, by omega, fun h => by rw [q3 h]⟩
      simp only [hq0, if_false]
      exact Ev.now _
theorem szStringS_loop : ∀ (r p : List ByteArray) (a : Int), (p ++ r).length ≤ 4611686018427387904 → 0 ≤ a → a ≤ 1048576 → (∀ x, x ∈ r → x.size ≤ 140737488351232) →
    ∃ q, Ev (fun k => laws_szStringS.l0 k (p ++ r) a (p.length : Int)) q ∧ -1 ≤ q ∧ (0 ≤ q → q ≤ a)
  | [], p, a, hB, h0, h1, _ => by
    refine ⟨a, LoopK.Ev.succ ?_, by omega, fun _ => by omega⟩
    simp only [List.append_nil, laws_szStringS.l0, at_stop, if_false]
    exact Ev.now _
  | x :: r, p, a, hB, h0, h1, hx => by
    have e1 := at_w p x r hB
    have hx0 := hx x (by simp)
    have e2 : wrap64 (a - (x.size : Int)) = a - (x.size : Int) := w64 _ (by omega)
    by_cases hn : a - (x.size : Int) < 0
    · refine ⟨-1, LoopK.Ev.succ ?_, by omega, fun h => by omega⟩
      simp only [laws_szStringS.l0, at_lt, at_nn, if_true, rdS, e2, hn]
      exact Ev.now _
    · obtain ⟨q, hq, q2, q3⟩ := szStringS_loop r (p ++ [x]) (a - (x.size : Int)) (by simpa using hB) (by omega) (by omega) (fun y hy => hx y (by simp [hy]))
      rw [← at_snoc, len_snoc] at hq
      refine ⟨q, LoopK.Ev.succ ?_, q2, fun h => by have := q3 h; omega⟩
      simp only [laws_szStringS.l0, at_lt, at_nn, if_true, rdS, e2, hn, if_false, e1]
      exact hq
theorem szStringS_ev (l : List ByteArray) (a : Int) (ha : 0 ≤ a ∧ a ≤ 1048576) (h : l.length ≤ 140737488351232) (hx : ∀ x, x ∈ l → x.size ≤ 140737488351232) :
    ∃ r, Ev (fun k => laws_szStringS.f k l a) r ∧ -1 ≤ r ∧ (0 ≤ r → r ≤ a - l.length) := by
  unfold laws_szStringS.f
  have e : wrap64 (a - (l.length : Int)) = a - (l.length : Int) := w64 _ (by omega)
  simp only [e]
  by_cases hn : a - (l.length : Int) < 0
  · simp only [hn, if_true]
    exact ⟨-1, Ev.now _, by omega, fun h => by omega⟩
  · simp only [hn, if_false]
    obtain ⟨q, hq, q2, q3⟩ := szStringS_loop l [] (a - l.length) (by simp; omega) (by omega) (by omega) hx
    exact ⟨q, by simpa using hq, q2, q3⟩
theorem szBalancer_ev (l : List S120) (u : List ByteArray) (a : Int) (b : Bool) (v : List ByteArray) (c d : Int) (h : l.length ≤ 140737488351232) (hx : ∀ x, x ∈ l → EOk x) (hu : u.length ≤ 140737488351232) (hux : ∀ x, x ∈ u → x.size ≤ 140737488351232) (hv : v.length ≤ 140737488351232) (hvx : ∀ x, x ∈ v → x.size ≤ 140737488351232) :
    ∃ r, Ev (fun k => laws_szBalancer.f k l u a b v c d 1048576) r ∧ (0 ≤ r → l.length ≤ 1048576 ∧ totEnt l ≤ 1048576 ∧ u.length ≤ 1048576 ∧ v.length ≤ 1048576) := by
  unfold laws_szBalancer.f
  obtain ⟨r1, e1, m1, n1⟩ := szTable_ev l 1048576 (by omega) h hx
  have tn := totEnt_nonneg l
  by_cases z1 : r1 < 0
  · refine ⟨-1, LoopK.Ev.bind_ e1 ?_, fun h => by omega⟩
    simp only [z1, if_true]
    exact Ev.now _
  have n1 := n1 (by omega)
  obtain ⟨r2, e2, m2, n2⟩ := szStringS_ev u r1 (by omega) hu hux
  by_cases z2 : r2 < 0
  · refine ⟨-1, LoopK.Ev.bind_ e1 ?_, fun h => by omega⟩
    simp only [z1, if_false]
    refine LoopK.Ev.bind_ e2 ?_
    simp only [z2, if_true]
    exact Ev.now _
  have n2 := n2 (by omega)
  obtain ⟨r3, e3, m3, n3⟩ := szStringS_ev v r2 (by omega) hv hvx
  by_cases z3 : r3 < 0
  · refine ⟨-1, LoopK.Ev.bind_ e1 ?_, fun h => by omega⟩
    simp only [z1, if_false]
    refine LoopK.Ev.bind_ e2 ?_
    simp only [z2, if_false]
    refine LoopK.Ev.bind_ e3 ?_
    simp only [z3, if_true]
    exact Ev.now _
  have n3 := n3 (by omega)
  refine ⟨r3, LoopK.Ev.bind_ e1 ?_, fun h => by omega⟩
  simp only [z1, if_false]
  refine LoopK.Ev.bind_ e2 ?_
  simp only [z2, if_false]
  refine LoopK.Ev.bind_ e3 ?_
  simp only [z3, if_false]
  exact Ev.now _
/-! ### its copy -/
def cvEnt (x : S120) : S90 := ⟨⟨x.f0.f0, x.f0.f1, x.f0.f2, x.f0.f3, x.f0.f4⟩, x.f1.map cvAlloc, x.f2⟩
theorem tot_mem : ∀ (l : List S120) (x : S120), x ∈ l → (x.f1.length : Int) ≤ totEnt l
  | [], x, h => by cases h
  | y :: r, x, h => by
    have := totEnt_nonneg r
    have := totAlloc_nonneg y.f1
    rcases List.mem_cons.1 h with rfl | h
    · simp only [totEnt]; omega
    · have := tot_mem r x h
      simp only [totEnt]; omega
theorem toEntryS_loop : ∀ (r p : List S120), (p ++ r).length ≤ 1048576 → (∀ x, x ∈ r → x.f1.length ≤ 1048576) →
    Ev (fun k => laws_toEntryS.l0 k (p ++ r) (p.map cvEnt ++ List.replicate r.length z90) (p.length : Int)) ((p ++ r).map cvEnt)
  | [], p, _, _ => by
    refine LoopK.Ev.succ ?_
    simp only [List.append_nil, laws_toEntryS.l0, at_stop, if_false, List.length_nil, List.replicate_zero]
    exact Ev.now _
  | x :: r, p, hB, hx => by
    have ih := toEntryS_loop r (p ++ [x]) (by simpa using hB) (fun y hy => hx y (by simp [hy]))
    rw [← at_snoc, len_snoc] at ih
    have e0 : (p ++ [x]).map cvEnt ++ List.replicate r.length z90 = p.map cvEnt ++ cvEnt x :: List.replicate r.length z90 := by simp
    rw [e0] at ih
    refine LoopK.Ev.succ ?_
    have e1 := at_w p x r (by omega)
    have e2 := at_lt' p (p.map cvEnt) z90 (List.replicate r.length z90) (by simp)
    have e3 : (p.map cvEnt ++ z90 :: List.replicate r.length z90).set (p.length : Int).toNat (cvEnt x) = p.map cvEnt ++ cvEnt x :: List.replicate r.length z90 := at_set2 p (p.map cvEnt) z90 _ _ (by simp)
    rw [List.length_cons, List.replicate_succ]
    simp only [laws_toEntryS.l0, at_lt, at_nn, if_true, laws_toEntry.f, laws_toIdConfig.f, Option.bind_some, rd_T120, at_getD, Option.bind_assoc]
    refine LoopK.Ev.bind_ (toAllocS_ev x.f1 (hx x (by simp))) ?_
    simp only [cvEnt] at e2 e3 ih
    simp only [Option.bind_some, e2, if_true, e1, cvEnt, e3]
    exact ih
theorem toTable_ev (l : List S120) (h : l.length ≤ 1048576) (hx : ∀ x, x ∈ l → x.f1.length ≤ 1048576) : Ev (fun k => laws_toTable.f k l) (l.map cvEnt) := by
  have key := toEntryS_loop l [] (by simpa using h) hx
  unfold laws_toTable.f laws_toEntryS.f
  have c1 : 0 ≤ (l.length : Int) := by omega
  have c2 : (l.length : Int).toNat = l.length := by omega
  simp only [c1, if_true, c2]
  have c3 : l.length ≤ 3518437208883 := by omega
  simp only [c3, if_true]
  simp only [List.nil_append, List.map_nil, List.length_nil, Int.natCast_zero] at key
  exact LoopK.Ev.bind_ key (Ev.now _)
theorem toStringS_ev (l : List ByteArray) (h : l.length ≤ 1048576) : Ev (fun k => laws_toStringS.f k l) l := by
  have key := copyEv (fun k xs ys i => laws_toStringS.l0 k xs ys i) (fun x : ByteArray => x) (⟨#[]⟩ : ByteArray) 1048576
    (fun xs ys => by
      refine LoopK.Ev.succ ?_
      simp only [laws_toStringS.l0, at_stop, if_false]
      exact Ev.now _)
    (fun p x r q y s res hq hB hs ih => by
      refine LoopK.Ev.succ ?_
      have e1 := at_w p x r (by omega)
      have e2 := at_lt' p q y s hq
      have e3 : (q ++ y :: s).set (p.length : Int).toNat x = q ++ x :: s := at_set2 p q y _ s hq
      simp only [laws_toStringS.l0, at_lt, at_nn, if_true, rdS, e1, e2, e3]
      exact ih) l [] (by simpa using h)
  unfold laws_toStringS.f
  have c1 : 0 ≤ (l.length : Int) := by omega
  have c2 : (l.length : Int).toNat = l.length := by omega
  simp only [c1, if_true, c2]
  have c3 : l.length ≤ 17592186044416 := by omega
  simp only [c3, if_true]
  simpa using key
theorem toBalancer_ev (l : List S120) (u : List ByteArray) (a : Int) (b : Bool) (v : List ByteArray) (c d : Int) (h : l.length ≤ 1048576) (hx : ∀ x, x ∈ l → x.f1.length ≤ 1048576) (hu : u.length ≤ 1048576) (hv : v.length ≤ 1048576) :
    Ev (fun k => laws_toBalancer.f k l u a b v c d) (l.map cvEnt, u, a, b, v, c, d) := by
  unfold laws_toBalancer.f
  exact LoopK.Ev.bind_ (toTable_ev l h hx) (LoopK.Ev.bind_ (toStringS_ev u hu) (LoopK.Ev.bind_ (toStringS_ev v hv) (Ev.now _)))
/-! ### alike -/
theorem eqStringS_ev (l : List ByteArray) (h : l.length ≤ 4611686018427387904) : Ev (fun k => laws_eqStringS.f k l l) true := by
  have key := sameEv (fun k xs ys i => laws_eqStringS.l0 k xs ys i) 4611686018427387904
    (fun xs ys => by
      refine LoopK.Ev.succ ?_
      simp only [laws_eqStringS.l0, at_stop, if_false]
      exact Ev.now _)
    (fun p x r hB ih => by
      refine LoopK.Ev.succ ?_
      have e1 := at_w p x r hB
      simp only [laws_eqStringS.l0, at_lt, at_nn, if_true, rdS, e1]
      exact ih) l [] (by simpa using h)
  unfold laws_eqStringS.f
  simp only [if_true]
  simpa using key
theorem eqEntry_ev (x : S90) (h : x.f1.length ≤ 4611686018427387904) : Ev (fun k => laws_eqEntry.f k x.f0.f0 x.f0.f1 x.f0.f2 x.f0.f3 x.f0.f4 x.f1 x.f2 x.f0.f0 x.f0.f1 x.f0.f2 x.f0.f3 x.f0.f4 x.f1 x.f2) true := by
  unfold laws_eqEntry.f laws_eqIdConfig.f
  simp only [if_true, bne_self_eq_false, Bool.false_eq_true, if_false, Option.bind_some]
  refine LoopK.Ev.bind_ (eqAllocS_ev x.f1 h) ?_
  simp only [if_true]
  exact Ev.now _
theorem eqEntryS_loop : ∀ (r p : List S90), (p ++ r).length ≤ 4611686018427387904 → (∀ x, x ∈ r → x.f1.length ≤ 4611686018427387904) →
    Ev (fun k => laws_eqEntryS.l0 k (p ++ r) (p ++ r) (p.length : Int)) true
  | [], p, _, _ => by
    refine LoopK.Ev.succ ?_
    simp only [List.append_nil, laws_eqEntryS.l0, at_stop, if_false]
    exact Ev.now _
  | x :: r, p, hB, hx => by
    have ih := eqEntryS_loop r (p ++ [x]) (by simpa using hB) (fun y hy => hx y (by simp [hy]))
    rw [← at_snoc, len_snoc] at ih
    refine LoopK.Ev.succ ?_
    have e1 := at_w p x r hB
    simp only [laws_eqEntryS.l0, at_lt, at_nn, if_true, rd_T90, at_getD, e1]
    refine LoopK.Ev.bind_ (eqEntry_ev x (hx x (by simp))) ?_
    simp only [if_true]
    exact ih
theorem eqTable_ev (l : List S90) (h : l.length ≤ 4611686018427387904) (hx : ∀ x, x ∈ l → x.f1.length ≤ 4611686018427387904) : Ev (fun k => laws_eqTable.f k l l) true := by
  unfold laws_eqTable.f laws_eqEntryS.f
  simp only [if_true]
  have key := eqEntryS_loop l [] (by simpa using h) hx
  simp only [List.nil_append, List.length_nil, Int.natCast_zero] at key
  refine LoopK.Ev.bind_ key ?_
  simp only [if_true]
  exact Ev.now _
theorem eqBalancer_ev (l : List S90) (u : List ByteArray) (a : Int) (b : Bool) (v : List ByteArray) (c d : Int) (h : l.length ≤ 4611686018427387904) (hx : ∀ x, x ∈ l → x.f1.length ≤ 4611686018427387904) (hu : u.length ≤ 4611686018427387904) (hv : v.length ≤ 4611686018427387904) :
    Ev (fun k => laws_eqBalancer.f k l u a b v c d l u a b v c d) true := by
  unfold laws_eqBalancer.f
  refine LoopK.Ev.bind_ (eqTable_ev l h hx) ?_
  simp only [if_true]
  refine LoopK.Ev.bind_ (eqStringS_ev u hu) ?_
  simp only [if_true, bne_self_eq_false, Bool.false_eq_true, if_false]
  refine LoopK.Ev.bind_ (eqStringS_ev v hv) ?_
  simp only [if_true]
  exact Ev.now _
/-! ### a good one -/
def keysAll (v : List ByteArray) : Bool := v.all fun x => decide ((x.size : Int) = 16)
def balB (l : List S90) (u : List ByteArray) (a : Int) (b : Bool) (v : List ByteArray) (c d : Int) : Bool :=
  tableB l && (liveOk u && (decide (1 ≤ a ∧ a ≤ 20) && ((if b = true then decide (1 ≤ (v.length : Int) ∧ (v.length : Int) ≤ 2) && keysAll v else decide ((v.length : Int) = 0)) && (decide (0 ≤ c ∧ c ≤ 1000000) && decide (1 ≤ d ∧ d ≤ 4294967295)))))
theorem specKeys_loop (l : List S90) (u : List ByteArray) (a : Int) (b : Bool) (v : List ByteArray) (c d : Int) : ∀ (r p : List ByteArray), (p ++ r).length ≤ 4611686018427387904 →
    Ev (fun k => spec_GoodBalancer.l0 k (p ++ r) ((p ++ r).length : Int) (p.length : Int) l u a b v c d) (keysAll r && (if b = true then decide (1 ≤ (v.length : Int) ∧ (v.length : Int) ≤ 2) else !(decide (1 ≤ (v.length : Int) ∧ (v.length : Int) ≤ 2)) && decide ((v.length : Int) = 0)))
  | [], p, _ => by
    refine LoopK.Ev.succ ?_
    simp only [List.append_nil, spec_GoodBalancer.l0, at_stop, if_false, l1In_eq, Option.bind_some, keysAll, List.all_nil, Bool.true_and]
    cases b with
    | true =>
      cases h : decide (1 ≤ (v.length : Int) ∧ (v.length : Int) ≤ 2) with
      | true => exact Ev.now _
      | false => exact Ev.now _
    | false =>
      cases h : decide (1 ≤ (v.length : Int) ∧ (v.length : Int) ≤ 2) with
      | true => exact Ev.now _
      | false => exact Ev.now _
  | x :: r, p, hB => by
    have ih := specKeys_loop l u a b v c d r (p ++ [x]) (by simpa using hB)
    rw [← at_snoc, len_snoc] at ih
    refine LoopK.Ev.succ ?_
    have e1 := at_w p x r hB
    simp only [spec_GoodBalancer.l0, at_lt, at_nn, if_true, rdS, e1, keysAll, List.all_cons]
    by_cases h : (x.size : Int) = 16
    · simp only [h, if_true, decide_true, Bool.true_and]
      exact ih
    · simp only [h, if_false, decide_false, Bool.false_and]
      exact Ev.now _
theorem specBalancer_ev (l : List S90) (u : List ByteArray) (a : Int) (b : Bool) (v : List ByteArray) (c d : Int) (h : l.length ≤ 1048576) (hx : ∀ x, x ∈ l → EntSz x) (hu : u.length ≤ 1048576) (hux : ∀ x, x ∈ u → x.size ≤ 140737488351232) (hv : v.length ≤ 1048576) :
    Ev (fun k => spec_GoodBalancer.f k l u a b v c d) (balB l u a b v c d) := by
  unfold spec_GoodBalancer.f balB
  refine LoopK.Ev.bind_ (specTable_ev l h hx) ?_
  have stopj : Ev (fun k => spec_GoodBalancer.j0 k true l u a b v c d) false := by
    refine LoopK.Ev.succ ?_
    simp only [spec_GoodBalancer.j0, if_true]
    exact Ev.now _
  cases tableB l with
  | false =>
    simp only [Bool.false_eq_true, if_false, Bool.false_and]
    exact stopj
  | true =>
    simp only [if_true, Bool.true_and]
    refine LoopK.Ev.bind_ (specLive_ev u (by omega) hux) ?_
    cases liveOk u with
    | false =>
      simp only [Bool.false_eq_true, if_false, Bool.false_and]
      exact stopj
    | true =>
      simp only [if_true, Bool.true_and, l1In_eq, Option.bind_some]
      cases decide (1 ≤ a ∧ a ≤ 20) with
      | false =>
        simp only [Bool.false_eq_true, if_false, Bool.false_and]
        exact stopj
      | true =>
        simp only [if_true, Bool.true_and]
        cases decide (0 ≤ c ∧ c ≤ 1000000) with
        | false =>
          simp only [Bool.false_eq_true, if_false, Bool.false_and, Bool.and_false]
          exact stopj
        | true =>
          simp only [if_true, Bool.true_and]
          cases decide (1 ≤ d ∧ d ≤ 4294967295) with
          | false =>
            simp only [Bool.not_false, Bool.and_false]
            exact stopj
          | true =>
            simp only [Bool.not_true, Bool.and_true]
            refine LoopK.Ev.succ ?_
            simp only [spec_GoodBalancer.j0, Bool.false_eq_true, if_false]
            have key := specKeys_loop l u a b v c d v [] (by simp; omega)
            simp only [List.nil_append, List.length_nil, Int.natCast_zero] at key
            refine LoopK.Ev.to key ?_
            cases b with
            | true => simp only [if_true]; exact Bool.and_comm _ _
            | false =>
              simp only [Bool.false_eq_true, if_false]
              by_cases h0 : (v.length : Int) = 0
              · have hv0 : v = [] := List.length_eq_zero_iff.mp (by omega)
                subst hv0
                rfl
              · rw [decide_eq_false h0, Bool.and_false, Bool.and_false]
theorem tokenKeys_eq (v : List ByteArray) : impl_tokenKeysOk.f v = some (decide (1 ≤ (v.length : Int) ∧ (v.length : Int) ≤ 2) && keysAll v) := by
  unfold impl_tokenKeysOk.f
  rw [in_eq, Option.bind_some]
  have hp : ∀ x : ByteArray, slices_ContainsFunc_string_string_67.p x = some (!decide ((x.size : Int) = 16)) := fun x => by
    show some (!((x.size : Int) == 16)) = _
    rfl
  have hc : slices_ContainsFunc_string_string_67.f v = some (!keysAll v) := by
    unfold slices_ContainsFunc_string_string_67.f
    rw [if_pos (List.all_eq_true.2 (fun x _ => by rw [hp x]; rfl))]
    congr 1
    unfold keysAll
    rw [List.not_all_eq_any_not]
    simp only [hp, Option.getD_some]
  cases decide (1 ≤ (v.length : Int) ∧ (v.length : Int) ≤ 2) with
  | false => rfl
  | true =>
    rw [if_pos rfl, hc, Option.bind_some, Bool.not_not, Bool.true_and]
theorem implBalancer_ev (l : List S90) (u : List ByteArray) (a : Int) (b : Bool) (v : List ByteArray) (c d : Int) (h : l.length ≤ 1048576) (hx : ∀ x, x ∈ l → EntSz x) (hu : u.length ≤ 1048576) :
    Ev (fun k => impl_GoodBalancer.f k l u a b v c d) (balB l u a b v c d) := by
  have main : ∀ q : Bool, Ev (fun k => impl_GoodBalancer.j0 k q l u a b v c d) (tableB l && (liveOk u && (decide (1 ≤ a ∧ a ≤ 20) && (q && (decide (0 ≤ c ∧ c ≤ 1000000) && decide (1 ≤ d ∧ d ≤ 4294967295)))))) := fun q => by
    refine LoopK.Ev.succ ?_
    simp only [impl_GoodBalancer.j0, implTable_eq l h hx, Option.bind_some]
    cases tableB l with
    | false =>
      simp only [Bool.false_eq_true, if_false, Bool.false_and]
      exact Ev.now _
    | true =>
      simp only [if_true, Bool.true_and]
      refine LoopK.Ev.bind_ (implLive_ev u (by omega)) ?_
      cases liveOk u with
      | false =>
        simp only [Bool.false_eq_true, if_false, Bool.false_and]
        exact Ev.now _
      | true =>
        simp only [if_true, Bool.true_and, in_eq, Option.bind_some, impl_isVersion.f]
        cases decide (1 ≤ a ∧ a ≤ 20) with
        | false =>
          simp only [Bool.false_eq_true, if_false, Bool.false_and]
          exact Ev.now _
        | true =>
          simp only [if_true, Bool.true_and]
          cases q with
          | false =>
            simp only [Bool.false_eq_true, if_false, Bool.false_and]
            exact Ev.now _
          | true =>
            simp only [if_true, Bool.true_and]
            cases decide (0 ≤ c ∧ c ≤ 1000000) with
            | false =>
              simp only [Bool.false_eq_true, if_false, Bool.false_and]
              exact Ev.now _
            | true =>
              simp only [if_true, Bool.true_and]
              exact Ev.now _
  unfold impl_GoodBalancer.f balB
  cases b with
  | true =>
    simp only [if_true, tokenKeys_eq, Option.bind_some]
    exact main _
  | false =>
    simp only [Bool.false_eq_true, if_false]
    exact main _

theorem FnExactGoodBalancer : SFnExactGoodBalancer.Pure := by
  intro l u a b v c d hl hu _ hv _ _
  refine Ev.rounds ?_
  unfold laws_FnExactGoodBalancer.f
  have hx : ∀ x, x ∈ l → EOk x := fun x h => ⟨(hl.2.2 x h).1.2.2.2.1, by have := (hl.2.2 x h).2.1.1; omega, fun y hy => (hl.2.2 x h).2.1.2.2 y hy⟩
  obtain ⟨r, hr, hr1⟩ := szBalancer_ev l u a b v c d (by have := hl.1; omega) hx (by have := hu.1; omega) hu.2.2 (by have := hv.1; omega) hv.2.2
  refine LoopK.Ev.bind_ hr ?_
  by_cases h0 : r < 0
  · simp only [h0, if_true]
    exact Ev.now _
  · simp only [h0, if_false]
    obtain ⟨b1, b2, b3, b4⟩ := hr1 (by omega)
    have hs1 : ∀ x, x ∈ l → x.f1.length ≤ 1048576 := fun x h => by have := tot_mem l x h; omega
    have hto := toBalancer_ev l u a b v c d b1 hs1 b3 b4
    have hm : (l.map cvEnt).length ≤ 1048576 := by rw [List.length_map]; exact b1
    have hE : ∀ x, x ∈ l.map cvEnt → EntSz x := fun x h => by
      obtain ⟨y, hy, rfl⟩ := List.mem_map.1 h
      refine ⟨by show (y.f1.map cvAlloc).length ≤ _; rw [List.length_map]; exact hs1 y hy, fun z hz => ?_⟩
      obtain ⟨q, hq, rfl⟩ := List.mem_map.1 (show z ∈ y.f1.map cvAlloc from hz)
      exact ((hx y hy).2.2 q hq).2
    refine LoopK.Ev.bind_ hto ?_
    refine LoopK.Ev.bind_ (specBalancer_ev _ _ _ _ _ _ _ hm hE b3 hu.2.2 b4) ?_
    refine LoopK.Ev.bind_ hto ?_
    refine LoopK.Ev.bind_ (implBalancer_ev _ _ _ _ _ _ _ hm hE b3) ?_
    simp only [bne_self_eq_false, Bool.false_eq_true, if_false]
    refine LoopK.Ev.bind_ hto ?_
    refine LoopK.Ev.bind_ (eqBalancer_ev _ _ _ _ _ _ _ (by omega) (fun x h => by have := (hE x h).1; omega) (by omega) (by omega)) ?_
    simp only [if_true]
    exact Ev.now _

end Go.Proofs.YtilkginahmfagaaDoor.Pure
