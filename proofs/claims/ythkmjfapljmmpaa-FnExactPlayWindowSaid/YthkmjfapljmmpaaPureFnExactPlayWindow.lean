/- The pure statement of the law FnExactPlayWindow: the program's function and the reference answer alike. -/
import Derived.Test.YthkmjfapljmmpaaSFnExactPlayWindow
import Derived.Test.YthkmjfapljmmpaaLoopK
namespace Go.Proofs.Ythkmjfapljmmpaa.Pure
open Go.RowKit Go.Proofs.Ythkmjfapljmmpaa.PFnExactPlayWindow Go.Proofs.YthkmjfapljmmpaaW.PrintWords Go.Proofs.YthkmjfapljmmpaaW.PrintLast Go.Proofs.Ythkmjfapljmmpaa.SFnExactPlayWindow
set_option linter.unusedVariables false
set_option linter.unusedSimpArgs false

open Go.Proofs.Ythkmjfapljmmpaa.LoopK (copyEv sameEv markEv heldEv foldEv mk mk_length at_lt at_lt' at_nn at_nlt at_stop at_getD at_set at_set2 at_snoc len_snoc at_w w64 firstEv find_any chk last_or at_prev at_prev_lt at_prev_nn at_prev_pos at_prev_w pairEv)

/-- The copy of an element. -/
def cvGrow (x : S194) : S190 := ⟨x.f0, x.f1, x.f2, x.f3⟩

theorem toGrowS_ev (l : List S194) (h : l.length ≤ 1048576) : Ev (fun k => laws_toGrowS.f k l) (l.map cvGrow) := by
  have key := copyEv (fun k xs ys i => laws_toGrowS.l0 k xs ys i) cvGrow z190 1048576
    (fun xs ys => by
      refine LoopK.Ev.succ ?_
      simp only [laws_toGrowS.l0, at_stop, if_false]
      exact Ev.now _)
    (fun p x r q y s res hq hB hs ih => by
      refine LoopK.Ev.succ ?_
      have e1 := at_w p x r (by omega)
      have e2 := at_lt' p q y s hq
      have e3 : (q ++ y :: s).set (p.length : Int).toNat (cvGrow x) = q ++ cvGrow x :: s := at_set2 p q y _ s hq
      simp only [cvGrow] at e3 ih
      simp only [laws_toGrowS.l0, at_lt, at_nn, if_true, laws_toGrow.f, Option.bind_some, rd_T194, at_getD, e1, e2, e3]
      exact ih) l [] (by simpa using h)
  unfold laws_toGrowS.f
  have c1 : 0 ≤ (l.length : Int) := by omega
  have c2 : (l.length : Int).toNat = l.length := by omega
  simp only [c1, if_true, c2]
  have c3 : l.length ≤ 8796093022208 := by omega
  simp only [c3, if_true]
  simpa using key

theorem eqGrow_self (x : S190) : laws_eqGrow.f x.f0 x.f1 x.f2 x.f3 x.f0 x.f1 x.f2 x.f3 = some true := by
  unfold laws_eqGrow.f
  simp
theorem eqGrowS_ev (l : List S190) (h : l.length ≤ 4611686018427387904) : Ev (fun k => laws_eqGrowS.f k l l) true := by
  have key := sameEv (fun k xs ys i => laws_eqGrowS.l0 k xs ys i) 4611686018427387904
    (fun xs ys => by
      refine LoopK.Ev.succ ?_
      simp only [laws_eqGrowS.l0, at_stop, if_false]
      exact Ev.now _)
    (fun p x r hB ih => by
      refine LoopK.Ev.succ ?_
      have e1 := at_w p x r hB
      simp only [laws_eqGrowS.l0, at_lt, at_nn, if_true, eqGrow_self, Option.bind_some, rd_T190, at_getD, e1]
      exact ih) l [] (by simpa using h)
  unfold laws_eqGrowS.f
  simp only [if_true]
  simpa using key

theorem szGrowS_some (l : List S194) (a : Int) (ha : 0 ≤ a ∧ a ≤ 1048576) (h : l.length ≤ 140737488351232) : ∃ r, laws_szGrowS.f l a = some r ∧ -1 ≤ r ∧ (0 ≤ r → r = a - l.length) := by
  unfold laws_szGrowS.f
  have e : wrap64 (a - (l.length : Int)) = a - (l.length : Int) := w64 _ (by omega)
  rw [e]
  split
  · exact ⟨_, rfl, by omega, fun h => by omega⟩
  · exact ⟨_, rfl, by omega, fun h => rfl⟩


/-- An element's marks. -/
noncomputable def markGrow (_ : S190) (a : Int) : S190 := ⟨a, a + 1, a + 2, a + 3⟩
theorem markGrowS_ev (l : List S190) (a : Int) (ha : 0 ≤ a) (hl : (l.length : Int) ≤ 1000000000000) (hb : a ≤ 1000000000000) : Ev (fun k => laws_markGrowS.f k l a) (a + 4 * (l.length : Int), mk markGrow 4 l a) := by
  have key := markEv (fun k xs a i => laws_markGrowS.l0 k xs a i) markGrow 4 (by omega) 4611686018427387904
    (fun xs a => by
      refine LoopK.Ev.succ ?_
      simp only [laws_markGrowS.l0, at_stop, if_false]
      exact Ev.now _)
    (fun p x r a res hB h0 h1 ih => by
      refine LoopK.Ev.succ ?_
      have e1 := at_w p x r hB
      have w0 : wrap64 (a + 1) = a + 1 := by rw [show a + 1 = a + 1 from by omega]; exact w64 _ (by omega)
      have w1 : wrap64 (a + 1 + 1) = a + 2 := by rw [show a + 1 + 1 = a + 2 from by omega]; exact w64 _ (by omega)
      have w2 : wrap64 (a + 2 + 1) = a + 3 := by rw [show a + 2 + 1 = a + 3 from by omega]; exact w64 _ (by omega)
      have w3 : wrap64 (a + 3 + 1) = a + 4 := by rw [show a + 3 + 1 = a + 4 from by omega]; exact w64 _ (by omega)
      simp only [laws_markGrowS.l0, at_lt, at_nn, if_true, Option.bind_some, rd_T190, at_getD, at_set, e1, w0, w1, w2, w3]

      exact ih) l [] a (by simp; omega) ha (by omega)
  unfold laws_markGrowS.f
  simpa using key

theorem eqIntS_ev (l : List Int) (h : l.length ≤ 4611686018427387904) : Ev (fun k => laws_eqIntS.f k l l) true := by
  have key := sameEv (fun k xs ys i => laws_eqIntS.l0 k xs ys i) 4611686018427387904
    (fun xs ys => by
      refine LoopK.Ev.succ ?_
      simp only [laws_eqIntS.l0, at_stop, if_false]
      exact Ev.now _)
    (fun p x r hB ih => by
      refine LoopK.Ev.succ ?_
      have e1 := at_w p x r hB
      simp only [laws_eqIntS.l0, at_lt, at_nn, if_true, e1]
      exact ih) l [] (by simpa using h)
  unfold laws_eqIntS.f
  simp only [if_true]
  simpa using key
/-- A number's mark. -/
noncomputable def markInt (_ : Int) (a : Int) : Int := a
theorem markIntS_ev (l : List Int) (a : Int) (ha : 0 ≤ a) (hl : (l.length : Int) ≤ 1000000000000) (hb : a ≤ 1000000000000) : Ev (fun k => laws_markIntS.f k l a) (a + 1 * (l.length : Int), mk markInt 1 l a) := by
  have key := markEv (fun k xs a i => laws_markIntS.l0 k xs a i) markInt 1 (by omega) 4611686018427387904
    (fun xs a => by
      refine LoopK.Ev.succ ?_
      simp only [laws_markIntS.l0, at_stop, if_false]
      exact Ev.now _)
    (fun p x r a res hB h0 h1 ih => by
      refine LoopK.Ev.succ ?_
      have e1 := at_w p x r hB
      have w0 : wrap64 (a + 1) = a + 1 := w64 _ (by omega)
      have v0 : markInt x a = a := rfl
      rw [v0] at ih
      simp only [laws_markIntS.l0, at_lt, at_nn, if_true, at_set, e1, w0]
      exact ih) l [] a (by simp; omega) ha (by omega)
  unfold laws_markIntS.f
  simpa using key
theorem heldIntS_ev (l : List Int) (a : Int) (ha : 0 ≤ a) (hl : (l.length : Int) ≤ 1000000000000) (hb : a ≤ 1000000000000) : Ev (fun k => laws_heldIntS.f k (mk markInt 1 l a) a) (a + 1 * (l.length : Int)) := by
  have key := heldEv (fun k xs a i => laws_heldIntS.l0 k xs a i) markInt 1 (by omega) 4611686018427387904
    (fun xs a => by
      refine LoopK.Ev.succ ?_
      simp only [laws_heldIntS.l0, at_stop, if_false]
      exact Ev.now _)
    (fun p x r a res hB h0 h1 ih => by
      refine LoopK.Ev.succ ?_
      have e1 := at_w p (markInt x a) r hB
      have w0 : wrap64 (a + 1) = a + 1 := w64 _ (by omega)
      have v0 : markInt x a = a := rfl
      simp only [laws_heldIntS.l0, at_lt, at_nn, if_true, rd, at_getD, e1, w0, v0]
      simpa [v0] using ih) l [] a (by simp; omega) ha (by omega)
  unfold laws_heldIntS.f
  simpa using key

theorem l1In_eq (a b c : Int) : spec_l1In.f a b c = some (decide (b ≤ a ∧ a ≤ c)) := by
  unfold spec_l1In.f
  by_cases h : b ≤ a
  · rw [if_pos h]; simp [h]
  · rw [if_neg h]; simp [h]
theorem in_eq (a b c : Int) : impl_in.f a b c = some (decide (b ≤ a ∧ a ≤ c)) := l1In_eq a b c
theorem and_ite (p q : Prop) [Decidable p] [Decidable q] : (if p then some (decide q) else some false) = some (decide (p ∧ q)) := by
  by_cases h : p <;> simp [h]

theorem goodWindow_eq (a b c d : Int) : spec_GoodWindow.f a b c d = some (decide ((2400 ≤ a ∧ a ≤ 100000000) ∧ (2400 ≤ b ∧ b ≤ 100000000) ∧ (-1 ≤ c ∧ c ≤ 1000000000) ∧ (0 ≤ d ∧ d ≤ 100000000))) := by
  unfold spec_GoodWindow.f
  simp only [l1In_eq, Option.bind_some, decide_eq_true_eq, and_ite]
theorem goodWindow_ie (a b c d : Int) : impl_GoodWindow.f a b c d = some (decide ((2400 ≤ a ∧ a ≤ 100000000) ∧ (2400 ≤ b ∧ b ≤ 100000000) ∧ (-1 ≤ c ∧ c ≤ 1000000000) ∧ (0 ≤ d ∧ d ≤ 100000000))) := goodWindow_eq a b c d

/-- Is a window right? -/
def GW (a b c d : Int) : Prop := (2400 ≤ a ∧ a ≤ 100000000) ∧ (2400 ≤ b ∧ b ≤ 100000000) ∧ (-1 ≤ c ∧ c ≤ 1000000000) ∧ (0 ≤ d ∧ d ≤ 100000000)
instance (a b c d : Int) : Decidable (GW a b c d) := by unfold GW; infer_instance
theorem gw_spec (a b c d : Int) : spec_GoodWindow.f a b c d = some (decide (GW a b c d)) := goodWindow_eq a b c d
theorem gw_impl (a b c d : Int) : impl_GoodWindow.f a b c d = some (decide (GW a b c d)) := goodWindow_ie a b c d
theorem l13Size_eq (a : Int) : spec_l13Size.f a = some (decide (0 ≤ a ∧ a ≤ 1500)) := by
  unfold spec_l13Size.f
  simp only [l1In_eq, Option.bind_some]
theorem sizeOk_eq (a : Int) : impl_sizeOk.f a = some (decide (0 ≤ a ∧ a ≤ 1500)) := by
  unfold impl_sizeOk.f
  simp only [in_eq, Option.bind_some]
theorem wtick_eq (a : Int) : spec_l12Tick.f a = some (decide (0 ≤ a ∧ a ≤ 1000000000)) := by
  unfold spec_l12Tick.f
  simp only [l1In_eq, Option.bind_some]
theorem wisTick_eq (a : Int) : impl_isTick.f a = some (decide (0 ≤ a ∧ a ≤ 1000000000)) := by
  unfold impl_isTick.f
  simp only [in_eq, Option.bind_some]

/-- What a loss makes of a window. -/
def lostW (a b c d n t w : Int) : Int × Int × Int × Int × Bool :=
  if GW a b c d ∧ (0 ≤ n ∧ n ≤ 1500) ∧ (0 ≤ t ∧ t ≤ 1000000000) ∧ (0 ≤ w ∧ w ≤ 1000000000) ∧ ¬ (d < n) then
    (if t > c then (if wrap64 (Int.tdiv a 2) < 2400 then (2400, 2400, w, wrap64 (d - n), true) else (wrap64 (Int.tdiv a 2), wrap64 (Int.tdiv a 2), w, wrap64 (d - n), true)) else (a, b, c, wrap64 (d - n), true))
  else (0, 0, 0, 0, false)
theorem specLost_ev (a b c d n t w : Int) : Ev (fun k => spec_LostBytes.f k a b c d n t w) (lostW a b c d n t w) := by
  unfold spec_LostBytes.f lostW
  simp only [gw_spec, l13Size_eq, wtick_eq, Option.bind_some, decide_eq_true_eq]
  by_cases h1 : GW a b c d <;> by_cases h2 : 0 ≤ n ∧ n ≤ 1500 <;> by_cases h3 : 0 ≤ t ∧ t ≤ 1000000000 <;> by_cases h4 : 0 ≤ w ∧ w ≤ 1000000000 <;> by_cases h5 : d < n <;>
    simp only [h1, h2, h3, h4, h5, if_true, if_false, and_true, and_false, false_and, not_true_eq_false, not_false_eq_true, decide_true, decide_false, and_self] <;>
    refine LoopK.Ev.succ ?_ <;> simp only [spec_LostBytes.j0, if_true, if_false, Bool.false_eq_true]
  any_goals exact Ev.now _
  by_cases h6 : t > c
  · simp only [h6, if_true]
    by_cases h7 : wrap64 (Int.tdiv a 2) < 2400
    · simp only [h7, if_true]
      exact Ev.now _
    · simp only [h7, if_false]
      exact Ev.now _
  · simp only [h6, if_false]
    exact Ev.now _
theorem implLost_ev (a b c d n t w : Int) : Ev (fun k => impl_LostBytes.f k a b c d n t w) (lostW a b c d n t w) := by
  unfold impl_LostBytes.f lostW
  simp only [gw_impl, sizeOk_eq, wisTick_eq, Option.bind_some, decide_eq_true_eq]
  by_cases h1 : GW a b c d <;> by_cases h2 : 0 ≤ n ∧ n ≤ 1500 <;> by_cases h3 : 0 ≤ t ∧ t ≤ 1000000000 <;> by_cases h4 : 0 ≤ w ∧ w ≤ 1000000000 <;> by_cases h5 : d < n <;>
    simp only [h1, h2, h3, h4, h5, if_true, if_false, and_true, and_false, false_and, not_true_eq_false, not_false_eq_true, decide_true, decide_false, and_self] <;>
    refine LoopK.Ev.succ ?_ <;> simp only [impl_LostBytes.j0, if_true, if_false, Bool.false_eq_true]
  any_goals exact Ev.now _
  by_cases h6 : t > c
  · simp only [h6, if_true]
    by_cases h7 : wrap64 (Int.tdiv a 2) < 2400
    · simp only [mx, h7, if_true]
      exact Ev.now _
    · simp only [mx, h7, if_false]
      exact Ev.now _
  · simp only [h6, if_false]
    exact Ev.now _

/-- What an acknowledgement makes of a window. -/
def ackedW (a b c d n t : Int) : Int × Int × Int × Int × Bool :=
  if GW a b c d ∧ (0 ≤ n ∧ n ≤ 1500) ∧ (0 ≤ t ∧ t ≤ 1000000000) ∧ ¬ (d < n) then
    (if t > c then
      (if a < b then (if wrap64 (a + n) > 100000000 then (100000000, b, c, wrap64 (d - n), true) else (wrap64 (a + n), b, c, wrap64 (d - n), true))
       else (if wrap64 (a + wrap64 (Int.tdiv (wrap64 (1200 * n)) a)) > 100000000 then (100000000, b, c, wrap64 (d - n), true) else (wrap64 (a + wrap64 (Int.tdiv (wrap64 (1200 * n)) a)), b, c, wrap64 (d - n), true)))
     else (a, b, c, wrap64 (d - n), true))
  else (0, 0, 0, 0, false)
theorem specAcked_ev (a b c d n t : Int) : Ev (fun k => spec_AckedBytes.f k a b c d n t) (ackedW a b c d n t) := by
  unfold spec_AckedBytes.f ackedW
  simp only [gw_spec, l13Size_eq, wtick_eq, Option.bind_some, decide_eq_true_eq]
  by_cases h1 : GW a b c d <;> by_cases h2 : 0 ≤ n ∧ n ≤ 1500 <;> by_cases h3 : 0 ≤ t ∧ t ≤ 1000000000 <;> by_cases h5 : d < n <;>
    simp only [h1, h2, h3, h5, if_true, if_false, and_true, and_false, false_and, not_true_eq_false, not_false_eq_true, decide_true, decide_false, and_self] <;>
    refine LoopK.Ev.succ ?_ <;> simp only [spec_AckedBytes.j0, if_true, if_false, Bool.false_eq_true]
  any_goals exact Ev.now _
  have h0 : ¬ (a = 0) := by have := h1.1; omega
  by_cases h6 : t > c
  · by_cases h7 : a < b
    · by_cases h8 : wrap64 (a + n) > 100000000
      · simp only [h6, h7, h8, if_true]
        exact Ev.now _
      · simp only [h6, h7, h8, if_true, if_false]
        exact Ev.now _
    · by_cases h8 : wrap64 (a + wrap64 (Int.tdiv (wrap64 (1200 * n)) a)) > 100000000
      · simp only [h6, h7, h8, h0, if_true, if_false]
        exact Ev.now _
      · simp only [h6, h7, h8, h0, if_true, if_false]
        exact Ev.now _
  · simp only [h6, if_false]
    exact Ev.now _
theorem implAcked_ev (a b c d n t : Int) : Ev (fun k => impl_AckedBytes.f k a b c d n t) (ackedW a b c d n t) := by
  unfold impl_AckedBytes.f ackedW
  simp only [gw_impl, sizeOk_eq, wisTick_eq, Option.bind_some, decide_eq_true_eq]
  by_cases h1 : GW a b c d <;> by_cases h2 : 0 ≤ n ∧ n ≤ 1500 <;> by_cases h3 : 0 ≤ t ∧ t ≤ 1000000000 <;> by_cases h5 : d < n <;>
    simp only [h1, h2, h3, h5, if_true, if_false, and_true, and_false, false_and, not_true_eq_false, not_false_eq_true, decide_true, decide_false, and_self] <;>
    refine LoopK.Ev.succ ?_ <;> simp only [impl_AckedBytes.j0, if_true, if_false, Bool.false_eq_true]
  any_goals exact Ev.now _
  have h0 : ¬ (a = 0) := by have := h1.1; omega
  by_cases h6 : t > c
  · by_cases h7 : a < b
    · have h7' : ¬ (a ≥ b) := by omega
      by_cases h8 : wrap64 (a + n) > 100000000
      · have h8' : 100000000 < wrap64 (a + n) := h8
        simp only [h6, h7, h7', h8, mn, h8', if_true, if_false]
        exact Ev.now _
      · have h8' : ¬ (100000000 < wrap64 (a + n)) := h8
        simp only [h6, h7, h7', h8, mn, h8', if_true, if_false]
        exact Ev.now _
    · have h7' : a ≥ b := by omega
      by_cases h8 : wrap64 (a + wrap64 (Int.tdiv (wrap64 (1200 * n)) a)) > 100000000
      · have h8' : 100000000 < wrap64 (a + wrap64 (Int.tdiv (wrap64 (1200 * n)) a)) := h8
        simp only [h6, h7, h7', h8, h0, mn, h8', if_true, if_false]
        exact Ev.now _
      · have h8' : ¬ (100000000 < wrap64 (a + wrap64 (Int.tdiv (wrap64 (1200 * n)) a))) := h8
        simp only [h6, h7, h7', h8, h0, mn, h8', if_true, if_false]
        exact Ev.now _
  · simp only [h6, if_false]
    exact Ev.now _

/-- What a sending makes of a window. -/
def sentW (a b c d n : Int) : Int × Int × Int × Int × Bool :=
  if GW a b c d ∧ (0 ≤ n ∧ n ≤ 1500) ∧ ¬ (wrap64 (d + n) > a) then (a, b, c, wrap64 (d + n), true) else (0, 0, 0, 0, false)
theorem specSent_eq (a b c d n : Int) : spec_SentBytes.f a b c d n = some (sentW a b c d n) := by
  unfold spec_SentBytes.f sentW
  simp only [gw_spec, l13Size_eq, Option.bind_some, decide_eq_true_eq]
  by_cases h1 : GW a b c d <;> by_cases h2 : 0 ≤ n ∧ n ≤ 1500 <;> by_cases h3 : wrap64 (d + n) > a <;>
    simp only [h1, h2, h3, if_true, if_false, and_true, and_false, false_and, not_true_eq_false, not_false_eq_true, and_self]
theorem implSent_eq (a b c d n : Int) : impl_SentBytes.f a b c d n = some (sentW a b c d n) := specSent_eq a b c d n
/-- What a stall makes of a window. -/
def stalledW (a b c d : Int) : Int × Int × Int × Int × Bool := if GW a b c d then (2400, b, -1, d, true) else (0, 0, 0, 0, false)
theorem specStalled_eq (a b c d : Int) : spec_StalledWindow.f a b c d = some (stalledW a b c d) := by
  unfold spec_StalledWindow.f stalledW
  simp only [gw_spec, Option.bind_some, decide_eq_true_eq]
  by_cases h1 : GW a b c d <;> simp only [h1, if_true, if_false]
theorem implStalled_eq (a b c d : Int) : impl_StalledWindow.f a b c d = some (stalledW a b c d) := specStalled_eq a b c d
/-- One event of a window. The last is what an event of no kind answers. -/
def growW (a b c d k n t w : Int) (o : Bool) : Int × Int × Int × Int × Bool :=
  if k = 1 then sentW a b c d n else if k = 2 then ackedW a b c d n t else if k = 3 then lostW a b c d n t w else if k = 4 then stalledW a b c d else (a, b, c, d, o)
theorem specGrow_ev (a b c d k n t w : Int) : Ev (fun g => spec_l13Grow.f g a b c d k n t w) (growW a b c d k n t w false) := by
  unfold spec_l13Grow.f growW
  by_cases h1 : k = 1
  · simp only [h1, if_true, specSent_eq, Option.bind_some]
    exact Ev.now _
  · by_cases h2 : k = 2
    · simp only [h1, h2, if_true, if_false, show ¬ ((2 : Int) = 1) by omega]
      exact LoopK.Ev.bind_ (specAcked_ev a b c d n t) (Ev.now _)
    · by_cases h3 : k = 3
      · simp only [h3, if_true, if_false, show ¬ ((3 : Int) = 1) by omega, show ¬ ((3 : Int) = 2) by omega]
        exact LoopK.Ev.bind_ (specLost_ev a b c d n t w) (Ev.now _)
      · by_cases h4 : k = 4
        · simp only [h4, if_true, if_false, show ¬ ((4 : Int) = 1) by omega, show ¬ ((4 : Int) = 2) by omega, show ¬ ((4 : Int) = 3) by omega, specStalled_eq, Option.bind_some]
          exact Ev.now _
        · simp only [h1, h2, h3, h4, if_false]
          exact Ev.now _
theorem implGrow_ev (a b c d k n t w : Int) : Ev (fun g => impl_Grow_grow.f g k n t w a b c d) (growW a b c d k n t w true) := by
  unfold impl_Grow_grow.f growW
  by_cases h1 : k = 1
  · simp only [h1, if_true, implSent_eq, Option.bind_some]
    exact Ev.now _
  · by_cases h2 : k = 2
    · simp only [h1, h2, if_true, if_false, show ¬ ((2 : Int) = 1) by omega]
      exact LoopK.Ev.bind_ (implAcked_ev a b c d n t) (Ev.now _)
    · by_cases h3 : k = 3
      · simp only [h3, if_true, if_false, show ¬ ((3 : Int) = 1) by omega, show ¬ ((3 : Int) = 2) by omega]
        exact LoopK.Ev.bind_ (implLost_ev a b c d n t w) (Ev.now _)
      · by_cases h4 : k = 4
        · simp only [h4, if_true, if_false, show ¬ ((4 : Int) = 1) by omega, show ¬ ((4 : Int) = 2) by omega, show ¬ ((4 : Int) = 3) by omega, implStalled_eq, Option.bind_some]
          exact Ev.now _
        · simp only [h1, h2, h3, h4, if_false]
          exact Ev.now _
/-- The window after an event. -/
def nextW (a b c d k n t w : Int) : Int × Int × Int × Int :=
  if (growW a b c d k n t w false).2.2.2.2 = true then ((growW a b c d k n t w false).1, (growW a b c d k n t w false).2.1, (growW a b c d k n t w false).2.2.1, (growW a b c d k n t w false).2.2.2.1) else (a, b, c, d)
theorem nextW_true (a b c d k n t w : Int) : nextW a b c d k n t w = if (growW a b c d k n t w true).2.2.2.2 = true then ((growW a b c d k n t w true).1, (growW a b c d k n t w true).2.1, (growW a b c d k n t w true).2.2.1, (growW a b c d k n t w true).2.2.2.1) else (a, b, c, d) := by
  unfold nextW growW
  by_cases h1 : k = 1
  · simp only [h1, if_true]
  · by_cases h2 : k = 2
    · simp only [h1, h2, if_true, if_false, show ¬ ((2 : Int) = 1) by omega]
    · by_cases h3 : k = 3
      · simp only [h3, if_true, if_false, show ¬ ((3 : Int) = 1) by omega, show ¬ ((3 : Int) = 2) by omega]
      · by_cases h4 : k = 4
        · simp only [h4, if_true, if_false, show ¬ ((4 : Int) = 1) by omega, show ¬ ((4 : Int) = 2) by omega, show ¬ ((4 : Int) = 3) by omega]
        · simp [h1, h2, h3, h4]
/-- All the events, and the size after each. -/
def playF : List S190 → List Int → Int × Int × Int × Int → Int × Int × Int × Int × List Int × Bool
  | [], o, (a, b, c, d) => (a, b, c, d, o, true)
  | x :: r, o, (a, b, c, d) => playF r (o ++ [(nextW a b c d x.f0 x.f1 x.f2 x.f3).1]) (nextW a b c d x.f0 x.f1 x.f2 x.f3)
theorem playF_len : ∀ (r : List S190) (o : List Int) (s : Int × Int × Int × Int), (playF r o s).2.2.2.2.1.length = o.length + r.length
  | [], _, _ => rfl
  | x :: r, o, (a, b, c, d) => by
    rw [playF, playF_len r]
    simp
    omega
theorem specPlay_loop : ∀ (r p : List S190) (o : List Int) (a b c d : Int), (p ++ r).length ≤ 100 → o.length = p.length →
    Ev (fun k => spec_PlayWindow.l0 k o (p ++ r) ((p ++ r).length : Int) (p.length : Int) a b c d) (playF r o (a, b, c, d))
  | [], p, o, a, b, c, d, _, _ => by
    refine LoopK.Ev.succ ?_
    simp only [spec_PlayWindow.l0, List.append_nil, at_stop, if_false]
    exact Ev.now _
  | x :: r, p, o, a, b, c, d, hB, ho => by
    refine LoopK.Ev.succ ?_
    have e1 := at_w p x r (by omega)
    have ho' : o.length < 17592186044416 := by simp at hB; omega
    simp only [spec_PlayWindow.l0, at_lt, at_nn, if_true, rd_T190, at_getD, e1, ho']
    refine LoopK.Ev.bind_ (specGrow_ev a b c d x.f0 x.f1 x.f2 x.f3) ?_
    have ih := specPlay_loop r (p ++ [x]) (o ++ [(nextW a b c d x.f0 x.f1 x.f2 x.f3).1]) (nextW a b c d x.f0 x.f1 x.f2 x.f3).1 (nextW a b c d x.f0 x.f1 x.f2 x.f3).2.1 (nextW a b c d x.f0 x.f1 x.f2 x.f3).2.2.1 (nextW a b c d x.f0 x.f1 x.f2 x.f3).2.2.2 (by simpa using hB) (by simp; omega)
    rw [← at_snoc, len_snoc p x] at ih
    by_cases h : (growW a b c d x.f0 x.f1 x.f2 x.f3 false).2.2.2.2 = true
    · have e : nextW a b c d x.f0 x.f1 x.f2 x.f3 = ((growW a b c d x.f0 x.f1 x.f2 x.f3 false).1, (growW a b c d x.f0 x.f1 x.f2 x.f3 false).2.1, (growW a b c d x.f0 x.f1 x.f2 x.f3 false).2.2.1, (growW a b c d x.f0 x.f1 x.f2 x.f3 false).2.2.2.1) := by unfold nextW; rw [if_pos h]
      rw [playF]
      rw [e] at ih ⊢
      simp only [h, if_true]
      exact ih
    · have e : nextW a b c d x.f0 x.f1 x.f2 x.f3 = (a, b, c, d) := by unfold nextW; rw [if_neg h]
      rw [playF]
      rw [e] at ih ⊢
      simp only [h, if_false]
      exact ih
theorem implPlay_loop : ∀ (r p : List S190) (o : List Int) (a b c d : Int), (p ++ r).length ≤ 100 → o.length = p.length →
    Ev (fun k => impl_PlayWindow.l0 k o (p ++ r) ((p ++ r).length : Int) (p.length : Int) a b c d) (playF r o (a, b, c, d))
  | [], p, o, a, b, c, d, _, _ => by
    refine LoopK.Ev.succ ?_
    simp only [impl_PlayWindow.l0, List.append_nil, at_stop, if_false]
    exact Ev.now _
  | x :: r, p, o, a, b, c, d, hB, ho => by
    refine LoopK.Ev.succ ?_
    have e1 := at_w p x r (by omega)
    have ho' : o.length < 17592186044416 := by simp at hB; omega
    simp only [impl_PlayWindow.l0, at_lt, at_nn, if_true, rd_T190, at_getD, e1, ho']
    refine LoopK.Ev.bind_ (implGrow_ev a b c d x.f0 x.f1 x.f2 x.f3) ?_
    have ih := implPlay_loop r (p ++ [x]) (o ++ [(nextW a b c d x.f0 x.f1 x.f2 x.f3).1]) (nextW a b c d x.f0 x.f1 x.f2 x.f3).1 (nextW a b c d x.f0 x.f1 x.f2 x.f3).2.1 (nextW a b c d x.f0 x.f1 x.f2 x.f3).2.2.1 (nextW a b c d x.f0 x.f1 x.f2 x.f3).2.2.2 (by simpa using hB) (by simp; omega)
    rw [← at_snoc, len_snoc p x] at ih
    by_cases h : (growW a b c d x.f0 x.f1 x.f2 x.f3 true).2.2.2.2 = true
    · have e : nextW a b c d x.f0 x.f1 x.f2 x.f3 = ((growW a b c d x.f0 x.f1 x.f2 x.f3 true).1, (growW a b c d x.f0 x.f1 x.f2 x.f3 true).2.1, (growW a b c d x.f0 x.f1 x.f2 x.f3 true).2.2.1, (growW a b c d x.f0 x.f1 x.f2 x.f3 true).2.2.2.1) := by rw [nextW_true, if_pos h]
      rw [playF]
      rw [e] at ih ⊢
      simp only [h, if_true]
      exact ih
    · have e : nextW a b c d x.f0 x.f1 x.f2 x.f3 = (a, b, c, d) := by rw [nextW_true, if_neg h]
      rw [playF]
      rw [e] at ih ⊢
      simp only [h, if_false]
      exact ih
/-- The law's value. -/
def playW (l : List S190) : Int × Int × Int × Int × List Int × Bool := if (l.length : Int) > 100 then (0, 0, 0, 0, [], false) else playF l [] (12000, 100000000, -1, 0)
theorem specPlay_ev (l : List S190) : Ev (fun k => spec_PlayWindow.f k l) (playW l) := by
  unfold spec_PlayWindow.f playW spec_NewWindow.f
  split
  · exact Ev.now _
  · simp only [Option.bind_some]
    simpa using specPlay_loop l [] [] 12000 100000000 (-1) 0 (by simp; omega) rfl
theorem implPlay_ev (l : List S190) : Ev (fun k => impl_PlayWindow.f k l) (playW l) := by
  unfold impl_PlayWindow.f playW impl_NewWindow.f
  split
  · exact Ev.now _
  · simp only [Option.bind_some]
    simpa using implPlay_loop l [] [] 12000 100000000 (-1) 0 (by simp; omega) rfl
theorem playW_len (l : List S190) : (playW l).2.2.2.2.1.length ≤ 100 := by
  unfold playW
  split
  · simp
  · rw [playF_len]
    simp
    omega

theorem eqWindow_self (a b c d : Int) : laws_eqWindow.f a b c d a b c d = some true := by
  unfold laws_eqWindow.f
  simp
theorem FnExactPlayWindow : SFnExactPlayWindow.Pure := by
  intro l hl
  refine Ev.rounds ?_
  unfold laws_FnExactPlayWindow.f
  obtain ⟨r, hr, hr1, hr2⟩ := szGrowS_some l 1048576 (by omega) (by omega)
  simp only [hr, Option.bind_some]
  by_cases h0 : r < 0
  · simp only [h0, if_true]
    exact Ev.now _
  · simp only [h0, if_false]
    have hl2 : l.length ≤ 1048576 := by have := hr2 (by omega); omega
    have hto := toGrowS_ev l hl2
    have hm : (l.map cvGrow).length ≤ 4611686018427387904 := by rw [List.length_map]; omega
    have hw := playW_len (l.map cvGrow)
    have hne : (1 + 1 * ((playW (l.map cvGrow)).2.2.2.2.1.length : Int) < 0) = False := eq_false (by omega)
    have hne2 : (1 + 4 * ((l.map cvGrow).length : Int) < 0) = False := eq_false (by omega)
    refine LoopK.Ev.bind_ hto ?_
    refine LoopK.Ev.bind_ (specPlay_ev _) ?_
    refine LoopK.Ev.bind_ hto ?_
    refine LoopK.Ev.bind_ (implPlay_ev _) ?_
    simp only [eqWindow_self, Option.bind_some, if_true]
    refine LoopK.Ev.bind_ (eqIntS_ev _ (by omega)) ?_
    simp only [if_true, bne_self_eq_false]
    refine LoopK.Ev.succ ?_
    simp only [laws_FnExactPlayWindow.j0, Bool.false_eq_true, if_false, eqWindow_self, Option.bind_some, if_true]
    refine LoopK.Ev.bind_ hto ?_
    refine LoopK.Ev.bind_ (eqGrowS_ev _ hm) ?_
    simp only [if_true]
    refine LoopK.Ev.bind_ (markGrowS_ev _ 1 (by omega) (by rw [List.length_map]; omega) (by omega)) ?_
    simp only [hne2, if_false]
    refine LoopK.Ev.bind_ (eqIntS_ev _ (by omega)) ?_
    simp only [if_true, bne_self_eq_false]
    refine LoopK.Ev.succ ?_
    simp only [laws_FnExactPlayWindow.j1, Bool.false_eq_true, if_false]
    refine LoopK.Ev.bind_ (markIntS_ev _ 1 (by omega) (by omega) (by omega)) ?_
    refine LoopK.Ev.bind_ (heldIntS_ev _ 1 (by omega) (by omega) (by omega)) ?_
    simp only [hne, if_false, if_true]
    refine LoopK.Ev.bind_ hto ?_
    refine LoopK.Ev.bind_ (implPlay_ev _) ?_
    simp only [eqWindow_self, Option.bind_some, if_true]
    refine LoopK.Ev.bind_ (eqIntS_ev _ (by omega)) ?_
    simp only [if_true, bne_self_eq_false]
    refine LoopK.Ev.succ ?_
    simp only [laws_FnExactPlayWindow.j2, Bool.false_eq_true, if_false]
    refine LoopK.Ev.bind_ (heldIntS_ev _ 1 (by omega) (by omega) (by omega)) ?_
    simp only [hne, if_false, if_true]
    exact Ev.now _

end Go.Proofs.Ythkmjfapljmmpaa.Pure
