/- The row of the law FnExactCheckToken: for every input the call returns true, and each argument reads behind it as before; with the pure statement and its proof. -/
import Derived.Test.YtkcdhphhacjkhaaPFnExactCheckTokenx4
import Derived.Test.YtkcdhphhacjkhaaLoopK
import Derived.Test.YtkcdhphhacjkhaaRows
import Derived.Test.YtkcdhphhacjkhaaOpenK
import Derived.WalkKit
import Derived.ProofKit
import Derived.OpenShut
import Derived.ShutString
import Derived.ChangeOld
import Derived.Below
import Derived.SizedLaws
import Derived.Carry
import Derived.KernelRfl
namespace Go.Proofs.Ytkcdhphhacjkhaa.SFnExactCheckToken
open Go.RowKit Go.Proofs.Ytkcdhphhacjkhaa.PFnExactCheckToken Go.Proofs.YtkcdhphhacjkhaaW.PrintWords Go.Proofs.YtkcdhphhacjkhaaW.PrintLast

/-- What is left to prove. -/
def Pure : Prop := ∀ (l0 : List ByteArray) (a1 : ByteArray) (a2 : ByteArray) (a3 : Int) (a4 : Int), ((l0.length * 16 ≤ 140737488351232 ∧ l0.length ≤ 9223372036854775807 ∧ ∀ z, z ∈ l0 → z.size ≤ 140737488351232)) → (a1.size ≤ 140737488351232) → (a2.size ≤ 140737488351232) → (-9223372036854775808 ≤ a3 ∧ a3 ≤ 9223372036854775807) → (-9223372036854775808 ≤ a4 ∧ a4 ≤ 9223372036854775807) → ∃ k, laws_FnExactCheckToken.f k l0 a1 a2 a3 a4 = some true
end Go.Proofs.Ytkcdhphhacjkhaa.SFnExactCheckToken
namespace Go.Proofs.Ytkcdhphhacjkhaa.Pure
open Go.RowKit Go.Proofs.Ytkcdhphhacjkhaa.PFnExactCheckToken Go.Proofs.YtkcdhphhacjkhaaW.PrintWords Go.Proofs.YtkcdhphhacjkhaaW.PrintLast Go.Proofs.Ytkcdhphhacjkhaa.SFnExactCheckToken
set_option linter.unusedVariables false
set_option linter.unusedSimpArgs false

theorem l1In_eq (a b c : Int) : spec_l1In.f a b c = some (decide (b ≤ a ∧ a ≤ c)) := by
  unfold spec_l1In.f
  by_cases h : b ≤ a
  · rw [if_pos h]; simp [h]
  · rw [if_neg h]; simp [h]
theorem in_eq (a b c : Int) : impl_in.f a b c = some (decide (b ≤ a ∧ a ≤ c)) := l1In_eq a b c
theorem and_ite (p q : Prop) [Decidable p] [Decidable q] : (if p then some (decide q) else some false) = some (decide (p ∧ q)) := by
  by_cases h : p <;> simp [h]

open Go.Proofs.Ytkcdhphhacjkhaa.LoopK (copyEv sameEv markEv heldEv foldEv mk mk_length at_lt at_lt' at_nn at_nlt at_stop at_getD at_set at_set2 at_snoc len_snoc at_w w64 firstEv find_any chk last_or at_prev at_prev_lt at_prev_nn at_prev_pos at_prev_w pairEv)

theorem toStringS_ev (l : List ByteArray) (h : l.length ≤ 1048576) : Ev (fun k => laws_toStringS.f k l) l := by
  have key := copyEv (fun k xs ys i => laws_toStringS.l0 k xs ys i) (fun x : ByteArray => x) ⟨#[]⟩ 1048576
    (fun xs ys => by
      refine LoopK.Ev.succ ?_
      simp only [laws_toStringS.l0, at_stop, if_false]
      exact Ev.now _)
    (fun p x r q y s res hq hB hs ih => by
      refine LoopK.Ev.succ ?_
      have e1 := at_w p x r (by omega)
      have e2 := at_lt' p q y s hq
      have e3 : (q ++ y :: s).set (p.length : Int).toNat x = q ++ x :: s := at_set2 p q y _ s hq
      simp only [laws_toStringS.l0, at_lt, at_nn, if_true, rdOf, at_getD, e1, e2, e3]
      exact ih) l [] (by simpa using h)
  unfold laws_toStringS.f
  have c1 : 0 ≤ (l.length : Int) := by omega
  have c2 : (l.length : Int).toNat = l.length := by omega
  simp only [c1, if_true, c2]
  have c3 : l.length ≤ 17592186044416 := by omega
  simp only [c3, if_true]
  simpa using key
theorem eqStringS_ev (l : List ByteArray) (h : l.length ≤ 4611686018427387904) : Ev (fun k => laws_eqStringS.f k l l) true := by
  have key := sameEv (fun k xs ys i => laws_eqStringS.l0 k xs ys i) 4611686018427387904
    (fun xs ys => by
      refine LoopK.Ev.succ ?_
      simp only [laws_eqStringS.l0, at_stop, if_false]
      exact Ev.now _)
    (fun p x r hB ih => by
      refine LoopK.Ev.succ ?_
      have e1 := at_w p x r hB
      simp only [laws_eqStringS.l0, at_lt, at_nn, if_true, e1]
      exact ih) l [] (by simpa using h)
  unfold laws_eqStringS.f
  simp only [if_true]
  simpa using key
theorem szStringS_loop : ∀ (r p : List ByteArray) (a : Int), (p ++ r).length ≤ 4611686018427387904 → 0 ≤ a → a ≤ 1048576 → (∀ x, x ∈ r → x.size ≤ 140737488351232) →
    ∃ q, Ev (fun k => laws_szStringS.l0 k (p ++ r) a (p.length : Int)) q ∧ -1 ≤ q
  | [], p, a, hB, h0, h1, _ => by
    refine ⟨a, LoopK.Ev.succ ?_, by omega⟩
    simp only [List.append_nil, laws_szStringS.l0, at_stop, if_false]
    exact Ev.now _
  | x :: r, p, a, hB, h0, h1, hx => by
    have hx0 : x.size ≤ 140737488351232 := hx x (by simp)
    have e1 := at_w p x r hB
    have e2 : wrap64 (a - (x.size : Int)) = a - (x.size : Int) := w64 _ (by omega)
    by_cases hn : a - (x.size : Int) < 0
    · refine ⟨-1, LoopK.Ev.succ ?_, by omega⟩
      simp only [laws_szStringS.l0, at_lt, at_nn, if_true, rdOf, at_getD, e2, hn]
      exact Ev.now _
    · obtain ⟨q, hq, q2⟩ := szStringS_loop r (p ++ [x]) (a - (x.size : Int)) (by simpa using hB) (by omega) (by omega) (fun y hy => hx y (by simp [hy]))
      rw [← at_snoc, len_snoc] at hq
      refine ⟨q, LoopK.Ev.succ ?_, q2⟩
      simp only [laws_szStringS.l0, at_lt, at_nn, if_true, rdOf, at_getD, e2, hn, if_false, e1]
      exact hq
theorem szStringS_ev (l : List ByteArray) (h : l.length ≤ 140737488351232) (hx : ∀ x, x ∈ l → x.size ≤ 140737488351232) :
    ∃ r, Ev (fun k => laws_szStringS.f k l 1048576) r ∧ -1 ≤ r ∧ (0 ≤ r → l.length ≤ 1048576) := by
  unfold laws_szStringS.f
  have e : wrap64 (1048576 - (l.length : Int)) = 1048576 - (l.length : Int) := w64 _ (by omega)
  simp only [e]
  by_cases hn : 1048576 - (l.length : Int) < 0
  · simp only [hn, if_true]
    exact ⟨-1, Ev.now _, by omega, fun h => by omega⟩
  · simp only [hn, if_false]
    obtain ⟨q, hq, q2⟩ := szStringS_loop l [] (1048576 - l.length) (by simp; omega) (by omega) (by omega) hx
    exact ⟨q, by simpa using hq, q2, fun _ => by omega⟩

open Go.Proofs.Ytkcdhphhacjkhaa.B (openT openOkT openS_size numT bigT bigT_eq numT_range chkF checkF openS openOk)
/-- May a token be held against these? -/
def ChkC (l : List ByteArray) (a1 : ByteArray) (a3 a4 : Int) : Prop := (1 ≤ l.length ∧ l.length ≤ 2) ∧ (1 ≤ a1.size ∧ a1.size ≤ 18) ∧ (0 ≤ a3 ∧ a3 ≤ 1000000000) ∧ (0 ≤ a4 ∧ a4 ≤ 1000000)
instance (l : List ByteArray) (a1 : ByteArray) (a3 a4 : Int) : Decidable (ChkC l a1 a3 a4) := by unfold ChkC; infer_instance
def chkR (l : List ByteArray) (a1 a2 : ByteArray) (a3 a4 : Int) : ByteArray × Int × Bool × Int := if ChkC l a1 a3 a4 ∧ ∀ k ∈ l, k.size = 16 then checkF a1 a2 a3 a4 l else (⟨#[]⟩, 0, false, 1)
theorem openT_size (a b c d : ByteArray) (h : openOkT a b c d = true) : (openT a b c d).size = d.size - 16 := openS_size _ _ _ _ h
theorem chk_loop (a1 a2 : ByteArray) (a3 a4 : Int) (h1 : a1.size ≤ 18) (h2 : 37 ≤ a2.size ∧ a2.size ≤ 57) (h3 : 0 ≤ a3 ∧ a3 ≤ 1000000000) (h4 : 0 ≤ a4 ∧ a4 ≤ 1000000) : ∀ (r p : List ByteArray), (∀ x ∈ r, x.size = 16) → (p ++ r).length ≤ 1000 →
    Ev (fun k => impl_CheckToken.l0 k a1 a2 a3 a4 (p ++ r) ((p ++ r).length : Int) (p.length : Int)) (chkF a1 a2 a3 a4 r)
  | [], p, _, hB => by
    refine LoopK.Ev.succ ?_
    simp only [List.append_nil, impl_CheckToken.l0, at_stop, if_false]
    exact Ev.now _
  | x :: r, p, hx, hB => by
    refine LoopK.Ev.succ ?_
    have e1 := at_w p x r (by omega)
    have c1 : (13 : Int) ≤ (a2.size : Int) := by omega
    have c2 : (1 : Int) ≤ (a2.size : Int) := by omega
    have c3 : (a2.extract 0 1).size + a1.size ≤ 9223372036854775807 := by rw [ByteArray.size_extract]; omega
    have c4 : (0 : Int) < (a2.size : Int) := by omega
    have hO : impl_OpenText.f x (a2.extract 1 13) (a2.extract 0 1 ++ a1) (a2.extract 13 a2.size) = some (openT x (a2.extract 1 13) (a2.extract 0 1 ++ a1) (a2.extract 13 a2.size), openOkT x (a2.extract 1 13) (a2.extract 0 1 ++ a1) (a2.extract 13 a2.size)) := by
      unfold impl_OpenText.f
      rw [if_pos ⟨hx x (by simp), by rw [ByteArray.size_extract]; omega, by rw [ByteArray.size_append, ByteArray.size_extract]; omega, by rw [ByteArray.size_extract]; omega, by rw [ByteArray.size_extract]; omega⟩]
    simp only [impl_CheckToken.l0, at_lt, at_nn, if_true, rdOf, at_getD, c1, c2, c3, c4, hO, Option.bind_some, show (1 : Int) ≤ 13 by omega, show (0 : Int) ≤ 1 by omega, show (0 : Int) ≤ 8 by omega, chkF]
    have hsz := openT_size x (a2.extract 1 13) (a2.extract 0 1 ++ a1) (a2.extract 13 a2.size)
    generalize openOkT x (a2.extract 1 13) (a2.extract 0 1 ++ a1) (a2.extract 13 a2.size) = ok at hsz ⊢
    generalize openT x (a2.extract 1 13) (a2.extract 0 1 ++ a1) (a2.extract 13 a2.size) = s at hsz ⊢
    cases ok with
    | false =>
      simp only [Bool.false_eq_true, if_false, e1]
      have ih := chk_loop a1 a2 a3 a4 h1 h2 h3 h4 r (p ++ [x]) (fun y hy => hx y (by simp [hy])) (by simpa using hB)
      rw [← at_snoc, len_snoc] at ih
      exact ih
    | true =>
      have hs8 := hsz rfl
      rw [ByteArray.size_extract] at hs8
      have c5 : (8 : Int) ≤ (s.size : Int) := by omega
      have hN : impl_numberOf.f (s.extract 0 8) = some (numT (s.extract 0 8)) := by
        unfold impl_numberOf.f
        rw [if_pos (by rw [ByteArray.size_extract]; omega)]
      have hr := numT_range (s.extract 0 8)
      have hb := bigT_eq (s.extract 0 8)
      simp only [if_true, c5, hN, Option.bind_some]
      generalize bigT (s.extract 0 8) = T at hb ⊢
      generalize numT (s.extract 0 8) = t at hb hr ⊢
      have hw : IntKind.u64.wrap a3 = a3 := by
        show a3 % 18446744073709551616 = a3
        omega
      simp only [hw]
      by_cases ht : t > a3
      · have hc : T > a3 ∨ T < 0 ∨ a3 - T > a4 := by
          unfold wrap64 at hb
          omega
        simp only [ht, if_true, hc]
        exact Ev.now _
      · have hT : T = t := by rw [hb]; exact w64 _ (by omega)
        have hT' : wrap64 t = t := w64 _ (by omega)
        have hd : wrap64 (a3 - t) = a3 - t := w64 _ (by omega)
        subst hT
        simp only [ht, if_false, hT', hd]
        by_cases hl : a3 - T > a4
        · have hc : T > a3 ∨ T < 0 ∨ a3 - T > a4 := Or.inr (Or.inr hl)
          simp only [hl, if_true, hc]
          simp only [or_true, if_true]
          exact Ev.now _
        · have hc : ¬ (T > a3 ∨ T < 0 ∨ a3 - T > a4) := by omega
          simp only [hl, if_false, hc]
          have hc2 : ¬ (False ∨ T < 0 ∨ False) := by simp; omega
          first
            | exact Ev.now _
            | (simp only [hc2, if_false]; exact Ev.now _)
theorem isTime_eq (a : Int) : impl_isTime.f a = some (decide (0 ≤ a ∧ a ≤ 1000000000)) := by
  unfold impl_isTime.f
  simp only [in_eq, Option.bind_some]
theorem keysOk_eq (l : List ByteArray) : impl_tokenKeysOk.f l = some (decide ((1 ≤ l.length ∧ l.length ≤ 2) ∧ ∀ k ∈ l, k.size = 16)) := by
  unfold impl_tokenKeysOk.f slices_ContainsFunc_string_string_40.f slices_ContainsFunc_string_string_40.p impl_tokenKeysOk_1.f impl_isKey.f
  simp only [in_eq, Option.bind_some, Option.isSome_some, List.all_eq_true, implies_true, if_true, Option.getD_some]
  by_cases h : 1 ≤ l.length ∧ l.length ≤ 2
  · have h' : (1 : Int) ≤ (l.length : Int) ∧ (l.length : Int) ≤ 2 := by omega
    simp only [h, h', decide_true, if_true, and_self, true_and]
    congr 1
    rw [Bool.eq_iff_iff]
    simp only [Bool.not_eq_true', List.any_eq_false, decide_eq_true_eq]
    constructor
    · intro hh k hk
      have := hh k hk
      simp at this
      omega
    · intro hh k hk
      have := hh k hk
      simp
      omega
  · have h' : ¬ ((1 : Int) ≤ (l.length : Int) ∧ (l.length : Int) ≤ 2) := by omega
    simp only [h, h', decide_false, Bool.false_eq_true, if_false, false_and]
theorem impl_ev (l : List ByteArray) (a1 a2 : ByteArray) (a3 a4 : Int) : Ev (fun k => impl_CheckToken.f k l a1 a2 a3 a4) (chkR l a1 a2 a3 a4) := by
  have hj : ∀ (h : ¬ (ChkC l a1 a3 a4 ∧ ∀ k ∈ l, k.size = 16)), Ev (fun k => impl_CheckToken.j0 k l a1 a2 a3 a4 true) (chkR l a1 a2 a3 a4) := fun h => by
    unfold chkR
    rw [if_neg h]
    refine LoopK.Ev.succ ?_
    simp only [impl_CheckToken.j0, if_true]
    exact Ev.now _
  unfold impl_CheckToken.f impl_isAddress.f
  simp only [keysOk_eq, isTime_eq, in_eq, Option.bind_some, decide_eq_true_eq]
  by_cases h1 : (1 ≤ l.length ∧ l.length ≤ 2) ∧ ∀ k ∈ l, k.size = 16
  · by_cases h2 : (1 : Int) ≤ (a1.size : Int) ∧ (a1.size : Int) ≤ 18
    · by_cases h3 : 0 ≤ a3 ∧ a3 ≤ 1000000000
      · by_cases h4 : 0 ≤ a4 ∧ a4 ≤ 1000000
        · have hC : ChkC l a1 a3 a4 ∧ ∀ k ∈ l, k.size = 16 := ⟨⟨h1.1, by omega, h3, h4⟩, h1.2⟩
          simp only [eq_true h1, h2, h3, h4, decide_true, if_true, and_self, Bool.not_true, implies_true]
          unfold chkR
          rw [if_pos hC]
          refine LoopK.Ev.succ ?_
          simp only [impl_CheckToken.j0, Bool.false_eq_true, if_false, in_eq, Option.bind_some, decide_eq_true_eq]
          unfold checkF
          by_cases h5 : 37 ≤ a2.size ∧ a2.size ≤ 57
          · have h5' : (37 : Int) ≤ (a2.size : Int) ∧ (a2.size : Int) ≤ 57 := by omega
            have h0 : (0 : Int) < (a2.size : Int) := by omega
            simp only [h5', h0, if_true, and_self]
            by_cases h6 : bt a2 0 ≤ 1
            · have h6' : ¬ bt a2 0 > 1 := by omega
              simp only [h5, h6, h6', if_true, if_false, and_self]
              have := chk_loop a1 a2 a3 a4 (by omega) h5 h3 h4 l [] h1.2 (by simp; omega)
              simpa using this
            · have h6' : bt a2 0 > 1 := by omega
              simp only [h6, h6', if_true, if_false, and_false]
              exact Ev.now _
          · have h5' : ¬ ((37 : Int) ≤ (a2.size : Int) ∧ (a2.size : Int) ≤ 57) := by omega
            simp only [h5, h5', if_false, false_and]
            exact Ev.now _
        · have hn := hj (fun h => h4 h.1.2.2.2)
          simp only [eq_true h1, h2, h3, h4, decide_false, if_true, and_self, Bool.not_false, implies_true]
          exact hn
      · have hn := hj (fun h => h3 h.1.2.2.1)
        simp only [eq_true h1, h2, h3, if_true, if_false, and_self, implies_true]
        exact hn
    · have hn := hj (fun h => h2 (by have := h.1.2.1; omega))
      simp only [eq_true h1, h2, if_true, if_false, and_self, implies_true]
      exact hn
  · have hn := hj (fun h => h1 ⟨h.1.1, h.2⟩)
    simp only [h1, if_false]
    exact hn
theorem spec_loop (l : List ByteArray) (a1 a2 : ByteArray) (a3 a4 : Int) (hC : ChkC l a1 a3 a4) : ∀ (r p : List ByteArray), p ++ r = l → (∀ x ∈ p, x.size = 16) → Ev (fun k => spec_CheckToken.l0 k l a1 a2 a3 a4 l (l.length : Int) (p.length : Int)) (chkR l a1 a2 a3 a4)
  | [], p, hl, hp => by
    subst hl
    refine LoopK.Ev.succ ?_
    have hp' : ∀ k ∈ p ++ [], k.size = 16 := fun k hk => hp k (by simpa using hk)
    have hck : spec_l10Check.f (p ++ []) a1 a2 a3 a4 = some (checkF a1 a2 a3 a4 (p ++ [])) := by
      unfold spec_l10Check.f
      rw [if_pos ⟨hp', by have := hC.2.1; omega, hC.2.2.1, hC.2.2.2⟩]
    simp only [spec_CheckToken.l0, at_nlt, if_false, hck, Option.bind_some]
    unfold chkR
    rw [if_pos ⟨hC, hp'⟩]
    exact Ev.now _
  | x :: r, p, hl, hp => by
    subst hl
    refine LoopK.Ev.succ ?_
    have e1 := at_w p x r (by have := hC.1; omega)
    simp only [spec_CheckToken.l0, at_lt, at_nn, if_true, rdOf, at_getD]
    by_cases hx : (x.size : Int) = 16
    · simp only [hx, if_true, e1]
      have ih := spec_loop (p ++ x :: r) a1 a2 a3 a4 hC r (p ++ [x]) (by simp) (fun y hy => by
        rcases List.mem_append.1 hy with h | h
        · exact hp y h
        · have : y = x := by simpa using h
          subst this
          omega)
      rw [len_snoc] at ih
      exact ih
    · simp only [hx, if_false]
      unfold chkR
      rw [if_neg (fun h => hx (by have := h.2 x (by simp); omega))]
      exact Ev.now _
theorem spec_ev (l : List ByteArray) (a1 a2 : ByteArray) (a3 a4 : Int) : Ev (fun k => spec_CheckToken.f k l a1 a2 a3 a4) (chkR l a1 a2 a3 a4) := by
  have hj : ∀ (h : ¬ ChkC l a1 a3 a4), Ev (fun k => spec_CheckToken.j0 k l a1 a2 a3 a4 true) (chkR l a1 a2 a3 a4) := fun h => by
    unfold chkR
    rw [if_neg (fun hh => h hh.1)]
    refine LoopK.Ev.succ ?_
    simp only [spec_CheckToken.j0, if_true]
    exact Ev.now _
  unfold spec_CheckToken.f spec_l10Address.f
  simp only [l1In_eq, Option.bind_some, decide_eq_true_eq]
  by_cases h1 : (1 : Int) ≤ (l.length : Int) ∧ (l.length : Int) ≤ 2
  · by_cases h2 : (1 : Int) ≤ (a1.size : Int) ∧ (a1.size : Int) ≤ 18
    · by_cases h3 : 0 ≤ a3 ∧ a3 ≤ 1000000000
      · by_cases h4 : 0 ≤ a4 ∧ a4 ≤ 1000000
        · have hC : ChkC l a1 a3 a4 := ⟨by omega, by omega, h3, h4⟩
          simp only [h1, h2, h3, h4, decide_true, if_true, and_self, Bool.not_true]
          refine LoopK.Ev.succ ?_
          simp only [spec_CheckToken.j0, Bool.false_eq_true, if_false]
          exact spec_loop l a1 a2 a3 a4 hC l [] rfl (by simp)
        · have hn := hj (fun h => h4 h.2.2.2)
          simp only [h1, h2, h3, h4, decide_false, if_true, and_self, Bool.not_false]
          exact hn
      · have hn := hj (fun h => h3 h.2.2.1)
        simp only [h1, h2, h3, if_true, if_false, and_self]
        exact hn
    · have hn := hj (fun h => h2 (by have := h.2.1; omega))
      simp only [h1, h2, if_true, if_false, and_self]
      exact hn
  · have hn := hj (fun h => h1 (by have := h.1; omega))
    simp only [h1, if_false]
    exact hn
theorem FnExactCheckToken : SFnExactCheckToken.Pure := by
  intro l a1 a2 a3 a4 hl _ _ _ _
  suffices h : Ev (fun k => laws_FnExactCheckToken.f k l a1 a2 a3 a4) true from ⟨h.choose, h.choose_spec _ (Nat.le_refl _)⟩
  unfold laws_FnExactCheckToken.f
  by_cases c1 : (a1.size : Int) > 1048576
  · simp only [c1, if_true]; exact Ev.now _
  by_cases c2 : (a2.size : Int) > 1048576
  · simp only [c1, c2, if_true, if_false]; exact Ev.now _
  simp only [c1, c2, if_false]
  obtain ⟨r, hr, hr1, hr2⟩ := szStringS_ev l (by omega) hl.2.2
  refine LoopK.Ev.bind_ hr ?_
  by_cases hn : r < 0
  · simp only [hn, if_true]; exact Ev.now _
  simp only [hn, if_false]
  have hlen := hr2 (by omega)
  refine LoopK.Ev.bind_ (toStringS_ev l hlen) ?_
  refine LoopK.Ev.bind_ (spec_ev l a1 a2 a3 a4) ?_
  refine LoopK.Ev.bind_ (toStringS_ev l hlen) ?_
  refine LoopK.Ev.bind_ (impl_ev l a1 a2 a3 a4) ?_
  generalize chkR l a1 a2 a3 a4 = q
  obtain ⟨q1, q2, q3, q4⟩ := q
  have he : laws_eqMinted.f q1 q2 q3 q1 q2 q3 = some true := by
    unfold laws_eqMinted.f
    simp
  simp only [he, Option.bind_some, if_true, bne_self_eq_false]
  refine LoopK.Ev.succ ?_
  simp only [laws_FnExactCheckToken.j0, Bool.false_eq_true, if_false]
  refine LoopK.Ev.bind_ (toStringS_ev l hlen) ?_
  refine LoopK.Ev.bind_ (eqStringS_ev l (by omega)) ?_
  simp only [if_true]
  exact Ev.now _

end Go.Proofs.Ytkcdhphhacjkhaa.Pure
namespace Go.Proofs.Ytkcdhphhacjkhaa.fnExactCheckToken
open Go.ChangeShapes Go.WideShapes Go.ChangeAt Go.RowKit Go.Proofs.Ytkcdhphhacjkhaa.OpenK Go.Proofs.Ytkcdhphhacjkhaa.PFnExactCheckToken Go.Proofs.Ytkcdhphhacjkhaa.SFnExactCheckToken Go.Proofs.YtkcdhphhacjkhaaW.PrintWords
open Go.ChangeMaps (open_string shut_string)
theorem own : ownKnob Try.prog.godebug = none := by kernel_rfl
theorem laidOut : laidOutB Try.prog = true := by kernel_rfl
set_option maxRecDepth 100000 in
set_option maxHeartbeats 1000000 in
theorem lifted (os : Os) (started : os.Started) (H : Type) (enc : TypeId × Value → H) :
    ReturnsInHanded {} Try.checked os 4 .any (Rows.fnExactCheckTokenSpec.pre6 enc Try.prog Try.f4 Rows.fnExactCheckTokenRow.domain false) (Rows.fnExactCheckTokenSpec.post enc Try.prog Try.f4 false true false false) := by
  refine returnsInHanded_of_change_sized (C := Try.checked) own started (by kernel_rfl) Try.func4
    (ChangeSpec.witness6 (enc := enc) (C := Try.checked) false ⟨#[], #[.slice none 0 0, .string ByteArray.empty, .string ByteArray.empty, .int .i64 0, .int .i64 0], []⟩ 8 (by kernel_rfl) (by kernel_rfl) (by kernel_rfl) (by kernel_rfl)) ?_
  intro W base args ds gs before hval0 hW hcnd hsz0 _
  have hsz : (DataW.weightsEach Try.prog (Try.f4.params.toList ++ Rows.fnExactCheckTokenSpec.plain.varTypes Try.prog) (ds ++ gs)).all (· ≤ reachBytes) = true := hsz0
  have hval : ∀ (j : Nat) t v, Try.f4.params[j]? = some t → args[j]? = some v → Value.okWide Try.prog W .any base t v := hval0
  have hW' := hW
  obtain ⟨p, q, hA0, hV, rfl, hfz, hnd⟩ := hW
  have hA : DataW.TrodAll enc Try.prog W 0 (fun _ => true) true Try.f4.params.toList args.toList ds p := hA0
  rw [Try.params4] at hA hval hsz
  obtain ⟨v0, vs0, d0, ds0, p0, q0, hargs, rfl, rfl, h0, r0⟩ := trodAll_cons hA
  obtain ⟨v1, vs1, d1, ds1, p1, q1, rfl, rfl, rfl, h1, r1⟩ := trodAll_cons r0
  obtain ⟨v2, vs2, d2, ds2, p2, q2, rfl, rfl, rfl, h2, r2⟩ := trodAll_cons r1
  obtain ⟨v3, vs3, d3, ds3, p3, q3, rfl, rfl, rfl, h3, r3⟩ := trodAll_cons r2
  obtain ⟨v4, vs4, d4, ds4, p4, q4, rfl, rfl, rfl, h4, r4⟩ := trodAll_cons r3
  obtain ⟨rfl, rfl, rfl⟩ := trodAll_nil r4
  obtain rfl : args = #[v0, v1, v2, v3, v4] := by cases args; simp_all
  obtain ⟨rfl, rfl⟩ := trodVars_none hV
  have kk0 := h0
  have lt0 : ∀ x ∈ p0, x.block < W.heap.size := by obtain ⟨m, hm⟩ := kk0; exact DataW.trod_lt m _ _ _ hm
  obtain ⟨fuel0, hf0⟩ := h0
  obtain ⟨A0, len0, c0, rfl⟩ := WideShapes.okWide_slice Try.underlying30 (hval 0 30 v0 rfl rfl)
  obtain ⟨l0, ⟨A0', c0', e0, hc0, hr0⟩, o0⟩ := (Opn.slice Try.underlying30 (by kernel_rfl) 16 (by kernel_rfl) (Opn.string Try.underlying9)) _ enc W 0 _ _ fuel0 _ _ hf0 (weights_at hsz (j := 0) rfl rfl)
  clear hf0
  obtain ⟨rfl, rfl, rfl⟩ : A0 = A0' ∧ len0 = l0.length ∧ c0 = c0' := by simpa [Value.cells] using e0
  clear e0
  obtain ⟨a1, rfl, rfl, rfl, y1⟩ := open_string Try.underlying9 (hval 1 9 v1 rfl rfl) h1
  have o1 : a1.size ≤ 140737488351232 := by
    have z := sized_string hsz (j := 1) (t := 9) rfl rfl
    rw [Array.length_toList] at z
    exact z
  obtain ⟨a2, rfl, rfl, rfl, y2⟩ := open_string Try.underlying9 (hval 2 9 v2 rfl rfl) h2
  have o2 : a2.size ≤ 140737488351232 := by
    have z := sized_string hsz (j := 2) (t := 9) rfl rfl
    rw [Array.length_toList] at z
    exact z
  obtain ⟨a3, rfl, rfl, rfl, w3⟩ := open_int Try.underlying3 (hval 3 3 v3 rfl rfl) h3
  have o3 := wf_i64 w3
  obtain ⟨a4, rfl, rfl, rfl, w4⟩ := open_int Try.underlying3 (hval 4 3 v4 rfl rfl) h4
  have o4 := wf_i64 w4
  clear hA0 hval0 hsz0 hsz
  obtain ⟨k, hp⟩ := Pure.FnExactCheckToken l0 a1 a2 a3 a4 o0 o1 o2 o3 o4
  refine (laws_FnExactCheckToken.calls k A0 c0 l0 a1 a2 a3 a4 true W hr0 hc0 hp).mono fun e W' ⟨he, bel⟩ => ?_
  subst he
  exact ⟨_, rfl, _, _, _, [], _, [], hW', trodAll_mk1 (shut_bool Try.underlying4 _), (trodAll_cons_mk (Below.trod laidOut (by kernel_rfl) (of_decide_eq_true (by kernel_rfl)) kk0 bel lt0) (trodAll_cons_mk (shut_string Try.underlying9 y1) (trodAll_cons_mk (shut_string Try.underlying9 y2) (trodAll_cons_mk (shut_int Try.underlying3 w3) (trodAll_cons_mk (shut_int Try.underlying3 w4) trodAll_mk0))))), rfl, bel.frame _, fun h => by cases h⟩
theorem over : Rows.fnExactCheckTokenRow.holds Try.pinned (OpenSpec.ofChange Rows.fnExactCheckTokenSpec) :=
  OpenClaim.holds_of_wide 4 Try.f4 rfl rfl rfl rfl rfl rfl rfl ⟨rfl, rfl, rfl, rfl, rfl⟩ rfl rfl rfl rfl rfl (by kernel_rfl) Try.func4 (by kernel_rfl)
    (of_decide_eq_true (by kernel_rfl)) (by unfold Func.isWrapper; first | (rw [if_pos (by decide +kernel)]; kernel_rfl) | (rw [if_neg (by decide +kernel)]; exact ⟨rfl, rfl⟩))
    (fun os started H enc _ => lifted os started H enc)
theorem proved : Rows.FnExactCheckTokenSaid := over
#print axioms proved
end Go.Proofs.Ytkcdhphhacjkhaa.fnExactCheckToken
namespace Go.Proofs.Ytkcdhphhacjkhaa
/-- The row, under a short name, for the claim. -/
theorem fnExactCheckToken_holds : Rows.FnExactCheckTokenSaid := fnExactCheckToken.proved
end Go.Proofs.Ytkcdhphhacjkhaa
