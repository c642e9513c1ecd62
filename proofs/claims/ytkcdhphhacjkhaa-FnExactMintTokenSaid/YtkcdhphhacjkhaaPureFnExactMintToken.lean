/- The pure statement of the law FnExactMintToken: the program's function and the reference answer alike. -/
import Derived.Test.YtkcdhphhacjkhaaSFnExactMintToken
namespace Go.Proofs.Ytkcdhphhacjkhaa.Pure
open Go.RowKit Go.Proofs.Ytkcdhphhacjkhaa.PFnExactMintToken Go.Proofs.YtkcdhphhacjkhaaW.PrintWords Go.Proofs.YtkcdhphhacjkhaaW.PrintLast Go.Proofs.Ytkcdhphhacjkhaa.SFnExactMintToken
set_option linter.unusedVariables false
set_option linter.unusedSimpArgs false

theorem l1In_eq (a b c : Int) : spec_l1In.f a b c = some (decide (b ≤ a ∧ a ≤ c)) := by
  unfold spec_l1In.f
  by_cases h : b ≤ a
  · rw [if_pos h]; simp [h]
  · rw [if_neg h]; simp [h]
theorem in_eq (a b c : Int) : impl_in.f a b c = some (decide (b ≤ a ∧ a ≤ c)) := l1In_eq a b c
theorem and_ite (p q : Prop) [Decidable p] [Decidable q] : (if p then some (decide q) else some false) = some (decide (p ∧ q)) := by
  by_cases h : p <;> simp [h]

theorem minted_eq (s : ByteArray) (a : Int) (l : Bool) : spec_l10Minted.f s a l = some (decide ((s.size : Int) ≤ 20 ∧ 0 ≤ a ∧ a ≤ 1000000000)) := by
  unfold spec_l10Minted.f
  simp only [l1In_eq, Option.bind_some, and_ite]
theorem goodMinted_eq (s : ByteArray) (a : Int) (l : Bool) : impl_goodMinted.f s a l = some (decide ((s.size : Int) ≤ 20 ∧ 0 ≤ a ∧ a ≤ 1000000000)) := by
  unfold impl_goodMinted.f impl_isTime.f
  simp only [in_eq, Option.bind_some, and_ite]
theorem isTime_eq (a : Int) : impl_isTime.f a = some (decide (0 ≤ a ∧ a ≤ 1000000000)) := by
  unfold impl_isTime.f
  simp only [in_eq, Option.bind_some]

open Go.Proofs.Ytkcdhphhacjkhaa.B (sealT beT mintF first sealF_size beT_size mintF_eq) in
theorem sealT_size (a b c d : ByteArray) : (sealT a b c d).size = d.size + 16 := sealF_size _ _ _ _
/-- May a token be minted of these? -/
def MintC (a0 a1 a2 d : ByteArray) (t : Int) : Prop := a0.size = 16 ∧ a1.size = 12 ∧ (1 ≤ a2.size ∧ a2.size ≤ 18) ∧ d.size ≤ 20 ∧ 0 ≤ t ∧ t ≤ 1000000000
instance (a0 a1 a2 d : ByteArray) (t : Int) : Decidable (MintC a0 a1 a2 d t) := by unfold MintC; infer_instance
open Go.Proofs.Ytkcdhphhacjkhaa.B (sealT beT mintF first sealF_size beT_size mintF_eq) in
theorem mint_spec (a0 a1 a2 d : ByteArray) (t : Int) (b : Bool) : spec_MintToken.f 5 a0 a1 a2 d t b = some (if MintC a0 a1 a2 d t then (mintF a0 a1 a2 d t b, true) else (⟨#[]⟩, false)) := by
  unfold spec_MintToken.f spec_l10Address.f
  simp only [minted_eq, l1In_eq, Option.bind_some, decide_eq_true_eq]
  by_cases c : MintC a0 a1 a2 d t
  · obtain ⟨c1, c2, c3, c4, c5⟩ := c
    have hd : decide ((d.size : Int) ≤ 20 ∧ 0 ≤ t ∧ t ≤ 1000000000) = true := decide_eq_true (by omega)
    rw [if_pos (by omega), if_pos (by omega), if_pos (by omega), hd, if_pos (show MintC a0 a1 a2 d t from ⟨c1, c2, c3, c4, c5⟩)]
    simp only [spec_MintToken.j0, Bool.not_true]
    unfold spec_l10Mint.f
    rw [if_neg (by decide), if_pos (by omega)]
    rfl
  · rw [if_neg c]
    have hj : spec_MintToken.j0 5 a0 a1 a2 true d t b = some (⟨#[]⟩, false) := by simp only [spec_MintToken.j0, if_pos]
    repeat' split
    all_goals try exact hj
    have hd : decide ((d.size : Int) ≤ 20 ∧ 0 ≤ t ∧ t ≤ 1000000000) = false := decide_eq_false (fun h => c ⟨by omega, by omega, by omega, by omega, h.2⟩)
    rw [hd]
    exact hj
open Go.Proofs.Ytkcdhphhacjkhaa.B (sealT beT mintF first sealF_size beT_size mintF_eq) in
theorem mint_impl (a0 a1 a2 d : ByteArray) (t : Int) (b : Bool) : impl_MintToken.f 5 a0 a1 a2 d t b = some (if MintC a0 a1 a2 d t then (mintF a0 a1 a2 d t b, true) else (⟨#[]⟩, false)) := by
  unfold impl_MintToken.f impl_isAddress.f impl_isKey.f
  simp only [goodMinted_eq, in_eq, Option.bind_some, decide_eq_true_eq, beq_iff_eq]
  by_cases c : MintC a0 a1 a2 d t
  · obtain ⟨c1, c2, c3, c4, c5⟩ := c
    have hd : decide ((d.size : Int) ≤ 20 ∧ 0 ≤ t ∧ t ≤ 1000000000) = true := decide_eq_true (by omega)
    have hw : IntKind.u64.wrap t = t := by
      show t % 18446744073709551616 = t
      omega
    have hj : ∀ x : ByteArray, x = first b → impl_MintToken.j1 4 a0 a1 a2 x d t b = some (mintF a0 a1 a2 d t b, true) := fun x hx => by
      have hx1 : x.size = 1 := by rw [hx]; cases b <;> rfl
      have h1 : (x ++ a2).size ≤ 1500 := by rw [ByteArray.size_append]; omega
      have h2 : (beT t 8 ++ d).size ≤ 1500 := by rw [ByteArray.size_append, beT_size]; omega
      have h3 : (sealT a0 a1 (x ++ a2) (beT t 8 ++ d)).size ≤ 1516 := by rw [sealT_size]; omega
      have h4 : (x ++ a1).size ≤ 100 := by rw [ByteArray.size_append]; omega
      simp only [impl_MintToken.j1, hw]
      rw [if_pos (by omega)]
      unfold impl_bigEndian.f
      rw [if_pos (by omega)]
      simp only [Option.bind_some]
      rw [if_pos (by rw [beT_size]; show 8 + _ ≤ _; omega)]
      unfold impl_SealText.f
      rw [if_pos ⟨c1, c2, h1, h2⟩]
      simp only [Option.bind_some]
      rw [if_pos (by omega), if_pos (by have : (sealT a0 a1 (x ++ a2) (beT t (Int.toNat 8) ++ d)).size ≤ 1516 := h3; omega)]
      rw [mintF_eq, ← hx]
      rfl
    rw [if_pos (by omega), if_pos (by omega), if_pos (by omega), hd, if_pos (show MintC a0 a1 a2 d t from ⟨c1, c2, c3, c4, c5⟩)]
    simp only [impl_MintToken.j0, Bool.not_true]
    rw [if_neg (by decide)]
    cases b
    · rw [if_neg (by decide)]; exact hj _ rfl
    · rw [if_pos rfl]; exact hj _ rfl
  · rw [if_neg c]
    have hj : impl_MintToken.j0 5 a0 a1 a2 true d t b = some (⟨#[]⟩, false) := by simp only [impl_MintToken.j0, if_pos]
    repeat' split
    all_goals try exact hj
    have hd : decide ((d.size : Int) ≤ 20 ∧ 0 ≤ t ∧ t ≤ 1000000000) = false := decide_eq_false (fun h => c ⟨by omega, by omega, by omega, by omega, h.2⟩)
    rw [hd]
    exact hj
theorem FnExactMintToken : SFnExactMintToken.Pure := by
  intro a0 a1 a2 d t b _ _ _ _ _
  refine ⟨5, ?_⟩
  unfold laws_FnExactMintToken.f laws_toMinted.f laws_szMinted.f
  simp only [Option.bind_some, mint_spec, mint_impl]
  repeat' split
  all_goals first | rfl | simp_all

end Go.Proofs.Ytkcdhphhacjkhaa.Pure
