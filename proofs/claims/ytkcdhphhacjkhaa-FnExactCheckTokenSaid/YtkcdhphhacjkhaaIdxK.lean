/- The first place in a list at which a test says yes, as slices.IndexFunc tells it. -/
import Derived.Test.YtkcdhphhacjkhaaWWords
namespace Go.Proofs.Ytkcdhphhacjkhaa.IdxK
variable {S : Type}
/-! ### the first place at which a test says yes -/
def idxFrom (p : S → Bool) : List S → Nat → Int
  | [], _ => -1
  | x :: r, i => if p x = true then (i : Int) else idxFrom p r (i + 1)
/-- The first place, or -1. -/
def idxF (p : S → Bool) (l : List S) : Int := idxFrom p l 0
theorem idxFrom_miss (p : S → Bool) : ∀ (l : List S) (i : Nat), (∀ x, x ∈ l → p x = false) → idxFrom p l i = -1
  | [], _, _ => rfl
  | x :: r, i, h => by
    have h0 := h x (by simp)
    simp only [idxFrom, h0, Bool.false_eq_true, if_false]
    exact idxFrom_miss p r (i + 1) (fun y hy => h y (by simp [hy]))
theorem idxFrom_hit (p : S → Bool) (z : S) : ∀ (l : List S) (i k : Nat), k < l.length → p (l.getD k z) = true → (∀ j, j < k → p (l.getD j z) = false) → idxFrom p l i = ((i + k : Nat) : Int)
  | [], _, _, hk, _, _ => absurd hk (Nat.not_lt_zero _)
  | x :: r, i, 0, _, h, _ => by
    have h0 : p x = true := by simpa using h
    simp [idxFrom, h0]
  | x :: r, i, k + 1, hk, h, hne => by
    have h0 : p x = false := by simpa using hne 0 (Nat.succ_pos _)
    have ih := idxFrom_hit p z r (i + 1) k (by simpa using hk) (by simpa using h) (fun j hj => by simpa using hne (j + 1) (by omega))
    simp only [idxFrom, h0, Bool.false_eq_true, if_false]
    rw [ih]
    omega
theorem idxF_hit (p : S → Bool) (z : S) (l : List S) (k : Nat) (hk : k < l.length) (h : p (l.getD k z) = true) (hne : ∀ j, j < k → p (l.getD j z) = false) : idxF p l = (k : Int) := by
  have := idxFrom_hit p z l 0 k hk h hne
  simpa [idxF] using this
theorem idxF_miss (p : S → Bool) (z : S) (l : List S) (hne : ∀ j, j < l.length → p (l.getD j z) = false) : idxF p l = -1 := by
  refine idxFrom_miss p l 0 (fun x hx => ?_)
  obtain ⟨j, hj, rfl⟩ := List.getElem_of_mem hx
  have := hne j hj
  rw [List.getD_eq_getElem?_getD, List.getElem?_eq_getElem hj] at this
  exact this
theorem idxFrom_ge (p : S → Bool) : ∀ (l : List S) (i : Nat), -1 ≤ idxFrom p l i ∧ (idxFrom p l i < 0 ↔ l.any p = false)
  | [], i => by simp [idxFrom]
  | x :: r, i => by
    have ih := idxFrom_ge p r (i + 1)
    cases h : p x with
    | true => simp [idxFrom, h] <;> omega
    | false => simpa [idxFrom, h] using ih
theorem idxF_nn (p : S → Bool) (l : List S) : decide (0 ≤ idxF p l) = l.any p := by
  have h := idxFrom_ge p l 0
  cases ha : l.any p with
  | true =>
    have : ¬ (idxFrom p l 0 < 0) := by rw [h.2, ha]; simp
    exact decide_eq_true (by unfold idxF; omega)
  | false =>
    have : idxFrom p l 0 < 0 := h.2.2 ha
    exact decide_eq_false (by unfold idxF; omega)
theorem idxFrom_lt (p : S → Bool) : ∀ (l : List S) (i : Nat), idxFrom p l i < ((i + l.length : Nat) : Int)
  | [], i => by simp only [idxFrom]; omega
  | x :: r, i => by
    have ih := idxFrom_lt p r (i + 1)
    simp only [idxFrom, List.length_cons]
    split <;> omega
theorem idxF_lt (p : S → Bool) (l : List S) : idxF p l < (l.length : Int) := by
  have := idxFrom_lt p l 0
  unfold idxF
  omega
theorem idxFrom_find (p : S → Bool) (z : S) : ∀ (l : List S) (i : Nat), (0 ≤ idxFrom p l i ↔ (l.find? p).isSome) ∧ (∀ x, l.find? p = some x → l.getD ((idxFrom p l i).toNat - i) z = x ∧ i ≤ (idxFrom p l i).toNat)
  | [], i => by simp [idxFrom]
  | y :: r, i => by
    obtain ⟨h1, h2⟩ := idxFrom_find p z r (i + 1)
    cases h : p y with
    | true => simp [idxFrom, h]
    | false =>
      simp only [idxFrom, h, Bool.false_eq_true, if_false, List.find?_cons]
      refine ⟨h1, fun x hx => ?_⟩
      obtain ⟨k1, k2⟩ := h2 x hx
      refine ⟨?_, by omega⟩
      have e : (idxFrom p r (i + 1)).toNat - i = ((idxFrom p r (i + 1)).toNat - (i + 1)) + 1 := by omega
      rw [e, List.getD_cons_succ, k1]
theorem idxF_find (p : S → Bool) (z : S) (l : List S) : (0 ≤ idxF p l ↔ (l.find? p).isSome) ∧ (∀ x, l.find? p = some x → l.getD (idxF p l).toNat z = x) := by
  obtain ⟨h1, h2⟩ := idxFrom_find p z l 0
  refine ⟨h1, fun x hx => ?_⟩
  have h3 := (h2 x hx).1
  rw [Nat.sub_zero] at h3
  exact h3
theorem idxFrom_parts (p : S → Bool) (z : S) : ∀ (l : List S) (i : Nat), (idxFrom p l i = -1 ∧ ∀ x, x ∈ l → p x = false) ∨ ∃ k, k < l.length ∧ idxFrom p l i = ((i + k : Nat) : Int) ∧ p (l.getD k z) = true ∧ ∀ j, j < k → p (l.getD j z) = false
  | [], _ => .inl ⟨rfl, fun x hx => by cases hx⟩
  | x :: r, i => by
    cases h : p x with
    | true => exact .inr ⟨0, by simp, by simp [idxFrom, h], by simpa using h, fun j hj => absurd hj (Nat.not_lt_zero _)⟩
    | false =>
      rcases idxFrom_parts p z r (i + 1) with ⟨h1, h2⟩ | ⟨k, hk, h1, h2, h3⟩
      · exact .inl ⟨by simp [idxFrom, h, h1], fun y hy => by
          rcases List.mem_cons.1 hy with rfl | hy
          · exact h
          · exact h2 y hy⟩
      · refine .inr ⟨k + 1, by simpa using hk, by simp only [idxFrom, h, Bool.false_eq_true, if_false, h1]; omega, by simpa using h2, fun j hj => ?_⟩
        cases j with
        | zero => simpa using h
        | succ j => simpa using h3 j (by omega)
theorem idxF_parts (p : S → Bool) (z : S) (l : List S) : (idxF p l = -1 ∧ ∀ x, x ∈ l → p x = false) ∨ ∃ k, k < l.length ∧ idxF p l = (k : Int) ∧ p (l.getD k z) = true ∧ ∀ j, j < k → p (l.getD j z) = false := by
  rcases idxFrom_parts p z l 0 with h | ⟨k, hk, h1, h2, h3⟩
  · exact .inl h
  · exact .inr ⟨k, hk, by unfold idxF; rw [h1, Nat.zero_add], h2, h3⟩
end Go.Proofs.Ytkcdhphhacjkhaa.IdxK
