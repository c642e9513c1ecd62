/- 'clear(s[m:])' on an own list: the cut-off front of the list is told as before. -/
import Derived.Test.YthkmjfapljmmpaaWWords
import Derived.Lib.SliceRun
namespace Go.Proofs.Ythkmjfapljmmpaa.DelK
open Go.RowKit Go.Proofs.YthkmjfapljmmpaaW.PrintWords Go.Proofs.YthkmjfapljmmpaaW.PrintWords.Kd
theorem zeroCells_len (z : Array Value) (n : Nat) : (Builtin.zeroCells z n).toList.length = n * z.size := by simp [Builtin.zeroCells]
theorem zeroCells_one (z : Array Value) (h : ∀ u ∈ z.toList, u.oneCell' = true) (n : Nat) : ∀ u ∈ (Builtin.zeroCells z n).toList, u.oneCell' = true := by
  intro u hu
  simp only [Builtin.zeroCells, Array.toList_map, List.mem_map, Array.mem_toList_iff, Array.mem_range] at hu
  obtain ⟨i, hi, rfl⟩ := hu
  have hs : 0 < z.size := by
    rcases Nat.eq_zero_or_pos z.size with h0 | h0
    · rw [h0, Nat.mul_zero] at hi; omega
    · exact h0
  have hlt : i % z.size < z.size := Nat.mod_lt _ hs
  rw [getElem!_pos z _ hlt]
  exact h _ (by simp)
section
variable {P : Program} {α : Type}
theorem R_clear_run (d : Kd α) {W : World} (base : Nat) (t ty e : TypeId) (z : Value) (ht : P.underlying t = some (.slice e)) (hv : ∀ w, (zeroValue e).run P w = .ok z w) (hz : z.cells.size = d.sz) (h1 : ∀ u ∈ z.cells.toList, u.oneCell' = true)
    {g n c m : Nat} {xs : List α} {ok : Nat → Prop} (HO : d.R e W base ok (.slice (some ⟨g, 0, none⟩) n c) xs) (hm : m ≤ n) (A : Option Addr) (hA : m < n → A = some ⟨g, m * d.sz, none⟩) (c2 : Nat) :
    ∃ w1, (Builtin.clear_ #[t] ty #[.slice A (n - m) c2]).run P W = .ok (.tuple #[]) w1 ∧ d.R e w1 base ok (.slice (some ⟨g, 0, none⟩) m c) (xs.take m) ∧ W.grownBy w1 (some g) := by
  obtain ⟨hn, hnc, _⟩ := R_reads' HO
  rcases Nat.lt_or_ge m n with hlt | hge
  · have hAA := hA hlt
    subst hAA
    obtain ⟨k, hk⟩ : ∃ k, n - m = k + 1 := ⟨n - m - 1, by omega⟩
    obtain ⟨vs, hvs⟩ : ∃ vs, vs = (Builtin.zeroCells z.cells (n - m)).toList := ⟨_, rfl⟩
    have hvl : vs.length = (n - m) * d.sz := by rw [hvs, zeroCells_len, hz]
    have hv1 : ∀ u ∈ vs, u.oneCell' = true := by rw [hvs]; exact zeroCells_one _ h1 _
    have HT := R_take HO (m := m) (by omega)
    obtain ⟨hok, inner, hown, hr⟩ := HT
    rcases hown.2 with ⟨hv', _⟩ | ⟨g', cap', cur, hv', hb, hh, hml, hcm, hcs, htake⟩
    · cases hv'
    injection hv' with ha _ hc
    injection ha with ha
    injection ha with hg
    subst hg; subst hc
    have hsub : (n - m) * d.sz = n * d.sz - m * d.sz := Nat.sub_mul _ _ _
    have hmn : m * d.sz ≤ n * d.sz := Nat.mul_le_mul_right _ hm
    have hnc' : n * d.sz ≤ c * d.sz := Nat.mul_le_mul_right _ hnc
    have hfit : m * d.sz + vs.length ≤ cur.size := by omega
    have hst := run_storeCells_cells (P := P) g (m * d.sz) vs 0 W
      (fun j hj => by rw [cell_of_row W g _ cur e (0, 0) hh]; simp; omega) (fun j _ => blk_frozen hh _) hv1
    simp only [Nat.add_zero] at hst
    obtain ⟨cur', h3, h4, h5⟩ := setCells_row vs (m * d.sz) W cur hh hfit
    obtain ⟨s1, s2, s3, s4⟩ := setCells_same g vs (m * d.sz) W
    have hfar : ∀ k', k' ≠ g → (W.setCells g (m * d.sz) vs).heap[k']? = W.heap[k']? := fun k' hk' => setCells_far vs _ k' hk'
    have hrun : (Builtin.clear_ #[t] ty #[.slice (some ⟨g, m * d.sz, none⟩) (n - m) c2]).run P W = .ok (.tuple #[]) (W.setCells g (m * d.sz) vs) := by
      rw [hvs] at hst ⊢
      rw [hk] at hst ⊢
      simp [Builtin.clear_, run_underlying ht, hv, hst]
    have hgo : ∀ m', some g = (Value.slice (some ⟨g, 0, none⟩) m' c).ownBlock := fun m' => by simp [Value.ownBlock]
    have htl : (xs.take m).length = m := by rw [List.length_take]; omega
    refine ⟨_, hrun, ⟨hok, inner, ⟨hown.1, .inr ⟨g, c, cur', by rw [htl], hb, h3, hml, hcm, by rw [h4, hcs], ?_⟩⟩, ?_⟩, ⟨s1, s2, s3, by rw [s4]; exact Nat.le_refl _, fun k' _ hne => hfar k' (fun he => hne (by rw [he]))⟩⟩
    · rw [htl] at htake ⊢
      rw [h5, ← htake, List.append_assoc]
      exact List.take_left' (by rw [List.length_take, Array.length_toList, hcs]; omega)
    · exact hr.imp_ fun p q hp => d.M_move (fun k' hk' => hfar k' (fun he => hk'.2 (by rw [← hgo, he]))) hp
  · have e : m = n := by omega
    subst e
    refine ⟨W, ?_, ?_, ⟨rfl, rfl, rfl, Nat.le_refl _, fun _ _ _ => rfl⟩⟩
    · rw [Nat.sub_self]
      cases A <;> simp [Builtin.clear_, run_underlying ht]
    · rw [List.take_of_length_le (by omega)]
      exact HO
end
/-! ### what is deleted of a list, step by step -/
section
variable {S : Type}
theorem filt1 (p : S → Bool) (x : S) : [x].filter (fun x => !p x) = if p x = true then [] else [x] := by
  cases h : p x <;> simp [h]
theorem del_start (p : S → Bool) (z : S) (l : List S) (i : Nat) (hi : i < l.length) (hp : p (l.getD i z) = true) (hne : ∀ j, j < i → p (l.getD j z) = false) : l.take i = (l.take (i + 1)).filter fun x => !p x := by
  have hx : l.getD i z = l[i] := by rw [List.getD_eq_getElem?_getD, List.getElem?_eq_getElem hi]; rfl
  rw [List.take_succ_eq_append_getElem hi, List.filter_append, ← hx]
  have e1 : ([l.getD i z] : List S).filter (fun x => !p x) = [] := by rw [filt1, if_pos hp]
  have e2 : (l.take i).filter (fun x => !p x) = l.take i := by
    rw [List.filter_eq_self]
    intro a ha
    obtain ⟨j, hj, rfl⟩ := List.getElem_of_mem ha
    have hj2 : j < i ∧ j < l.length := by rw [List.length_take] at hj; omega
    have h := hne j hj2.1
    rw [List.getD_eq_getElem?_getD, List.getElem?_eq_getElem hj2.2, Option.getD_some] at h
    rw [List.getElem_take, h]
    rfl
  rw [e1, e2, List.append_nil]
theorem del_drop (p : S → Bool) (z : S) (l ys : List S) (i j : Nat) (hj : j < l.length) (h1 : ys.take i = (l.take j).filter fun x => !p x) (h2 : ys.drop j = l.drop j) (hp : p (ys.getD j z) = true) :
    (ys.take i = (l.take (j + 1)).filter fun x => !p x) ∧ ys.drop (j + 1) = l.drop (j + 1) := by
  have e : ys.getD j z = l[j] := by
    have h3 : (ys.drop j)[0]? = (l.drop j)[0]? := by rw [h2]
    rw [List.getElem?_drop, List.getElem?_drop, Nat.add_zero, List.getElem?_eq_getElem hj] at h3
    rw [List.getD_eq_getElem?_getD, h3, Option.getD_some]
  refine ⟨?_, by rw [← List.drop_drop, ← List.drop_drop, h2]⟩
  rw [List.take_succ_eq_append_getElem hj, List.filter_append, ← e, h1, filt1, if_pos hp, List.append_nil]
theorem del_keep (p : S → Bool) (z : S) (l ys : List S) (i j : Nat) (hj : j < l.length) (hij : i < j) (h1 : ys.take i = (l.take j).filter fun x => !p x) (h2 : ys.drop j = l.drop j) (hl : ys.length = l.length) (hp : p (ys.getD j z) = false) :
    ((ys.set i (ys.getD j z)).take (i + 1) = (l.take (j + 1)).filter fun x => !p x) ∧ (ys.set i (ys.getD j z)).drop (j + 1) = l.drop (j + 1) := by
  have e : ys.getD j z = l[j] := by
    have h3 : (ys.drop j)[0]? = (l.drop j)[0]? := by rw [h2]
    rw [List.getElem?_drop, List.getElem?_drop, Nat.add_zero, List.getElem?_eq_getElem hj] at h3
    rw [List.getD_eq_getElem?_getD, h3, Option.getD_some]
  refine ⟨?_, ?_⟩
  · have hi : i < (ys.set i (ys.getD j z)).length := by rw [List.length_set]; omega
    rw [List.take_succ_eq_append_getElem hi, List.getElem_set_self, List.take_set_of_le (Nat.le_refl i), h1, List.take_succ_eq_append_getElem hj, List.filter_append, ← e, filt1, if_neg (by rw [hp]; exact Bool.false_ne_true)]
  · rw [List.drop_set_of_lt (by omega), ← List.drop_drop, ← List.drop_drop, h2]
end
end Go.Proofs.Ythkmjfapljmmpaa.DelK
