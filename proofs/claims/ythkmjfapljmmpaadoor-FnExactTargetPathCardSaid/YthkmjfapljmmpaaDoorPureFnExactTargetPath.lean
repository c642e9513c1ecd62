/- The pure statement of the law FnExactTargetPath: the program's function and the reference answer alike. -/
import Derived.Test.YthkmjfapljmmpaaDoorSFnExactTargetPath
namespace Go.Proofs.YthkmjfapljmmpaaDoor.Pure
open Go.RowKit Go.Proofs.YthkmjfapljmmpaaDoor.PFnExactTargetPath Go.Proofs.YthkmjfapljmmpaaDoorW.PrintWords Go.Proofs.YthkmjfapljmmpaaDoorW.PrintLast Go.Proofs.YthkmjfapljmmpaaDoor.SFnExactTargetPath
set_option linter.unusedVariables false
set_option linter.unusedSimpArgs false

theorem l1In_eq (a b c : Int) : spec_l1In.f a b c = some (decide (b ≤ a ∧ a ≤ c)) := by
  unfold spec_l1In.f
  by_cases h : b ≤ a
  · rw [if_pos h]; simp [h]
  · rw [if_neg h]; simp [h]
theorem in_eq (a b c : Int) : impl_in.f a b c = some (decide (b ≤ a ∧ a ≤ c)) := l1In_eq a b c
theorem and_ite (p q : Prop) [Decidable p] [Decidable q] : (if p then some (decide q) else some false) = some (decide (p ∧ q)) := by
  by_cases h : p <;> simp [h]

theorem hostSign_all : ∀ n : Fin 256, hostSign ((n : Nat) : Int) = decide ((97 ≤ (n : Nat) ∧ (n : Nat) ≤ 122) ∨ (48 ≤ (n : Nat) ∧ (n : Nat) ≤ 57) ∨ (n : Nat) = 46 ∨ (n : Nat) = 45) := by decide +kernel
theorem hostSign_eq (b : Int) (h : 0 ≤ b ∧ b ≤ 255) : hostSign b = decide ((97 ≤ b ∧ b ≤ 122) ∨ (48 ≤ b ∧ b ≤ 57) ∨ b = 46 ∨ b = 45) := by
  obtain ⟨n, rfl⟩ : ∃ n : Nat, b = (n : Int) := ⟨b.toNat, by omega⟩
  have h2 := hostSign_all ⟨n, by omega⟩
  simp only at h2
  rw [h2]
  congr 1
  exact propext ⟨fun h => by omega, fun h => by omega⟩
/-- Are the bytes from i on all signs of a host? -/
def hostFrom (s : ByteArray) (i : Nat) : Bool := decide (∀ j : Nat, j < s.size → i ≤ j → hostSign (bt s (j : Int)) = true)
theorem hostFrom_end (s : ByteArray) : hostFrom s s.size = true := decide_eq_true (fun j h1 h2 => absurd h1 (by omega))
theorem hostFrom_step (s : ByteArray) (i : Nat) (h : i < s.size) : hostFrom s i = (hostSign (bt s (i : Int)) && hostFrom s (i + 1)) := by
  rw [Bool.eq_iff_iff]
  simp only [hostFrom, decide_eq_true_eq, Bool.and_eq_true]
  constructor
  · intro h2
    exact ⟨h2 i h (Nat.le_refl _), fun j h3 h4 => h2 j h3 (by omega)⟩
  · rintro ⟨h2, h3⟩ j h5 h4
    by_cases e : j = i
    · rw [e]; exact h2
    · exact h3 j h5 (by omega)
theorem hostFrom_all (s : ByteArray) : hostFrom s 0 = hostAll s := by
  rw [Bool.eq_iff_iff]
  simp only [hostFrom, hostAll, decide_eq_true_eq]
  exact ⟨fun h i hi => h i hi (Nat.zero_le _), fun h j hj _ => h j hj⟩
theorem host_loop (s : ByteArray) (hs : s.size ≤ 4611686018427387904) : ∀ d i : Nat, i + d = s.size → Ev (fun k => spec_l17Host.l0 k s (i : Int)) (hostFrom s i && decide (1 ≤ (s.size : Int) ∧ (s.size : Int) ≤ 60)) := by
  intro d
  induction d with
  | zero =>
    intro i hi
    obtain rfl : i = s.size := by omega
    refine Ev.step (f := fun _ => some (decide (1 ≤ (s.size : Int) ∧ (s.size : Int) ≤ 60))) (fun k => ?_) ?_
    · simp only [spec_l17Host.l0, Int.lt_irrefl, if_false, l1In_eq, Option.bind_some]
    · rw [hostFrom_end, Bool.true_and]
      exact Ev.now _
  | succ d ih =>
    intro i hi
    have h1 : (i : Int) < (s.size : Int) := by omega
    have h2 : (0 : Int) ≤ (i : Int) := by omega
    have hr := bt_range s (i : Int)
    have hw : wrap64 ((i : Int) + 1) = ((i + 1 : Nat) : Int) := by unfold wrap64; omega
    refine Ev.step (f := fun k => spec_l17Host.j1 k s (i : Int) (!hostSign (bt s (i : Int)))) (fun k => ?_) ?_
    · simp only [spec_l17Host.l0, h1, h2, if_true]
      rw [hostSign_eq _ hr]
      generalize bt s (i : Int) = b at hr ⊢
      have e7 : b ≠ 45 → (b == 45) = false := fun h => by simp [h]
      by_cases e : (97 ≤ b ∧ b ≤ 122) ∨ (48 ≤ b ∧ b ≤ 57) ∨ b = 46 ∨ b = 45
      · rw [decide_eq_true e]
        by_cases a1 : b ≥ 97
        · rw [if_pos a1, if_pos (show b ≤ 122 by omega)]
        · rw [if_neg a1]
          by_cases a3 : b ≥ 48
          · rw [if_pos a3, if_pos (show b ≤ 57 by omega)]
          · rw [if_neg a3]
            by_cases a5 : b = 46
            · rw [if_pos a5]
            · rw [if_neg a5]
              have a6 : b = 45 := by omega
              rw [a6]
              rfl
      · rw [decide_eq_false e]
        have a7 := e7 (by omega)
        have a5 : ¬ b = 46 := by omega
        by_cases a1 : b ≥ 97
        · rw [if_pos a1, if_neg (show ¬ b ≤ 122 by omega), if_pos (show b ≥ 48 by omega), if_neg (show ¬ b ≤ 57 by omega), if_neg a5, a7]
        · rw [if_neg a1]
          by_cases a3 : b ≥ 48
          · rw [if_pos a3, if_neg (show ¬ b ≤ 57 by omega), if_neg a5, a7]
          · rw [if_neg a3, if_neg a5, a7]
    · rw [hostFrom_step s i (by omega)]
      cases hostSign (bt s (i : Int)) with
      | false =>
        refine Ev.step (f := fun _ => some false) (fun k => ?_) (Ev.now _)
        simp only [spec_l17Host.j1, Bool.not_false, if_true]
      | true =>
        refine Ev.step (f := fun k => spec_l17Host.l0 k s ((i + 1 : Nat) : Int)) (fun k => ?_) ?_
        · simp only [spec_l17Host.j1, Bool.not_true, Bool.false_eq_true, if_false, hw]
        · rw [Bool.true_and]
          exact ih (i + 1) (by omega)
theorem specHost_ev (s : ByteArray) (hs : s.size ≤ 4611686018427387904) : Ev (fun k => spec_l17Host.f k s) (hostAll s && decide (1 ≤ (s.size : Int) ∧ (s.size : Int) ≤ 60)) := by
  have h := host_loop s hs s.size 0 (by omega)
  rw [hostFrom_all] at h
  exact h
theorem num_digits (n : Nat) (h : n ≤ 65535) : Ev (fun k => spec_l1Num.f k (n : Int)) (⟨(Lib.decDigits n).toArray⟩ : ByteArray) := by
  induction n using Nat.strongRecOn with
  | _ n ih =>
    by_cases h1 : n < 10
    · refine Ev.step (f := fun _ => some (⟨(Lib.decDigits n).toArray⟩ : ByteArray)) (fun k => ?_) (Ev.now _)
      have h2 : (n : Int) < 10 := by omega
      have e1 : (wrap64 (48 + (n : Int))) % 256 = ((48 + n : Nat) : Int) := by unfold wrap64; omega
      simp only [spec_l1Num.f, h2, if_true, e1, strOfNums, List.map_cons, List.map_nil, Int.toNat_natCast, Lib.decDigits_one h1]
    · have h2 : ¬ ((n : Int) < 10) := by omega
      have e1 : wrap64 (Int.tdiv (n : Int) 10) = ((n / 10 : Nat) : Int) := by
        rw [Int.tdiv_eq_ediv_of_nonneg (by omega)]
        unfold wrap64
        omega
      have e2 : (wrap64 (48 + (Int.tmod (n : Int) 10))) % 256 = ((48 + n % 10 : Nat) : Int) := by
        rw [Int.tmod_eq_emod_of_nonneg (by omega)]
        unfold wrap64
        omega
      have hd : Lib.decDigits n = Lib.decDigits (n / 10) ++ [UInt8.ofNat (48 + n % 10)] := by
        rw [Lib.decDigits, dif_neg h1]
      have hlen : (Lib.decDigits (n / 10)).length ≤ 21 := by
        have h3 := Lib.itoa_length_le ((n / 10 : Nat) : Int) (by omega) (by omega)
        rwa [Lib.itoa_nonneg] at h3
      refine Ev.step (f := fun k => (spec_l1Num.f k ((n / 10 : Nat) : Int)).bind fun t => if t.size + (strOfNums [((48 + n % 10 : Nat) : Int)]).size ≤ 9223372036854775807 then some (t ++ strOfNums [((48 + n % 10 : Nat) : Int)]) else none) (fun k => ?_) ?_
      · simp only [spec_l1Num.f, h2, if_false, e1, e2, Option.bind_some]
      · refine Ev.bind (ih (n / 10) (by omega) (by omega)) ?_
        have hsz : (⟨(Lib.decDigits (n / 10)).toArray⟩ : ByteArray).size + (strOfNums [((48 + n % 10 : Nat) : Int)]).size ≤ 9223372036854775807 := by
          show (Lib.decDigits (n / 10)).toArray.size + 1 ≤ _
          simp
          omega
        rw [if_pos hsz]
        have e3 : (⟨(Lib.decDigits (n / 10)).toArray⟩ : ByteArray) ++ strOfNums [((48 + n % 10 : Nat) : Int)] = ⟨(Lib.decDigits n).toArray⟩ := by
          apply ByteArray.ext
          rw [ByteArray.data_append, hd]
          have e4 : (((48 + n % 10 : Nat) : Int)).toNat = 48 + n % 10 := Int.toNat_natCast _
          simp only [strOfNums, List.map_cons, List.map_nil, e4]
          simp
        rw [e3]
        exact Ev.now _

theorem FnExactTargetPath : SFnExactTargetPath.Pure := by
  intro s n hs hn
  by_cases h0 : 1048576 < s.size
  · exact ⟨0, Or.inl h0⟩
  · have h1 : s.size ≤ 1048576 := by omega
    obtain ⟨k1, e1⟩ := specHost_ev s (by omega)
    have e2 : impl_isHost.f s = some (hostAll s && decide (1 ≤ (s.size : Int) ∧ (s.size : Int) ≤ 60)) := by
      unfold impl_isHost.f
      rw [if_pos (by omega)]
    have e3 : impl_isPort.f n = some (decide (1 ≤ n ∧ n ≤ 65535)) := by unfold impl_isPort.f; simp only [in_eq, Option.bind_some]
    have e4 : spec_l17Port.f n = some (decide (1 ≤ n ∧ n ≤ 65535)) := by unfold spec_l17Port.f; simp only [l1In_eq, Option.bind_some]
    cases hb : (hostAll s && decide (1 ≤ (s.size : Int) ∧ (s.size : Int) ≤ 60)) with
    | false =>
      rw [hb] at e1 e2
      exact ⟨k1, Or.inr ⟨h1, Or.inl ⟨e2, e1 _ (Nat.le_refl _)⟩⟩⟩
    | true =>
      have h2 : s.size ≤ 60 := by
        simp only [Bool.and_eq_true, decide_eq_true_eq] at hb
        omega
      rw [hb] at e1 e2
      by_cases hp : 1 ≤ n ∧ n ≤ 65535
      · rw [decide_eq_true hp] at e3 e4
        obtain ⟨m, rfl⟩ : ∃ m : Nat, n = (m : Int) := ⟨n.toNat, by omega⟩
        obtain ⟨k2, e5⟩ := num_digits m (by omega)
        refine ⟨k1 + k2, Or.inr ⟨h1, Or.inr (Or.inr ⟨e2, e1 _ (by omega), e3, e4, ?_, h2, hp⟩)⟩⟩
        rw [Lib.itoa_nonneg]
        exact e5 _ (by omega)
      · rw [decide_eq_false hp] at e3 e4
        exact ⟨k1, Or.inr ⟨h1, Or.inr (Or.inl ⟨e2, e1 _ (by omega), e3, e4⟩)⟩⟩

end Go.Proofs.YthkmjfapljmmpaaDoor.Pure
