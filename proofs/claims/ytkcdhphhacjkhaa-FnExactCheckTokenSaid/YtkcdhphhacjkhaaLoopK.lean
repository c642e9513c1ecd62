/- Loops over lists, told once: whatever number of rounds is needed is there in the end ('Ev'). For the laws' copies, comparisons and marks, and for searches. -/
import Derived.Test.YtkcdhphhacjkhaaWWords
import Derived.RowKit
namespace Go.Proofs.Ytkcdhphhacjkhaa.LoopK
open Go.RowKit Go.Proofs.YtkcdhphhacjkhaaW.PrintWords

variable {S T α β : Type}

theorem Ev.succ {g : Nat → Option α} {r : α} (h : Ev (fun k => g (k + 1)) r) : Ev g r := Ev.step (fun _ => rfl) h
theorem Ev.some_ (r : α) : Ev (fun _ => some r) r := Ev.now r
theorem Ev.eq_ {g : Nat → Option α} {r : α} (h : ∀ k, g k = some r) : Ev g r := ⟨0, fun k _ => h k⟩
theorem Ev.bind_ {g : Nat → Option α} {f : Nat → α → Option β} {a : α} {r : β} (h : Ev g a) (k : Ev (fun n => f n a) r) : Ev (fun n => (g n).bind (f n)) r := Ev.bind h k
theorem Ev.to {g : Nat → Option α} {r r' : α} (h : Ev g r) (e : r = r') : Ev g r' := e ▸ h

theorem w64 (n : Int) (h : -9223372036854775808 ≤ n ∧ n ≤ 9223372036854775807) : wrap64 n = n := by unfold wrap64; omega

/-! ### places in a list -/
theorem at_lt (p : List S) (x : S) (r : List S) : ((p.length : Int) < ((p ++ x :: r).length : Int)) := by simp <;> omega
theorem at_nn (p : List S) : 0 ≤ (p.length : Int) := Int.natCast_nonneg _
theorem at_lt' (p : List S) (q : List T) (y : T) (s : List T) (h : q.length = p.length) : (p.length : Int) < ((q ++ y :: s).length : Int) := by simp <;> omega
theorem at_stop (xs : List S) : ¬ ((xs.length : Int) < (xs.length : Int)) := by omega
theorem at_set2 (p : List S) (q : List T) (x y : T) (r : List T) (h : q.length = p.length) : (q ++ x :: r).set (p.length : Int).toNat y = q ++ y :: r := by
  rw [← h]; simp
theorem at_nlt (p : List S) : ¬ ((p.length : Int) < ((p ++ []).length : Int)) := by simp
theorem at_getD (p : List S) (x : S) (r : List S) (z : S) : (p ++ x :: r).getD (p.length : Int).toNat z = x := by simp
theorem at_set (p : List S) (x y : S) (r : List S) : (p ++ x :: r).set (p.length : Int).toNat y = p ++ y :: r := by simp
theorem at_set' (p : List S) (q : List T) (x y : S) (r : List S) (h : q.length = p.length) : (p ++ x :: r).set (q.length : Int).toNat y = p ++ y :: r := by
  rw [h]; simp
theorem at_snoc (p : List S) (x : S) (r : List S) : p ++ x :: r = (p ++ [x]) ++ r := by simp
theorem len_snoc (p : List S) (x : S) : ((p ++ [x]).length : Int) = (p.length : Int) + 1 := by simp
theorem at_w (p : List S) (x : S) (r : List S) (h : (p ++ x :: r).length ≤ 4611686018427387904) : wrap64 ((p.length : Int) + 1) = (p.length : Int) + 1 := by
  apply w64
  simp at h
  omega

/-! ### a copy, element by element -/
theorem copyEv (L : Nat → List S → List T → Int → Option (List T)) (conv : S → T) (z : T) (B : Nat)
    (stop : ∀ xs ys, Ev (fun k => L k xs ys (xs.length : Int)) ys)
    (step : ∀ (p : List S) (x : S) (r : List S) (q : List T) (y : T) (s : List T) (res : List T), q.length = p.length → (p ++ x :: r).length ≤ B → s.length = r.length →
      Ev (fun k => L k (p ++ x :: r) (q ++ conv x :: s) ((p.length : Int) + 1)) res → Ev (fun k => L k (p ++ x :: r) (q ++ y :: s) (p.length : Int)) res) :
    ∀ (r p : List S), (p ++ r).length ≤ B → Ev (fun k => L k (p ++ r) (p.map conv ++ List.replicate r.length z) (p.length : Int)) ((p ++ r).map conv)
  | [], p, _ => by
    have h := stop (p ++ []) (p.map conv ++ [])
    simp only [List.append_nil] at h ⊢
    simpa using h
  | x :: r, p, hB => by
    have ih := copyEv L conv z B stop step r (p ++ [x]) (by simpa using hB)
    rw [List.length_cons, List.replicate_succ]
    refine step p x r (p.map conv) z (List.replicate r.length z) _ (by simp) hB (by simp) ?_
    have e1 : p.map conv ++ conv x :: List.replicate r.length z = (p ++ [x]).map conv ++ List.replicate r.length z := by simp
    rw [e1, at_snoc, ← len_snoc p x]
    exact ih

/-! ### two lists alike -/
theorem sameEv (L : Nat → List S → List S → Int → Option Bool) (B : Nat)
    (stop : ∀ xs ys, Ev (fun k => L k xs ys (xs.length : Int)) true)
    (step : ∀ (p : List S) (x : S) (r : List S), (p ++ x :: r).length ≤ B → Ev (fun k => L k (p ++ x :: r) (p ++ x :: r) ((p.length : Int) + 1)) true → Ev (fun k => L k (p ++ x :: r) (p ++ x :: r) (p.length : Int)) true) :
    ∀ (r p : List S), (p ++ r).length ≤ B → Ev (fun k => L k (p ++ r) (p ++ r) (p.length : Int)) true
  | [], p, _ => by
    have h := stop (p ++ []) (p ++ [])
    simpa using h
  | x :: r, p, hB => by
    have ih := sameEv L B stop step r (p ++ [x]) (by simpa using hB)
    refine step p x r hB ?_
    rw [at_snoc, ← len_snoc p x]
    exact ih

/-! ### marks: element by element a value that tells the place, c numbers each -/
def mk (g : S → Int → S) (c : Int) : List S → Int → List S
  | [], _ => []
  | x :: r, a => g x a :: mk g c r (a + c)
theorem mk_length (g : S → Int → S) (c : Int) : ∀ (l : List S) (a : Int), (mk g c l a).length = l.length
  | [], _ => rfl
  | _ :: r, a => by simp [mk, mk_length g c r]
theorem markEv (L : Nat → List S → Int → Int → Option (Int × List S)) (g : S → Int → S) (c : Int) (hc : 0 ≤ c) (B : Nat)
    (stop : ∀ xs a, Ev (fun k => L k xs a (xs.length : Int)) (a, xs))
    (step : ∀ (p : List S) (x : S) (r : List S) (a : Int) (res : Int × List S), (p ++ x :: r).length ≤ B → 0 ≤ a → a + c ≤ 4611686018427387904 →
      Ev (fun k => L k (p ++ g x a :: r) (a + c) ((p.length : Int) + 1)) res → Ev (fun k => L k (p ++ x :: r) a (p.length : Int)) res) :
    ∀ (r p : List S) (a : Int), (p ++ r).length ≤ B → 0 ≤ a → a + c * (r.length : Int) ≤ 4611686018427387904 → Ev (fun k => L k (p ++ r) a (p.length : Int)) (a + c * (r.length : Int), p ++ mk g c r a)
  | [], p, a, _, _, _ => by
    have h := stop (p ++ []) a
    simpa [mk] using h
  | x :: r, p, a, hB, h0, h1 => by
    have e : c * ((x :: r).length : Int) = c + c * (r.length : Int) := by rw [List.length_cons]; push_cast; rw [Int.mul_add, Int.mul_one, Int.add_comm]
    have hr : 0 ≤ c * (r.length : Int) := Int.mul_nonneg hc (by omega)
    rw [e] at h1 ⊢
    have ih := markEv L g c hc B stop step r (p ++ [g x a]) (a + c) (by simpa using hB) (by omega) (by omega)
    refine step p x r a _ hB h0 (by omega) ?_
    rw [at_snoc, ← len_snoc p (g x a)]
    refine LoopK.Ev.to ih ?_
    simp [mk, Int.add_assoc]
theorem heldEv (L : Nat → List S → Int → Int → Option Int) (g : S → Int → S) (c : Int) (hc : 0 ≤ c) (B : Nat)
    (stop : ∀ xs a, Ev (fun k => L k xs a (xs.length : Int)) a)
    (step : ∀ (p : List S) (x : S) (r : List S) (a : Int) (res : Int), (p ++ g x a :: r).length ≤ B → 0 ≤ a → a + c ≤ 4611686018427387904 →
      Ev (fun k => L k (p ++ g x a :: r) (a + c) ((p.length : Int) + 1)) res → Ev (fun k => L k (p ++ g x a :: r) a (p.length : Int)) res) :
    ∀ (r p : List S) (a : Int), (p ++ r).length ≤ B → 0 ≤ a → a + c * (r.length : Int) ≤ 4611686018427387904 → Ev (fun k => L k (p ++ mk g c r a) a (p.length : Int)) (a + c * (r.length : Int))
  | [], p, a, _, _, _ => by
    have h := stop (p ++ []) a
    simpa [mk] using h
  | x :: r, p, a, hB, h0, h1 => by
    have e : c * ((x :: r).length : Int) = c + c * (r.length : Int) := by rw [List.length_cons]; push_cast; rw [Int.mul_add, Int.mul_one, Int.add_comm]
    have hr : 0 ≤ c * (r.length : Int) := Int.mul_nonneg hc (by omega)
    rw [e] at h1 ⊢
    have ih := heldEv L g c hc B stop step r (p ++ [g x a]) (a + c) (by simpa using hB) (by omega) (by omega)
    refine step p x (mk g c r (a + c)) a _ (by simpa [mk_length] using hB) h0 (by omega) ?_
    rw [at_snoc, ← len_snoc p (g x a)]
    refine LoopK.Ev.to ih ?_
    omega

/-! ### a walk with a state: the plain fold that a loop over a list comes to -/
theorem foldEv (L : Nat → List S → α → Int → Option β) (B : Nat) (F : List S → List S → α → β)
    (stop : ∀ (p : List S) (a : α), Ev (fun k => L k p a (p.length : Int)) (F p [] a))
    (step : ∀ (p : List S) (x : S) (r : List S) (a : α), (p ++ x :: r).length ≤ B → (∀ a', Ev (fun k => L k (p ++ x :: r) a' ((p.length : Int) + 1)) (F (p ++ [x]) r a')) → Ev (fun k => L k (p ++ x :: r) a (p.length : Int)) (F p (x :: r) a)) :
    ∀ (r p : List S) (a : α), (p ++ r).length ≤ B → Ev (fun k => L k (p ++ r) a (p.length : Int)) (F p r a)
  | [], p, a, _ => by
    have h := stop p a
    simpa using h
  | x :: r, p, a, hB => by
    refine step p x r a hB fun a' => ?_
    have ih := foldEv L B F stop step r (p ++ [x]) a' (by simpa using hB)
    rw [at_snoc, ← len_snoc p x]
    exact ih
/-! ### the first element of which a test says yes -/
theorem firstEv (L : Nat → List S → Int → Option β) (t : S → Bool) (F : Option S → β) (B : Nat)
    (stop : ∀ xs, Ev (fun k => L k xs (xs.length : Int)) (F none))
    (hit : ∀ (p : List S) (x : S) (r : List S), (p ++ x :: r).length ≤ B → t x = true → Ev (fun k => L k (p ++ x :: r) (p.length : Int)) (F (some x)))
    (miss : ∀ (p : List S) (x : S) (r : List S) (b : β), (p ++ x :: r).length ≤ B → t x = false → Ev (fun k => L k (p ++ x :: r) ((p.length : Int) + 1)) b → Ev (fun k => L k (p ++ x :: r) (p.length : Int)) b) :
    ∀ (r p : List S), (p ++ r).length ≤ B → Ev (fun k => L k (p ++ r) (p.length : Int)) (F (r.find? t))
  | [], p, _ => by
    have h := stop (p ++ [])
    simpa using h
  | x :: r, p, hB => by
    cases hg : t x with
    | true =>
      have h := hit p x r hB hg
      simpa [hg] using h
    | false =>
      have ih := firstEv L t F B stop hit miss r (p ++ [x]) (by simpa using hB)
      have h := miss p x r (F (r.find? t)) hB hg (by
        rw [at_snoc, ← len_snoc p x]
        exact ih)
      simpa [hg] using h
theorem find_any (t : S → Bool) (l : List S) : (l.find? t).isSome = l.any t := by
  induction l with
  | nil => rfl
  | cons x r ih => cases h : t x <;> simp [h, ih]
/-! ### each element held against the one before it -/
def chk (good : Option S → S → Bool) : Option S → List S → Bool
  | _, [] => true
  | o, x :: r => good o x && chk good (some x) r
theorem last_or (p : List S) : p = [] ∨ ∃ p0 q, p = p0 ++ [q] := by
  rcases List.eq_nil_or_concat p with h | ⟨p0, q, h⟩
  · exact Or.inl h
  · exact Or.inr ⟨p0, q, by simpa using h⟩
theorem at_prev (p : List S) (q x : S) (r : List S) (z : S) : ((p ++ [q]) ++ x :: r).getD (((p ++ [q]).length : Int) - 1).toNat z = q := by
  have e : (((p ++ [q]).length : Int) - 1).toNat = p.length := by simp <;> omega
  rw [e]
  simp
theorem at_prev_lt (p : List S) (q x : S) (r : List S) : (((p ++ [q]).length : Int) - 1) < ((((p ++ [q]) ++ x :: r).length : Nat) : Int) := by simp <;> omega
theorem at_prev_nn (p : List S) (q : S) : 0 ≤ (((p ++ [q]).length : Int) - 1) := by simp
theorem at_prev_pos (p : List S) (q : S) : ((p ++ [q]).length : Int) > 0 := by simp <;> omega
theorem at_prev_w (p : List S) (q x : S) (r : List S) (h : ((p ++ [q]) ++ x :: r).length ≤ 4611686018427387904) : wrap64 (((p ++ [q]).length : Int) - 1) = ((p ++ [q]).length : Int) - 1 := by
  apply w64
  simp at h ⊢
  omega
theorem pairEv (L : Nat → List S → Int → Option Bool) (good : Option S → S → Bool) (Inv : S → Prop) (fin : List S → Bool) (B : Nat)
    (stop : ∀ xs, Ev (fun k => L k xs (xs.length : Int)) (fin xs))
    (inv : ∀ o x, good o x = true → Inv x)
    (bad : ∀ (p : List S) (x : S) (r : List S), (p ++ x :: r).length ≤ B → (∀ q, p.getLast? = some q → Inv q) → good p.getLast? x = false → Ev (fun k => L k (p ++ x :: r) (p.length : Int)) false)
    (next : ∀ (p : List S) (x : S) (r : List S) (b : Bool), (p ++ x :: r).length ≤ B → (∀ q, p.getLast? = some q → Inv q) → good p.getLast? x = true → Ev (fun k => L k (p ++ x :: r) ((p.length : Int) + 1)) b → Ev (fun k => L k (p ++ x :: r) (p.length : Int)) b) :
    ∀ (r p : List S), (p ++ r).length ≤ B → (∀ q, p.getLast? = some q → Inv q) → Ev (fun k => L k (p ++ r) (p.length : Int)) (chk good p.getLast? r && fin (p ++ r))
  | [], p, _, _ => by
    have h := stop (p ++ [])
    simpa [chk] using h
  | x :: r, p, hB, hI => by
    cases hg : good p.getLast? x with
    | false =>
      have h := bad p x r hB hI hg
      simpa [chk, hg] using h
    | true =>
      have ih := pairEv L good Inv fin B stop inv bad next r (p ++ [x]) (by simpa using hB) (fun q hq => by
        have e : q = x := by simpa using hq.symm
        exact e ▸ inv _ _ hg)
      have h := next p x r (chk good (some x) r && fin (p ++ x :: r)) hB hI hg (by
        rw [at_snoc, ← len_snoc p x]
        simpa using ih)
      simpa [chk, hg] using h
end Go.Proofs.Ytkcdhphhacjkhaa.LoopK
