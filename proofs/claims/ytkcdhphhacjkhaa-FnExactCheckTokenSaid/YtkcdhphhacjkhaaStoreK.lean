/- A cell is there behind a store if it was there before: for walks that store twice into one cell. -/
import Derived.Test.YtkcdhphhacjkhaaWWords
import Derived.Laws.World
import Derived.Lib.Bytealg
namespace Go.Proofs.Ytkcdhphhacjkhaa.StoreK
theorem isSome_setCell (w : World) (p q : Addr) (v : Value) : ((w.setCell p v).cell? q).isSome = (w.cell? q).isSome := by
  by_cases h : p = q
  · subst h
    cases hc : w.cell? p with
    | some u => rw [World.cell?_setCell_same w p v hc]; rfl
    | none =>
      have : (w.setCell p v).cell? p = none := by
        simp only [World.setCell, World.cell?, Array.getElem?_modify, ↓reduceIte] at hc ⊢
        cases hb : w.heap[p.block]? with
        | none => simp
        | some o =>
          cases o with
          | cells c e f =>
            simp only [hb] at hc
            cases hs : p.spot.isSome with
            | true => simp
            | false =>
              simp [hs] at hc
              simp [hc]
          | _ => simp
      rw [this]
  · rw [World.cell?_setCell_other w p q v h]
theorem store_one {P : Program} {v : Value} (hv : ∃ A n c, v = .slice A n c) (p : Addr) (w : World) (hc : (w.cell? p).isSome = true) (hf : w.frozen? p = false) : Sem.run P (Go.store p v) w = .ok () (w.setCell p v) := by
  obtain ⟨A, n, c, rfl⟩ := hv
  obtain ⟨u, hu⟩ := Option.isSome_iff_exists.1 hc
  go_simp
theorem ne_nil_b (l : List UInt8) : (l != ([] : List UInt8)) = !l.isEmpty := by cases l <;> rfl
/-- So many marks, told by a number's bits. -/
def bmL : Nat → Nat → List Bool
  | 0, _ => []
  | n + 1, m => (m % 2 == 1) :: bmL n (m / 2)
def bm (n m : Nat) : Array Bool := ⟨bmL n m⟩
end Go.Proofs.Ytkcdhphhacjkhaa.StoreK
