/- A map of texts to bools that a call makes for itself: whose names lie in it, as a list. -/
import Derived.Test.YtilkginahmfagaaDoorWWords
import Derived.Maps.Own
import Derived.Maps.OwnOps
import Derived.Maps.OwnSet
import Derived.Maps.Views
import Derived.StringKeys
import Derived.Below
namespace Go.Proofs.YtilkginahmfagaaDoor.SetK
open Go Go.Maps
/-- Block b of w is a map whose true names are those of s. -/
def Names (P : Program) (k e : TypeId) (w : World) (b n : Nat) (s : List (List UInt8)) : Prop :=
  ∃ D : DataW Unit, w.ownsMap P k (plainElem P e) b n D ∧ ∀ x : ByteArray, D.atKey (.string x.data.toList) (.lit (.bool false)) = .lit (.bool (decide (x.data.toList ∈ s)))
variable {P : Program} {k e : TypeId}
theorem Names.made (w : World) : Names P k e (w.alloc (.map #[] 0)) w.heap.size 0 [] :=
  ⟨_, World.ownsMap_made w P k _, fun x => by simp [DataW.atKey]⟩
theorem Names.kept {w w' : World} {row : Option Nat} {b n : Nat} {s : List (List UInt8)} (h : Names P k e w b n s) (hg : w.grownBy w' row) (hne : some b ≠ row) : Names P k e w' b n s := by
  obtain ⟨D, h1, h2⟩ := h
  exact ⟨D, h1.kept hg hne, h2⟩
theorem Names.block {w w' : World} {b n : Nat} {s : List (List UInt8)} (h : Names P k e w b n s) (hb : w'.heap[b]? = w.heap[b]?) : Names P k e w' b n s := by
  obtain ⟨D, ⟨es, clock, h1, h2⟩, h3⟩ := h
  exact ⟨D, ⟨es, clock, hb.trans h1, h2⟩, h3⟩
theorem Names.lt {w : World} {b n : Nat} {s : List (List UInt8)} (h : Names P k e w b n s) : b < w.heap.size := by
  obtain ⟨D, ⟨es, clock, h1, h2⟩, h3⟩ := h
  exact (Array.getElem?_eq_some_iff.1 h1).1
theorem Names.below {w w' : World} {b n : Nat} {s : List (List UInt8)} (h : Names P k e w b n s) (hb : Go.RowKit.Below w.heap.size w w') : Names P k e w' b n s :=
  h.block (hb.block b h.lt)
theorem Names.mono {w : World} {b n m : Nat} {s : List (List UInt8)} (h : Names P k e w b n s) (hm : n ≤ m) : Names P k e w b m s := by
  obtain ⟨D, h1, h3⟩ := h
  exact ⟨D, World.ownsMap.mono h1 hm, h3⟩
theorem plainElem_bool_inv (he : P.underlying e = some .bool) {v : Value} {z : DataW Unit × List MemPlace} (h : plainElem P e v = some z) : ∃ a, v = .bool a ∧ z = (.lit (.bool a), []) := by
  unfold plainElem at h
  rw [he] at h
  cases v <;> simp at h
  exact ⟨_, rfl, h.symm⟩
theorem data_inj {x y : ByteArray} (h : x.data.toList = y.data.toList) : x = y := by
  cases x with | mk a => cases y with | mk b => cases a with | mk la => cases b with | mk lb => simpa using h
theorem look_run {w : World} {t : TypeId} (hk : P.underlying k = some .string) (he : P.underlying e = some .bool) (ht : P.underlying t = some (.map k e)) (hz : (zeroValue e).run P w = .ok (.bool false) w) {b n : Nat} {s : List (List UInt8)}
    (hown : Names P k e w b n s) (key : ByteArray) (hs : key.size ≤ maxLen) : (Instr.lookup t (.map (some b)) (.string key) false).run P w = .ok (.bool (decide (key.data.toList ∈ s))) w := by
  obtain ⟨D, h1, h2⟩ := hown
  obtain ⟨v, ps, hrun, hv⟩ := h1.lookup (string_keyed hk) ht hz (plainElem_bool he false) (WideMaps.keyOf_string_mk hk hs)
  obtain ⟨c, rfl, hc⟩ := plainElem_bool_inv he hv
  rw [h2 key] at hc
  simp only [Prod.mk.injEq, DataW.lit.injEq, Lit.bool.injEq] at hc
  rw [← hc.1] at hrun
  exact hrun
theorem wpList_look {w : World} {ops : Array Oper} {rest : List Oper} {o : Oper} {a : Act} {Q : Exit → Act → World → Prop}
    (hg : o.guard = none) (m x : Operand) (t : TypeId) (hop : o.op = Op.lookup t m x false)
    (hk : P.underlying k = some .string) (he : P.underlying e = some .bool) (ht : P.underlying t = some (.map k e)) (hz : (zeroValue e).run P w = .ok (.bool false) w) (b n : Nat) (s : List (List UInt8))
    (hm : a.eval m = .map (some b)) (hown : Names P k e w b n s) (key : ByteArray) (hx : a.eval x = .string key) (hs : key.size ≤ maxLen)
    (hK : wpList P ops Q rest (a.put o.dst (.bool (decide (key.data.toList ∈ s)))) w) :
    wpList P ops Q (o :: rest) a w := by
  refine wpList_plain hg fun K' hK' => ?_
  obtain ⟨D, h1, h2⟩ := hown
  obtain ⟨v, ps, hrun, hv⟩ := h1.lookup (string_keyed hk) ht hz (plainElem_bool he false) (WideMaps.keyOf_string_mk hk hs)
  obtain ⟨c, rfl, hc⟩ := plainElem_bool_inv he hv
  rw [h2 key] at hc
  simp only [Prod.mk.injEq, DataW.lit.injEq, Lit.bool.injEq] at hc
  rw [← hc.1] at hrun
  unfold Oper.wp
  simp [execOp, hop, hm, hx, hrun, Result.andThen]
  exact hK' _ _ hK
theorem wpList_put {w : World} {ops : Array Oper} {rest : List Oper} {o : Oper} {a : Act} {Q : Exit → Act → World → Prop}
    (hg : o.guard = none) (m x v : Operand) (t : TypeId) (hop : o.op = Op.mapUpdate t m x v)
    (hk : P.underlying k = some .string) (he : P.underlying e = some .bool) (ht : P.underlying t = some (.map k e)) (b n : Nat) (s : List (List UInt8))
    (hm : a.eval m = .map (some b)) (hown : Names P k e w b n s) (hn : n < maxLen) (key : ByteArray) (hx : a.eval x = .string key) (hs : key.size ≤ maxLen) (hv : a.eval v = .bool true)
    (hK : ∀ w', Names P k e w' b (n + 1) (s ++ [key.data.toList]) → w.grownBy w' (some b) → wpList P ops Q rest (a.put o.dst undef) w') :
    wpList P ops Q (o :: rest) a w := by
  obtain ⟨D, h1, h2⟩ := hown
  refine wpList_mapUpdate_own w hg m x v t hop k e (string_keyed hk) ht _ b n D hm h1 hn _ _ _ hx hv (WideMaps.keyOf_string_mk hk hs) _ _ (plainElem_bool he true) (fun w' r1 r2 => hK w' ⟨_, r1, fun y => ?_⟩ r2)
  by_cases hy : y.data.toList = key.data.toList
  · rw [hy]
    rw [atKey_put_same (World.ownsMap.isMap h1) (by trivial)]
    simp
  · rw [atKey_put_other (by intro h; injection h with h; exact hy h), h2 y]
    simp [hy]
/-- A walk stops here. -/
def Hold (p : Prop) : Prop := p
theorem hold_insert {w : World} {ops : Array Oper} {rest : List Oper} {o : Oper} {a : Act} {Q : Exit → Act → World → Prop} {t : TypeId} {m x v : Operand} (_hop : o.op = Op.insert t m x v) (h : Hold (wpList P ops Q (o :: rest) a w)) : wpList P ops Q (o :: rest) a w := h
end Go.Proofs.YtilkginahmfagaaDoor.SetK
