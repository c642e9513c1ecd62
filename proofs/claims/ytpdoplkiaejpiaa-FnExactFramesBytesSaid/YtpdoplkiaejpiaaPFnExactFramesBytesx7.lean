-- Written by a program of this session (wip/xprint.py).
import Derived.Test.YtpdoplkiaejpiaaPFnExactFramesBytesx0
import Derived.Test.YtpdoplkiaejpiaaPFnExactFramesBytesx4
import Derived.Test.YtpdoplkiaejpiaaPFnExactFramesBytesx5
namespace Go.Proofs.Ytpdoplkiaejpiaa.PFnExactFramesBytes
open Go.RowKit Go.Proofs.YtpdoplkiaejpiaaW.PrintWords Go.Proofs.YtpdoplkiaejpiaaW.PrintLast Go.Proofs.YtpdoplkiaejpiaaW.PrintMore
attribute [local go_sem] Go.Proofs.Ytpdoplkiaejpiaa.StoreK.isSome_setCell max2_int min2_int max_two min_two max_three min_three max_four min_four   -- for this text's walks alone
set_option linter.unusedVariables false
set_option linter.unusedSimpArgs false

/-! ### impl_FramesBytes: function 30 -/
open Go.Proofs.Ytpdoplkiaejpiaa.QuietK Go.Proofs.Ytpdoplkiaejpiaa.FrK
/-- How a shape reads. -/
def shapeElem : Value → Option (DataW Unit × List MemPlace)
  | .agg cs => match cs.toList with
    | [.int .i64 n, .bool b] => some (.agg [.lit (.int .i64 n), .lit (.bool b)], [])
    | _ => none
  | _ => none
theorem shapeElem_inv {v : Value} {n : Int} {b : Bool} {ps : List MemPlace} (h : shapeElem v = some (.agg [.lit (.int .i64 n), .lit (.bool b)], ps)) : v = .agg #[.int .i64 n, .bool b] := by
  unfold shapeElem at h
  split at h
  · rename_i cs
    split at h
    · rename_i n' b' e
      simp only [Option.some.injEq, Prod.mk.injEq, DataW.agg.injEq, List.cons.injEq, DataW.lit.injEq, Lit.int.injEq, Lit.bool.injEq, and_true, true_and] at h
      obtain ⟨⟨rfl, rfl⟩, _⟩ := h
      have : cs = #[.int .i64 n', .bool b'] := Array.toList_inj.1 e
      rw [this]
    · cases h
  · cases h
def shapeN (n : Int) : Int := if n = 2 ∨ n = 6 ∨ n = 16 then 1 else if n = 4 ∨ n = 24 then 3 else if n = 5 ∨ n = 8 ∨ n = 17 ∨ n = 28 then 2 else 0
def shapeD (n : Int) : Bool := decide (n = 6 ∨ n = 7 ∨ n = 8 ∨ n = 24 ∨ n = 26 ∨ n = 27 ∨ n = 28 ∨ n = 48)
def shapeOk (n : Int) : Bool := decide (n = 0 ∨ n = 1 ∨ n = 2 ∨ n = 4 ∨ n = 5 ∨ n = 6 ∨ n = 7 ∨ n = 8 ∨ n = 16 ∨ n = 17 ∨ n = 24 ∨ n = 26 ∨ n = 27 ∨ n = 28 ∨ n = 48)
theorem put_at {D : DataW Unit} (hD : Go.Maps.IsMap D) (x n : Int) (d z : DataW Unit) : (D.put (.int .i64 x) d).atKey (.int .i64 n) z = if n = x then d else D.atKey (.int .i64 n) z := by
  by_cases h : n = x
  · rw [if_pos h, h, Go.Maps.atKey_put_same hD (by trivial)]
  · rw [if_neg h, Go.Maps.atKey_put_other (by intro e; injection e with _ e; exact h e)]
theorem put_has {D : DataW Unit} (hD : Go.Maps.IsMap D) (x n : Int) (d : DataW Unit) : Go.Maps.has (D.put (.int .i64 x) d) (.int .i64 n) = (decide (n = x) || Go.Maps.has D (.int .i64 n)) := by
  by_cases h : n = x
  · rw [decide_eq_true h, h, Go.Maps.has_put_same hD (by trivial), Bool.true_or]
  · rw [decide_eq_false h, Go.Maps.has_put_other (by intro e; injection e with _ e; exact h e), Bool.false_or]
theorem isMap_put {D : DataW Unit} (hD : Go.Maps.IsMap D) (x : Lit) (d : DataW Unit) : Go.Maps.IsMap (D.put x d) := by
  obtain ⟨es, rfl⟩ := hD
  exact ⟨_, rfl⟩
def shapeMap : DataW Unit := ((((((((((((((((DataW.map [] : DataW Unit).put (.int .i64 0) (.agg [.lit (.int .i64 0), .lit (.bool false)])).put (.int .i64 1) (.agg [.lit (.int .i64 0), .lit (.bool false)])).put (.int .i64 2) (.agg [.lit (.int .i64 1), .lit (.bool false)])).put (.int .i64 4) (.agg [.lit (.int .i64 3), .lit (.bool false)])).put (.int .i64 5) (.agg [.lit (.int .i64 2), .lit (.bool false)])).put (.int .i64 6) (.agg [.lit (.int .i64 1), .lit (.bool true)])).put (.int .i64 7) (.agg [.lit (.int .i64 0), .lit (.bool true)])).put (.int .i64 8) (.agg [.lit (.int .i64 2), .lit (.bool true)])).put (.int .i64 16) (.agg [.lit (.int .i64 1), .lit (.bool false)])).put (.int .i64 17) (.agg [.lit (.int .i64 2), .lit (.bool false)])).put (.int .i64 24) (.agg [.lit (.int .i64 3), .lit (.bool true)])).put (.int .i64 26) (.agg [.lit (.int .i64 0), .lit (.bool true)])).put (.int .i64 27) (.agg [.lit (.int .i64 0), .lit (.bool true)])).put (.int .i64 28) (.agg [.lit (.int .i64 2), .lit (.bool true)])).put (.int .i64 48) (.agg [.lit (.int .i64 0), .lit (.bool true)]))
theorem shapeMap_at (n : Int) : shapeMap.atKey (.int .i64 n) (.agg [.lit (.int .i64 0), .lit (.bool false)]) = .agg [.lit (.int .i64 (shapeN n)), .lit (.bool (shapeD n))] := by
  unfold shapeMap
  rw [put_at (isMap_put (isMap_put (isMap_put (isMap_put (isMap_put (isMap_put (isMap_put (isMap_put (isMap_put (isMap_put (isMap_put (isMap_put (isMap_put (isMap_put ⟨[], rfl⟩ _ _) _ _) _ _) _ _) _ _) _ _) _ _) _ _) _ _) _ _) _ _) _ _) _ _) _ _), put_at (isMap_put (isMap_put (isMap_put (isMap_put (isMap_put (isMap_put (isMap_put (isMap_put (isMap_put (isMap_put (isMap_put (isMap_put (isMap_put ⟨[], rfl⟩ _ _) _ _) _ _) _ _) _ _) _ _) _ _) _ _) _ _) _ _) _ _) _ _) _ _), put_at (isMap_put (isMap_put (isMap_put (isMap_put (isMap_put (isMap_put (isMap_put (isMap_put (isMap_put (isMap_put (isMap_put (isMap_put ⟨[], rfl⟩ _ _) _ _) _ _) _ _) _ _) _ _) _ _) _ _) _ _) _ _) _ _) _ _), put_at (isMap_put (isMap_put (isMap_put (isMap_put (isMap_put (isMap_put (isMap_put (isMap_put (isMap_put (isMap_put (isMap_put ⟨[], rfl⟩ _ _) _ _) _ _) _ _) _ _) _ _) _ _) _ _) _ _) _ _) _ _), put_at (isMap_put (isMap_put (isMap_put (isMap_put (isMap_put (isMap_put (isMap_put (isMap_put (isMap_put (isMap_put ⟨[], rfl⟩ _ _) _ _) _ _) _ _) _ _) _ _) _ _) _ _) _ _) _ _), put_at (isMap_put (isMap_put (isMap_put (isMap_put (isMap_put (isMap_put (isMap_put (isMap_put (isMap_put ⟨[], rfl⟩ _ _) _ _) _ _) _ _) _ _) _ _) _ _) _ _) _ _), put_at (isMap_put (isMap_put (isMap_put (isMap_put (isMap_put (isMap_put (isMap_put (isMap_put ⟨[], rfl⟩ _ _) _ _) _ _) _ _) _ _) _ _) _ _) _ _), put_at (isMap_put (isMap_put (isMap_put (isMap_put (isMap_put (isMap_put (isMap_put ⟨[], rfl⟩ _ _) _ _) _ _) _ _) _ _) _ _) _ _), put_at (isMap_put (isMap_put (isMap_put (isMap_put (isMap_put (isMap_put ⟨[], rfl⟩ _ _) _ _) _ _) _ _) _ _) _ _), put_at (isMap_put (isMap_put (isMap_put (isMap_put (isMap_put ⟨[], rfl⟩ _ _) _ _) _ _) _ _) _ _), put_at (isMap_put (isMap_put (isMap_put (isMap_put ⟨[], rfl⟩ _ _) _ _) _ _) _ _), put_at (isMap_put (isMap_put (isMap_put ⟨[], rfl⟩ _ _) _ _) _ _), put_at (isMap_put (isMap_put ⟨[], rfl⟩ _ _) _ _), put_at (isMap_put ⟨[], rfl⟩ _ _), put_at ⟨[], rfl⟩]
  by_cases h48 : n = 48
  · subst h48; rfl
  rw [if_neg h48]
  by_cases h28 : n = 28
  · subst h28; rfl
  rw [if_neg h28]
  by_cases h27 : n = 27
  · subst h27; rfl
  rw [if_neg h27]
  by_cases h26 : n = 26
  · subst h26; rfl
  rw [if_neg h26]
  by_cases h24 : n = 24
  · subst h24; rfl
  rw [if_neg h24]
  by_cases h17 : n = 17
  · subst h17; rfl
  rw [if_neg h17]
  by_cases h16 : n = 16
  · subst h16; rfl
  rw [if_neg h16]
  by_cases h8 : n = 8
  · subst h8; rfl
  rw [if_neg h8]
  by_cases h7 : n = 7
  · subst h7; rfl
  rw [if_neg h7]
  by_cases h6 : n = 6
  · subst h6; rfl
  rw [if_neg h6]
  by_cases h5 : n = 5
  · subst h5; rfl
  rw [if_neg h5]
  by_cases h4 : n = 4
  · subst h4; rfl
  rw [if_neg h4]
  by_cases h2 : n = 2
  · subst h2; rfl
  rw [if_neg h2]
  by_cases h1 : n = 1
  · subst h1; rfl
  rw [if_neg h1]
  by_cases h0 : n = 0
  · subst h0; rfl
  rw [if_neg h0]
  have e1 : shapeN n = 0 := by unfold shapeN; rw [if_neg (by omega), if_neg (by omega), if_neg (by omega)]
  have e2 : shapeD n = false := decide_eq_false (by omega)
  rw [e1, e2]
  rfl
theorem shapeMap_has (n : Int) : Go.Maps.has shapeMap (.int .i64 n) = shapeOk n := by
  unfold shapeMap
  rw [put_has (isMap_put (isMap_put (isMap_put (isMap_put (isMap_put (isMap_put (isMap_put (isMap_put (isMap_put (isMap_put (isMap_put (isMap_put (isMap_put (isMap_put ⟨[], rfl⟩ _ _) _ _) _ _) _ _) _ _) _ _) _ _) _ _) _ _) _ _) _ _) _ _) _ _) _ _), put_has (isMap_put (isMap_put (isMap_put (isMap_put (isMap_put (isMap_put (isMap_put (isMap_put (isMap_put (isMap_put (isMap_put (isMap_put (isMap_put ⟨[], rfl⟩ _ _) _ _) _ _) _ _) _ _) _ _) _ _) _ _) _ _) _ _) _ _) _ _) _ _), put_has (isMap_put (isMap_put (isMap_put (isMap_put (isMap_put (isMap_put (isMap_put (isMap_put (isMap_put (isMap_put (isMap_put (isMap_put ⟨[], rfl⟩ _ _) _ _) _ _) _ _) _ _) _ _) _ _) _ _) _ _) _ _) _ _) _ _), put_has (isMap_put (isMap_put (isMap_put (isMap_put (isMap_put (isMap_put (isMap_put (isMap_put (isMap_put (isMap_put (isMap_put ⟨[], rfl⟩ _ _) _ _) _ _) _ _) _ _) _ _) _ _) _ _) _ _) _ _) _ _), put_has (isMap_put (isMap_put (isMap_put (isMap_put (isMap_put (isMap_put (isMap_put (isMap_put (isMap_put (isMap_put ⟨[], rfl⟩ _ _) _ _) _ _) _ _) _ _) _ _) _ _) _ _) _ _) _ _), put_has (isMap_put (isMap_put (isMap_put (isMap_put (isMap_put (isMap_put (isMap_put (isMap_put (isMap_put ⟨[], rfl⟩ _ _) _ _) _ _) _ _) _ _) _ _) _ _) _ _) _ _), put_has (isMap_put (isMap_put (isMap_put (isMap_put (isMap_put (isMap_put (isMap_put (isMap_put ⟨[], rfl⟩ _ _) _ _) _ _) _ _) _ _) _ _) _ _) _ _), put_has (isMap_put (isMap_put (isMap_put (isMap_put (isMap_put (isMap_put (isMap_put ⟨[], rfl⟩ _ _) _ _) _ _) _ _) _ _) _ _) _ _), put_has (isMap_put (isMap_put (isMap_put (isMap_put (isMap_put (isMap_put ⟨[], rfl⟩ _ _) _ _) _ _) _ _) _ _) _ _), put_has (isMap_put (isMap_put (isMap_put (isMap_put (isMap_put ⟨[], rfl⟩ _ _) _ _) _ _) _ _) _ _), put_has (isMap_put (isMap_put (isMap_put (isMap_put ⟨[], rfl⟩ _ _) _ _) _ _) _ _), put_has (isMap_put (isMap_put (isMap_put ⟨[], rfl⟩ _ _) _ _) _ _), put_has (isMap_put (isMap_put ⟨[], rfl⟩ _ _) _ _), put_has (isMap_put ⟨[], rfl⟩ _ _), put_has ⟨[], rfl⟩]
  by_cases h48 : n = 48
  · subst h48; rfl
  rw [decide_eq_false h48, Bool.false_or]
  by_cases h28 : n = 28
  · subst h28; rfl
  rw [decide_eq_false h28, Bool.false_or]
  by_cases h27 : n = 27
  · subst h27; rfl
  rw [decide_eq_false h27, Bool.false_or]
  by_cases h26 : n = 26
  · subst h26; rfl
  rw [decide_eq_false h26, Bool.false_or]
  by_cases h24 : n = 24
  · subst h24; rfl
  rw [decide_eq_false h24, Bool.false_or]
  by_cases h17 : n = 17
  · subst h17; rfl
  rw [decide_eq_false h17, Bool.false_or]
  by_cases h16 : n = 16
  · subst h16; rfl
  rw [decide_eq_false h16, Bool.false_or]
  by_cases h8 : n = 8
  · subst h8; rfl
  rw [decide_eq_false h8, Bool.false_or]
  by_cases h7 : n = 7
  · subst h7; rfl
  rw [decide_eq_false h7, Bool.false_or]
  by_cases h6 : n = 6
  · subst h6; rfl
  rw [decide_eq_false h6, Bool.false_or]
  by_cases h5 : n = 5
  · subst h5; rfl
  rw [decide_eq_false h5, Bool.false_or]
  by_cases h4 : n = 4
  · subst h4; rfl
  rw [decide_eq_false h4, Bool.false_or]
  by_cases h2 : n = 2
  · subst h2; rfl
  rw [decide_eq_false h2, Bool.false_or]
  by_cases h1 : n = 1
  · subst h1; rfl
  rw [decide_eq_false h1, Bool.false_or]
  by_cases h0 : n = 0
  · subst h0; rfl
  rw [decide_eq_false h0, Bool.false_or]
  have e2 : shapeOk n = false := decide_eq_false (by omega)
  rw [e2]
  rfl
/-- Block b of w is the map of the shapes. -/
def Shapes (w : World) (b : Nat) : Prop := w.ownsMap Try.prog 3 shapeElem b 15 shapeMap
theorem Shapes.block {w w' : World} {b : Nat} (h : Shapes w b) (hb : w'.heap[b]? = w.heap[b]?) : Shapes w' b := by
  obtain ⟨es, clock, h1, h2⟩ := h
  exact ⟨es, clock, hb.trans h1, h2⟩
theorem Shapes.lt {w : World} {b : Nat} (h : Shapes w b) : b < w.heap.size := World.ownsMap.lt h
theorem Shapes.look {w : World} {b : Nat} (h : Shapes w b) (n : Int) (hn : -9223372036854775808 ≤ n ∧ n ≤ 9223372036854775807) :
    (Instr.lookup 159 (.map (some b)) (.int .i64 n) true).run Try.prog w = .ok (.tuple #[.agg #[.int .i64 (shapeN n), .bool (shapeD n)], .bool (shapeOk n)]) w := by
  have hz : (zeroValue 157).run Try.prog w = .ok (.agg #[.int .i64 0, .bool false]) w := by kernel_rfl
  obtain ⟨v, ps, hrun, hv⟩ := World.ownsMap.look_ok (t := 159) (e := 157) h (Go.Maps.int_keyed Try.underlying3) Try.underlying159 hz (zd := .agg [.lit (.int .i64 0), .lit (.bool false)]) (zp := []) rfl (Go.Maps.keyOf_int_mk Try.underlying3 (a := n) (by simp [Lit.wf, IntKind.min, IntKind.max, IntKind.signed, IntKind.bits]; omega))
  rw [shapeMap_at] at hv
  rw [shapeElem_inv hv, shapeMap_has] at hrun
  exact hrun
set_option maxHeartbeats 4000000 in
set_option maxRecDepth 100000 in
theorem impl_shapes.calls (w : World) : Calls Try.prog 122 #[] w fun e w' => e = .returned (.map (some w.heap.size)) ∧ Shapes w' w.heap.size ∧ Below w.heap.size w w' := by
  have hmm := @run_makeMap Try.prog
  have law : Go.Maps.Keyed Try.prog 3 := Go.Maps.int_keyed Try.underlying3
  have hM := Try.underlying159
  have hu157 := Try.underlying157
  go_enter Try.func122, Try.ntmps122
  go_wp2_with (first
    | (refine Go.Proofs.Ytpdoplkiaejpiaa.MapK.wpList_insert_own (H := Unit) _ rfl (.tmp 1) (.const (.int .i64 0)) (.tmp 2) 159 rfl 3 157 law hM shapeElem w.heap.size 0 _ rfl (World.ownsMap_made _ _ _ _) (by unfold maxLen; omega) (.int .i64 0) (.agg #[.int .i64 0, .bool false]) (.int .i64 0) rfl rfl (Go.Maps.keyOf_int_mk Try.underlying3 (by decide)) (.agg [.lit (.int .i64 0), .lit (.bool false)]) [] rfl ?_; intro w1 o1 g1)
    | (refine Go.Proofs.Ytpdoplkiaejpiaa.MapK.wpList_insert_own (H := Unit) _ rfl (.tmp 1) (.const (.int .i64 1)) (.tmp 3) 159 rfl 3 157 law hM shapeElem w.heap.size 1 _ rfl o1 (by unfold maxLen; omega) (.int .i64 1) (.agg #[.int .i64 0, .bool false]) (.int .i64 1) rfl rfl (Go.Maps.keyOf_int_mk Try.underlying3 (by decide)) (.agg [.lit (.int .i64 0), .lit (.bool false)]) [] rfl ?_; intro w2 o2 g2)
    | (refine Go.Proofs.Ytpdoplkiaejpiaa.MapK.wpList_insert_own (H := Unit) _ rfl (.tmp 1) (.const (.int .i64 2)) (.tmp 4) 159 rfl 3 157 law hM shapeElem w.heap.size 2 _ rfl o2 (by unfold maxLen; omega) (.int .i64 2) (.agg #[.int .i64 1, .bool false]) (.int .i64 2) rfl rfl (Go.Maps.keyOf_int_mk Try.underlying3 (by decide)) (.agg [.lit (.int .i64 1), .lit (.bool false)]) [] rfl ?_; intro w3 o3 g3)
    | (refine Go.Proofs.Ytpdoplkiaejpiaa.MapK.wpList_insert_own (H := Unit) _ rfl (.tmp 1) (.const (.int .i64 4)) (.tmp 5) 159 rfl 3 157 law hM shapeElem w.heap.size 3 _ rfl o3 (by unfold maxLen; omega) (.int .i64 4) (.agg #[.int .i64 3, .bool false]) (.int .i64 4) rfl rfl (Go.Maps.keyOf_int_mk Try.underlying3 (by decide)) (.agg [.lit (.int .i64 3), .lit (.bool false)]) [] rfl ?_; intro w4 o4 g4)
    | (refine Go.Proofs.Ytpdoplkiaejpiaa.MapK.wpList_insert_own (H := Unit) _ rfl (.tmp 1) (.const (.int .i64 5)) (.tmp 6) 159 rfl 3 157 law hM shapeElem w.heap.size 4 _ rfl o4 (by unfold maxLen; omega) (.int .i64 5) (.agg #[.int .i64 2, .bool false]) (.int .i64 5) rfl rfl (Go.Maps.keyOf_int_mk Try.underlying3 (by decide)) (.agg [.lit (.int .i64 2), .lit (.bool false)]) [] rfl ?_; intro w5 o5 g5)
    | (refine Go.Proofs.Ytpdoplkiaejpiaa.MapK.wpList_insert_own (H := Unit) _ rfl (.tmp 1) (.const (.int .i64 6)) (.tmp 7) 159 rfl 3 157 law hM shapeElem w.heap.size 5 _ rfl o5 (by unfold maxLen; omega) (.int .i64 6) (.agg #[.int .i64 1, .bool true]) (.int .i64 6) rfl rfl (Go.Maps.keyOf_int_mk Try.underlying3 (by decide)) (.agg [.lit (.int .i64 1), .lit (.bool true)]) [] rfl ?_; intro w6 o6 g6)
    | (refine Go.Proofs.Ytpdoplkiaejpiaa.MapK.wpList_insert_own (H := Unit) _ rfl (.tmp 1) (.const (.int .i64 7)) (.tmp 8) 159 rfl 3 157 law hM shapeElem w.heap.size 6 _ rfl o6 (by unfold maxLen; omega) (.int .i64 7) (.agg #[.int .i64 0, .bool true]) (.int .i64 7) rfl rfl (Go.Maps.keyOf_int_mk Try.underlying3 (by decide)) (.agg [.lit (.int .i64 0), .lit (.bool true)]) [] rfl ?_; intro w7 o7 g7)
    | (refine Go.Proofs.Ytpdoplkiaejpiaa.MapK.wpList_insert_own (H := Unit) _ rfl (.tmp 1) (.const (.int .i64 8)) (.tmp 9) 159 rfl 3 157 law hM shapeElem w.heap.size 7 _ rfl o7 (by unfold maxLen; omega) (.int .i64 8) (.agg #[.int .i64 2, .bool true]) (.int .i64 8) rfl rfl (Go.Maps.keyOf_int_mk Try.underlying3 (by decide)) (.agg [.lit (.int .i64 2), .lit (.bool true)]) [] rfl ?_; intro w8 o8 g8)
    | (refine Go.Proofs.Ytpdoplkiaejpiaa.MapK.wpList_insert_own (H := Unit) _ rfl (.tmp 1) (.const (.int .i64 16)) (.tmp 10) 159 rfl 3 157 law hM shapeElem w.heap.size 8 _ rfl o8 (by unfold maxLen; omega) (.int .i64 16) (.agg #[.int .i64 1, .bool false]) (.int .i64 16) rfl rfl (Go.Maps.keyOf_int_mk Try.underlying3 (by decide)) (.agg [.lit (.int .i64 1), .lit (.bool false)]) [] rfl ?_; intro w9 o9 g9)
    | (refine Go.Proofs.Ytpdoplkiaejpiaa.MapK.wpList_insert_own (H := Unit) _ rfl (.tmp 1) (.const (.int .i64 17)) (.tmp 11) 159 rfl 3 157 law hM shapeElem w.heap.size 9 _ rfl o9 (by unfold maxLen; omega) (.int .i64 17) (.agg #[.int .i64 2, .bool false]) (.int .i64 17) rfl rfl (Go.Maps.keyOf_int_mk Try.underlying3 (by decide)) (.agg [.lit (.int .i64 2), .lit (.bool false)]) [] rfl ?_; intro w10 o10 g10)
    | (refine Go.Proofs.Ytpdoplkiaejpiaa.MapK.wpList_insert_own (H := Unit) _ rfl (.tmp 1) (.const (.int .i64 24)) (.tmp 12) 159 rfl 3 157 law hM shapeElem w.heap.size 10 _ rfl o10 (by unfold maxLen; omega) (.int .i64 24) (.agg #[.int .i64 3, .bool true]) (.int .i64 24) rfl rfl (Go.Maps.keyOf_int_mk Try.underlying3 (by decide)) (.agg [.lit (.int .i64 3), .lit (.bool true)]) [] rfl ?_; intro w11 o11 g11)
    | (refine Go.Proofs.Ytpdoplkiaejpiaa.MapK.wpList_insert_own (H := Unit) _ rfl (.tmp 1) (.const (.int .i64 26)) (.tmp 13) 159 rfl 3 157 law hM shapeElem w.heap.size 11 _ rfl o11 (by unfold maxLen; omega) (.int .i64 26) (.agg #[.int .i64 0, .bool true]) (.int .i64 26) rfl rfl (Go.Maps.keyOf_int_mk Try.underlying3 (by decide)) (.agg [.lit (.int .i64 0), .lit (.bool true)]) [] rfl ?_; intro w12 o12 g12)
    | (refine Go.Proofs.Ytpdoplkiaejpiaa.MapK.wpList_insert_own (H := Unit) _ rfl (.tmp 1) (.const (.int .i64 27)) (.tmp 14) 159 rfl 3 157 law hM shapeElem w.heap.size 12 _ rfl o12 (by unfold maxLen; omega) (.int .i64 27) (.agg #[.int .i64 0, .bool true]) (.int .i64 27) rfl rfl (Go.Maps.keyOf_int_mk Try.underlying3 (by decide)) (.agg [.lit (.int .i64 0), .lit (.bool true)]) [] rfl ?_; intro w13 o13 g13)
    | (refine Go.Proofs.Ytpdoplkiaejpiaa.MapK.wpList_insert_own (H := Unit) _ rfl (.tmp 1) (.const (.int .i64 28)) (.tmp 15) 159 rfl 3 157 law hM shapeElem w.heap.size 13 _ rfl o13 (by unfold maxLen; omega) (.int .i64 28) (.agg #[.int .i64 2, .bool true]) (.int .i64 28) rfl rfl (Go.Maps.keyOf_int_mk Try.underlying3 (by decide)) (.agg [.lit (.int .i64 2), .lit (.bool true)]) [] rfl ?_; intro w14 o14 g14)
    | (refine Go.Proofs.Ytpdoplkiaejpiaa.MapK.wpList_insert_own (H := Unit) _ rfl (.tmp 1) (.const (.int .i64 48)) (.tmp 16) 159 rfl 3 157 law hM shapeElem w.heap.size 14 _ rfl o14 (by unfold maxLen; omega) (.int .i64 48) (.agg #[.int .i64 0, .bool true]) (.int .i64 48) rfl rfl (Go.Maps.keyOf_int_mk Try.underlying3 (by decide)) (.agg [.lit (.int .i64 0), .lit (.bool true)]) [] rfl ?_; intro w15 o15 g15)
    | fail)
  have b0 : Below w.heap.size w (w.alloc (.map #[] 0)) := below_alloc (Below.refl _ _) _
  have b1 := b0.grown g1 b0.size (fun j hj => by cases hj; exact Nat.le_refl _)
  have b2 := b1.grown g2 b1.size (fun j hj => by cases hj; exact Nat.le_refl _)
  have b3 := b2.grown g3 b2.size (fun j hj => by cases hj; exact Nat.le_refl _)
  have b4 := b3.grown g4 b3.size (fun j hj => by cases hj; exact Nat.le_refl _)
  have b5 := b4.grown g5 b4.size (fun j hj => by cases hj; exact Nat.le_refl _)
  have b6 := b5.grown g6 b5.size (fun j hj => by cases hj; exact Nat.le_refl _)
  have b7 := b6.grown g7 b6.size (fun j hj => by cases hj; exact Nat.le_refl _)
  have b8 := b7.grown g8 b7.size (fun j hj => by cases hj; exact Nat.le_refl _)
  have b9 := b8.grown g9 b8.size (fun j hj => by cases hj; exact Nat.le_refl _)
  have b10 := b9.grown g10 b9.size (fun j hj => by cases hj; exact Nat.le_refl _)
  have b11 := b10.grown g11 b10.size (fun j hj => by cases hj; exact Nat.le_refl _)
  have b12 := b11.grown g12 b11.size (fun j hj => by cases hj; exact Nat.le_refl _)
  have b13 := b12.grown g13 b12.size (fun j hj => by cases hj; exact Nat.le_refl _)
  have b14 := b13.grown g14 b13.size (fun j hj => by cases hj; exact Nat.le_refl _)
  have b15 := b14.grown g15 b14.size (fun j hj => by cases hj; exact Nat.le_refl _)
  go_ret
  exact ⟨rfl, o15, b15⟩
def numOk (kd i n : Int) : Bool := isVr n && !(decide (shapeN kd ≤ i) && !(decide (n = 0)))
def namedHead (kd : Int) (fin : Bool) (dat : ByteArray) (rn : Nat) : Bool := shapeOk kd && (!(decide (200 < (dat.size : Int))) && ((shapeD kd || dat.toList.isEmpty) && ((!fin || decide (kd = 8)) && (!(decide (0 < (rn : Int))) || decide (kd = 2)))))
def namedB (kd fa fb fc : Int) (fin : Bool) (dat : ByteArray) (rn : Nat) : Bool := namedHead kd fin dat rn && (numOk kd 0 fa && (numOk kd 1 fb && numOk kd 2 fc))
def numAt (fa fb fc i : Int) : Int := if i = 0 then fa else if i = 1 then fb else fc
def numsFrom (kd fa fb fc : Int) : Nat → Int → Bool
  | 0, _ => true
  | n + 1, i => numOk kd i (numAt fa fb fc i) && numsFrom kd fa fb fc n (i + 1)
theorem isVarint_eq (x : Int) : impl_isVarint.f x = some (isVr x) := by
  unfold impl_isVarint.f impl_in.f isVr
  by_cases h : 0 ≤ x <;> simp [h]
theorem named_cases : ∀ (v1 v2 v3 v4 fin v5 v6 v7 : Bool), (v1 = false ∧ (v1 && (!v2 && ((v3 || v4) && ((!fin || v5) && (!v6 || v7))))) = false) ∨ (v1 = true ∧ ((v2 = true ∧ (v1 && (!v2 && ((v3 || v4) && ((!fin || v5) && (!v6 || v7))))) = false) ∨ (v2 = false ∧ ((v3 = false ∧ v4 = false ∧ (v1 && (!v2 && ((v3 || v4) && ((!fin || v5) && (!v6 || v7))))) = false) ∨ ((v3 = true ∨ (v3 = false ∧ v4 = true)) ∧ ((fin = true ∧ (!v5) = true ∧ (v1 && (!v2 && ((v3 || v4) && ((!fin || v5) && (!v6 || v7))))) = false) ∨ ((fin = false ∨ (fin = true ∧ (!v5) = false)) ∧ ((v6 = true ∧ (!v7) = true ∧ (v1 && (!v2 && ((v3 || v4) && ((!fin || v5) && (!v6 || v7))))) = false) ∨ ((v6 = false ∧ (v1 && (!v2 && ((v3 || v4) && ((!fin || v5) && (!v6 || v7))))) = true) ∨ (v6 = true ∧ (!v7) = false ∧ (v1 && (!v2 && ((v3 || v4) && ((!fin || v5) && (!v6 || v7))))) = true)))))))))) := by decide
def impl_Frame_named.f (kd fa fb fc : Int) (fin : Bool) (dat : ByteArray) (rn : Nat) : Option Bool := if -9223372036854775808 ≤ kd ∧ kd ≤ 9223372036854775807 then some (namedB kd fa fb fc fin dat rn) else none
set_option maxHeartbeats 4000000 in
set_option maxRecDepth 100000 in
theorem impl_Frame_named.calls (g : Nat) (kd fa fb fc : Int) (fin : Bool) (dat : ByteArray) (AR : Option Addr) (rn cR : Nat) (r : Bool) (w : World) (hb0 : w.heap[g]? = some (.cells #[.int .i64 kd, .int .i64 fa, .int .i64 fb, .int .i64 fc, .bool fin, .string dat, .slice AR rn cR] 30 (0, 0))) (h : impl_Frame_named.f kd fa fb fc fin dat rn = some r) :
    Calls Try.prog 95 #[.pointer (some ⟨g, 0, none⟩)] w fun e w' => e = .returned (.bool r) ∧ Below w.heap.size w w' := by
  unfold impl_Frame_named.f at h
  split at h
  case isFalse => cases h
  case isTrue hk =>
  have hr := Option.some.inj h
  have HRR := Aside0.mk hr
  have HKD := Aside0.mk hk
  have QG := Aside0.mk hb0
  have hglt := blk_lt hb0
  have hgne : w.heap.size ≠ g := Nat.ne_of_gt hglt
  clear h hr hk hb0
  have hu157 := Try.underlying157
  have hu30 := Try.underlying30
  have hck : w.cell? ⟨g, 0, none⟩ = some (.int .i64 kd) := (blk_cell QG.out 0).trans rfl
  have HB := Aside0.mk (Below.refl w.heap.size w)
  go_enter Try.func95, Try.ntmps95
  go_wp2_with fail
  go_cut [3, 4] (fun v3 v4 wc => ∃ (gs : Nat), v3 = .pointer (some ⟨gs, 0, none⟩) ∧ v4 = .bool (shapeOk kd) ∧ Aside0 (wc.heap[gs]? = some (.cells #[.int .i64 (shapeN kd), .bool (shapeD kd)] 157 (0, 0))) ∧ Aside0 (wc.heap[g]? = some (.cells #[.int .i64 kd, .int .i64 fa, .int .i64 fb, .int .i64 fc, .bool fin, .string dat, .slice AR rn cR] 30 (0, 0))) ∧ Aside0 (Below w.heap.size w wc))
  case first =>
    go_region_held3 (fun w' => w'.cell? ⟨g, 0, none⟩ = some (.int .i64 kd)) (first | assumption | exact hck | go_keep) (first
      | (go_at_call 122; refine (impl_shapes.calls _).mono ?_; rintro e w1 ⟨rfl, hs, hb⟩; have hck1 : w1.cell? ⟨g, 0, none⟩ = some (.int .i64 kd) := cb_ (by assumption) hb; have hlk1 := hs.look kd HKD.out; have hlk2 := (hs.block (w' := w1.alloc (.cells #[.int .i64 0, .bool false] 157)) (Below.heap_alloc w1 _ _ hs.lt)).look kd HKD.out; (try simp only [World.drew, Array.size_push] at hlk2); (try simp only [World.drew, World.alloc, Array.size_push] at hlk1); have HS1 := Aside0.mk hb; have HH1 := Aside0.mk hs; (try have hblk : w1.heap[w.heap.size]? = some (.cells #[.int .i64 0, .bool false] 157 (0, 0)) := blk_below (blk_new w.drew _) hb; have hA0 := (blk_cell hblk 0).trans rfl; have hA1 := (blk_cell hblk 1).trans rfl; have hA2 := blk_frozen hblk 0; have hA3 := blk_frozen hblk 1; have HBLK := Aside0.mk hblk; clear hblk); have hB0 := (blk_cell (blk_new w1 (.cells #[.int .i64 0, .bool false] 157)) 0).trans rfl; have hB1 := (blk_cell (blk_new w1 (.cells #[.int .i64 0, .bool false] 157)) 1).trans rfl; have hB2 := blk_frozen (blk_new w1 (.cells #[.int .i64 0, .bool false] 157)) 0; have hB3 := blk_frozen (blk_new w1 (.cells #[.int .i64 0, .bool false] 157)) 1; clear hs hb))
    all_goals (
      go_wp2
      go_meet
      case rel =>
        first
          | exact ⟨_, rfl, rfl, ⟨blk_new w1 _⟩, ⟨blk_alloc (blk_below QG.out ((below_drew (Below.refl _ w)).trans HS1.out)) _⟩, ⟨below_alloc ((below_drew (Below.refl _ w)).trans HS1.out) _⟩⟩
          | (have HX : Below w.heap.size w w1 := (below_drew (below_alloc (Below.refl _ w) _)).trans (HS1.out.mono (below_drew (below_alloc (Below.refl _ w) _)).size)
             exact ⟨_, rfl, rfl, ⟨blk_put (cs := #[.int .i64 (shapeN kd), .bool false]) (blk_put (cs := #[.int .i64 0, .bool false]) HBLK.out 0 _ rfl) 1 _ rfl⟩, ⟨blk_far (blk_far (blk_below QG.out HX) (Ne.symm hgne) _) (Ne.symm hgne) _⟩, ⟨below_set (below_set HX (Nat.le_refl _)) (Nat.le_refl _)⟩⟩))
  case rest =>
    clear hck
    obtain ⟨gs, rfl, rfl, HS, QG, HB⟩ := hcut
    go_upto_region 2 with (fail)
    go_cut [4, 65] (fun v4 v65 wc => v65 = .bool (!namedHead kd fin dat rn) ∧ Aside0 (wc.heap[gs]? = some (.cells #[.int .i64 (shapeN kd), .bool (shapeD kd)] 157 (0, 0))) ∧ Aside0 (wc.heap[g]? = some (.cells #[.int .i64 kd, .int .i64 fa, .int .i64 fb, .int .i64 fc, .bool fin, .string dat, .slice AR rn cR] 30 (0, 0))) ∧ Aside0 (Below w.heap.size w wc))
    case first =>
      obtain ⟨z0, z1, z2, z3, z4, z5, z6⟩ := Go.Proofs.Ytpdoplkiaejpiaa.ShortK.cz7 QG
      obtain ⟨y0, y1⟩ := Go.Proofs.Ytpdoplkiaejpiaa.ShortK.cz2 HS
      have hcases : (shapeOk kd = false ∧ namedHead kd fin dat rn = false) ∨ (shapeOk kd = true ∧ ((decide (200 < (dat.size : Int)) = true ∧ namedHead kd fin dat rn = false) ∨ (decide (200 < (dat.size : Int)) = false ∧ ((shapeD kd = false ∧ dat.toList.isEmpty = false ∧ namedHead kd fin dat rn = false) ∨ ((shapeD kd = true ∨ (shapeD kd = false ∧ dat.toList.isEmpty = true)) ∧ ((fin = true ∧ (kd != 8) = true ∧ namedHead kd fin dat rn = false) ∨ ((fin = false ∨ (fin = true ∧ (kd != 8) = false)) ∧ ((decide (0 < rn) = true ∧ (kd != 2) = true ∧ namedHead kd fin dat rn = false) ∨ ((decide (0 < rn) = false ∧ namedHead kd fin dat rn = true) ∨ (decide (0 < rn) = true ∧ (kd != 2) = false ∧ namedHead kd fin dat rn = true)))))))))) := by
        have e8 : (kd != 8) = !decide (kd = 8) := by by_cases h : kd = 8 <;> simp [h]
        have e2 : (kd != 2) = !decide (kd = 2) := by by_cases h : kd = 2 <;> simp [h]
        have e6 : decide (0 < rn) = decide (0 < (rn : Int)) := by simp
        unfold namedHead
        rw [e8, e2, e6]
        exact named_cases _ _ _ _ _ _ _ _
      rcases hcases with ⟨hok, HN⟩ | ⟨hok, ⟨h2, HN⟩ | ⟨h2, ⟨hD, hE, HN⟩ | ⟨hD | ⟨hD, hE⟩, ⟨rfl, h8, HN⟩ | ⟨rfl | ⟨rfl, h8⟩, ⟨hrn, hk2, HN⟩ | ⟨hrn, HN⟩ | ⟨hrn, hk2, HN⟩⟩⟩⟩⟩
      all_goals (
        have HN' := Aside0.mk HN
        clear HN
        go_wp2
        go_meet
        case rel => exact ⟨by rw [HN'.out]; first | rfl | (refine congrArg Value.bool ?_; assumption) | (exfalso; have h_ := of_decide_eq_false hrn; omega), HS, QG, HB⟩)
    case rest =>
      obtain ⟨rfl, HS, QG, HB⟩ := hcut
      cases hN : namedHead kd fin dat rn with
      | false =>
        obtain rfl : r = false := by
          have := HRR.out
          unfold namedB at this
          rw [hN, Bool.false_and] at this
          exact this.symm
        go_wp2
        go_ret
        exact ⟨rfl, HB.out⟩
      | true =>
        have HR2 : Aside0 ((numOk kd 0 fa && (numOk kd 1 fb && numOk kd 2 fc)) = r) := ⟨by
          have := HRR.out
          unfold namedB at this
          rw [hN, Bool.true_and] at this
          exact this⟩
        clear HRR hN
        go_upto_region 4 with (fail)
        go_cut [78, 79, 80] (fun v78 v79 v80 wc => ∃ (ga : Nat), v78 = .slice (some ⟨ga, 0, none⟩) 3 3 ∧ v79 = .int .i64 3 ∧ v80 = .int .i64 0 ∧ Aside0 (wc.heap[ga]? = some (.cells #[.int .i64 fa, .int .i64 fb, .int .i64 fc] 3 (0, 0))) ∧ Aside0 (wc.heap[gs]? = some (.cells #[.int .i64 (shapeN kd), .bool (shapeD kd)] 157 (0, 0))) ∧ Aside0 (wc.heap[g]? = some (.cells #[.int .i64 kd, .int .i64 fa, .int .i64 fb, .int .i64 fc, .bool fin, .string dat, .slice AR rn cR] 30 (0, 0))) ∧ Aside0 (Below w.heap.size w wc))
        case first =>
          obtain ⟨z0, z1, z2, z3, z4, z5, z6⟩ := Go.Proofs.Ytpdoplkiaejpiaa.ShortK.cz7 QG
          go_region_held3 (fun w' => w'.cell? ⟨g, 1, none⟩ = some (.int .i64 fa) ∧ w'.cell? ⟨g, 2, none⟩ = some (.int .i64 fb) ∧ w'.cell? ⟨g, 3, none⟩ = some (.int .i64 fc)) (first | assumption | exact ⟨z1, z2, z3⟩ | go_keep) (first | fail)
          go_wp2
          go_meet
          case rel => exact ⟨_, rfl, rfl, rfl, ⟨blk_new wc _⟩, ⟨blk_alloc HS.out _⟩, ⟨blk_alloc QG.out _⟩, ⟨below_drew (below_alloc HB.out _)⟩⟩
        case rest =>
          clear QG
          obtain ⟨ga, rfl, rfl, rfl, HA, HS, QG, HB⟩ := hcut
          go_wp2_with fail
          go_loopg [80] 3 (fun kq v80 w' => ∃ (i : Int), v80 = .int .i64 i ∧ Aside0 (numsFrom kd fa fb fc kq i = r) ∧ Aside0 (i + kq = 3 ∧ 0 ≤ i) ∧ Aside0 (w'.heap[ga]? = some (.cells #[.int .i64 fa, .int .i64 fb, .int .i64 fc] 3 (0, 0))) ∧ Aside0 (w'.heap[gs]? = some (.cells #[.int .i64 (shapeN kd), .bool (shapeD kd)] 157 (0, 0))) ∧ Aside0 (Below w.heap.size w w'))
          case atStart => exact ⟨0, rfl, ⟨by have h_ := HR2.out; simpa [numsFrom, numAt] using h_⟩, ⟨⟨by omega, by omega⟩⟩, HA, HS, HB⟩
          case round =>
            clear HA HB HS QG HR2
            obtain ⟨i, rfl, HR, HI, HA, HS, HB⟩ := hrel
            obtain ⟨hi1, hi0⟩ := HI.out
            clear HI
            cases gk with
            | zero =>
              have hd : decide (i < 3) = false := decide_eq_false (by omega)
              obtain rfl : true = r := HR.out
              clear hi1 hi0 HR
              go_wp2
              go_ret
              exact ⟨rfl, HB.out⟩
            | succ n =>
              have hi2 : i < 3 := by omega
              have hd : decide (i < 3) = true := decide_eq_true hi2
              have hx : wr.cell? ⟨ga, i.toNat, none⟩ = some (.int .i64 (numAt fa fb fc i)) := by
                have h3 : i = 0 ∨ i = 1 ∨ i = 2 := by omega
                rcases h3 with rfl | rfl | rfl
                · exact (blk_cell HA.out 0).trans rfl
                · exact (blk_cell HA.out 1).trans rfl
                · exact (blk_cell HA.out 2).trans rfl
              have y0 : wr.cell? ⟨gs, 0, none⟩ = some (.int .i64 (shapeN kd)) := (blk_cell HS.out 0).trans rfl
              have p1 := eq_true hi0
              have p2 := eq_true hi2
              have HI := Aside0.mk hi1
              have HWI := Aside0.mk (show wrap64 (i + 1) = i + 1 from by unfold wrap64; omega)
              have H : (numOk kd i (numAt fa fb fc i) && numsFrom kd fa fb fc n (i + 1)) = r := HR.out
              clear hi0 hi1 hi2 HR
              generalize numAt fa fb fc i = x at H hx
              have HV : Aside0 (impl_isVarint.f x = some (isVr x)) := ⟨isVarint_eq x⟩
              have hcases : (isVr x = false ∧ r = false) ∨ (isVr x = true ∧ ((decide (shapeN kd ≤ i) = false ∧ numsFrom kd fa fb fc n (i + 1) = r) ∨ (decide (shapeN kd ≤ i) = true ∧ (((x != 0) = false ∧ numsFrom kd fa fb fc n (i + 1) = r) ∨ ((x != 0) = true ∧ r = false))))) := by
                have e0 : (x != 0) = !decide (x = 0) := by by_cases h : x = 0 <;> simp [h]
                rw [e0]
                unfold numOk at H
                revert H
                generalize isVr x = v1
                generalize decide (shapeN kd ≤ i) = v2
                generalize decide (x = 0) = v3
                generalize numsFrom kd fa fb fc n (i + 1) = v4
                cases v1 <;> cases v2 <;> cases v3 <;> cases v4 <;> cases r <;> simp
              clear H
              rcases hcases with ⟨hv, rfl⟩ | ⟨hv, ⟨hs, HN⟩ | ⟨hs, ⟨h0, HN⟩ | ⟨h0, rfl⟩⟩⟩
              · rw [hv] at HV
                go_wp2_with (go_at_call 85; refine (impl_isVarint.calls x false _ HV.out).mono ?_; rintro e w1 ⟨rfl, ⟨nd, rfl⟩⟩)
                go_ret
                exact ⟨rfl, pw_below_drewN HB.out _⟩
              · rw [hv] at HV
                have HN' := Aside0.mk HN
                clear HN
                go_wp2_with (go_at_call 85; refine (impl_isVarint.calls x true _ HV.out).mono ?_; rintro e w1 ⟨rfl, ⟨nd, rfl⟩⟩)
                go_roundg n
                case measure => omega
                case rel => exact ⟨i + 1, by first | rfl | (simp; done) | (rw [HWI.out]), HN', ⟨⟨by have := HI.out; omega, by have := of_eq_true p1; omega⟩⟩, HA, HS, ⟨pw_below_drewN HB.out _⟩⟩
              · rw [hv] at HV
                have HN' := Aside0.mk HN
                clear HN
                go_wp2_with (go_at_call 85; refine (impl_isVarint.calls x true _ HV.out).mono ?_; rintro e w1 ⟨rfl, ⟨nd, rfl⟩⟩)
                go_roundg n
                case measure => omega
                case rel => exact ⟨i + 1, by first | rfl | (simp; done) | (rw [HWI.out]), HN', ⟨⟨by have := HI.out; omega, by have := of_eq_true p1; omega⟩⟩, HA, HS, ⟨pw_below_drewN HB.out _⟩⟩
              · rw [hv] at HV
                go_wp2_with (go_at_call 85; refine (impl_isVarint.calls x true _ HV.out).mono ?_; rintro e w1 ⟨rfl, ⟨nd, rfl⟩⟩)
                go_ret
                exact ⟨rfl, pw_below_drewN HB.out _⟩
def impl_Frame_streamBytes.f (k : Nat) (fa fb : Int) (fin : Bool) (dat : ByteArray) : Option ByteArray :=
  (if fb = 0 then some (⟨#[]⟩ : ByteArray) else impl_varint.f k fb).bind fun off => (impl_varint.f k (streamKind fb fin)).bind fun a => (impl_varint.f k fa).bind fun b => (impl_counted.f k dat).bind fun c => (hcat a b).bind fun ab => (hcat ab off).bind fun abo => hcat abo c
set_option maxHeartbeats 4000000 in
set_option maxRecDepth 100000 in
theorem impl_Frame_streamBytes.calls (k g : Nat) (kd fa fb fc : Int) (fin : Bool) (dat : ByteArray) (AR : Option Addr) (rn cR : Nat) (r : ByteArray) (w : World) (hb0 : w.heap[g]? = some (.cells #[.int .i64 kd, .int .i64 fa, .int .i64 fb, .int .i64 fc, .bool fin, .string dat, .slice AR rn cR] 30 (0, 0))) (h : impl_Frame_streamBytes.f k fa fb fin dat = some r) :
    Calls Try.prog 100 #[.pointer (some ⟨g, 0, none⟩)] w fun e w' => e = .returned (.string r) ∧ Below w.heap.size w w' := by
  unfold impl_Frame_streamBytes.f at h
  obtain ⟨off, h0, h⟩ := Option.bind_eq_some_iff.mp h
  obtain ⟨a, h1, h⟩ := Option.bind_eq_some_iff.mp h
  obtain ⟨b, h2, h⟩ := Option.bind_eq_some_iff.mp h
  obtain ⟨c, h3, h⟩ := Option.bind_eq_some_iff.mp h
  obtain ⟨ab, h4, h⟩ := Option.bind_eq_some_iff.mp h
  obtain ⟨abo, h5, h⟩ := Option.bind_eq_some_iff.mp h
  obtain ⟨rfl, s1⟩ := hcat_some h4
  obtain ⟨rfl, s2⟩ := hcat_some h5
  obtain ⟨rfl, s3⟩ := hcat_some h
  simp only [ByteArray.size_append] at s2 s3
  have H0 := Aside0.mk h0
  have H1 := Aside0.mk h1
  have H2 := Aside0.mk h2
  have H3 := Aside0.mk h3
  have QG := Aside0.mk hb0
  have HB := Aside0.mk (Below.refl w.heap.size w)
  have hglt := blk_lt hb0
  clear h h0 h1 h2 h3 h4 h5 hb0
  have hfb : (fb = 0 ∧ (fb != 0) = false ∧ off = (⟨#[]⟩ : ByteArray)) ∨ ((fb != 0) = true ∧ Aside0 (impl_varint.f k fb = some off)) := by
    have h := H0.out
    by_cases h0 : fb = 0
    · rw [if_pos h0] at h; exact Or.inl ⟨h0, by simp [h0], (Option.some.inj h).symm⟩
    · rw [if_neg h0] at h; exact Or.inr ⟨by simp [h0], ⟨h⟩⟩
  have hsk : (fb = 0 → streamKind fb fin = if fin = true then 11 else 10) ∧ ((fb != 0) = true → streamKind fb fin = if fin = true then 15 else 14) := by
    constructor
    · intro h; unfold streamKind; rw [if_pos h]
    · intro h; unfold streamKind; rw [if_neg (by simpa using h)]
  have HSK := Aside0.mk hsk
  clear hsk H0
  obtain ⟨z0, z1, z2, z3, z4, z5, z6⟩ := Go.Proofs.Ytpdoplkiaejpiaa.ShortK.cz7 QG
  have b11 : Go.bits .or .i64 10 1 = 11 := by decide
  have b14 : Go.bits .or .i64 10 4 = 14 := by decide
  have b15 : Go.bits .or .i64 14 1 = 15 := by decide
  rcases hfb with ⟨hf0, hf1, rfl⟩ | ⟨hf1, H0⟩
  · have t1 : (9223372036854775807 < a.size + b.size + c.size) = False := s3
    have t2 : (9223372036854775807 < a.size + b.size + 0 + c.size) = False := s3
    have t3 : (9223372036854775807 < (a ++ b ++ (⟨#[]⟩ : ByteArray)).size + c.size) = False := by rw [ByteArray.size_append, ByteArray.size_append]; exact s3
    have t4 : (9223372036854775807 < a.size + b.size + (#[] : Array UInt8).size + c.size) = False := s3
    cases fin with
    | false =>
      have HK : Aside0 (impl_varint.f k 10 = some a) := ⟨by have h_ := H1.out; rw [HSK.out.1 hf0] at h_; exact h_⟩
      clear H1 HSK
      go_enter Try.func100, Try.ntmps100
      have HBX := HB
      go_wp2_with fail
      refine region_quiet (C := fun w' => w'.cell? ⟨g, 1, none⟩ = some (.int .i64 fa) ∧ w'.cell? ⟨g, 5, none⟩ = some (.string dat) ∧ Aside0 (Below w.heap.size w w')) (by kernel_rfl) (by kernel_rfl) ?hC ?_
      case hC => exact ⟨cb_ z1 (below_drew HBX.out), cb_ z5 (below_drew HBX.out), ⟨below_drew HBX.out⟩⟩
      repeat (first
        | go_big_quiet_skip
        | (go_big_quiet_want; refine quiet_call ?_ Try.func97 (by kernel_rfl) rfl #[.int .i64 10] rfl (by (try simp only [List.map_toArray, List.map_cons, List.map_nil]); first | done | rfl) ?_ ?_; rotate_left 1; (· (rintro w' ⟨x0, x1, x2⟩; refine (impl_varint.calls k 10 a w' HK.out).mono ?_; rintro e w'' ⟨rfl, hb⟩; exact ⟨by with_reducible rfl, cb_ x0 hb, cb_ x1 hb, ⟨x2.out.trans (hb.mono x2.out.size)⟩⟩)); simp only [Act.put, List.setIfInBounds_toArray, List.set_cons_zero, List.set_cons_succ, i64_w, i32_w]; go_big_quiet_on)
        | (go_big_quiet_want; refine quiet_call ?_ Try.func97 (by kernel_rfl) rfl #[.int .i64 fa] rfl (by (try simp only [List.map_toArray, List.map_cons, List.map_nil]); first | done | rfl) ?_ ?_; rotate_left 1; (· (rintro w' ⟨x0, x1, x2⟩; refine (impl_varint.calls k fa b w' H2.out).mono ?_; rintro e w'' ⟨rfl, hb⟩; exact ⟨by with_reducible rfl, cb_ x0 hb, cb_ x1 hb, ⟨x2.out.trans (hb.mono x2.out.size)⟩⟩)); simp only [Act.put, List.setIfInBounds_toArray, List.set_cons_zero, List.set_cons_succ, i64_w, i32_w]; go_big_quiet_on)
        | (go_big_quiet_want; refine quiet_call ?_ Try.func99 (by kernel_rfl) rfl #[.string dat] rfl (by (try simp only [List.map_toArray, List.map_cons, List.map_nil]); first | done | rfl) ?_ ?_; rotate_left 1; (· (rintro w' ⟨x0, x1, x2⟩; refine (impl_counted.calls k dat c w' H3.out).mono ?_; rintro e w'' ⟨rfl, hb0⟩; have hb := (show Below w'.heap.size w' w'' from by first | exact hb0 | exact hb0.below); exact ⟨by with_reducible rfl, cb_ x0 hb, cb_ x1 hb, ⟨x2.out.trans (hb.mono x2.out.size)⟩⟩)); simp only [Act.put, List.setIfInBounds_toArray, List.set_cons_zero, List.set_cons_succ, i64_w, i32_w]; go_big_quiet_on)
        | (go_big_quiet_want; refine quiet_op (v := ?_) ?_ ?_; rotate_left 1; (· (rintro w' ⟨x0, x1, -⟩; go_simp; with_reducible rfl)); simp only [Act.put, List.setIfInBounds_toArray, List.set_cons_zero, List.set_cons_succ, i64_w, i32_w]; go_big_quiet_on))
      refine wpQuiet_nil ?_
      rintro w' ⟨-, -, x2⟩
      go_wp2
      go_ret
      exact ⟨by first | rfl | (simp; done), x2.out⟩
    | true =>
      have HK : Aside0 (impl_varint.f k 11 = some a) := ⟨by have h_ := H1.out; rw [HSK.out.1 hf0] at h_; exact h_⟩
      clear H1 HSK
      go_enter Try.func100, Try.ntmps100
      have HBX := HB
      go_wp2_with fail
      refine region_quiet (C := fun w' => w'.cell? ⟨g, 1, none⟩ = some (.int .i64 fa) ∧ w'.cell? ⟨g, 5, none⟩ = some (.string dat) ∧ Aside0 (Below w.heap.size w w')) (by kernel_rfl) (by kernel_rfl) ?hC ?_
      case hC => exact ⟨cb_ z1 (below_drew HBX.out), cb_ z5 (below_drew HBX.out), ⟨below_drew HBX.out⟩⟩
      repeat (first
        | go_big_quiet_skip
        | (go_big_quiet_want; refine quiet_call ?_ Try.func97 (by kernel_rfl) rfl #[.int .i64 11] rfl (by (try simp only [List.map_toArray, List.map_cons, List.map_nil]); first | done | rfl) ?_ ?_; rotate_left 1; (· (rintro w' ⟨x0, x1, x2⟩; refine (impl_varint.calls k 11 a w' HK.out).mono ?_; rintro e w'' ⟨rfl, hb⟩; exact ⟨by with_reducible rfl, cb_ x0 hb, cb_ x1 hb, ⟨x2.out.trans (hb.mono x2.out.size)⟩⟩)); simp only [Act.put, List.setIfInBounds_toArray, List.set_cons_zero, List.set_cons_succ, i64_w, i32_w]; go_big_quiet_on)
        | (go_big_quiet_want; refine quiet_call ?_ Try.func97 (by kernel_rfl) rfl #[.int .i64 fa] rfl (by (try simp only [List.map_toArray, List.map_cons, List.map_nil]); first | done | rfl) ?_ ?_; rotate_left 1; (· (rintro w' ⟨x0, x1, x2⟩; refine (impl_varint.calls k fa b w' H2.out).mono ?_; rintro e w'' ⟨rfl, hb⟩; exact ⟨by with_reducible rfl, cb_ x0 hb, cb_ x1 hb, ⟨x2.out.trans (hb.mono x2.out.size)⟩⟩)); simp only [Act.put, List.setIfInBounds_toArray, List.set_cons_zero, List.set_cons_succ, i64_w, i32_w]; go_big_quiet_on)
        | (go_big_quiet_want; refine quiet_call ?_ Try.func99 (by kernel_rfl) rfl #[.string dat] rfl (by (try simp only [List.map_toArray, List.map_cons, List.map_nil]); first | done | rfl) ?_ ?_; rotate_left 1; (· (rintro w' ⟨x0, x1, x2⟩; refine (impl_counted.calls k dat c w' H3.out).mono ?_; rintro e w'' ⟨rfl, hb0⟩; have hb := (show Below w'.heap.size w' w'' from by first | exact hb0 | exact hb0.below); exact ⟨by with_reducible rfl, cb_ x0 hb, cb_ x1 hb, ⟨x2.out.trans (hb.mono x2.out.size)⟩⟩)); simp only [Act.put, List.setIfInBounds_toArray, List.set_cons_zero, List.set_cons_succ, i64_w, i32_w]; go_big_quiet_on)
        | (go_big_quiet_want; refine quiet_op (v := ?_) ?_ ?_; rotate_left 1; (· (rintro w' ⟨x0, x1, -⟩; go_simp; with_reducible rfl)); simp only [Act.put, List.setIfInBounds_toArray, List.set_cons_zero, List.set_cons_succ, i64_w, i32_w]; go_big_quiet_on))
      refine wpQuiet_nil ?_
      rintro w' ⟨-, -, x2⟩
      go_wp2
      go_ret
      exact ⟨by first | rfl | (simp; done), x2.out⟩
  · cases fin with
    | false =>
      have HK : Aside0 (impl_varint.f k 14 = some a) := ⟨by have h_ := H1.out; rw [HSK.out.2 hf1] at h_; exact h_⟩
      clear H1 HSK
      go_enter Try.func100, Try.ntmps100
      go_wp2_with fail
      refine (impl_varint.calls k fb off _ H0.out).mono ?_
      rintro e w1 ⟨rfl, hb⟩
      have HBX := Aside0.mk (HB.out.trans (hb.mono HB.out.size))
      have q1 := cb_ z1 hb
      have q4 := cb_ z4 hb
      have q5 := cb_ z5 hb
      clear hb HB
      go_wp2_with fail
      refine region_quiet (C := fun w' => w'.cell? ⟨g, 1, none⟩ = some (.int .i64 fa) ∧ w'.cell? ⟨g, 5, none⟩ = some (.string dat) ∧ Aside0 (Below w.heap.size w w')) (by kernel_rfl) (by kernel_rfl) ?hC ?_
      case hC => exact ⟨cb_ z1 (below_drew HBX.out), cb_ z5 (below_drew HBX.out), ⟨below_drew HBX.out⟩⟩
      repeat (first
        | go_big_quiet_skip
        | (go_big_quiet_want; refine quiet_call ?_ Try.func97 (by kernel_rfl) rfl #[.int .i64 14] rfl (by (try simp only [List.map_toArray, List.map_cons, List.map_nil]); first | done | rfl) ?_ ?_; rotate_left 1; (· (rintro w' ⟨x0, x1, x2⟩; refine (impl_varint.calls k 14 a w' HK.out).mono ?_; rintro e w'' ⟨rfl, hb⟩; exact ⟨by with_reducible rfl, cb_ x0 hb, cb_ x1 hb, ⟨x2.out.trans (hb.mono x2.out.size)⟩⟩)); simp only [Act.put, List.setIfInBounds_toArray, List.set_cons_zero, List.set_cons_succ, i64_w, i32_w]; go_big_quiet_on)
        | (go_big_quiet_want; refine quiet_call ?_ Try.func97 (by kernel_rfl) rfl #[.int .i64 fa] rfl (by (try simp only [List.map_toArray, List.map_cons, List.map_nil]); first | done | rfl) ?_ ?_; rotate_left 1; (· (rintro w' ⟨x0, x1, x2⟩; refine (impl_varint.calls k fa b w' H2.out).mono ?_; rintro e w'' ⟨rfl, hb⟩; exact ⟨by with_reducible rfl, cb_ x0 hb, cb_ x1 hb, ⟨x2.out.trans (hb.mono x2.out.size)⟩⟩)); simp only [Act.put, List.setIfInBounds_toArray, List.set_cons_zero, List.set_cons_succ, i64_w, i32_w]; go_big_quiet_on)
        | (go_big_quiet_want; refine quiet_call ?_ Try.func99 (by kernel_rfl) rfl #[.string dat] rfl (by (try simp only [List.map_toArray, List.map_cons, List.map_nil]); first | done | rfl) ?_ ?_; rotate_left 1; (· (rintro w' ⟨x0, x1, x2⟩; refine (impl_counted.calls k dat c w' H3.out).mono ?_; rintro e w'' ⟨rfl, hb0⟩; have hb := (show Below w'.heap.size w' w'' from by first | exact hb0 | exact hb0.below); exact ⟨by with_reducible rfl, cb_ x0 hb, cb_ x1 hb, ⟨x2.out.trans (hb.mono x2.out.size)⟩⟩)); simp only [Act.put, List.setIfInBounds_toArray, List.set_cons_zero, List.set_cons_succ, i64_w, i32_w]; go_big_quiet_on)
        | (go_big_quiet_want; refine quiet_op (v := ?_) ?_ ?_; rotate_left 1; (· (rintro w' ⟨x0, x1, -⟩; go_simp; with_reducible rfl)); simp only [Act.put, List.setIfInBounds_toArray, List.set_cons_zero, List.set_cons_succ, i64_w, i32_w]; go_big_quiet_on))
      refine wpQuiet_nil ?_
      rintro w' ⟨-, -, x2⟩
      go_wp2
      go_ret
      exact ⟨by first | rfl | (simp; done), x2.out⟩
    | true =>
      have HK : Aside0 (impl_varint.f k 15 = some a) := ⟨by have h_ := H1.out; rw [HSK.out.2 hf1] at h_; exact h_⟩
      clear H1 HSK
      go_enter Try.func100, Try.ntmps100
      go_wp2_with fail
      refine (impl_varint.calls k fb off _ H0.out).mono ?_
      rintro e w1 ⟨rfl, hb⟩
      have HBX := Aside0.mk (HB.out.trans (hb.mono HB.out.size))
      have q1 := cb_ z1 hb
      have q4 := cb_ z4 hb
      have q5 := cb_ z5 hb
      clear hb HB
      go_wp2_with fail
      refine region_quiet (C := fun w' => w'.cell? ⟨g, 1, none⟩ = some (.int .i64 fa) ∧ w'.cell? ⟨g, 5, none⟩ = some (.string dat) ∧ Aside0 (Below w.heap.size w w')) (by kernel_rfl) (by kernel_rfl) ?hC ?_
      case hC => exact ⟨cb_ z1 (below_drew HBX.out), cb_ z5 (below_drew HBX.out), ⟨below_drew HBX.out⟩⟩
      repeat (first
        | go_big_quiet_skip
        | (go_big_quiet_want; refine quiet_call ?_ Try.func97 (by kernel_rfl) rfl #[.int .i64 15] rfl (by (try simp only [List.map_toArray, List.map_cons, List.map_nil]); first | done | rfl) ?_ ?_; rotate_left 1; (· (rintro w' ⟨x0, x1, x2⟩; refine (impl_varint.calls k 15 a w' HK.out).mono ?_; rintro e w'' ⟨rfl, hb⟩; exact ⟨by with_reducible rfl, cb_ x0 hb, cb_ x1 hb, ⟨x2.out.trans (hb.mono x2.out.size)⟩⟩)); simp only [Act.put, List.setIfInBounds_toArray, List.set_cons_zero, List.set_cons_succ, i64_w, i32_w]; go_big_quiet_on)
        | (go_big_quiet_want; refine quiet_call ?_ Try.func97 (by kernel_rfl) rfl #[.int .i64 fa] rfl (by (try simp only [List.map_toArray, List.map_cons, List.map_nil]); first | done | rfl) ?_ ?_; rotate_left 1; (· (rintro w' ⟨x0, x1, x2⟩; refine (impl_varint.calls k fa b w' H2.out).mono ?_; rintro e w'' ⟨rfl, hb⟩; exact ⟨by with_reducible rfl, cb_ x0 hb, cb_ x1 hb, ⟨x2.out.trans (hb.mono x2.out.size)⟩⟩)); simp only [Act.put, List.setIfInBounds_toArray, List.set_cons_zero, List.set_cons_succ, i64_w, i32_w]; go_big_quiet_on)
        | (go_big_quiet_want; refine quiet_call ?_ Try.func99 (by kernel_rfl) rfl #[.string dat] rfl (by (try simp only [List.map_toArray, List.map_cons, List.map_nil]); first | done | rfl) ?_ ?_; rotate_left 1; (· (rintro w' ⟨x0, x1, x2⟩; refine (impl_counted.calls k dat c w' H3.out).mono ?_; rintro e w'' ⟨rfl, hb0⟩; have hb := (show Below w'.heap.size w' w'' from by first | exact hb0 | exact hb0.below); exact ⟨by with_reducible rfl, cb_ x0 hb, cb_ x1 hb, ⟨x2.out.trans (hb.mono x2.out.size)⟩⟩)); simp only [Act.put, List.setIfInBounds_toArray, List.set_cons_zero, List.set_cons_succ, i64_w, i32_w]; go_big_quiet_on)
        | (go_big_quiet_want; refine quiet_op (v := ?_) ?_ ?_; rotate_left 1; (· (rintro w' ⟨x0, x1, -⟩; go_simp; with_reducible rfl)); simp only [Act.put, List.setIfInBounds_toArray, List.set_cons_zero, List.set_cons_succ, i64_w, i32_w]; go_big_quiet_on))
      refine wpQuiet_nil ?_
      rintro w' ⟨-, -, x2⟩
      go_wp2
      go_ret
      exact ⟨by first | rfl | (simp; done), x2.out⟩
/-- The rounds of an ack's later ranges. -/
def ackLoop (k : Nat) (rs : List S92) : Nat → Int → ByteArray → Option ByteArray
  | 0, _, out => some out
  | n + 1, i, out => (impl_varint.f k (wrap64 (wrap64 ((rd_T92 rs i).f0 - (rd_T92 rs (i + 1)).f1) - 2))).bind fun x => (impl_varint.f k (wrap64 ((rd_T92 rs (i + 1)).f1 - (rd_T92 rs (i + 1)).f0))).bind fun y => (hcat x y).bind fun xy => (hcat out xy).bind fun o => ackLoop k rs n (i + 1) o
def ackHead (k : Nat) (fa : Int) (rs : List S92) : Option ByteArray :=
  (impl_varint.f k (rd_T92 rs 0).f1).bind fun a => (impl_varint.f k fa).bind fun b => (impl_varint.f k (wrap64 ((rs.length : Int) - 1))).bind fun c => (impl_varint.f k (wrap64 ((rd_T92 rs 0).f1 - (rd_T92 rs 0).f0))).bind fun d => (hcat a b).bind fun ab => (hcat ab c).bind fun abc => hcat abc d
def impl_Frame_ackBytes.f (k : Nat) (fa : Int) (rs : List S92) : Option ByteArray :=
  if 0 < rs.length ∧ rs.length ≤ 9223372036854775807 then (ackHead k fa rs).bind (ackLoop k rs (rs.length - 1) 0) else none
set_option maxHeartbeats 4000000 in
set_option maxRecDepth 100000 in
theorem impl_Frame_ackBytes.calls (k g : Nat) (kd fa fb fc : Int) (fin : Bool) (dat : ByteArray) (AR : Option Addr) (rs : List S92) (cR : Nat) (r : ByteArray) (w : World) (hb0 : w.heap[g]? = some (.cells #[.int .i64 kd, .int .i64 fa, .int .i64 fb, .int .i64 fc, .bool fin, .string dat, .slice AR rs.length cR] 30 (0, 0))) (hr : Kd.C k92 w AR rs.length rs) (hc : rs.length ≤ cR) (h : impl_Frame_ackBytes.f k fa rs = some r) :
    Calls Try.prog 98 #[.pointer (some ⟨g, 0, none⟩)] w fun e w' => e = .returned (.string r) ∧ Below w.heap.size w w' := by
  unfold impl_Frame_ackBytes.f at h
  split at h
  case isFalse => cases h
  case isTrue hlen =>
  obtain ⟨hd, hH, hL⟩ := Option.bind_eq_some_iff.mp h
  have HHD := hH
  unfold ackHead at hH
  obtain ⟨a, h1, hH⟩ := Option.bind_eq_some_iff.mp hH
  obtain ⟨b, h2, hH⟩ := Option.bind_eq_some_iff.mp hH
  obtain ⟨c, h3, hH⟩ := Option.bind_eq_some_iff.mp hH
  obtain ⟨d, h4, hH⟩ := Option.bind_eq_some_iff.mp hH
  obtain ⟨ab, h5, hH⟩ := Option.bind_eq_some_iff.mp hH
  obtain ⟨abc, h6, h7⟩ := Option.bind_eq_some_iff.mp hH
  obtain ⟨rfl, s1⟩ := hcat_some h5
  obtain ⟨rfl, s2⟩ := hcat_some h6
  obtain ⟨rfl, s3⟩ := hcat_some h7
  simp only [ByteArray.size_append] at s2 s3
  have H1 := Aside0.mk h1
  have H2 := Aside0.mk h2
  have H3 := Aside0.mk h3
  have H4 := Aside0.mk h4
  have HL := Aside0.mk hL
  have QG := Aside0.mk hb0
  have HR := Aside0.mk hr
  have HC := Aside0.mk hc
  have HLN := Aside0.mk hlen
  have HB := Aside0.mk (Below.refl w.heap.size w)
  have hglt := blk_lt hb0
  have hu92 := Try.underlying92
  clear h hH h1 h2 h3 h4 h5 h6 h7 hL HHD
  have p0 : (0 : Int) < (rs.length : Int) := by have := hlen.1; omega
  obtain ⟨ad, e0, hx0, hx1⟩ := at_T92 hr 0 (by omega) p0
  cases e0
  have hy0 : w.cell? ad = some (.int .i64 (rd_T92 rs 0).f0) := hx0
  have hy1 : w.cell? ⟨ad.block, ad.off + 1, none⟩ = some (.int .i64 (rd_T92 rs 0).f1) := hx1
  clear hx0 hx1
  clear hb0 hr hc hlen
  obtain ⟨z0, z1, z2, z3, z4, z5, z6⟩ := Go.Proofs.Ytpdoplkiaejpiaa.ShortK.cz7 QG
  have p0' := eq_true p0
  have q0 : decide ((0 : Int) < (rs.length : Int)) = true := decide_eq_true p0
  go_enter Try.func98, Try.ntmps98
  have hb : Below w.heap.size w (w.alloc (.cells #[.int .i64 (rd_T92 rs 0).f0, .int .i64 (rd_T92 rs 0).f1] 92 (0, 0))) := below_alloc (Below.refl _ w) _
  have hbox : (w.alloc (.cells #[.int .i64 (rd_T92 rs 0).f0, .int .i64 (rd_T92 rs 0).f1] 92 (0, 0))).heap[w.heap.size]? = some (.cells #[.int .i64 (rd_T92 rs 0).f0, .int .i64 (rd_T92 rs 0).f1] 92 (0, 0)) := blk_new w _
  go_wp2_with fail
  have HBOX := Aside0.mk hbox
  have HB2 := Aside0.mk hb
  have HBH := Aside0.mk hb
  clear hbox hb
  revert HBOX HB2 HBH
  generalize w.alloc (.cells #[.int .i64 (rd_T92 rs 0).f0, .int .i64 (rd_T92 rs 0).f1] 92 (0, 0)) = w6
  intro HBOX HB2 HBH
  have hb := HBH.out
  clear HBH
  have HBC : w6.cell? ⟨w.heap.size, 0, none⟩ = some (.int .i64 (rd_T92 rs 0).f0) ∧ w6.cell? ⟨w.heap.size, 1, none⟩ = some (.int .i64 (rd_T92 rs 0).f1) := ⟨(blk_cell HBOX.out 0).trans rfl, (blk_cell HBOX.out 1).trans rfl⟩
  have k1 : w6.cell? ⟨g, 1, none⟩ = some (.int .i64 fa) := cb_ z1 hb
  have k6 : w6.cell? ⟨g, 6, none⟩ = some (.slice (some ad) rs.length cR) := cb_ z6 hb
  go_cut [4] (fun v4 wc => v4 = .string (a ++ b ++ c ++ d) ∧ Aside0 (Below w.heap.size w wc))
  case first =>
    go_wp2_with fail
    refine region_quiet (C := fun w' => w'.cell? ⟨w.heap.size, 0, none⟩ = some (.int .i64 (rd_T92 rs 0).f0) ∧ w'.cell? ⟨w.heap.size, 1, none⟩ = some (.int .i64 (rd_T92 rs 0).f1) ∧ w'.cell? ⟨g, 1, none⟩ = some (.int .i64 fa) ∧ w'.cell? ⟨g, 6, none⟩ = some (.slice (some ad) rs.length cR) ∧ Aside0 (Below w.heap.size w w')) (by kernel_rfl) (by kernel_rfl) ?hC ?_
    case hC => exact ⟨cb_ HBC.1 (below_drew (Below.refl _ w6)), cb_ HBC.2 (below_drew (Below.refl _ w6)), cb_ k1 (below_drew (Below.refl _ w6)), cb_ k6 (below_drew (Below.refl _ w6)), ⟨below_drew HB2.out⟩⟩
    repeat (first
        | go_big_quiet_skip
        | (go_big_quiet_want; refine quiet_call ?_ Try.func97 (by kernel_rfl) rfl #[.int .i64 (rd_T92 rs 0).f1] rfl (by (try simp only [List.map_toArray, List.map_cons, List.map_nil]); first | done | rfl) ?_ ?_; rotate_left 1; (· (rintro w' ⟨x0, x1, x2, x3, x4⟩; refine (impl_varint.calls k (rd_T92 rs 0).f1 a w' H1.out).mono ?_; rintro e w'' ⟨rfl, hb⟩; exact ⟨by with_reducible rfl, cb_ x0 hb, cb_ x1 hb, cb_ x2 hb, cb_ x3 hb, ⟨x4.out.trans (hb.mono x4.out.size)⟩⟩)); simp only [Act.put, List.setIfInBounds_toArray, List.set_cons_zero, List.set_cons_succ, i64_w, i32_w]; go_big_quiet_on)
        | (go_big_quiet_want; refine quiet_call ?_ Try.func97 (by kernel_rfl) rfl #[.int .i64 fa] rfl (by (try simp only [List.map_toArray, List.map_cons, List.map_nil]); first | done | rfl) ?_ ?_; rotate_left 1; (· (rintro w' ⟨x0, x1, x2, x3, x4⟩; refine (impl_varint.calls k fa b w' H2.out).mono ?_; rintro e w'' ⟨rfl, hb⟩; exact ⟨by with_reducible rfl, cb_ x0 hb, cb_ x1 hb, cb_ x2 hb, cb_ x3 hb, ⟨x4.out.trans (hb.mono x4.out.size)⟩⟩)); simp only [Act.put, List.setIfInBounds_toArray, List.set_cons_zero, List.set_cons_succ, i64_w, i32_w]; go_big_quiet_on)
        | (go_big_quiet_want; refine quiet_call ?_ Try.func97 (by kernel_rfl) rfl #[.int .i64 (wrap64 ((rs.length : Int) - 1))] rfl (by (try simp only [List.map_toArray, List.map_cons, List.map_nil]); first | done | rfl) ?_ ?_; rotate_left 1; (· (rintro w' ⟨x0, x1, x2, x3, x4⟩; refine (impl_varint.calls k (wrap64 ((rs.length : Int) - 1)) c w' H3.out).mono ?_; rintro e w'' ⟨rfl, hb⟩; exact ⟨by with_reducible rfl, cb_ x0 hb, cb_ x1 hb, cb_ x2 hb, cb_ x3 hb, ⟨x4.out.trans (hb.mono x4.out.size)⟩⟩)); simp only [Act.put, List.setIfInBounds_toArray, List.set_cons_zero, List.set_cons_succ, i64_w, i32_w]; go_big_quiet_on)
        | (go_big_quiet_want; refine quiet_call ?_ Try.func97 (by kernel_rfl) rfl #[.int .i64 (wrap64 ((rd_T92 rs 0).f1 - (rd_T92 rs 0).f0))] rfl (by (try simp only [List.map_toArray, List.map_cons, List.map_nil]); first | done | rfl) ?_ ?_; rotate_left 1; (· (rintro w' ⟨x0, x1, x2, x3, x4⟩; refine (impl_varint.calls k (wrap64 ((rd_T92 rs 0).f1 - (rd_T92 rs 0).f0)) d w' H4.out).mono ?_; rintro e w'' ⟨rfl, hb⟩; exact ⟨by with_reducible rfl, cb_ x0 hb, cb_ x1 hb, cb_ x2 hb, cb_ x3 hb, ⟨x4.out.trans (hb.mono x4.out.size)⟩⟩)); simp only [Act.put, List.setIfInBounds_toArray, List.set_cons_zero, List.set_cons_succ, i64_w, i32_w]; go_big_quiet_on)
        | (go_big_quiet_want; refine quiet_op (v := ?_) ?_ ?_; rotate_left 1; (· (rintro w' ⟨x0, x1, x2, x3, -⟩; go_simp; with_reducible rfl)); simp only [Act.put, List.setIfInBounds_toArray, List.set_cons_zero, List.set_cons_succ, i64_w, i32_w]; go_big_quiet_on))
    refine wpQuiet_nil ?_
    rintro w' ⟨-, -, -, -, x4⟩
    go_wp2
    go_meet
    case rel => exact ⟨rfl, x4⟩
  case rest =>
    obtain ⟨rfl, HB9⟩ := hcut
    clear HB2 HBOX HBC k1 k6 hb
    have k6 : wc.cell? ⟨g, 6, none⟩ = some (.slice (some ad) rs.length cR) := cb_ z6 HB9.out
    have p1 : (1 : Int) ≤ (rs.length : Int) := by omega
    have p1' := eq_true p1
    have p2 : (rs.length : Int) ≤ (cR : Int) := by have := HC.out; omega
    have p2' := eq_true p2
    clear hglt z0 z1 z2 z3 z4 z5 s1 s2 s3
    have HL0 := HL
    go_wp2_with fail
    · have hr1 : rs.length = 1 := by have := HC.out; have := HLN.out.1; omega
      have H := HL0.out
      rw [show rs.length - 1 = 0 from by omega] at H
      have hR := Aside0.mk (Option.some.inj H)
      have hd : ((0 : Int) < ((rs.length - 1 : Nat) : Int)) = False := eq_false (by omega)
      have hd2 : decide ((0 : Int) < ((rs.length - 1 : Nat) : Int)) = false := decide_eq_false (by omega)
      clear H
      have hR2 := hR.out
      go_loopg [4, 43] 0 (fun kq v4 v43 w' => v4 = .string r ∧ v43 = .int .i64 0 ∧ Aside0 (Below w.heap.size w w'))
      case atStart => exact ⟨by rw [hR2], rfl, HB9⟩
      case round =>
        obtain ⟨rfl, rfl, HB⟩ := hrel
        go_wp2
        go_ret
        exact ⟨rfl, HB.out⟩
    go_loopg [4, 43] (rs.length - 1) (fun kq v4 v43 w' => ∃ (i : Int) (out : ByteArray), v4 = .string out ∧ v43 = .int .i64 i ∧ Aside0 (ackLoop k rs kq i out = some r) ∧ Aside0 (i + kq = (rs.length : Int) - 1 ∧ 0 ≤ i) ∧ Aside0 (Below w.heap.size w w'))
    case atStart => exact ⟨0, _, rfl, rfl, HL, ⟨⟨by have := HLN.out.1; omega, by omega⟩⟩, HB9⟩
    case round =>
      clear HL HL0 H1 H2 H3 H4 HB9 k6
      obtain ⟨i, out, rfl, rfl, HA, HI, HB⟩ := hrel
      obtain ⟨hi1, hi0⟩ := HI.out
      clear HI
      cases gk with
      | zero =>
        have hd2 : decide (i < ((rs.length - 1 : Nat) : Int)) = false := decide_eq_false (by omega)
        obtain rfl : out = r := Option.some.inj HA.out
        clear HA hi1 hi0
        go_wp2
        go_ret
        exact ⟨rfl, HB.out⟩
      | succ n =>
        have HA1 := HA.out
        unfold ackLoop at HA1
        obtain ⟨x, hx, HA1⟩ := Option.bind_eq_some_iff.mp HA1
        obtain ⟨y, hy, HA1⟩ := Option.bind_eq_some_iff.mp HA1
        obtain ⟨xy, hxy, HA1⟩ := Option.bind_eq_some_iff.mp HA1
        obtain ⟨o, ho, HA1⟩ := Option.bind_eq_some_iff.mp HA1
        obtain ⟨rfl, s1⟩ := hcat_some hxy
        obtain ⟨rfl, s2⟩ := hcat_some ho
        simp only [ByteArray.size_append] at s2
        have HX := Aside0.mk hx
        have HY := Aside0.mk hy
        have HN := Aside0.mk HA1
        clear HA HA1 hx hy hxy ho
        have hi2 : i < ((rs.length - 1 : Nat) : Int) := by omega
        have hd2 : decide (i < ((rs.length - 1 : Nat) : Int)) = true := decide_eq_true hi2
        have hi3 : i < (rs.length : Int) := by omega
        have HII := Aside0.mk (And.intro hi1 hi0)
        obtain ⟨ad', e0, hx0, -⟩ := at_T92 HR.out i hi0 hi3
        injection e0 with e0
        subst e0
        obtain ⟨ad', e0, hy0, hy1⟩ := at_T92 HR.out (i + 1) (by omega) (by omega)
        injection e0 with e0
        subst e0
        have ea : ad.add ((i + 1).toNat * 2) = ⟨ad.block, ad.off + 2 + i.toNat * 2, none⟩ := by
          have e3 : (i + 1).toNat * 2 = i.toNat * 2 + 2 := by omega
          have e4 : ad.off + (i.toNat * 2 + 2) = ad.off + 2 + i.toNat * 2 := by omega
          rw [e3]; unfold Addr.add; rw [if_neg (by omega), e4]
        rw [ea] at hy0 hy1
        have q0 := cb_ hx0 HB.out
        have q1 := cb_ hy0 HB.out
        have q2 := cb_ hy1 HB.out
        have q6 := cb_ z6 HB.out
        clear hx0 hy0 hy1 ea hi1
        have r0 := eq_true hi0
        have r1 := eq_true hi2
        have r2 := eq_true hi3
        have HWI := Aside0.mk (show wrap64 (i + 1) = i + 1 from by have := HLN.out; have := HII.out; unfold wrap64; omega)
        have hbn : Below wr.heap.size wr (wr.alloc (.cells #[.int .i64 (rd_T92 rs (i + 1)).f0, .int .i64 (rd_T92 rs (i + 1)).f1] 92 (0, 0))) := below_alloc (Below.refl _ wr) _
        have hbox : (wr.alloc (.cells #[.int .i64 (rd_T92 rs (i + 1)).f0, .int .i64 (rd_T92 rs (i + 1)).f1] 92 (0, 0))).heap[wr.heap.size]? = some (.cells #[.int .i64 (rd_T92 rs (i + 1)).f0, .int .i64 (rd_T92 rs (i + 1)).f1] 92 (0, 0)) := blk_new wr _
        go_upto_region 6 with (fail)
        have HBOX := Aside0.mk hbox
        have HBN := Aside0.mk hbn
        clear hbox hbn
        revert HBOX HBN
        generalize wr.alloc (.cells #[.int .i64 (rd_T92 rs (i + 1)).f0, .int .i64 (rd_T92 rs (i + 1)).f1] 92 (0, 0)) = w6
        intro HBOX HBN
        have y0 : w6.cell? ⟨wr.heap.size, 0, none⟩ = some (.int .i64 (rd_T92 rs (i + 1)).f0) := (blk_cell HBOX.out 0).trans rfl
        have y1 : w6.cell? ⟨wr.heap.size, 1, none⟩ = some (.int .i64 (rd_T92 rs (i + 1)).f1) := (blk_cell HBOX.out 1).trans rfl
        have y2 := cb_ q0 HBN.out
        have y6 := cb_ q6 HBN.out
        have HB6 := Aside0.mk (HB.out.trans (HBN.out.mono HB.out.size))
        clear HB HBN HBOX q0 q1 q2 q6
        refine region_quiet (C := fun w' => w'.cell? ⟨wr.heap.size, 0, none⟩ = some (.int .i64 (rd_T92 rs (i + 1)).f0) ∧ w'.cell? ⟨wr.heap.size, 1, none⟩ = some (.int .i64 (rd_T92 rs (i + 1)).f1) ∧ w'.cell? (ad.add (i.toNat * 2)) = some (.int .i64 (rd_T92 rs i).f0) ∧ w'.cell? ⟨g, 6, none⟩ = some (.slice (some ad) rs.length cR) ∧ Aside0 (Below w.heap.size w w')) (by kernel_rfl) (by kernel_rfl) ?hC ?_
        case hC => exact ⟨cb_ y0 (below_drew (Below.refl _ w6)), cb_ y1 (below_drew (Below.refl _ w6)), cb_ y2 (below_drew (Below.refl _ w6)), cb_ y6 (below_drew (Below.refl _ w6)), ⟨below_drew HB6.out⟩⟩
        repeat (first
            | go_big_quiet_skip
            | (go_big_quiet_want; refine quiet_call ?_ Try.func97 (by kernel_rfl) rfl #[.int .i64 (wrap64 (wrap64 ((rd_T92 rs i).f0 - (rd_T92 rs (i + 1)).f1) - 2))] rfl (by (try simp only [List.map_toArray, List.map_cons, List.map_nil]); first | done | rfl) ?_ ?_; rotate_left 1; (· (rintro w' ⟨x0, x1, x2, x3, x4⟩; refine (impl_varint.calls k (wrap64 (wrap64 ((rd_T92 rs i).f0 - (rd_T92 rs (i + 1)).f1) - 2)) x w' HX.out).mono ?_; rintro e w'' ⟨rfl, hb⟩; exact ⟨by with_reducible rfl, cb_ x0 hb, cb_ x1 hb, cb_ x2 hb, cb_ x3 hb, ⟨x4.out.trans (hb.mono x4.out.size)⟩⟩)); simp only [Act.put, List.setIfInBounds_toArray, List.set_cons_zero, List.set_cons_succ, i64_w, i32_w]; go_big_quiet_on)
            | (go_big_quiet_want; refine quiet_call ?_ Try.func97 (by kernel_rfl) rfl #[.int .i64 (wrap64 ((rd_T92 rs (i + 1)).f1 - (rd_T92 rs (i + 1)).f0))] rfl (by (try simp only [List.map_toArray, List.map_cons, List.map_nil]); first | done | rfl) ?_ ?_; rotate_left 1; (· (rintro w' ⟨x0, x1, x2, x3, x4⟩; refine (impl_varint.calls k (wrap64 ((rd_T92 rs (i + 1)).f1 - (rd_T92 rs (i + 1)).f0)) y w' HY.out).mono ?_; rintro e w'' ⟨rfl, hb⟩; exact ⟨by with_reducible rfl, cb_ x0 hb, cb_ x1 hb, cb_ x2 hb, cb_ x3 hb, ⟨x4.out.trans (hb.mono x4.out.size)⟩⟩)); simp only [Act.put, List.setIfInBounds_toArray, List.set_cons_zero, List.set_cons_succ, i64_w, i32_w]; go_big_quiet_on)
            | (go_big_quiet_want; refine quiet_op (v := ?_) ?_ ?_; rotate_left 1; (· (rintro w' ⟨x0, x1, x2, x3, -⟩; go_simp; with_reducible rfl)); simp only [Act.put, List.setIfInBounds_toArray, List.set_cons_zero, List.set_cons_succ, i64_w, i32_w]; go_big_quiet_on))
        refine wpQuiet_nil ?_
        rintro w' ⟨-, -, -, -, x4⟩
        go_wp2
        go_roundg n
        case measure => omega
        case rel => exact ⟨i + 1, _, rfl, by first | rfl | (simp; done) | (rw [HWI.out]), HN, ⟨⟨by have := HII.out; omega, by have := HII.out; omega⟩⟩, x4⟩
/-- What a frame of a kind must be besides what it names. -/
def goodTail (k : Nat) (kd fa fb fc : Int) (fin : Bool) (dat : ByteArray) (rs : List S92) : Option Bool :=
  if kd = 2 then (impl_in.f (rs.length : Int) 1 20).bind fun b => if b = true then impl_rangesOk.f k rs else some false
  else if kd = 6 then impl_isVarint.f (wrap64 (fa + (dat.size : Int)))
  else if kd = 7 then some (!dat.toList.isEmpty)
  else if kd = 8 then impl_isVarint.f (wrap64 (fb + (dat.size : Int)))
  else if kd = 24 then (if fb ≤ fa then (impl_in.f (dat.size : Int) 1 20).bind fun b => if b = true then some (decide (fc ≤ 255)) else some false else some false)
  else if kd = 26 ∨ kd = 27 then some ((dat.size : Int) == 8)
  else some true
def impl_GoodFrame.f (k : Nat) (kd fa fb fc : Int) (fin : Bool) (dat : ByteArray) (rs : List S92) : Option Bool := (impl_Frame_named.f kd fa fb fc fin dat rs.length).bind fun a => if a = true then goodTail k kd fa fb fc fin dat rs else some false
set_option maxHeartbeats 4000000 in
set_option maxRecDepth 100000 in
theorem impl_GoodFrame.calls (k : Nat) (kd fa fb fc : Int) (fin : Bool) (dat : ByteArray) (rs : List S92) (AR : Option Addr) (cR : Nat) (r : Bool) (w : World) (hr : Kd.C k92 w AR rs.length rs) (hc : rs.length ≤ cR) (h : impl_GoodFrame.f k kd fa fb fc fin dat rs = some r) :
    Calls Try.prog 44 #[.agg #[.int .i64 kd, .int .i64 fa, .int .i64 fb, .int .i64 fc, .bool fin, .string dat, .slice AR rs.length cR]] w fun e w' => e = .returned (.bool r) ∧ Below w.heap.size w w' := by
  obtain ⟨a, h1, h2⟩ := Option.bind_eq_some_iff.mp h
  have HA := Aside0.mk h1
  have HT := Aside0.mk h2
  have HR := Aside0.mk hr
  have HC := Aside0.mk hc
  have HB := Aside0.mk (Below.refl w.heap.size w)
  clear h h1 h2 hr hc
  have hu30 := Try.underlying30
  cases a with
  | false =>
    obtain rfl : r = false := (Option.some.inj ((if_neg (by decide)).symm.trans HT.out)).symm
    clear HT
    go_enter Try.func44, Try.ntmps44
    go_wp2_with (first
      | ((with_reducible refine gate_dst (N := 1) rfl ?_); (try (refine gate_guard (by rfl) ?_; dsimp only)); refine box_event ?hg (N := 1) ?hd (cs := #[.int .i64 kd, .int .i64 fa, .int .i64 fb, .int .i64 fc, .bool fin, .string dat, .slice AR rs.length cR]) (t := 30) ?hr ?_; (case hd => rfl); (case hg => rfl); (case hr => first | (go_simp; done) | (go_simp; rfl)); intro g hg1 w2 hbox hb; have QG := Aside0.mk hbox; have HB2 := Aside0.mk (HB.out.trans (hb.mono HB.out.size)); clear hbox hb hg1 HB)
      | (go_at_call 95; refine (impl_Frame_named.calls g kd fa fb fc fin dat AR rs.length cR false _ QG.out HA.out).mono ?_; rintro e w3 ⟨rfl, hb⟩; have HB := Aside0.mk (HB2.out.trans (hb.mono HB2.out.size)); have QG3 := Aside0.mk (blk_below QG.out hb); clear hb HB2 QG; obtain ⟨z0, z1, z2, z3, z4, z5, z6⟩ := Go.Proofs.Ytpdoplkiaejpiaa.ShortK.cz7 QG3))
    go_ret
    exact ⟨rfl, by first | exact HB.out | exact pw_below_drewN HB.out _ | exact HBB.out⟩
  | true =>
    have H : goodTail k kd fa fb fc fin dat rs = some r := (if_pos rfl).symm.trans HT.out
    clear HT
    unfold goodTail at H
    by_cases k2 : kd = 2
    case pos =>
      rw [if_pos k2] at H
      subst k2
      obtain ⟨b, G1, H⟩ := Option.bind_eq_some_iff.mp H
      have HG1 := Aside0.mk G1
      clear G1
      cases b with
      | false =>
        obtain rfl : r = false := (Option.some.inj ((if_neg (by decide)).symm.trans H)).symm
        clear H
        go_enter Try.func44, Try.ntmps44
        go_wp2_with (first
          | ((with_reducible refine gate_dst (N := 1) rfl ?_); (try (refine gate_guard (by rfl) ?_; dsimp only)); refine box_event ?hg (N := 1) ?hd (cs := #[.int .i64 2, .int .i64 fa, .int .i64 fb, .int .i64 fc, .bool fin, .string dat, .slice AR rs.length cR]) (t := 30) ?hr ?_; (case hd => rfl); (case hg => rfl); (case hr => first | (go_simp; done) | (go_simp; rfl)); intro g hg1 w2 hbox hb; have QG := Aside0.mk hbox; have HB2 := Aside0.mk (HB.out.trans (hb.mono HB.out.size)); clear hbox hb hg1 HB)
          | (go_at_call 95; refine (impl_Frame_named.calls g 2 fa fb fc fin dat AR rs.length cR true _ QG.out HA.out).mono ?_; rintro e w3 ⟨rfl, hb⟩; have HB := Aside0.mk (HB2.out.trans (hb.mono HB2.out.size)); have QG3 := Aside0.mk (blk_below QG.out hb); clear hb HB2 QG; obtain ⟨z0, z1, z2, z3, z4, z5, z6⟩ := Go.Proofs.Ytpdoplkiaejpiaa.ShortK.cz7 QG3)
          | (go_at_call 74; refine (impl_in.calls (rs.length : Int) 1 20 false _ HG1.out).mono ?_; rintro e w4 ⟨rfl, ⟨nd, rfl⟩⟩))
        go_ret
        exact ⟨rfl, by first | exact HB.out | exact pw_below_drewN HB.out _ | exact HBB.out⟩
      | true =>
        have HG2 : Aside0 (impl_rangesOk.f k rs = some r) := ⟨(if_pos rfl).symm.trans H⟩
        clear H
        go_enter Try.func44, Try.ntmps44
        go_wp2_with (first
          | ((with_reducible refine gate_dst (N := 1) rfl ?_); (try (refine gate_guard (by rfl) ?_; dsimp only)); refine box_event ?hg (N := 1) ?hd (cs := #[.int .i64 2, .int .i64 fa, .int .i64 fb, .int .i64 fc, .bool fin, .string dat, .slice AR rs.length cR]) (t := 30) ?hr ?_; (case hd => rfl); (case hg => rfl); (case hr => first | (go_simp; done) | (go_simp; rfl)); intro g hg1 w2 hbox hb; have QG := Aside0.mk hbox; have HB2 := Aside0.mk (HB.out.trans (hb.mono HB.out.size)); clear hbox hb hg1 HB)
          | (go_at_call 95; refine (impl_Frame_named.calls g 2 fa fb fc fin dat AR rs.length cR true _ QG.out HA.out).mono ?_; rintro e w3 ⟨rfl, hb⟩; have HB := Aside0.mk (HB2.out.trans (hb.mono HB2.out.size)); have QG3 := Aside0.mk (blk_below QG.out hb); clear hb HB2 QG; obtain ⟨z0, z1, z2, z3, z4, z5, z6⟩ := Go.Proofs.Ytpdoplkiaejpiaa.ShortK.cz7 QG3)
          | (go_at_call 74; refine (impl_in.calls (rs.length : Int) 1 20 true _ HG1.out).mono ?_; rintro e w4 ⟨rfl, ⟨nd, rfl⟩⟩)
          | (go_at_call 96; refine (impl_rangesOk.calls k _ _ rs r _ (Kd.C_below HR.out (pw_below_drewN HB.out _)) HC.out HG2.out).mono ?_; rintro e w5 ⟨rfl, hb5⟩; have HBB := Aside0.mk ((pw_below_drewN HB.out nd).trans ((show Below _ _ w5 from by first | exact hb5 | exact hb5.below).mono (pw_below_drewN HB.out nd).size))))
        go_ret
        exact ⟨rfl, by first | exact HB.out | exact pw_below_drewN HB.out _ | exact HBB.out⟩
    rw [if_neg k2] at H
    have e2 : (kd == 2) = false := beq_eq_false_iff_ne.mpr k2
    by_cases k6 : kd = 6
    case pos =>
      rw [if_pos k6] at H
      subst k6
      have HG1 := Aside0.mk H
      clear H
      go_enter Try.func44, Try.ntmps44
      go_wp2_with (first
        | ((with_reducible refine gate_dst (N := 1) rfl ?_); (try (refine gate_guard (by rfl) ?_; dsimp only)); refine box_event ?hg (N := 1) ?hd (cs := #[.int .i64 6, .int .i64 fa, .int .i64 fb, .int .i64 fc, .bool fin, .string dat, .slice AR rs.length cR]) (t := 30) ?hr ?_; (case hd => rfl); (case hg => rfl); (case hr => first | (go_simp; done) | (go_simp; rfl)); intro g hg1 w2 hbox hb; have QG := Aside0.mk hbox; have HB2 := Aside0.mk (HB.out.trans (hb.mono HB.out.size)); clear hbox hb hg1 HB)
        | (go_at_call 95; refine (impl_Frame_named.calls g 6 fa fb fc fin dat AR rs.length cR true _ QG.out HA.out).mono ?_; rintro e w3 ⟨rfl, hb⟩; have HB := Aside0.mk (HB2.out.trans (hb.mono HB2.out.size)); have QG3 := Aside0.mk (blk_below QG.out hb); clear hb HB2 QG; obtain ⟨z0, z1, z2, z3, z4, z5, z6⟩ := Go.Proofs.Ytpdoplkiaejpiaa.ShortK.cz7 QG3)
        | (go_at_call 85; refine (impl_isVarint.calls (wrap64 (fa + (dat.size : Int))) r _ HG1.out).mono ?_; rintro e w4 ⟨rfl, ⟨nd, rfl⟩⟩))
      go_ret
      exact ⟨rfl, by first | exact HB.out | exact pw_below_drewN HB.out _ | exact HBB.out⟩
    rw [if_neg k6] at H
    have e6 : (kd == 6) = false := beq_eq_false_iff_ne.mpr k6
    by_cases k7 : kd = 7
    case pos =>
      rw [if_pos k7] at H
      subst k7
      obtain rfl := Option.some.inj H
      clear H
      go_enter Try.func44, Try.ntmps44
      go_wp2_with (first
        | ((with_reducible refine gate_dst (N := 1) rfl ?_); (try (refine gate_guard (by rfl) ?_; dsimp only)); refine box_event ?hg (N := 1) ?hd (cs := #[.int .i64 7, .int .i64 fa, .int .i64 fb, .int .i64 fc, .bool fin, .string dat, .slice AR rs.length cR]) (t := 30) ?hr ?_; (case hd => rfl); (case hg => rfl); (case hr => first | (go_simp; done) | (go_simp; rfl)); intro g hg1 w2 hbox hb; have QG := Aside0.mk hbox; have HB2 := Aside0.mk (HB.out.trans (hb.mono HB.out.size)); clear hbox hb hg1 HB)
        | (go_at_call 95; refine (impl_Frame_named.calls g 7 fa fb fc fin dat AR rs.length cR true _ QG.out HA.out).mono ?_; rintro e w3 ⟨rfl, hb⟩; have HB := Aside0.mk (HB2.out.trans (hb.mono HB2.out.size)); have QG3 := Aside0.mk (blk_below QG.out hb); clear hb HB2 QG; obtain ⟨z0, z1, z2, z3, z4, z5, z6⟩ := Go.Proofs.Ytpdoplkiaejpiaa.ShortK.cz7 QG3))
      go_ret
      exact ⟨rfl, by first | exact HB.out | exact pw_below_drewN HB.out _ | exact HBB.out⟩
    rw [if_neg k7] at H
    have e7 : (kd == 7) = false := beq_eq_false_iff_ne.mpr k7
    by_cases k8 : kd = 8
    case pos =>
      rw [if_pos k8] at H
      subst k8
      have HG1 := Aside0.mk H
      clear H
      go_enter Try.func44, Try.ntmps44
      go_wp2_with (first
        | ((with_reducible refine gate_dst (N := 1) rfl ?_); (try (refine gate_guard (by rfl) ?_; dsimp only)); refine box_event ?hg (N := 1) ?hd (cs := #[.int .i64 8, .int .i64 fa, .int .i64 fb, .int .i64 fc, .bool fin, .string dat, .slice AR rs.length cR]) (t := 30) ?hr ?_; (case hd => rfl); (case hg => rfl); (case hr => first | (go_simp; done) | (go_simp; rfl)); intro g hg1 w2 hbox hb; have QG := Aside0.mk hbox; have HB2 := Aside0.mk (HB.out.trans (hb.mono HB.out.size)); clear hbox hb hg1 HB)
        | (go_at_call 95; refine (impl_Frame_named.calls g 8 fa fb fc fin dat AR rs.length cR true _ QG.out HA.out).mono ?_; rintro e w3 ⟨rfl, hb⟩; have HB := Aside0.mk (HB2.out.trans (hb.mono HB2.out.size)); have QG3 := Aside0.mk (blk_below QG.out hb); clear hb HB2 QG; obtain ⟨z0, z1, z2, z3, z4, z5, z6⟩ := Go.Proofs.Ytpdoplkiaejpiaa.ShortK.cz7 QG3)
        | (go_at_call 85; refine (impl_isVarint.calls (wrap64 (fb + (dat.size : Int))) r _ HG1.out).mono ?_; rintro e w4 ⟨rfl, ⟨nd, rfl⟩⟩))
      go_ret
      exact ⟨rfl, by first | exact HB.out | exact pw_below_drewN HB.out _ | exact HBB.out⟩
    rw [if_neg k8] at H
    have e8 : (kd == 8) = false := beq_eq_false_iff_ne.mpr k8
    by_cases k24 : kd = 24
    case pos =>
      rw [if_pos k24] at H
      subst k24
      by_cases h1 : fb ≤ fa
      case neg =>
        have h1b : decide (fb ≤ fa) = false := decide_eq_false h1
        rw [if_neg h1] at H
        obtain rfl := Option.some.inj H
        clear H h1
        go_enter Try.func44, Try.ntmps44
        go_wp2_with (first
          | ((with_reducible refine gate_dst (N := 1) rfl ?_); (try (refine gate_guard (by rfl) ?_; dsimp only)); refine box_event ?hg (N := 1) ?hd (cs := #[.int .i64 24, .int .i64 fa, .int .i64 fb, .int .i64 fc, .bool fin, .string dat, .slice AR rs.length cR]) (t := 30) ?hr ?_; (case hd => rfl); (case hg => rfl); (case hr => first | (go_simp; done) | (go_simp; rfl)); intro g hg1 w2 hbox hb; have QG := Aside0.mk hbox; have HB2 := Aside0.mk (HB.out.trans (hb.mono HB.out.size)); clear hbox hb hg1 HB)
          | (go_at_call 95; refine (impl_Frame_named.calls g 24 fa fb fc fin dat AR rs.length cR true _ QG.out HA.out).mono ?_; rintro e w3 ⟨rfl, hb⟩; have HB := Aside0.mk (HB2.out.trans (hb.mono HB2.out.size)); have QG3 := Aside0.mk (blk_below QG.out hb); clear hb HB2 QG; obtain ⟨z0, z1, z2, z3, z4, z5, z6⟩ := Go.Proofs.Ytpdoplkiaejpiaa.ShortK.cz7 QG3))
        go_ret
        exact ⟨rfl, by first | exact HB.out | exact pw_below_drewN HB.out _ | exact HBB.out⟩
      have h1b : decide (fb ≤ fa) = true := decide_eq_true h1
      rw [if_pos h1] at H
      clear h1
      obtain ⟨b, G1, H⟩ := Option.bind_eq_some_iff.mp H
      have HG1 := Aside0.mk G1
      clear G1
      cases b with
      | false =>
        obtain rfl : r = false := (Option.some.inj ((if_neg (by decide)).symm.trans H)).symm
        clear H
        go_enter Try.func44, Try.ntmps44
        go_wp2_with (first
          | ((with_reducible refine gate_dst (N := 1) rfl ?_); (try (refine gate_guard (by rfl) ?_; dsimp only)); refine box_event ?hg (N := 1) ?hd (cs := #[.int .i64 24, .int .i64 fa, .int .i64 fb, .int .i64 fc, .bool fin, .string dat, .slice AR rs.length cR]) (t := 30) ?hr ?_; (case hd => rfl); (case hg => rfl); (case hr => first | (go_simp; done) | (go_simp; rfl)); intro g hg1 w2 hbox hb; have QG := Aside0.mk hbox; have HB2 := Aside0.mk (HB.out.trans (hb.mono HB.out.size)); clear hbox hb hg1 HB)
          | (go_at_call 95; refine (impl_Frame_named.calls g 24 fa fb fc fin dat AR rs.length cR true _ QG.out HA.out).mono ?_; rintro e w3 ⟨rfl, hb⟩; have HB := Aside0.mk (HB2.out.trans (hb.mono HB2.out.size)); have QG3 := Aside0.mk (blk_below QG.out hb); clear hb HB2 QG; obtain ⟨z0, z1, z2, z3, z4, z5, z6⟩ := Go.Proofs.Ytpdoplkiaejpiaa.ShortK.cz7 QG3)
          | (go_at_call 74; refine (impl_in.calls (dat.size : Int) 1 20 false _ HG1.out).mono ?_; rintro e w4 ⟨rfl, ⟨nd, rfl⟩⟩))
        go_ret
        exact ⟨rfl, by first | exact HB.out | exact pw_below_drewN HB.out _ | exact HBB.out⟩
      | true =>
        obtain rfl := Option.some.inj ((if_pos rfl).symm.trans H)
        clear H
        go_enter Try.func44, Try.ntmps44
        go_wp2_with (first
          | ((with_reducible refine gate_dst (N := 1) rfl ?_); (try (refine gate_guard (by rfl) ?_; dsimp only)); refine box_event ?hg (N := 1) ?hd (cs := #[.int .i64 24, .int .i64 fa, .int .i64 fb, .int .i64 fc, .bool fin, .string dat, .slice AR rs.length cR]) (t := 30) ?hr ?_; (case hd => rfl); (case hg => rfl); (case hr => first | (go_simp; done) | (go_simp; rfl)); intro g hg1 w2 hbox hb; have QG := Aside0.mk hbox; have HB2 := Aside0.mk (HB.out.trans (hb.mono HB.out.size)); clear hbox hb hg1 HB)
          | (go_at_call 95; refine (impl_Frame_named.calls g 24 fa fb fc fin dat AR rs.length cR true _ QG.out HA.out).mono ?_; rintro e w3 ⟨rfl, hb⟩; have HB := Aside0.mk (HB2.out.trans (hb.mono HB2.out.size)); have QG3 := Aside0.mk (blk_below QG.out hb); clear hb HB2 QG; obtain ⟨z0, z1, z2, z3, z4, z5, z6⟩ := Go.Proofs.Ytpdoplkiaejpiaa.ShortK.cz7 QG3)
          | (go_at_call 74; refine (impl_in.calls (dat.size : Int) 1 20 true _ HG1.out).mono ?_; rintro e w4 ⟨rfl, ⟨nd, rfl⟩⟩))
        go_ret
        exact ⟨rfl, by first | exact HB.out | exact pw_below_drewN HB.out _ | exact HBB.out⟩
    rw [if_neg k24] at H
    have e24 : (kd == 24) = false := beq_eq_false_iff_ne.mpr k24
    by_cases k26 : kd = 26 ∨ kd = 27
    case pos =>
      rw [if_pos k26] at H
      obtain rfl := Option.some.inj H
      clear H
      rcases k26 with rfl | rfl
      · skip
        go_enter Try.func44, Try.ntmps44
        go_wp2_with (first
          | ((with_reducible refine gate_dst (N := 1) rfl ?_); (try (refine gate_guard (by rfl) ?_; dsimp only)); refine box_event ?hg (N := 1) ?hd (cs := #[.int .i64 26, .int .i64 fa, .int .i64 fb, .int .i64 fc, .bool fin, .string dat, .slice AR rs.length cR]) (t := 30) ?hr ?_; (case hd => rfl); (case hg => rfl); (case hr => first | (go_simp; done) | (go_simp; rfl)); intro g hg1 w2 hbox hb; have QG := Aside0.mk hbox; have HB2 := Aside0.mk (HB.out.trans (hb.mono HB.out.size)); clear hbox hb hg1 HB)
          | (go_at_call 95; refine (impl_Frame_named.calls g 26 fa fb fc fin dat AR rs.length cR true _ QG.out HA.out).mono ?_; rintro e w3 ⟨rfl, hb⟩; have HB := Aside0.mk (HB2.out.trans (hb.mono HB2.out.size)); have QG3 := Aside0.mk (blk_below QG.out hb); clear hb HB2 QG; obtain ⟨z0, z1, z2, z3, z4, z5, z6⟩ := Go.Proofs.Ytpdoplkiaejpiaa.ShortK.cz7 QG3))
        go_ret
        exact ⟨rfl, by first | exact HB.out | exact pw_below_drewN HB.out _ | exact HBB.out⟩
      · skip
        go_enter Try.func44, Try.ntmps44
        go_wp2_with (first
          | ((with_reducible refine gate_dst (N := 1) rfl ?_); (try (refine gate_guard (by rfl) ?_; dsimp only)); refine box_event ?hg (N := 1) ?hd (cs := #[.int .i64 27, .int .i64 fa, .int .i64 fb, .int .i64 fc, .bool fin, .string dat, .slice AR rs.length cR]) (t := 30) ?hr ?_; (case hd => rfl); (case hg => rfl); (case hr => first | (go_simp; done) | (go_simp; rfl)); intro g hg1 w2 hbox hb; have QG := Aside0.mk hbox; have HB2 := Aside0.mk (HB.out.trans (hb.mono HB.out.size)); clear hbox hb hg1 HB)
          | (go_at_call 95; refine (impl_Frame_named.calls g 27 fa fb fc fin dat AR rs.length cR true _ QG.out HA.out).mono ?_; rintro e w3 ⟨rfl, hb⟩; have HB := Aside0.mk (HB2.out.trans (hb.mono HB2.out.size)); have QG3 := Aside0.mk (blk_below QG.out hb); clear hb HB2 QG; obtain ⟨z0, z1, z2, z3, z4, z5, z6⟩ := Go.Proofs.Ytpdoplkiaejpiaa.ShortK.cz7 QG3))
        go_ret
        exact ⟨rfl, by first | exact HB.out | exact pw_below_drewN HB.out _ | exact HBB.out⟩
    rw [if_neg k26] at H
    have e26 : (kd == 26) = false := beq_eq_false_iff_ne.mpr (fun h => k26 (Or.inl h))
    have e27 : (kd == 27) = false := beq_eq_false_iff_ne.mpr (fun h => k26 (Or.inr h))
    obtain rfl := Option.some.inj H
    clear H
    go_enter Try.func44, Try.ntmps44
    go_wp2_with (first
      | ((with_reducible refine gate_dst (N := 1) rfl ?_); (try (refine gate_guard (by rfl) ?_; dsimp only)); refine box_event ?hg (N := 1) ?hd (cs := #[.int .i64 kd, .int .i64 fa, .int .i64 fb, .int .i64 fc, .bool fin, .string dat, .slice AR rs.length cR]) (t := 30) ?hr ?_; (case hd => rfl); (case hg => rfl); (case hr => first | (go_simp; done) | (go_simp; rfl)); intro g hg1 w2 hbox hb; have QG := Aside0.mk hbox; have HB2 := Aside0.mk (HB.out.trans (hb.mono HB.out.size)); clear hbox hb hg1 HB)
      | (go_at_call 95; refine (impl_Frame_named.calls g kd fa fb fc fin dat AR rs.length cR true _ QG.out HA.out).mono ?_; rintro e w3 ⟨rfl, hb⟩; have HB := Aside0.mk (HB2.out.trans (hb.mono HB2.out.size)); have QG3 := Aside0.mk (blk_below QG.out hb); clear hb HB2 QG; obtain ⟨z0, z1, z2, z3, z4, z5, z6⟩ := Go.Proofs.Ytpdoplkiaejpiaa.ShortK.cz7 QG3))
    go_ret
    exact ⟨rfl, by first | exact HB.out | exact pw_below_drewN HB.out _ | exact HBB.out⟩
def byV (k : Nat) (n : Int) (out : ByteArray) : Option ByteArray := (impl_varint.f k n).bind fun x => hcat out x
def byC (k : Nat) (s : ByteArray) (out : ByteArray) : Option ByteArray := (impl_counted.f k s).bind fun x => hcat out x
def bytesTail (k : Nat) (kd fa fb fc : Int) (fin : Bool) (dat : ByteArray) (rs : List S92) (kind : ByteArray) : Option ByteArray :=
  if kd = 2 then (impl_Frame_ackBytes.f k fa rs).bind fun x => hcat kind x
  else if kd = 4 then (byV k fa kind).bind fun o => (byV k fb o).bind fun o => byV k fc o
  else if kd = 5 ∨ kd = 17 then (byV k fa kind).bind fun o => byV k fb o
  else if kd = 16 then byV k fa kind
  else if kd = 6 then (byV k fa kind).bind fun o => byC k dat o
  else if kd = 7 then byC k dat kind
  else if kd = 8 then impl_Frame_streamBytes.f k fa fb fin dat
  else if kd = 24 then (byV k fa kind).bind fun o => (byV k fb o).bind fun o => (impl_bigEndian.f k (IntKind.u64.wrap (dat.size : Int)) 1).bind fun x => (hcat o x).bind fun o => (hcat o dat).bind fun o => (impl_bigEndian.f k (IntKind.u64.wrap fc) 1).bind fun y => hcat o y
  else if kd = 26 ∨ kd = 27 then hcat kind dat
  else if kd = 28 then (byV k fa kind).bind fun o => (byV k fb o).bind fun o => byC k dat o
  else if kd = 48 then (impl_varint.f k 49).bind fun o => byC k dat o
  else some kind
def impl_Frame_bytes.f (k : Nat) (kd fa fb fc : Int) (fin : Bool) (dat : ByteArray) (rs : List S92) : Option ByteArray := (impl_varint.f k kd).bind fun kind => bytesTail k kd fa fb fc fin dat rs kind
theorem byV_some {k : Nat} {n : Int} {out r : ByteArray} (h : byV k n out = some r) : ∃ x, impl_varint.f k n = some x ∧ hcat out x = some r := Option.bind_eq_some_iff.mp h
theorem byC_some {k : Nat} {n : ByteArray} {out r : ByteArray} (h : byC k n out = some r) : ∃ x, impl_counted.f k n = some x ∧ hcat out x = some r := Option.bind_eq_some_iff.mp h
set_option maxHeartbeats 4000000 in
set_option maxRecDepth 100000 in
theorem impl_Frame_bytes.calls (k g : Nat) (kd fa fb fc : Int) (fin : Bool) (dat : ByteArray) (AR : Option Addr) (rs : List S92) (cR : Nat) (r : ByteArray) (w : World) (hb0 : w.heap[g]? = some (.cells #[.int .i64 kd, .int .i64 fa, .int .i64 fb, .int .i64 fc, .bool fin, .string dat, .slice AR rs.length cR] 30 (0, 0))) (hr : Kd.C k92 w AR rs.length rs) (hc : rs.length ≤ cR) (h : impl_Frame_bytes.f k kd fa fb fc fin dat rs = some r) :
    Calls Try.prog 45 #[.pointer (some ⟨g, 0, none⟩)] w fun e w' => e = .returned (.string r) ∧ Below w.heap.size w w' := by
  unfold impl_Frame_bytes.f at h
  obtain ⟨kind, hk, hT⟩ := Option.bind_eq_some_iff.mp h
  clear h
  have h := hT
  clear hT
  have HK := Aside0.mk hk
  have QG := Aside0.mk hb0
  have HR := Aside0.mk hr
  have HC := Aside0.mk hc
  have HB := Aside0.mk (Below.refl w.heap.size w)
  have hglt := blk_lt hb0
  clear hk hb0 hr hc
  obtain ⟨z0, z1, z2, z3, z4, z5, z6⟩ := Go.Proofs.Ytpdoplkiaejpiaa.ShortK.cz7 QG
  unfold bytesTail at h
  by_cases k2 : kd = 2
  case pos =>
    rw [if_pos k2] at h
    subst k2
    obtain ⟨x, h1, h2⟩ := Option.bind_eq_some_iff.mp h
    obtain ⟨rfl, s1⟩ := hcat_some h2
    have H1 := Aside0.mk h1
    clear h h1 h2
    go_enter Try.func45, Try.ntmps45
    go_wp2_with (first
      | (go_at_call 97; refine (impl_varint.calls k 2 kind _ HK.out).mono ?_; rintro e w1 ⟨rfl, hb⟩; have HB1 := Aside0.mk (HB.out.trans (hb.mono HB.out.size)); have QG1 := Aside0.mk (blk_below QG.out hb); have HR1 := Aside0.mk (Kd.C_below HR.out HB1.out); clear hb HB QG HR HK z0 z1 z2 z3 z4 z5 z6; obtain ⟨z0, z1, z2, z3, z4, z5, z6⟩ := Go.Proofs.Ytpdoplkiaejpiaa.ShortK.cz7 QG1)
      | (go_at_call 98; refine (impl_Frame_ackBytes.calls k g 2 fa fb fc fin dat AR rs cR x _ QG1.out HR1.out HC.out H1.out).mono ?_; rintro e w2 ⟨rfl, hb⟩; have HB2 := Aside0.mk (HB1.out.trans (hb.mono HB1.out.size)); clear hb))
    go_ret
    exact ⟨by first | rfl | (simp; done), HB2.out⟩
  rw [if_neg k2] at h
  have e2 : (kd == 2) = false := beq_eq_false_iff_ne.mpr k2
  by_cases k4 : kd = 4
  case pos =>
    rw [if_pos k4] at h
    subst k4
    obtain ⟨o1, h1, h⟩ := Option.bind_eq_some_iff.mp h
    obtain ⟨o2, h2, h3⟩ := Option.bind_eq_some_iff.mp h
    obtain ⟨a, j1, h1⟩ := byV_some h1
    obtain ⟨b, j2, h2⟩ := byV_some h2
    obtain ⟨c, j3, h3⟩ := byV_some h3
    obtain ⟨rfl, s1⟩ := hcat_some h1
    obtain ⟨rfl, s2⟩ := hcat_some h2
    obtain ⟨rfl, s3⟩ := hcat_some h3
    simp only [ByteArray.size_append] at s2 s3
    have H1 := Aside0.mk j1
    have H2 := Aside0.mk j2
    have H3 := Aside0.mk j3
    clear h h1 h2 h3 j1 j2 j3
    go_enter Try.func45, Try.ntmps45
    go_wp2_with (first
      | (go_at_call 97; refine (impl_varint.calls k 4 kind _ HK.out).mono ?_; rintro e w1 ⟨rfl, hb⟩; have HB1 := Aside0.mk (HB.out.trans (hb.mono HB.out.size)); have QG1 := Aside0.mk (blk_below QG.out hb); have HR1 := Aside0.mk (Kd.C_below HR.out HB1.out); clear hb HB QG HR HK z0 z1 z2 z3 z4 z5 z6; obtain ⟨z0, z1, z2, z3, z4, z5, z6⟩ := Go.Proofs.Ytpdoplkiaejpiaa.ShortK.cz7 QG1))
    refine region_quiet (C := fun w' => w'.cell? ⟨g, 1, none⟩ = some (.int .i64 fa) ∧ w'.cell? ⟨g, 2, none⟩ = some (.int .i64 fb) ∧ w'.cell? ⟨g, 3, none⟩ = some (.int .i64 fc) ∧ Aside0 (Below w.heap.size w w')) (by kernel_rfl) (by kernel_rfl) ?hC ?_
    case hC => exact ⟨cb_ z1 (below_drew (Below.refl _ w1)), cb_ z2 (below_drew (Below.refl _ w1)), cb_ z3 (below_drew (Below.refl _ w1)), ⟨below_drew HB1.out⟩⟩
    repeat (first
      | go_big_quiet_skip
      | (go_big_quiet_want; refine quiet_call ?_ Try.func97 (by kernel_rfl) rfl #[.int .i64 fa] rfl (by (try simp only [List.map_toArray, List.map_cons, List.map_nil]); first | done | rfl) ?_ ?_; rotate_left 1; (· (rintro w' ⟨x0, x1, x2, x3⟩; refine (impl_varint.calls k fa a w' H1.out).mono ?_; rintro e w'' ⟨rfl, hb0⟩; have hb := (show Below w'.heap.size w' w'' from by first | exact hb0 | exact hb0.below); exact ⟨by with_reducible rfl, cb_ x0 hb, cb_ x1 hb, cb_ x2 hb, ⟨x3.out.trans (hb.mono x3.out.size)⟩⟩)); simp only [Act.put, List.setIfInBounds_toArray, List.set_cons_zero, List.set_cons_succ, i64_w, i32_w]; go_big_quiet_on)
      | (go_big_quiet_want; refine quiet_call ?_ Try.func97 (by kernel_rfl) rfl #[.int .i64 fb] rfl (by (try simp only [List.map_toArray, List.map_cons, List.map_nil]); first | done | rfl) ?_ ?_; rotate_left 1; (· (rintro w' ⟨x0, x1, x2, x3⟩; refine (impl_varint.calls k fb b w' H2.out).mono ?_; rintro e w'' ⟨rfl, hb0⟩; have hb := (show Below w'.heap.size w' w'' from by first | exact hb0 | exact hb0.below); exact ⟨by with_reducible rfl, cb_ x0 hb, cb_ x1 hb, cb_ x2 hb, ⟨x3.out.trans (hb.mono x3.out.size)⟩⟩)); simp only [Act.put, List.setIfInBounds_toArray, List.set_cons_zero, List.set_cons_succ, i64_w, i32_w]; go_big_quiet_on)
      | (go_big_quiet_want; refine quiet_call ?_ Try.func97 (by kernel_rfl) rfl #[.int .i64 fc] rfl (by (try simp only [List.map_toArray, List.map_cons, List.map_nil]); first | done | rfl) ?_ ?_; rotate_left 1; (· (rintro w' ⟨x0, x1, x2, x3⟩; refine (impl_varint.calls k fc c w' H3.out).mono ?_; rintro e w'' ⟨rfl, hb0⟩; have hb := (show Below w'.heap.size w' w'' from by first | exact hb0 | exact hb0.below); exact ⟨by with_reducible rfl, cb_ x0 hb, cb_ x1 hb, cb_ x2 hb, ⟨x3.out.trans (hb.mono x3.out.size)⟩⟩)); simp only [Act.put, List.setIfInBounds_toArray, List.set_cons_zero, List.set_cons_succ, i64_w, i32_w]; go_big_quiet_on)
      | (go_big_quiet_want; refine quiet_op (v := ?_) ?_ ?_; rotate_left 1; (· (rintro w' ⟨x0, x1, x2, -⟩; go_simp; with_reducible rfl)); simp only [Act.put, List.setIfInBounds_toArray, List.set_cons_zero, List.set_cons_succ, i64_w, i32_w]; go_big_quiet_on))
    refine wpQuiet_nil ?_
    rintro w' ⟨-, -, -, x3⟩
    go_wp2
    go_ret
    exact ⟨by first | rfl | (simp; done), x3.out⟩
  rw [if_neg k4] at h
  have e4 : (kd == 4) = false := beq_eq_false_iff_ne.mpr k4
  by_cases k5 : kd = 5 ∨ kd = 17
  case pos =>
    rw [if_pos k5] at h
    rcases k5 with rfl | rfl
    · skip
      obtain ⟨o1, h1, h2⟩ := Option.bind_eq_some_iff.mp h
      obtain ⟨a, j1, h1⟩ := byV_some h1
      obtain ⟨b, j2, h2⟩ := byV_some h2
      obtain ⟨rfl, s1⟩ := hcat_some h1
      obtain ⟨rfl, s2⟩ := hcat_some h2
      simp only [ByteArray.size_append] at s2
      have H1 := Aside0.mk j1
      have H2 := Aside0.mk j2
      clear h h1 h2 j1 j2
      go_enter Try.func45, Try.ntmps45
      go_wp2_with (first
        | (go_at_call 97; refine (impl_varint.calls k 5 kind _ HK.out).mono ?_; rintro e w1 ⟨rfl, hb⟩; have HB1 := Aside0.mk (HB.out.trans (hb.mono HB.out.size)); have QG1 := Aside0.mk (blk_below QG.out hb); have HR1 := Aside0.mk (Kd.C_below HR.out HB1.out); clear hb HB QG HR HK z0 z1 z2 z3 z4 z5 z6; obtain ⟨z0, z1, z2, z3, z4, z5, z6⟩ := Go.Proofs.Ytpdoplkiaejpiaa.ShortK.cz7 QG1))
      refine region_quiet (C := fun w' => w'.cell? ⟨g, 1, none⟩ = some (.int .i64 fa) ∧ w'.cell? ⟨g, 2, none⟩ = some (.int .i64 fb) ∧ Aside0 (Below w.heap.size w w')) (by kernel_rfl) (by kernel_rfl) ?hC ?_
      case hC => exact ⟨cb_ z1 (below_drew (Below.refl _ w1)), cb_ z2 (below_drew (Below.refl _ w1)), ⟨below_drew HB1.out⟩⟩
      repeat (first
        | go_big_quiet_skip
        | (go_big_quiet_want; refine quiet_call ?_ Try.func97 (by kernel_rfl) rfl #[.int .i64 fa] rfl (by (try simp only [List.map_toArray, List.map_cons, List.map_nil]); first | done | rfl) ?_ ?_; rotate_left 1; (· (rintro w' ⟨x0, x1, x2⟩; refine (impl_varint.calls k fa a w' H1.out).mono ?_; rintro e w'' ⟨rfl, hb0⟩; have hb := (show Below w'.heap.size w' w'' from by first | exact hb0 | exact hb0.below); exact ⟨by with_reducible rfl, cb_ x0 hb, cb_ x1 hb, ⟨x2.out.trans (hb.mono x2.out.size)⟩⟩)); simp only [Act.put, List.setIfInBounds_toArray, List.set_cons_zero, List.set_cons_succ, i64_w, i32_w]; go_big_quiet_on)
        | (go_big_quiet_want; refine quiet_call ?_ Try.func97 (by kernel_rfl) rfl #[.int .i64 fb] rfl (by (try simp only [List.map_toArray, List.map_cons, List.map_nil]); first | done | rfl) ?_ ?_; rotate_left 1; (· (rintro w' ⟨x0, x1, x2⟩; refine (impl_varint.calls k fb b w' H2.out).mono ?_; rintro e w'' ⟨rfl, hb0⟩; have hb := (show Below w'.heap.size w' w'' from by first | exact hb0 | exact hb0.below); exact ⟨by with_reducible rfl, cb_ x0 hb, cb_ x1 hb, ⟨x2.out.trans (hb.mono x2.out.size)⟩⟩)); simp only [Act.put, List.setIfInBounds_toArray, List.set_cons_zero, List.set_cons_succ, i64_w, i32_w]; go_big_quiet_on)
        | (go_big_quiet_want; refine quiet_op (v := ?_) ?_ ?_; rotate_left 1; (· (rintro w' ⟨x0, x1, -⟩; go_simp; with_reducible rfl)); simp only [Act.put, List.setIfInBounds_toArray, List.set_cons_zero, List.set_cons_succ, i64_w, i32_w]; go_big_quiet_on))
      refine wpQuiet_nil ?_
      rintro w' ⟨-, -, x2⟩
      go_wp2
      go_ret
      exact ⟨by first | rfl | (simp; done), x2.out⟩
    · skip
      obtain ⟨o1, h1, h2⟩ := Option.bind_eq_some_iff.mp h
      obtain ⟨a, j1, h1⟩ := byV_some h1
      obtain ⟨b, j2, h2⟩ := byV_some h2
      obtain ⟨rfl, s1⟩ := hcat_some h1
      obtain ⟨rfl, s2⟩ := hcat_some h2
      simp only [ByteArray.size_append] at s2
      have H1 := Aside0.mk j1
      have H2 := Aside0.mk j2
      clear h h1 h2 j1 j2
      go_enter Try.func45, Try.ntmps45
      go_wp2_with (first
        | (go_at_call 97; refine (impl_varint.calls k 17 kind _ HK.out).mono ?_; rintro e w1 ⟨rfl, hb⟩; have HB1 := Aside0.mk (HB.out.trans (hb.mono HB.out.size)); have QG1 := Aside0.mk (blk_below QG.out hb); have HR1 := Aside0.mk (Kd.C_below HR.out HB1.out); clear hb HB QG HR HK z0 z1 z2 z3 z4 z5 z6; obtain ⟨z0, z1, z2, z3, z4, z5, z6⟩ := Go.Proofs.Ytpdoplkiaejpiaa.ShortK.cz7 QG1))
      refine region_quiet (C := fun w' => w'.cell? ⟨g, 1, none⟩ = some (.int .i64 fa) ∧ w'.cell? ⟨g, 2, none⟩ = some (.int .i64 fb) ∧ Aside0 (Below w.heap.size w w')) (by kernel_rfl) (by kernel_rfl) ?hC ?_
      case hC => exact ⟨cb_ z1 (below_drew (Below.refl _ w1)), cb_ z2 (below_drew (Below.refl _ w1)), ⟨below_drew HB1.out⟩⟩
      repeat (first
        | go_big_quiet_skip
        | (go_big_quiet_want; refine quiet_call ?_ Try.func97 (by kernel_rfl) rfl #[.int .i64 fa] rfl (by (try simp only [List.map_toArray, List.map_cons, List.map_nil]); first | done | rfl) ?_ ?_; rotate_left 1; (· (rintro w' ⟨x0, x1, x2⟩; refine (impl_varint.calls k fa a w' H1.out).mono ?_; rintro e w'' ⟨rfl, hb0⟩; have hb := (show Below w'.heap.size w' w'' from by first | exact hb0 | exact hb0.below); exact ⟨by with_reducible rfl, cb_ x0 hb, cb_ x1 hb, ⟨x2.out.trans (hb.mono x2.out.size)⟩⟩)); simp only [Act.put, List.setIfInBounds_toArray, List.set_cons_zero, List.set_cons_succ, i64_w, i32_w]; go_big_quiet_on)
        | (go_big_quiet_want; refine quiet_call ?_ Try.func97 (by kernel_rfl) rfl #[.int .i64 fb] rfl (by (try simp only [List.map_toArray, List.map_cons, List.map_nil]); first | done | rfl) ?_ ?_; rotate_left 1; (· (rintro w' ⟨x0, x1, x2⟩; refine (impl_varint.calls k fb b w' H2.out).mono ?_; rintro e w'' ⟨rfl, hb0⟩; have hb := (show Below w'.heap.size w' w'' from by first | exact hb0 | exact hb0.below); exact ⟨by with_reducible rfl, cb_ x0 hb, cb_ x1 hb, ⟨x2.out.trans (hb.mono x2.out.size)⟩⟩)); simp only [Act.put, List.setIfInBounds_toArray, List.set_cons_zero, List.set_cons_succ, i64_w, i32_w]; go_big_quiet_on)
        | (go_big_quiet_want; refine quiet_op (v := ?_) ?_ ?_; rotate_left 1; (· (rintro w' ⟨x0, x1, -⟩; go_simp; with_reducible rfl)); simp only [Act.put, List.setIfInBounds_toArray, List.set_cons_zero, List.set_cons_succ, i64_w, i32_w]; go_big_quiet_on))
      refine wpQuiet_nil ?_
      rintro w' ⟨-, -, x2⟩
      go_wp2
      go_ret
      exact ⟨by first | rfl | (simp; done), x2.out⟩
  rw [if_neg k5] at h
  have e5 : (kd == 5) = false := beq_eq_false_iff_ne.mpr (fun h => k5 (Or.inl h))
  have e17 : (kd == 17) = false := beq_eq_false_iff_ne.mpr (fun h => k5 (Or.inr h))
  by_cases k16 : kd = 16
  case pos =>
    rw [if_pos k16] at h
    subst k16
    obtain ⟨a, j1, h1⟩ := byV_some h
    obtain ⟨rfl, s1⟩ := hcat_some h1
    have H1 := Aside0.mk j1
    clear h h1 j1
    go_enter Try.func45, Try.ntmps45
    go_wp2_with (first
      | (go_at_call 97; refine (impl_varint.calls k 16 kind _ HK.out).mono ?_; rintro e w1 ⟨rfl, hb⟩; have HB1 := Aside0.mk (HB.out.trans (hb.mono HB.out.size)); have QG1 := Aside0.mk (blk_below QG.out hb); have HR1 := Aside0.mk (Kd.C_below HR.out HB1.out); clear hb HB QG HR HK z0 z1 z2 z3 z4 z5 z6; obtain ⟨z0, z1, z2, z3, z4, z5, z6⟩ := Go.Proofs.Ytpdoplkiaejpiaa.ShortK.cz7 QG1)
      | (go_at_call 97; refine (impl_varint.calls k fa a _ H1.out).mono ?_; rintro e w2 ⟨rfl, hb⟩; have HB2 := Aside0.mk (HB1.out.trans (hb.mono HB1.out.size)); clear hb))
    go_ret
    exact ⟨by first | rfl | (simp; done), HB2.out⟩
  rw [if_neg k16] at h
  have e16 : (kd == 16) = false := beq_eq_false_iff_ne.mpr k16
  by_cases k6 : kd = 6
  case pos =>
    rw [if_pos k6] at h
    subst k6
    obtain ⟨o1, h1, h2⟩ := Option.bind_eq_some_iff.mp h
    obtain ⟨a, j1, h1⟩ := byV_some h1
    obtain ⟨b, j2, h2⟩ := byC_some h2
    obtain ⟨rfl, s1⟩ := hcat_some h1
    obtain ⟨rfl, s2⟩ := hcat_some h2
    simp only [ByteArray.size_append] at s2
    have H1 := Aside0.mk j1
    have H2 := Aside0.mk j2
    clear h h1 h2 j1 j2
    go_enter Try.func45, Try.ntmps45
    go_wp2_with (first
      | (go_at_call 97; refine (impl_varint.calls k 6 kind _ HK.out).mono ?_; rintro e w1 ⟨rfl, hb⟩; have HB1 := Aside0.mk (HB.out.trans (hb.mono HB.out.size)); have QG1 := Aside0.mk (blk_below QG.out hb); have HR1 := Aside0.mk (Kd.C_below HR.out HB1.out); clear hb HB QG HR HK z0 z1 z2 z3 z4 z5 z6; obtain ⟨z0, z1, z2, z3, z4, z5, z6⟩ := Go.Proofs.Ytpdoplkiaejpiaa.ShortK.cz7 QG1))
    refine region_quiet (C := fun w' => w'.cell? ⟨g, 1, none⟩ = some (.int .i64 fa) ∧ w'.cell? ⟨g, 5, none⟩ = some (.string dat) ∧ Aside0 (Below w.heap.size w w')) (by kernel_rfl) (by kernel_rfl) ?hC ?_
    case hC => exact ⟨cb_ z1 (below_drew (Below.refl _ w1)), cb_ z5 (below_drew (Below.refl _ w1)), ⟨below_drew HB1.out⟩⟩
    repeat (first
      | go_big_quiet_skip
      | (go_big_quiet_want; refine quiet_call ?_ Try.func97 (by kernel_rfl) rfl #[.int .i64 fa] rfl (by (try simp only [List.map_toArray, List.map_cons, List.map_nil]); first | done | rfl) ?_ ?_; rotate_left 1; (· (rintro w' ⟨x0, x1, x2⟩; refine (impl_varint.calls k fa a w' H1.out).mono ?_; rintro e w'' ⟨rfl, hb0⟩; have hb := (show Below w'.heap.size w' w'' from by first | exact hb0 | exact hb0.below); exact ⟨by with_reducible rfl, cb_ x0 hb, cb_ x1 hb, ⟨x2.out.trans (hb.mono x2.out.size)⟩⟩)); simp only [Act.put, List.setIfInBounds_toArray, List.set_cons_zero, List.set_cons_succ, i64_w, i32_w]; go_big_quiet_on)
      | (go_big_quiet_want; refine quiet_call ?_ Try.func99 (by kernel_rfl) rfl #[.string dat] rfl (by (try simp only [List.map_toArray, List.map_cons, List.map_nil]); first | done | rfl) ?_ ?_; rotate_left 1; (· (rintro w' ⟨x0, x1, x2⟩; refine (impl_counted.calls k dat b w' H2.out).mono ?_; rintro e w'' ⟨rfl, hb0⟩; have hb := (show Below w'.heap.size w' w'' from by first | exact hb0 | exact hb0.below); exact ⟨by with_reducible rfl, cb_ x0 hb, cb_ x1 hb, ⟨x2.out.trans (hb.mono x2.out.size)⟩⟩)); simp only [Act.put, List.setIfInBounds_toArray, List.set_cons_zero, List.set_cons_succ, i64_w, i32_w]; go_big_quiet_on)
      | (go_big_quiet_want; refine quiet_op (v := ?_) ?_ ?_; rotate_left 1; (· (rintro w' ⟨x0, x1, -⟩; go_simp; with_reducible rfl)); simp only [Act.put, List.setIfInBounds_toArray, List.set_cons_zero, List.set_cons_succ, i64_w, i32_w]; go_big_quiet_on))
    refine wpQuiet_nil ?_
    rintro w' ⟨-, -, x2⟩
    go_wp2
    go_ret
    exact ⟨by first | rfl | (simp; done), x2.out⟩
  rw [if_neg k6] at h
  have e6 : (kd == 6) = false := beq_eq_false_iff_ne.mpr k6
  by_cases k7 : kd = 7
  case pos =>
    rw [if_pos k7] at h
    subst k7
    obtain ⟨a, j1, h1⟩ := byC_some h
    obtain ⟨rfl, s1⟩ := hcat_some h1
    have H1 := Aside0.mk j1
    clear h h1 j1
    go_enter Try.func45, Try.ntmps45
    go_wp2_with (first
      | (go_at_call 97; refine (impl_varint.calls k 7 kind _ HK.out).mono ?_; rintro e w1 ⟨rfl, hb⟩; have HB1 := Aside0.mk (HB.out.trans (hb.mono HB.out.size)); have QG1 := Aside0.mk (blk_below QG.out hb); have HR1 := Aside0.mk (Kd.C_below HR.out HB1.out); clear hb HB QG HR HK z0 z1 z2 z3 z4 z5 z6; obtain ⟨z0, z1, z2, z3, z4, z5, z6⟩ := Go.Proofs.Ytpdoplkiaejpiaa.ShortK.cz7 QG1)
      | (go_at_call 99; refine (impl_counted.calls k dat a _ H1.out).mono ?_; rintro e w2 ⟨rfl, hb0⟩; have hb := (show Below w1.heap.size w1 w2 from by first | exact hb0 | exact hb0.below); have HB2 := Aside0.mk (HB1.out.trans (hb.mono HB1.out.size)); clear hb hb0))
    go_ret
    exact ⟨by first | rfl | (simp; done), HB2.out⟩
  rw [if_neg k7] at h
  have e7 : (kd == 7) = false := beq_eq_false_iff_ne.mpr k7
  by_cases k8 : kd = 8
  case pos =>
    rw [if_pos k8] at h
    subst k8
    have H1 := Aside0.mk h
    clear h
    go_enter Try.func45, Try.ntmps45
    go_wp2_with (first
      | (go_at_call 97; refine (impl_varint.calls k 8 kind _ HK.out).mono ?_; rintro e w1 ⟨rfl, hb⟩; have HB1 := Aside0.mk (HB.out.trans (hb.mono HB.out.size)); have QG1 := Aside0.mk (blk_below QG.out hb); have HR1 := Aside0.mk (Kd.C_below HR.out HB1.out); clear hb HB QG HR HK z0 z1 z2 z3 z4 z5 z6; obtain ⟨z0, z1, z2, z3, z4, z5, z6⟩ := Go.Proofs.Ytpdoplkiaejpiaa.ShortK.cz7 QG1)
      | (go_at_call 100; refine (impl_Frame_streamBytes.calls k g 8 fa fb fc fin dat AR rs.length cR r _ QG1.out H1.out).mono ?_; rintro e w2 ⟨rfl, hb⟩; have HB2 := Aside0.mk (HB1.out.trans (hb.mono HB1.out.size)); clear hb))
    go_ret
    exact ⟨by first | rfl | (simp; done), HB2.out⟩
  rw [if_neg k8] at h
  have e8 : (kd == 8) = false := beq_eq_false_iff_ne.mpr k8
  by_cases k24 : kd = 24
  case pos =>
    rw [if_pos k24] at h
    subst k24
    obtain ⟨o1, h1, h⟩ := Option.bind_eq_some_iff.mp h
    obtain ⟨o2, h2, h⟩ := Option.bind_eq_some_iff.mp h
    obtain ⟨c, j3, h⟩ := Option.bind_eq_some_iff.mp h
    obtain ⟨o3, h3, h⟩ := Option.bind_eq_some_iff.mp h
    obtain ⟨o4, h4, h⟩ := Option.bind_eq_some_iff.mp h
    obtain ⟨d, j4, h5⟩ := Option.bind_eq_some_iff.mp h
    obtain ⟨a, j1, h1⟩ := byV_some h1
    obtain ⟨b, j2, h2⟩ := byV_some h2
    obtain ⟨rfl, s1⟩ := hcat_some h1
    obtain ⟨rfl, s2⟩ := hcat_some h2
    obtain ⟨rfl, s3⟩ := hcat_some h3
    obtain ⟨rfl, s4⟩ := hcat_some h4
    obtain ⟨rfl, s5⟩ := hcat_some h5
    simp only [ByteArray.size_append] at s2 s3 s4 s5
    have H1 := Aside0.mk j1
    have H2 := Aside0.mk j2
    have H3 := Aside0.mk j3
    have H4 := Aside0.mk j4
    clear h h1 h2 h3 h4 h5 j1 j2 j3 j4
    go_enter Try.func45, Try.ntmps45
    go_wp2_with (first
      | (go_at_call 97; refine (impl_varint.calls k 24 kind _ HK.out).mono ?_; rintro e w1 ⟨rfl, hb⟩; have HB1 := Aside0.mk (HB.out.trans (hb.mono HB.out.size)); have QG1 := Aside0.mk (blk_below QG.out hb); have HR1 := Aside0.mk (Kd.C_below HR.out HB1.out); clear hb HB QG HR HK z0 z1 z2 z3 z4 z5 z6; obtain ⟨z0, z1, z2, z3, z4, z5, z6⟩ := Go.Proofs.Ytpdoplkiaejpiaa.ShortK.cz7 QG1))
    refine region_quiet (C := fun w' => w'.cell? ⟨g, 1, none⟩ = some (.int .i64 fa) ∧ w'.cell? ⟨g, 2, none⟩ = some (.int .i64 fb) ∧ w'.cell? ⟨g, 3, none⟩ = some (.int .i64 fc) ∧ w'.cell? ⟨g, 5, none⟩ = some (.string dat) ∧ Aside0 (Below w.heap.size w w')) (by kernel_rfl) (by kernel_rfl) ?hC ?_
    case hC => exact ⟨cb_ z1 (below_drew (Below.refl _ w1)), cb_ z2 (below_drew (Below.refl _ w1)), cb_ z3 (below_drew (Below.refl _ w1)), cb_ z5 (below_drew (Below.refl _ w1)), ⟨below_drew HB1.out⟩⟩
    repeat (first
      | go_big_quiet_skip
      | (go_big_quiet_want; refine quiet_call ?_ Try.func97 (by kernel_rfl) rfl #[.int .i64 fa] rfl (by (try simp only [List.map_toArray, List.map_cons, List.map_nil]); first | done | rfl) ?_ ?_; rotate_left 1; (· (rintro w' ⟨x0, x1, x2, x3, x4⟩; refine (impl_varint.calls k fa a w' H1.out).mono ?_; rintro e w'' ⟨rfl, hb0⟩; have hb := (show Below w'.heap.size w' w'' from by first | exact hb0 | exact hb0.below); exact ⟨by with_reducible rfl, cb_ x0 hb, cb_ x1 hb, cb_ x2 hb, cb_ x3 hb, ⟨x4.out.trans (hb.mono x4.out.size)⟩⟩)); simp only [Act.put, List.setIfInBounds_toArray, List.set_cons_zero, List.set_cons_succ, i64_w, i32_w]; go_big_quiet_on)
      | (go_big_quiet_want; refine quiet_call ?_ Try.func97 (by kernel_rfl) rfl #[.int .i64 fb] rfl (by (try simp only [List.map_toArray, List.map_cons, List.map_nil]); first | done | rfl) ?_ ?_; rotate_left 1; (· (rintro w' ⟨x0, x1, x2, x3, x4⟩; refine (impl_varint.calls k fb b w' H2.out).mono ?_; rintro e w'' ⟨rfl, hb0⟩; have hb := (show Below w'.heap.size w' w'' from by first | exact hb0 | exact hb0.below); exact ⟨by with_reducible rfl, cb_ x0 hb, cb_ x1 hb, cb_ x2 hb, cb_ x3 hb, ⟨x4.out.trans (hb.mono x4.out.size)⟩⟩)); simp only [Act.put, List.setIfInBounds_toArray, List.set_cons_zero, List.set_cons_succ, i64_w, i32_w]; go_big_quiet_on)
      | (go_big_quiet_want; refine quiet_call ?_ Try.func101 (by kernel_rfl) rfl #[.int .u64 (IntKind.u64.wrap (dat.size : Int)), .int .i64 1] rfl (by (try simp only [List.map_toArray, List.map_cons, List.map_nil]); first | done | rfl) ?_ ?_; rotate_left 1; (· (rintro w' ⟨x0, x1, x2, x3, x4⟩; refine (impl_bigEndian.calls k (IntKind.u64.wrap (dat.size : Int)) 1 c w' H3.out).mono ?_; rintro e w'' ⟨rfl, hb0⟩; have hb := (show Below w'.heap.size w' w'' from by first | exact hb0 | exact hb0.below); exact ⟨by with_reducible rfl, cb_ x0 hb, cb_ x1 hb, cb_ x2 hb, cb_ x3 hb, ⟨x4.out.trans (hb.mono x4.out.size)⟩⟩)); simp only [Act.put, List.setIfInBounds_toArray, List.set_cons_zero, List.set_cons_succ, i64_w, i32_w]; go_big_quiet_on)
      | (go_big_quiet_want; refine quiet_call ?_ Try.func101 (by kernel_rfl) rfl #[.int .u64 (IntKind.u64.wrap fc), .int .i64 1] rfl (by (try simp only [List.map_toArray, List.map_cons, List.map_nil]); first | done | rfl) ?_ ?_; rotate_left 1; (· (rintro w' ⟨x0, x1, x2, x3, x4⟩; refine (impl_bigEndian.calls k (IntKind.u64.wrap fc) 1 d w' H4.out).mono ?_; rintro e w'' ⟨rfl, hb0⟩; have hb := (show Below w'.heap.size w' w'' from by first | exact hb0 | exact hb0.below); exact ⟨by with_reducible rfl, cb_ x0 hb, cb_ x1 hb, cb_ x2 hb, cb_ x3 hb, ⟨x4.out.trans (hb.mono x4.out.size)⟩⟩)); simp only [Act.put, List.setIfInBounds_toArray, List.set_cons_zero, List.set_cons_succ, i64_w, i32_w]; go_big_quiet_on)
      | (go_big_quiet_want; refine quiet_op (v := ?_) ?_ ?_; rotate_left 1; (· (rintro w' ⟨x0, x1, x2, x3, -⟩; go_simp; with_reducible rfl)); simp only [Act.put, List.setIfInBounds_toArray, List.set_cons_zero, List.set_cons_succ, i64_w, i32_w]; go_big_quiet_on))
    refine wpQuiet_nil ?_
    rintro w' ⟨-, -, -, -, x4⟩
    go_wp2
    go_ret
    exact ⟨by first | rfl | (simp; done), x4.out⟩
  rw [if_neg k24] at h
  have e24 : (kd == 24) = false := beq_eq_false_iff_ne.mpr k24
  by_cases k26 : kd = 26 ∨ kd = 27
  case pos =>
    rw [if_pos k26] at h
    rcases k26 with rfl | rfl
    · skip
      obtain ⟨rfl, s1⟩ := hcat_some h
      clear h
      go_enter Try.func45, Try.ntmps45
      go_wp2_with (first
        | (go_at_call 97; refine (impl_varint.calls k 26 kind _ HK.out).mono ?_; rintro e w1 ⟨rfl, hb⟩; have HB1 := Aside0.mk (HB.out.trans (hb.mono HB.out.size)); have QG1 := Aside0.mk (blk_below QG.out hb); have HR1 := Aside0.mk (Kd.C_below HR.out HB1.out); clear hb HB QG HR HK z0 z1 z2 z3 z4 z5 z6; obtain ⟨z0, z1, z2, z3, z4, z5, z6⟩ := Go.Proofs.Ytpdoplkiaejpiaa.ShortK.cz7 QG1))
      go_ret
      exact ⟨by first | rfl | (simp; done), HB1.out⟩
    · skip
      obtain ⟨rfl, s1⟩ := hcat_some h
      clear h
      go_enter Try.func45, Try.ntmps45
      go_wp2_with (first
        | (go_at_call 97; refine (impl_varint.calls k 27 kind _ HK.out).mono ?_; rintro e w1 ⟨rfl, hb⟩; have HB1 := Aside0.mk (HB.out.trans (hb.mono HB.out.size)); have QG1 := Aside0.mk (blk_below QG.out hb); have HR1 := Aside0.mk (Kd.C_below HR.out HB1.out); clear hb HB QG HR HK z0 z1 z2 z3 z4 z5 z6; obtain ⟨z0, z1, z2, z3, z4, z5, z6⟩ := Go.Proofs.Ytpdoplkiaejpiaa.ShortK.cz7 QG1))
      go_ret
      exact ⟨by first | rfl | (simp; done), HB1.out⟩
  rw [if_neg k26] at h
  have e26 : (kd == 26) = false := beq_eq_false_iff_ne.mpr (fun h => k26 (Or.inl h))
  have e27 : (kd == 27) = false := beq_eq_false_iff_ne.mpr (fun h => k26 (Or.inr h))
  by_cases k28 : kd = 28
  case pos =>
    rw [if_pos k28] at h
    subst k28
    obtain ⟨o1, h1, h⟩ := Option.bind_eq_some_iff.mp h
    obtain ⟨o2, h2, h3⟩ := Option.bind_eq_some_iff.mp h
    obtain ⟨a, j1, h1⟩ := byV_some h1
    obtain ⟨b, j2, h2⟩ := byV_some h2
    obtain ⟨c, j3, h3⟩ := byC_some h3
    obtain ⟨rfl, s1⟩ := hcat_some h1
    obtain ⟨rfl, s2⟩ := hcat_some h2
    obtain ⟨rfl, s3⟩ := hcat_some h3
    simp only [ByteArray.size_append] at s2 s3
    have H1 := Aside0.mk j1
    have H2 := Aside0.mk j2
    have H3 := Aside0.mk j3
    clear h h1 h2 h3 j1 j2 j3
    go_enter Try.func45, Try.ntmps45
    go_wp2_with (first
      | (go_at_call 97; refine (impl_varint.calls k 28 kind _ HK.out).mono ?_; rintro e w1 ⟨rfl, hb⟩; have HB1 := Aside0.mk (HB.out.trans (hb.mono HB.out.size)); have QG1 := Aside0.mk (blk_below QG.out hb); have HR1 := Aside0.mk (Kd.C_below HR.out HB1.out); clear hb HB QG HR HK z0 z1 z2 z3 z4 z5 z6; obtain ⟨z0, z1, z2, z3, z4, z5, z6⟩ := Go.Proofs.Ytpdoplkiaejpiaa.ShortK.cz7 QG1))
    refine region_quiet (C := fun w' => w'.cell? ⟨g, 1, none⟩ = some (.int .i64 fa) ∧ w'.cell? ⟨g, 2, none⟩ = some (.int .i64 fb) ∧ w'.cell? ⟨g, 5, none⟩ = some (.string dat) ∧ Aside0 (Below w.heap.size w w')) (by kernel_rfl) (by kernel_rfl) ?hC ?_
    case hC => exact ⟨cb_ z1 (below_drew (Below.refl _ w1)), cb_ z2 (below_drew (Below.refl _ w1)), cb_ z5 (below_drew (Below.refl _ w1)), ⟨below_drew HB1.out⟩⟩
    repeat (first
      | go_big_quiet_skip
      | (go_big_quiet_want; refine quiet_call ?_ Try.func97 (by kernel_rfl) rfl #[.int .i64 fa] rfl (by (try simp only [List.map_toArray, List.map_cons, List.map_nil]); first | done | rfl) ?_ ?_; rotate_left 1; (· (rintro w' ⟨x0, x1, x2, x3⟩; refine (impl_varint.calls k fa a w' H1.out).mono ?_; rintro e w'' ⟨rfl, hb0⟩; have hb := (show Below w'.heap.size w' w'' from by first | exact hb0 | exact hb0.below); exact ⟨by with_reducible rfl, cb_ x0 hb, cb_ x1 hb, cb_ x2 hb, ⟨x3.out.trans (hb.mono x3.out.size)⟩⟩)); simp only [Act.put, List.setIfInBounds_toArray, List.set_cons_zero, List.set_cons_succ, i64_w, i32_w]; go_big_quiet_on)
      | (go_big_quiet_want; refine quiet_call ?_ Try.func97 (by kernel_rfl) rfl #[.int .i64 fb] rfl (by (try simp only [List.map_toArray, List.map_cons, List.map_nil]); first | done | rfl) ?_ ?_; rotate_left 1; (· (rintro w' ⟨x0, x1, x2, x3⟩; refine (impl_varint.calls k fb b w' H2.out).mono ?_; rintro e w'' ⟨rfl, hb0⟩; have hb := (show Below w'.heap.size w' w'' from by first | exact hb0 | exact hb0.below); exact ⟨by with_reducible rfl, cb_ x0 hb, cb_ x1 hb, cb_ x2 hb, ⟨x3.out.trans (hb.mono x3.out.size)⟩⟩)); simp only [Act.put, List.setIfInBounds_toArray, List.set_cons_zero, List.set_cons_succ, i64_w, i32_w]; go_big_quiet_on)
      | (go_big_quiet_want; refine quiet_call ?_ Try.func99 (by kernel_rfl) rfl #[.string dat] rfl (by (try simp only [List.map_toArray, List.map_cons, List.map_nil]); first | done | rfl) ?_ ?_; rotate_left 1; (· (rintro w' ⟨x0, x1, x2, x3⟩; refine (impl_counted.calls k dat c w' H3.out).mono ?_; rintro e w'' ⟨rfl, hb0⟩; have hb := (show Below w'.heap.size w' w'' from by first | exact hb0 | exact hb0.below); exact ⟨by with_reducible rfl, cb_ x0 hb, cb_ x1 hb, cb_ x2 hb, ⟨x3.out.trans (hb.mono x3.out.size)⟩⟩)); simp only [Act.put, List.setIfInBounds_toArray, List.set_cons_zero, List.set_cons_succ, i64_w, i32_w]; go_big_quiet_on)
      | (go_big_quiet_want; refine quiet_op (v := ?_) ?_ ?_; rotate_left 1; (· (rintro w' ⟨x0, x1, x2, -⟩; go_simp; with_reducible rfl)); simp only [Act.put, List.setIfInBounds_toArray, List.set_cons_zero, List.set_cons_succ, i64_w, i32_w]; go_big_quiet_on))
    refine wpQuiet_nil ?_
    rintro w' ⟨-, -, -, x3⟩
    go_wp2
    go_ret
    exact ⟨by first | rfl | (simp; done), x3.out⟩
  rw [if_neg k28] at h
  have e28 : (kd == 28) = false := beq_eq_false_iff_ne.mpr k28
  by_cases k48 : kd = 48
  case pos =>
    rw [if_pos k48] at h
    subst k48
    obtain ⟨a, j1, h⟩ := Option.bind_eq_some_iff.mp h
    obtain ⟨b, j2, h2⟩ := byC_some h
    obtain ⟨rfl, s1⟩ := hcat_some h2
    have H1 := Aside0.mk j1
    have H2 := Aside0.mk j2
    clear h h2 j1 j2
    go_enter Try.func45, Try.ntmps45
    go_wp2_with (first
      | (go_at_call 97; refine (impl_varint.calls k 48 kind _ HK.out).mono ?_; rintro e w1 ⟨rfl, hb⟩; have HB1 := Aside0.mk (HB.out.trans (hb.mono HB.out.size)); have QG1 := Aside0.mk (blk_below QG.out hb); have HR1 := Aside0.mk (Kd.C_below HR.out HB1.out); clear hb HB QG HR HK z0 z1 z2 z3 z4 z5 z6; obtain ⟨z0, z1, z2, z3, z4, z5, z6⟩ := Go.Proofs.Ytpdoplkiaejpiaa.ShortK.cz7 QG1))
    refine region_quiet (C := fun w' => w'.cell? ⟨g, 5, none⟩ = some (.string dat) ∧ Aside0 (Below w.heap.size w w')) (by kernel_rfl) (by kernel_rfl) ?hC ?_
    case hC => exact ⟨cb_ z5 (below_drew (Below.refl _ w1)), ⟨below_drew HB1.out⟩⟩
    repeat (first
      | go_big_quiet_skip
      | (go_big_quiet_want; refine quiet_call ?_ Try.func97 (by kernel_rfl) rfl #[.int .i64 49] rfl (by (try simp only [List.map_toArray, List.map_cons, List.map_nil]); first | done | rfl) ?_ ?_; rotate_left 1; (· (rintro w' ⟨x0, x1⟩; refine (impl_varint.calls k 49 a w' H1.out).mono ?_; rintro e w'' ⟨rfl, hb0⟩; have hb := (show Below w'.heap.size w' w'' from by first | exact hb0 | exact hb0.below); exact ⟨by with_reducible rfl, cb_ x0 hb, ⟨x1.out.trans (hb.mono x1.out.size)⟩⟩)); simp only [Act.put, List.setIfInBounds_toArray, List.set_cons_zero, List.set_cons_succ, i64_w, i32_w]; go_big_quiet_on)
      | (go_big_quiet_want; refine quiet_call ?_ Try.func99 (by kernel_rfl) rfl #[.string dat] rfl (by (try simp only [List.map_toArray, List.map_cons, List.map_nil]); first | done | rfl) ?_ ?_; rotate_left 1; (· (rintro w' ⟨x0, x1⟩; refine (impl_counted.calls k dat b w' H2.out).mono ?_; rintro e w'' ⟨rfl, hb0⟩; have hb := (show Below w'.heap.size w' w'' from by first | exact hb0 | exact hb0.below); exact ⟨by with_reducible rfl, cb_ x0 hb, ⟨x1.out.trans (hb.mono x1.out.size)⟩⟩)); simp only [Act.put, List.setIfInBounds_toArray, List.set_cons_zero, List.set_cons_succ, i64_w, i32_w]; go_big_quiet_on)
      | (go_big_quiet_want; refine quiet_op (v := ?_) ?_ ?_; rotate_left 1; (· (rintro w' ⟨x0, -⟩; go_simp; with_reducible rfl)); simp only [Act.put, List.setIfInBounds_toArray, List.set_cons_zero, List.set_cons_succ, i64_w, i32_w]; go_big_quiet_on))
    refine wpQuiet_nil ?_
    rintro w' ⟨-, x1⟩
    go_wp2
    go_ret
    exact ⟨by first | rfl | (simp; done), x1.out⟩
  rw [if_neg k48] at h
  have e48 : (kd == 48) = false := beq_eq_false_iff_ne.mpr k48
  obtain rfl := Option.some.inj h
  clear h
  go_enter Try.func45, Try.ntmps45
  go_wp2_with (first
    | (go_at_call 97; refine (impl_varint.calls k kd kind _ HK.out).mono ?_; rintro e w1 ⟨rfl, hb⟩; have HB1 := Aside0.mk (HB.out.trans (hb.mono HB.out.size)); have QG1 := Aside0.mk (blk_below QG.out hb); have HR1 := Aside0.mk (Kd.C_below HR.out HB1.out); clear hb HB QG HR HK z0 z1 z2 z3 z4 z5 z6; obtain ⟨z0, z1, z2, z3, z4, z5, z6⟩ := Go.Proofs.Ytpdoplkiaejpiaa.ShortK.cz7 QG1))
  go_ret
  exact ⟨by first | rfl | (simp; done), HB1.out⟩
theorem hcat_le (a b : ByteArray) : LeO (hcat a b) (hcat a b) := LeO.refl _
theorem byV_mono (k : Nat) (n : Int) (o : ByteArray) : LeO (byV k n o) (byV (k + 1) n o) := LeO.bind (impl_varint.mono _ _) (fun _ => LeO.refl _)
theorem byC_mono (k : Nat) (s o : ByteArray) : LeO (byC k s o) (byC (k + 1) s o) := LeO.bind (impl_counted.mono _ _) (fun _ => LeO.refl _)
theorem goodTail_mono (k : Nat) (kd fa fb fc : Int) (fin : Bool) (dat : ByteArray) (rs : List S92) : LeO (goodTail k kd fa fb fc fin dat rs) (goodTail (k + 1) kd fa fb fc fin dat rs) := by
  unfold goodTail
  exact LeO.ite (LeO.bind (LeO.refl _) (fun _ => LeO.ite (impl_rangesOk.mono _ _) (LeO.refl _))) (LeO.refl _)
theorem impl_GoodFrame.mono : ∀ (kd fa fb fc : Int) (fin : Bool) (dat : ByteArray) (rs : List S92) (k : Nat), LeO (impl_GoodFrame.f k kd fa fb fc fin dat rs) (impl_GoodFrame.f (k + 1) kd fa fb fc fin dat rs) := by
  intro kd fa fb fc fin dat rs k
  unfold impl_GoodFrame.f
  exact LeO.bind (LeO.refl _) (fun _ => LeO.ite (goodTail_mono _ _ _ _ _ _ _ _) (LeO.refl _))
theorem stream_mono (k : Nat) (fa fb : Int) (fin : Bool) (dat : ByteArray) : LeO (impl_Frame_streamBytes.f k fa fb fin dat) (impl_Frame_streamBytes.f (k + 1) fa fb fin dat) := by
  unfold impl_Frame_streamBytes.f
  exact LeO.bind (LeO.ite (LeO.refl _) (impl_varint.mono _ _)) (fun _ => LeO.bind (impl_varint.mono _ _) (fun _ => LeO.bind (impl_varint.mono _ _) (fun _ => LeO.bind (impl_counted.mono _ _) (fun _ => LeO.refl _))))
theorem ackLoop_mono (k : Nat) (rs : List S92) : ∀ n i o, LeO (ackLoop k rs n i o) (ackLoop (k + 1) rs n i o)
  | 0, _, _ => LeO.refl _
  | n + 1, i, o => by
    unfold ackLoop
    exact LeO.bind (impl_varint.mono _ _) (fun _ => LeO.bind (impl_varint.mono _ _) (fun _ => LeO.bind (LeO.refl _) (fun _ => LeO.bind (LeO.refl _) (fun _ => ackLoop_mono k rs n _ _))))
theorem ack_mono (k : Nat) (fa : Int) (rs : List S92) : LeO (impl_Frame_ackBytes.f k fa rs) (impl_Frame_ackBytes.f (k + 1) fa rs) := by
  unfold impl_Frame_ackBytes.f ackHead
  exact LeO.ite (LeO.bind (LeO.bind (impl_varint.mono _ _) (fun _ => LeO.bind (impl_varint.mono _ _) (fun _ => LeO.bind (impl_varint.mono _ _) (fun _ => LeO.bind (impl_varint.mono _ _) (fun _ => LeO.refl _))))) (fun _ => ackLoop_mono _ _ _ _ _)) (LeO.refl _)
theorem bytesTail_mono (k : Nat) (kd fa fb fc : Int) (fin : Bool) (dat : ByteArray) (rs : List S92) (o : ByteArray) : LeO (bytesTail k kd fa fb fc fin dat rs o) (bytesTail (k + 1) kd fa fb fc fin dat rs o) := by
  unfold bytesTail
  refine LeO.ite (LeO.bind (ack_mono _ _ _) (fun _ => LeO.refl _)) ?_
  refine LeO.ite (LeO.bind (byV_mono _ _ _) (fun _ => LeO.bind (byV_mono _ _ _) (fun _ => byV_mono _ _ _))) ?_
  refine LeO.ite (LeO.bind (byV_mono _ _ _) (fun _ => byV_mono _ _ _)) ?_
  refine LeO.ite (byV_mono _ _ _) ?_
  refine LeO.ite (LeO.bind (byV_mono _ _ _) (fun _ => byC_mono _ _ _)) ?_
  refine LeO.ite (byC_mono _ _ _) ?_
  refine LeO.ite (stream_mono _ _ _ _ _) ?_
  refine LeO.ite (LeO.bind (byV_mono _ _ _) (fun _ => LeO.bind (byV_mono _ _ _) (fun _ => LeO.bind (impl_bigEndian.mono _ _ _) (fun _ => LeO.bind (LeO.refl _) (fun _ => LeO.bind (LeO.refl _) (fun _ => LeO.bind (impl_bigEndian.mono _ _ _) (fun _ => LeO.refl _))))))) ?_
  refine LeO.ite (LeO.refl _) ?_
  refine LeO.ite (LeO.bind (byV_mono _ _ _) (fun _ => LeO.bind (byV_mono _ _ _) (fun _ => byC_mono _ _ _))) ?_
  exact LeO.ite (LeO.bind (impl_varint.mono _ _) (fun _ => byC_mono _ _ _)) (LeO.refl _)
theorem impl_Frame_bytes.mono : ∀ (kd fa fb fc : Int) (fin : Bool) (dat : ByteArray) (rs : List S92) (k : Nat), LeO (impl_Frame_bytes.f k kd fa fb fc fin dat rs) (impl_Frame_bytes.f (k + 1) kd fa fb fc fin dat rs) := by
  intro kd fa fb fc fin dat rs k
  unfold impl_Frame_bytes.f
  exact LeO.bind (impl_varint.mono _ _) (fun _ => bytesTail_mono _ _ _ _ _ _ _ _ _)
def impl_FrameBytes.f (k : Nat) (kd fa fb fc : Int) (fin : Bool) (dat : ByteArray) (rs : List S92) : Option (ByteArray × Bool) := (impl_GoodFrame.f k kd fa fb fc fin dat rs).bind fun b => if b = true then (impl_Frame_bytes.f k kd fa fb fc fin dat rs).bind fun s => some (s, true) else some ((⟨#[]⟩ : ByteArray), false)
theorem impl_FrameBytes.mono : ∀ (kd fa fb fc : Int) (fin : Bool) (dat : ByteArray) (rs : List S92) (k : Nat), LeO (impl_FrameBytes.f k kd fa fb fc fin dat rs) (impl_FrameBytes.f (k + 1) kd fa fb fc fin dat rs) := by
  intro kd fa fb fc fin dat rs k
  unfold impl_FrameBytes.f
  exact LeO.bind (impl_GoodFrame.mono _ _ _ _ _ _ _ _) (fun _ => LeO.ite (LeO.bind (impl_Frame_bytes.mono _ _ _ _ _ _ _ _) (fun _ => LeO.refl _)) (LeO.refl _))
set_option maxHeartbeats 4000000 in
set_option maxRecDepth 100000 in
theorem impl_FrameBytes.calls (k : Nat) (kd fa fb fc : Int) (fin : Bool) (dat : ByteArray) (AR : Option Addr) (cR : Nat) (rs : List S92) (r1 : ByteArray) (r2 : Bool) (w : World) (hr : Kd.C k92 w AR rs.length rs) (hc : rs.length ≤ cR) (h : impl_FrameBytes.f k kd fa fb fc fin dat rs = some (r1, r2)) :
    Calls Try.prog 11 #[.agg #[.int .i64 kd, .int .i64 fa, .int .i64 fb, .int .i64 fc, .bool fin, .string dat, .slice AR rs.length cR]] w fun e w' => e = .returned (.tuple #[.string r1, .bool r2]) ∧ Below w.heap.size w w' := by
  obtain ⟨b, h1, hT⟩ := Option.bind_eq_some_iff.mp h
  clear h
  have HG := Aside0.mk h1
  have HR := Aside0.mk hr
  have HC := Aside0.mk hc
  have HB := Aside0.mk (Below.refl w.heap.size w)
  clear h1 hr hc
  have hu30 := Try.underlying30
  cases b with
  | false =>
    have hE := Option.some.inj ((if_neg (by decide)).symm.trans hT)
    obtain rfl := congrArg Prod.fst hE
    obtain rfl := congrArg Prod.snd hE
    clear hT hE
    go_enter Try.func11, Try.ntmps11
    go_wp2_with (first
      | ((with_reducible refine gate_dst (N := 1) rfl ?_); (try (refine gate_guard (by rfl) ?_; dsimp only)); refine box_event ?hg (N := 1) ?hd (cs := #[.int .i64 kd, .int .i64 fa, .int .i64 fb, .int .i64 fc, .bool fin, .string dat, .slice AR rs.length cR]) (t := 30) ?hr ?_; (case hd => rfl); (case hg => rfl); (case hr => first | (go_simp; done) | (go_simp; rfl)); intro g hg1 w2 hbox hb; have QG := Aside0.mk hbox; have HB2 := Aside0.mk (HB.out.trans (hb.mono HB.out.size)); have HR2 := Aside0.mk (Kd.C_below HR.out HB2.out); clear hbox hb hg1 HB HR; obtain ⟨z0, z1, z2, z3, z4, z5, z6⟩ := Go.Proofs.Ytpdoplkiaejpiaa.ShortK.cz7 QG)
      | (go_at_call 44; refine (impl_GoodFrame.calls k kd fa fb fc fin dat rs AR cR false _ HR2.out HC.out HG.out).mono ?_; rintro e w3 ⟨rfl, hb⟩; have HB3 := Aside0.mk (HB2.out.trans (hb.mono HB2.out.size)); clear hb))
    go_ret2
    exact ⟨by first | rfl | (simp; done), HB3.out⟩
  | true =>
    obtain ⟨s, h2, hT⟩ := Option.bind_eq_some_iff.mp ((if_pos rfl).symm.trans hT)
    have HS := Aside0.mk h2
    have hE := Option.some.inj hT
    obtain rfl := congrArg Prod.fst hE
    obtain rfl := congrArg Prod.snd hE
    clear hT hE h2
    go_enter Try.func11, Try.ntmps11
    go_wp2_with (first
      | ((with_reducible refine gate_dst (N := 1) rfl ?_); (try (refine gate_guard (by rfl) ?_; dsimp only)); refine box_event ?hg (N := 1) ?hd (cs := #[.int .i64 kd, .int .i64 fa, .int .i64 fb, .int .i64 fc, .bool fin, .string dat, .slice AR rs.length cR]) (t := 30) ?hr ?_; (case hd => rfl); (case hg => rfl); (case hr => first | (go_simp; done) | (go_simp; rfl)); intro g hg1 w2 hbox hb; have QG := Aside0.mk hbox; have HB2 := Aside0.mk (HB.out.trans (hb.mono HB.out.size)); have HR2 := Aside0.mk (Kd.C_below HR.out HB2.out); clear hbox hb hg1 HB HR; obtain ⟨z0, z1, z2, z3, z4, z5, z6⟩ := Go.Proofs.Ytpdoplkiaejpiaa.ShortK.cz7 QG)
      | (go_at_call 44; refine (impl_GoodFrame.calls k kd fa fb fc fin dat rs AR cR true _ HR2.out HC.out HG.out).mono ?_; rintro e w3 ⟨rfl, hb⟩; have HB3 := Aside0.mk (HB2.out.trans (hb.mono HB2.out.size)); have HR3 := Aside0.mk (Kd.C_below HR2.out hb); have QG3 := Aside0.mk (blk_below QG.out hb); clear hb z0 z1 z2 z3 z4 z5 z6; obtain ⟨z0, z1, z2, z3, z4, z5, z6⟩ := Go.Proofs.Ytpdoplkiaejpiaa.ShortK.cz7 QG3)
      | (go_at_call 45; refine (impl_Frame_bytes.calls k g kd fa fb fc fin dat AR rs cR s _ QG3.out HR3.out HC.out HS.out).mono ?_; rintro e w4 ⟨rfl, hb⟩; have HB4 := Aside0.mk (HB3.out.trans (hb.mono HB3.out.size)); clear hb))
    go_ret2
    exact ⟨by first | rfl | (simp; done), HB4.out⟩
open Go.Proofs.Ytpdoplkiaejpiaa.IdxK (idxF idxF_hit idxF_miss idxF_nn)
set_option maxHeartbeats 4000000 in
theorem idxF_Frame (A : Option Addr) (c : Nat) (l : List S30) (g : Nat) (lb : Array Value) (p : S30 → Bool) (w : World) (eg : ∀ args w, (callFunc g args).run Try.prog w = .ok (.enter g args) w)
    (hp : ∀ (W : World) (x : S30) (A6 : Option Addr) (c6 : Nat), x ∈ l → x.f6.length ≤ c6 → Kd.C k92 W A6 x.f6.length x.f6 → Below w.heap.size w W → Calls Try.prog g (#[.agg #[.int .i64 x.f0, .int .i64 x.f1, .int .i64 x.f2, .int .i64 x.f3, .bool x.f4, .string x.f5, .slice A6 x.f6.length c6]] ++ lb) W fun e w' => e = .returned (.bool (p x)) ∧ Below w.heap.size w w') (hr : Kd.C k30 w A l.length l) :
    Calls Try.prog 110 #[.slice A l.length c, .func (.func g) #[] lb] w fun e w' => e = .returned (.int .i64 (idxF p l)) ∧ Below w.heap.size w w' := by
  have hbig := hr.2.1
  go_enter Try.func110, Try.ntmps110
  go_wp2
  go_loopg [5, 8] l.length (fun gg _ s8 wr => ∃ kk : Nat, kk ≤ l.length ∧ l.length - kk ≤ gg ∧ s8 = .int .i64 kk ∧ Aside (Below w.heap.size w wr) ∧ Aside (∀ j, j < kk → p (l.getD j z30) = false))
  case atStart => exact ⟨0, Nat.zero_le _, by omega, rfl, Below.refl _ w, fun j hj => absurd hj (Nat.not_lt_zero _)⟩
  case round =>
    obtain ⟨kk, hkk, hg, rfl, BW, AL⟩ := hrel
    by_cases hlt : kk < l.length
    · have hltz : (kk : Int) < (l.length : Int) := by omega
      obtain ⟨ad, A6, c6, eA, hx0, hx1, hx2, hx3, hx4, hx5, hx6, hl6, hk6⟩ := at_T30 (Kd.C_below hr BW.out) (kk : Int) (by omega) hltz
      have hmem : rd_T30 l kk ∈ l := by
        unfold rd_T30
        rw [Int.toNat_natCast, List.getD_eq_getElem?_getD, List.getElem?_eq_getElem hlt]
        exact List.getElem_mem hlt
      have hcall := hp wr (rd_T30 l kk) A6 c6 hmem hl6 hk6 BW.out
      have hy : rd_T30 l kk = l.getD kk z30 := by unfold rd_T30; rw [Int.toNat_natCast]
      subst eA
      clear hp
      rw [Int.toNat_natCast] at hx0 hx1 hx2 hx3 hx4 hx5 hx6
      clear hl6 hk6
      generalize rd_T30 l kk = y at hx0 hx1 hx2 hx3 hx4 hx5 hx6 hcall hy
      have B : Aside (y = l.getD kk z30) := hy
      clear hy hmem
      cases hq : p y with
      | true =>
        rw [hq] at hcall
        go_wp2_with fail
        refine hcall.mono ?_
        rintro e w' ⟨rfl, hb'⟩
        go_wp2
        go_ret
        refine ⟨?_, hb'⟩
        rw [idxF_hit p z30 l kk hlt (by rw [← B.out]; exact hq) AL.out]
        rfl
      | false =>
        rw [hq] at hcall
        go_wp2_with fail
        refine hcall.mono ?_
        rintro e w' ⟨rfl, hb'⟩
        go_wp2
        go_roundg (l.length - (kk + 1))
        case measure => omega
        case rel =>
          refine ⟨kk + 1, by omega, by omega, by go_num, hb', (show Aside _ from fun j hj => ?_)⟩
          by_cases e : j = kk
          · subst e
            rw [← B.out]; exact hq
          · exact AL.out j (by omega)
    · have hltz : ¬ (kk : Int) < (l.length : Int) := by omega
      have e : kk = l.length := by omega
      subst e
      go_wp2
      go_ret
      refine ⟨?_, BW.out⟩
      rw [idxF_miss p z30 l AL.out]
      rfl
theorem anyF_Frame (A : Option Addr) (c : Nat) (l : List S30) (g : Nat) (lb : Array Value) (p : S30 → Bool) (w : World) (eg : ∀ args w, (callFunc g args).run Try.prog w = .ok (.enter g args) w)
    (hp : ∀ (W : World) (x : S30) (A6 : Option Addr) (c6 : Nat), x ∈ l → x.f6.length ≤ c6 → Kd.C k92 W A6 x.f6.length x.f6 → Below w.heap.size w W → Calls Try.prog g (#[.agg #[.int .i64 x.f0, .int .i64 x.f1, .int .i64 x.f2, .int .i64 x.f3, .bool x.f4, .string x.f5, .slice A6 x.f6.length c6]] ++ lb) W fun e w' => e = .returned (.bool (p x)) ∧ Below w.heap.size w w') (hr : Kd.C k30 w A l.length l) :
    Calls Try.prog 68 #[.slice A l.length c, .func (.func g) #[] lb] w fun e w' => e = .returned (.bool (l.any p)) ∧ Below w.heap.size w w' := by
  rw [← idxF_nn p l]
  have hcon := idxF_Frame A c l g lb p w eg hp hr
  clear hp hr eg
  generalize idxF p l = q at hcon ⊢
  go_enter Try.func68, Try.ntmps68
  go_wp2_with fail
  refine hcon.mono ?_
  rintro e w' ⟨rfl, hb'⟩
  go_wp2
  go_ret
  exact ⟨rfl, hb'⟩
def implFs (k : Nat) (l : List S30) : Nat → Int → ByteArray → Option (ByteArray × Bool)
  | 0, _, out => if 1500 < (out.size : Int) then some ((⟨#[]⟩ : ByteArray), false) else some (out, true)
  | n + 1, i, out => (impl_Frame_bytes.f k (rd_T30 l i).f0 (rd_T30 l i).f1 (rd_T30 l i).f2 (rd_T30 l i).f3 (rd_T30 l i).f4 (rd_T30 l i).f5 (rd_T30 l i).f6).bind fun x => (hcat out x).bind fun o => implFs k l n (i + 1) o
def goodOf (k : Nat) (x : S30) : Option Bool := impl_GoodFrame.f k x.f0 x.f1 x.f2 x.f3 x.f4 x.f5 x.f6
def badOf (k : Nat) (x : S30) : Bool := !((goodOf k x).getD true)
def impl_FramesBytes.f (k : Nat) (l : List S30) : Option (ByteArray × Bool) := if (l.length : Int) ≤ 4611686018427387904 then (if 40 < (l.length : Int) then some ((⟨#[]⟩ : ByteArray), false) else if (l.all fun x => (goodOf k x).isSome) = true then (if (l.any (badOf k)) = true then some ((⟨#[]⟩ : ByteArray), false) else implFs k l l.length 0 (⟨#[]⟩ : ByteArray)) else none) else none
theorem implFs_mono (k : Nat) (l : List S30) : ∀ n i o, LeO (implFs k l n i o) (implFs (k + 1) l n i o)
  | 0, _, _ => LeO.refl _
  | n + 1, i, o => by
    unfold implFs
    exact LeO.bind (impl_Frame_bytes.mono _ _ _ _ _ _ _ _) (fun _ => LeO.bind (LeO.refl _) (fun _ => implFs_mono k l n _ _))
theorem impl_FramesBytes.mono : ∀ (l : List S30) (k : Nat), LeO (impl_FramesBytes.f k l) (impl_FramesBytes.f (k + 1) l) := by
  intro l k
  unfold impl_FramesBytes.f
  refine LeO.ite (LeO.ite (LeO.refl _) ?_) (LeO.refl _)
  intro r h
  by_cases ha : (l.all fun x => (goodOf k x).isSome) = true
  · rw [if_pos ha] at h
    have he : ∀ x, x ∈ l → goodOf (k + 1) x = goodOf k x := fun x hx => by
      obtain ⟨b, hb⟩ := Option.isSome_iff_exists.1 (List.all_eq_true.1 ha x hx)
      rw [hb]
      exact impl_GoodFrame.mono _ _ _ _ _ _ _ k b hb
    have ha' : (l.all fun x => (goodOf (k + 1) x).isSome) = true := List.all_eq_true.2 (fun x hx => by rw [he x hx]; exact List.all_eq_true.1 ha x hx)
    have hn : (l.any (badOf (k + 1))) = (l.any (badOf k)) := by
      rw [Bool.eq_iff_iff, List.any_eq_true, List.any_eq_true]
      exact ⟨fun ⟨x, hx, h⟩ => ⟨x, hx, by unfold badOf at h ⊢; rw [← he x hx]; exact h⟩, fun ⟨x, hx, h⟩ => ⟨x, hx, by unfold badOf at h ⊢; rw [he x hx]; exact h⟩⟩
    rw [if_pos ha', hn]
    by_cases hb : (l.any (badOf k)) = true
    · rw [if_pos hb] at h ⊢
      exact h
    · rw [if_neg hb] at h ⊢
      exact implFs_mono _ _ _ _ _ _ h
  · rw [if_neg ha] at h
    cases h
set_option maxHeartbeats 4000000 in
set_option maxRecDepth 100000 in
theorem notGood.calls (k : Nat) (x : S30) (A6 : Option Addr) (c6 : Nat) (b : Bool) (w : World) (hr : Kd.C k92 w A6 x.f6.length x.f6) (hc : x.f6.length ≤ c6) (h : goodOf k x = some b) :
    Calls Try.prog 69 #[.agg #[.int .i64 x.f0, .int .i64 x.f1, .int .i64 x.f2, .int .i64 x.f3, .bool x.f4, .string x.f5, .slice A6 x.f6.length c6]] w fun e w' => e = .returned (.bool (!b)) ∧ Below w.heap.size w w' := by
  unfold goodOf at h
  have HG := Aside0.mk h
  have HR := Aside0.mk hr
  have HC := Aside0.mk hc
  have HB := Aside0.mk (Below.refl w.heap.size w)
  clear h hr hc
  have hu30 := Try.underlying30
  go_enter Try.func69, Try.ntmps69
  go_wp2_with (first
    | ((with_reducible refine gate_dst (N := 1) rfl ?_); (try (refine gate_guard (by rfl) ?_; dsimp only)); refine box_event ?hg (N := 1) ?hd (cs := #[.int .i64 x.f0, .int .i64 x.f1, .int .i64 x.f2, .int .i64 x.f3, .bool x.f4, .string x.f5, .slice A6 x.f6.length c6]) (t := 30) ?hr ?_; (case hd => rfl); (case hg => rfl); (case hr => first | (go_simp; done) | (go_simp; rfl)); intro g hg1 w2 hbox hb; have QG := Aside0.mk hbox; have HB2 := Aside0.mk (HB.out.trans (hb.mono HB.out.size)); have HR2 := Aside0.mk (Kd.C_below HR.out HB2.out); clear hbox hb hg1 HB HR; obtain ⟨z0, z1, z2, z3, z4, z5, z6⟩ := Go.Proofs.Ytpdoplkiaejpiaa.ShortK.cz7 QG)
    | (go_at_call 44; refine (impl_GoodFrame.calls k x.f0 x.f1 x.f2 x.f3 x.f4 x.f5 x.f6 A6 c6 b _ HR2.out HC.out HG.out).mono ?_; rintro e w3 ⟨rfl, hb⟩; have HB3 := Aside0.mk (HB2.out.trans (hb.mono HB2.out.size)); clear hb))
  go_ret
  exact ⟨by first | rfl | (simp; done), HB3.out⟩
set_option maxHeartbeats 4000000 in
set_option maxRecDepth 100000 in
theorem impl_FramesBytes.calls (k : Nat) (A0 : Option Addr) (c0 : Nat) (l : List S30) (r1 : ByteArray) (r2 : Bool) (w : World) (hr0 : Kd.C k30 w A0 l.length l) (hc0 : l.length ≤ c0) (h : impl_FramesBytes.f k l = some (r1, r2)) :
    Calls Try.prog 30 #[.slice A0 l.length c0] w fun e w' => e = .returned (.tuple #[.string r1, .bool r2]) ∧ Below w.heap.size w w' := by
  unfold impl_FramesBytes.f at h
  split at h
  case isFalse => cases h
  case isTrue hlen =>
  have hu30 := Try.underlying30
  have HR := Aside0.mk hr0
  have HLN := Aside0.mk hlen
  have HB := Aside0.mk (Below.refl w.heap.size w)
  clear hr0 hlen
  by_cases h40 : 40 < (l.length : Int)
  · have H := (if_pos h40).symm.trans h
    clear h
    have hd : decide (40 < (l.length : Int)) = true := decide_eq_true h40
    clear h40
    have hE := Option.some.inj H
    obtain rfl := congrArg Prod.fst hE
    obtain rfl := congrArg Prod.snd hE
    clear H hE
    go_enter Try.func30, Try.ntmps30
    go_wp2
    go_ret2
    exact ⟨by first | rfl | (simp; done), HB.out⟩
  · have h := (if_neg h40).symm.trans h
    have hd : decide (40 < (l.length : Int)) = false := decide_eq_false h40
    clear h40
    split at h
    case isFalse => cases h
    case isTrue hall =>
    have HALL := Aside0.mk hall
    clear hall
    have EG : ∀ args w, (callFunc 69 args).run Try.prog w = .ok (.enter 69 args) w := enters_ Try.func69 (by kernel_rfl) rfl
    cases hany : l.any (badOf k) with
    | true =>
      have H := (if_pos hany).symm.trans h
      clear h
      have hE := Option.some.inj H
      obtain rfl := congrArg Prod.fst hE
      obtain rfl := congrArg Prod.snd hE
      clear H hE
      go_enter Try.func30, Try.ntmps30
      go_wp2_with (go_at_call 68; refine (anyF_Frame A0 c0 l 69 #[] (badOf k) _ EG (fun W x A6 c6 hx h6 k6 hb => by obtain ⟨b, hb'⟩ := Option.isSome_iff_exists.1 (List.all_eq_true.1 HALL.out x hx); refine (show Calls Try.prog 69 (#[.agg #[.int .i64 x.f0, .int .i64 x.f1, .int .i64 x.f2, .int .i64 x.f3, .bool x.f4, .string x.f5, .slice A6 x.f6.length c6]] ++ #[]) W _ from ?_); refine (notGood.calls k x A6 c6 b W k6 h6 hb').mono ?_; rintro e w' ⟨rfl, hb2⟩; exact ⟨by unfold badOf; rw [hb']; rfl, hb.trans (hb2.mono hb.size)⟩) HR.out).mono ?_; rintro e w3 ⟨rfl, hb⟩; have HB3 := Aside0.mk (HB.out.trans (hb.mono HB.out.size)); clear hb)
      go_ret2
      exact ⟨by first | rfl | (simp; done), HB3.out⟩
    | false =>
      have HA := Aside0.mk ((if_neg (by rw [hany]; decide)).symm.trans h)
      clear h
      go_enter Try.func30, Try.ntmps30
      go_wp2_with (go_at_call 68; refine (anyF_Frame A0 c0 l 69 #[] (badOf k) _ EG (fun W x A6 c6 hx h6 k6 hb => by obtain ⟨b, hb'⟩ := Option.isSome_iff_exists.1 (List.all_eq_true.1 HALL.out x hx); refine (show Calls Try.prog 69 (#[.agg #[.int .i64 x.f0, .int .i64 x.f1, .int .i64 x.f2, .int .i64 x.f3, .bool x.f4, .string x.f5, .slice A6 x.f6.length c6]] ++ #[]) W _ from ?_); refine (notGood.calls k x A6 c6 b W k6 h6 hb').mono ?_; rintro e w' ⟨rfl, hb2⟩; exact ⟨by unfold badOf; rw [hb']; rfl, hb.trans (hb2.mono hb.size)⟩) HR.out).mono ?_; rintro e w3 ⟨rfl, hb⟩; have HB3 := Aside0.mk (HB.out.trans (hb.mono HB.out.size)); clear hb)
      go_loopg [4, 16] l.length (fun kq v4 v12 w' => ∃ (i : Int) (out : ByteArray), v4 = .string out ∧ v12 = .int .i64 i ∧ Aside0 (implFs k l kq i out = some (r1, r2)) ∧ Aside0 (i + kq = (l.length : Int) ∧ 0 ≤ i) ∧ Aside0 (Below w.heap.size w w'))
      case atStart => exact ⟨0, _, rfl, rfl, HA, ⟨⟨by omega, by omega⟩⟩, HB3⟩
      case round =>
        clear HA HB HB3
        obtain ⟨i, out, rfl, rfl, HA, HI, HB⟩ := hrel
        obtain ⟨hi1, hi0⟩ := HI.out
        clear HI
        cases gk with
        | zero =>
          have hd2 : decide (i < (l.length : Int)) = false := decide_eq_false (by omega)
          have H := HA.out
          unfold implFs at H
          clear HA hi1 hi0
          by_cases hs : 1500 < (out.size : Int)
          · rw [if_pos hs] at H
            have hE := Option.some.inj H
            obtain rfl := congrArg Prod.fst hE
            obtain rfl := congrArg Prod.snd hE
            clear H hE
            have hsd : decide (1500 < (out.size : Int)) = true := decide_eq_true hs
            clear hs
            go_wp2
            go_ret2
            exact ⟨by first | rfl | (simp; done), HB.out⟩
          · rw [if_neg hs] at H
            have hE := Option.some.inj H
            obtain rfl := congrArg Prod.fst hE
            obtain rfl := congrArg Prod.snd hE
            clear H hE
            have hsd : decide (1500 < (out.size : Int)) = false := decide_eq_false hs
            clear hs
            go_wp2
            go_ret2
            exact ⟨by first | rfl | (simp; done), HB.out⟩
        | succ n =>
          have HA1 := HA.out
          unfold implFs at HA1
          clear HA
          have hi2 : i < (l.length : Int) := by omega
          have hd2 : decide (i < (l.length : Int)) = true := decide_eq_true hi2
          have HII := Aside0.mk (And.intro hi1 hi0)
          obtain ⟨ad, A6, c6, eA, q0, q1, q2, q3, q4, q5, q6, hl6, hk6⟩ := at_T30 (Kd.C_below HR.out HB.out) i hi0 hi2
          subst eA
          have HL6 := Aside0.mk hl6
          have HK6 := Aside0.mk hk6
          clear hl6 hk6 hi1
          have s0 := eq_true hi0
          have s1 := eq_true hi2
          have HWI := Aside0.mk (show wrap64 (i + 1) = i + 1 from by have := HLN.out; have := HII.out; unfold wrap64; omega)
          generalize rd_T30 l i = y at q0 q1 q2 q3 q4 q5 q6 HL6 HK6 HA1
          have hbn : Below wr.heap.size wr (wr.alloc (.cells #[.int .i64 y.f0, .int .i64 y.f1, .int .i64 y.f2, .int .i64 y.f3, .bool y.f4, .string y.f5, .slice A6 y.f6.length c6] 30 (0, 0))) := below_alloc (Below.refl _ wr) _
          have hbox : (wr.alloc (.cells #[.int .i64 y.f0, .int .i64 y.f1, .int .i64 y.f2, .int .i64 y.f3, .bool y.f4, .string y.f5, .slice A6 y.f6.length c6] 30 (0, 0))).heap[wr.heap.size]? = some (.cells #[.int .i64 y.f0, .int .i64 y.f1, .int .i64 y.f2, .int .i64 y.f3, .bool y.f4, .string y.f5, .slice A6 y.f6.length c6] 30 (0, 0)) := blk_new wr _
          obtain ⟨x, hx, HA1⟩ := Option.bind_eq_some_iff.mp HA1
          obtain ⟨o, ho, HA1⟩ := Option.bind_eq_some_iff.mp HA1
          obtain ⟨rfl, t1⟩ := hcat_some ho
          have HX := Aside0.mk hx
          have HN := Aside0.mk HA1
          clear HA1 hx ho
          go_upto_region 7 with (fail)
          have HBOX := Aside0.mk hbox
          have HBN := Aside0.mk hbn
          clear hbox hbn
          revert HBOX HBN
          generalize wr.alloc (.cells #[.int .i64 y.f0, .int .i64 y.f1, .int .i64 y.f2, .int .i64 y.f3, .bool y.f4, .string y.f5, .slice A6 y.f6.length c6] 30 (0, 0)) = w6
          intro HBOX HBN
          obtain ⟨z0, z1, z2, z3, z4, z5, z6⟩ := Go.Proofs.Ytpdoplkiaejpiaa.ShortK.cz7 HBOX
          have HK7 := Aside0.mk (Kd.C_below HK6.out HBN.out)
          have HB6 := Aside0.mk (HB.out.trans (HBN.out.mono HB.out.size))
          clear HB HBN HK6 q0 q1 q2 q3 q4 q5 q6
          go_wp2_with (go_at_call 45; refine (impl_Frame_bytes.calls k wr.heap.size y.f0 y.f1 y.f2 y.f3 y.f4 y.f5 A6 y.f6 c6 x _ HBOX.out HK7.out HL6.out HX.out).mono ?_; rintro e w8 ⟨rfl, hb⟩; have HB8 := Aside0.mk (HB6.out.trans (hb.mono HB6.out.size)); clear hb)
          go_roundg n
          case measure => omega
          case rel => exact ⟨i + 1, _, rfl, by first | rfl | (simp; done) | (rw [HWI.out]), HN, ⟨⟨by have := HII.out; omega, by have := HII.out; omega⟩⟩, HB8⟩

end Go.Proofs.Ytpdoplkiaejpiaa.PFnExactFramesBytes
