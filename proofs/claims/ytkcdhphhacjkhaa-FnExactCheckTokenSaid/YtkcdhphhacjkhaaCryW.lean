/- Bytes in memory: n bytes of a block that may be written, and what stores and calls do to them. -/
import Derived.Test.YtkcdhphhacjkhaaCryP
import Derived.Test.YtkcdhphhacjkhaaQuietK
import Derived.StillTailTactics
import Derived.Lib.BufferWrite
import Derived.Laws.IdiomStrings
import Derived.Lib.ConvBytes
import Derived.Laws.IdiomCopy
namespace Go.Proofs.Ytkcdhphhacjkhaa.B
open Go.RowKit Go.Proofs.YtkcdhphhacjkhaaW.PrintWords Go.Proofs.YtkcdhphhacjkhaaW.PrintLast Go.Proofs.YtkcdhphhacjkhaaW.PrintMore
open Go.Proofs.Ytkcdhphhacjkhaa.AES
open Go.Proofs.Ytkcdhphhacjkhaa
set_option linter.unusedVariables false
set_option linter.unusedSimpArgs false
theorem wi64 (n : Nat) (h : n < 9223372036854775808) : IntKind.i64.wrap (n : Int) = (n : Int) := by rw [IntKind.wrap_i64]; omega
theorem addI {i k q : Nat} (h : q = i + k) (hl : q < 9223372036854775808) : IntKind.i64.wrap ((i : Int) + (k : Int)) = (q : Int) ∧ wrap64 ((i : Int) + (k : Int)) = (q : Int) := by
  subst h
  exact ⟨by rw [← wi64 (i + k) hl]; congr 1, by rw [wr64 _ (by omega)]; omega⟩
theorem addL {c : Nat} {C : Int} {i q : Nat} (hC : C = (c : Int)) (h : q = i + c) (hl : q < 9223372036854775808) : IntKind.i64.wrap ((i : Int) + C) = (q : Int) ∧ wrap64 ((i : Int) + C) = (q : Int) := by
  subst hC
  exact addI h hl
theorem mulI {c : Nat} {C : Int} {i q : Nat} (hC : C = (c : Int)) (h : q = c * i) (hl : q < 9223372036854775808) : IntKind.i64.wrap (C * (i : Int)) = (q : Int) ∧ wrap64 (C * (i : Int)) = (q : Int) := by
  subst h hC
  have e : (c : Int) * (i : Int) = ((c * i : Nat) : Int) := by norm_cast
  rw [e]
  exact ⟨wi64 _ hl, wr64 _ (by omega)⟩
theorem tmodI {i m q : Nat} {M : Int} (hM : M = (m : Int)) (h : q = i % m) : Int.tmod (i : Int) M = (q : Int) ∧ (i : Int) % M = (q : Int) := by
  subst h hM
  exact ⟨by rw [Int.tmod_eq_emod_of_nonneg (by omega)]; norm_cast, by norm_cast⟩
/-- A byte's cell. -/
def c8 (b : UInt8) : Value := .int .u8 (b.toNat : Int)
/-- n bytes of block g, from place o on, are read as f's. -/
def RdB (w : World) (g o n : Nat) (f : Nat → UInt8) : Prop := ∀ i, i < n → w.cell? ⟨g, o + i, none⟩ = some (.int .u8 ((f i).toNat : Int))
/-- .. and may be written. -/
def OwB (w : World) (g o n : Nat) (f : Nat → UInt8) : Prop := RdB w g o n f ∧ ∀ i, i < n → w.frozen? ⟨g, o + i, none⟩ = false
def upd (f : Nat → UInt8) (k : Nat) (v : UInt8) : Nat → UInt8 := fun i => if i = k then v else f i
theorem RdB.congr {w : World} {g o n : Nat} {f f' : Nat → UInt8} (h : RdB w g o n f) (e : ∀ i, i < n → f i = f' i) : RdB w g o n f' := fun i hi => by rw [h i hi, e i hi]
theorem OwB.congr {w : World} {g o n : Nat} {f f' : Nat → UInt8} (h : OwB w g o n f) (e : ∀ i, i < n → f i = f' i) : OwB w g o n f' := ⟨h.1.congr e, h.2⟩
theorem RdB.move {w w' : World} {g o n : Nat} {f : Nat → UInt8} (h : RdB w g o n f) (e : w'.heap[g]? = w.heap[g]?) : RdB w' g o n f := fun i hi => (World.cell?_of_block (a := ⟨g, o + i, none⟩) e).trans (h i hi)
theorem OwB.move {w w' : World} {g o n : Nat} {f : Nat → UInt8} (h : OwB w g o n f) (e : w'.heap[g]? = w.heap[g]?) : OwB w' g o n f := ⟨h.1.move e, fun i hi => (World.frozen?_of_block (a := ⟨g, o + i, none⟩) e).trans (h.2 i hi)⟩
theorem RdB.lt {w : World} {g o n : Nat} {f : Nat → UInt8} (h : RdB w g o n f) (hn : 0 < n) : g < w.heap.size := World.block_lt_of_cell? w ⟨g, o + 0, none⟩ (h 0 hn)
theorem RdB.below {w w' : World} {g o n : Nat} {f : Nat → UInt8} (h : RdB w g o n f) (hb : Below w.heap.size w w') : RdB w' g o n f := fun i hi => Go.Proofs.Ytkcdhphhacjkhaa.QuietK.cb_ (h i hi) hb
theorem OwB.below {w w' : World} {g o n : Nat} {f : Nat → UInt8} (h : OwB w g o n f) (hb : Below w.heap.size w w') : OwB w' g o n f := by
  refine ⟨h.1.below hb, fun i hi => ?_⟩
  have hlt : g < w.heap.size := h.1.lt (by omega)
  exact (hb.frozen (p := ⟨g, o + i, none⟩) hlt).trans (h.2 i hi)
theorem RdB.grown {w w' : World} {g o n : Nat} {f : Nat → UInt8} {row : Option Nat} (h : RdB w g o n f) (hg : w.grownBy w' row) (hne : some g ≠ row) : RdB w' g o n f := fun i hi => hg.cell (h i hi) hne
theorem OwB.grown {w w' : World} {g o n : Nat} {f : Nat → UInt8} {row : Option Nat} (h : OwB w g o n f) (hg : w.grownBy w' row) (hne : some g ≠ row) : OwB w' g o n f :=
  ⟨h.1.grown hg hne, fun i hi => (hg.frozen_far ⟨g, o + i, none⟩ (World.block_lt_of_cell? w _ (h.1 i hi)) hne).trans (h.2 i hi)⟩
theorem RdB.part {w : World} {g o n : Nat} {f : Nat → UInt8} (h : RdB w g o n f) (k m : Nat) (hk : k + m ≤ n) : RdB w g (o + k) m (fun i => f (k + i)) := fun i hi => by rw [show o + k + i = o + (k + i) by omega]; exact h (k + i) (by omega)
theorem OwB.part {w : World} {g o n : Nat} {f : Nat → UInt8} (h : OwB w g o n f) (k m : Nat) (hk : k + m ≤ n) : OwB w g (o + k) m (fun i => f (k + i)) := ⟨h.1.part k m hk, fun i hi => by rw [show o + k + i = o + (k + i) by omega]; exact h.2 (k + i) (by omega)⟩
theorem OwB.part0 {w : World} {g n : Nat} {f : Nat → UInt8} (h : OwB w g 0 n f) (k m : Nat) (hk : k + m ≤ n) : OwB w g k m (fun i => f (k + i)) := by
  have := h.part k m hk
  rwa [Nat.zero_add] at this
theorem RdB.part0 {w : World} {g n : Nat} {f : Nat → UInt8} (h : RdB w g 0 n f) (k m : Nat) (hk : k + m ≤ n) : RdB w g k m (fun i => f (k + i)) := by
  have := h.part k m hk
  rwa [Nat.zero_add] at this
theorem OwB.store {w : World} {g o n : Nat} {f : Nat → UInt8} (h : OwB w g o n f) (k : Nat) (hk : k < n) (v : UInt8) : OwB (w.setCell ⟨g, o + k, none⟩ (.int .u8 (v.toNat : Int))) g o n (upd f k v) := by
  refine ⟨fun i hi => ?_, fun i hi => by rw [World.frozen?_setCell]; exact h.2 i hi⟩
  by_cases e : i = k
  · subst e
    rw [World.cell?_setCell_same _ _ _ (h.1 i hi)]
    unfold upd
    rw [if_pos rfl]
  · rw [World.cell?_setCell_other _ _ _ _ (by intro h; apply e; injection h with _ h; omega)]
    unfold upd
    rw [if_neg e]
    exact h.1 i hi
theorem OwB.drew {w : World} {g o n : Nat} {f : Nat → UInt8} (h : OwB w g o n f) : OwB w.drew g o n f := h.move rfl
theorem RdB.drew {w : World} {g o n : Nat} {f : Nat → UInt8} (h : RdB w g o n f) : RdB w.drew g o n f := h.move rfl
/-- Below k the new ones, else the old ones. -/
def mixA (k : Nat) (new old : Nat → UInt8) : Nat → UInt8 := fun i => if i < k then new i else old i
theorem mixA_zero (new old : Nat → UInt8) : mixA 0 new old = old := by funext i; simp [mixA]
theorem mixA_at (k : Nat) (new old : Nat → UInt8) : mixA k new old k = old k := by simp [mixA]
theorem mixA_lt (k : Nat) (new old : Nat → UInt8) (i : Nat) (h : i < k) : mixA k new old i = new i := by simp [mixA, h]
theorem mixA_ge (k : Nat) (new old : Nat → UInt8) (i : Nat) (h : k ≤ i) : mixA k new old i = old i := by simp [mixA, Nat.not_lt.2 h]
theorem mixA_step (k : Nat) (new old : Nat → UInt8) : upd (mixA k new old) k (new k) = mixA (k + 1) new old := by
  funext i
  unfold upd mixA
  by_cases e : i = k
  · subst e; simp
  · simp only [e, if_false]
    by_cases h : i < k
    · simp [h, show i < k + 1 by omega]
    · simp [h, show ¬ i < k + 1 by omega]
theorem OwB.store0 {w : World} {g n : Nat} {f : Nat → UInt8} (h : OwB w g 0 n f) (k : Nat) (hk : k < n) (v : UInt8) : OwB (w.setCell ⟨g, k, none⟩ (.int .u8 (v.toNat : Int))) g 0 n (upd f k v) := by
  have := h.store k hk v
  rwa [Nat.zero_add] at this
theorem OwB.step0 {w : World} {g n : Nat} {new old : Nat → UInt8} {k : Nat} (h : OwB w g 0 n (mixA k new old)) (hk : k < n) (v : UInt8) (hv : v = new k) : OwB (w.setCell ⟨g, k, none⟩ (.int .u8 (v.toNat : Int))) g 0 n (mixA (k + 1) new old) := by
  rw [← mixA_step, hv]
  exact h.store0 k hk (new k)
theorem RdB.at0 {w : World} {g n : Nat} {f : Nat → UInt8} (h : RdB w g 0 n f) (k : Nat) (hk : k < n) : w.cell? ⟨g, k, none⟩ = some (.int .u8 ((f k).toNat : Int)) := by
  have := h k hk
  rwa [Nat.zero_add] at this
theorem OwB.free0 {w : World} {g n : Nat} {f : Nat → UInt8} (h : OwB w g 0 n f) (k : Nat) (hk : k < n) : w.frozen? ⟨g, k, none⟩ = false := by
  have := h.2 k hk
  rwa [Nat.zero_add] at this
theorem grown_set {w w' : World} {b : Nat} (h : w.grownBy w' (some b)) (i : Nat) (v : Value) : w.grownBy (w'.setCell ⟨b, i, none⟩ v) (some b) :=
  ⟨h.os, h.tape, h.output, by simpa [World.setCell] using h.size, fun k hk hne => (Below.heap_setCell _ _ _ _ (by intro e; exact hne (by rw [e]))).trans (h.block k hk hne)⟩
theorem grown_drew {w w' : World} {row : Option Nat} (h : w.grownBy w' row) : w.grownBy w'.drew row := ⟨h.os, h.tape, h.output, h.size, h.block⟩
theorem grown_alloc {w w' : World} {row : Option Nat} (h : w.grownBy w' row) (o : Obj) : w.grownBy (w'.alloc o) row := World.grownBy.trans h (World.grownBy_alloc _ _ _)
theorem grown_drawn {w w1 w' : World} {row : Option Nat} (h : w.grownBy w1 row) (d : Drawn0 w1 w') : w.grownBy w' row := by
  obtain ⟨n, rfl⟩ := d
  exact ⟨h.os, h.tape, h.output, h.size, h.block⟩
theorem grown_new {w w' : World} {row : Option Nat} (h : w.grownBy w' row) {b : Nat} (hb : w.heap.size ≤ b) (i : Nat) (v : Value) : w.grownBy (w'.setCell ⟨b, i, none⟩ v) row :=
  ⟨h.os, h.tape, h.output, by simpa [World.setCell] using h.size, fun k hk hne => (Below.heap_setCell _ _ _ _ (by simp only; omega)).trans (h.block k hk hne)⟩
theorem OwB.far {w : World} {g o n : Nat} {f : Nat → UInt8} (h : OwB w g o n f) {b : Nat} (hb : g ≠ b) (i : Nat) (v : Value) : OwB (w.setCell ⟨b, i, none⟩ v) g o n f := h.move (Below.heap_setCell _ _ _ _ (by simpa using hb))
theorem RdB.far {w : World} {g o n : Nat} {f : Nat → UInt8} (h : RdB w g o n f) {b : Nat} (hb : g ≠ b) (i : Nat) (v : Value) : RdB (w.setCell ⟨b, i, none⟩ v) g o n f := h.move (Below.heap_setCell _ _ _ _ (by simpa using hb))
theorem some_set {w : World} {q : Addr} (h : (w.cell? q).isSome = true) (a : Addr) (v : Value) : ((w.setCell a v).cell? q).isSome = true := by
  by_cases e : a = q
  · subst e
    obtain ⟨u, hu⟩ := Option.isSome_iff_exists.1 h
    rw [World.cell?_setCell_same _ _ _ hu]; rfl
  · rw [World.cell?_setCell_other _ _ _ _ e]; exact h
theorem below_drawn {B : Nat} {a w w' : World} (h : Below B a w) (d : Drawn0 w w') : Below B a w' := by
  obtain ⟨m, rfl⟩ := d
  exact ⟨h.os, h.tape, h.output, h.size, h.block⟩
theorem OwB.drawn {w w' : World} {g o n : Nat} {f : Nat → UInt8} (h : OwB w g o n f) (d : Drawn0 w w') : OwB w' g o n f := by
  obtain ⟨m, rfl⟩ := d
  exact h.move rfl
theorem RdB.drawn {w w' : World} {g o n : Nat} {f : Nat → UInt8} (h : RdB w g o n f) (d : Drawn0 w w') : RdB w' g o n f := by
  obtain ⟨m, rfl⟩ := d
  exact h.move rfl
theorem below_grown {B : Nat} {a w w' : World} {g : Nat} (h : Below B a w) (hg : w.grownBy w' (some g)) (hB : B ≤ w.heap.size) (hr : B ≤ g) : Below B a w' :=
  h.grown hg hB (fun k hk => by injection hk with hk; omega)
/-- n bytes' cells. -/
def cellsOf (n : Nat) (f : Nat → UInt8) : List Value := (List.range n).map fun i => .int .u8 ((f i).toNat : Int)
theorem cellsOf_len (n : Nat) (f : Nat → UInt8) : (cellsOf n f).length = n := by simp [cellsOf]
theorem cellsOf_at (n : Nat) (f : Nat → UInt8) (j : Nat) (h : j < n) : (cellsOf n f)[j]? = some (.int .u8 ((f j).toNat : Int)) := by
  unfold cellsOf
  rw [List.getElem?_map, List.getElem?_range h]
  rfl
theorem grown_cells {g : Nat} : ∀ (vs : List Value) (o : Nat) (w : World), w.grownBy (w.setCells g o vs) (some g)
  | [], _, w => World.grownBy.refl _ _
  | v :: vs, o, w => World.grownBy.trans (grown_set (World.grownBy.refl w (some g)) o v) (grown_cells vs (o + 1) (w.setCell ⟨g, o, none⟩ v))
theorem OwB.cells {w : World} {g o n : Nat} {f : Nat → UInt8} (h : OwB w g o n f) (f' : Nat → UInt8) : OwB (w.setCells g o (cellsOf n f')) g o n f' := by
  refine ⟨fun i hi => ?_, fun i hi => by rw [World.frozen?_setCells]; exact h.2 i hi⟩
  have := World.cell?_setCells_in g (cellsOf n f') o w (fun j hj => by rw [cellsOf_len] at hj; rw [h.1 j hj]; rfl) i (by rw [cellsOf_len]; exact hi)
  rw [this]
  have h2 := cellsOf_at n f' i hi
  rw [List.getElem?_eq_getElem (by rw [cellsOf_len]; exact hi)] at h2
  exact h2
section
variable {P : Program} {ops : Array Oper} {o : Oper} {rest : List Oper} {a : Act} {Q : Exit → Act → World → Prop}
/-- 'copy(d, s)' of n bytes, both so long. -/
theorem copy_event {W : World} (hgd : o.guard = none) {N : Tmp} (_hd : o.dst = some N) (T e : TypeId) (x y : Operand) (ho : o.op = .call { callee := .builtin .copy, args := #[x, y], argTypes := #[T, T] }) (g d n c g2 d2 c2 : Nat) (f f' : Nat → UInt8)
    (hx : a.eval x = .slice (some ⟨g, d, none⟩) n c) (hy : a.eval y = .slice (some ⟨g2, d2, none⟩) n c2) (hu : P.underlying T = some (.slice e)) (hs : (P.info? e).map (·.size) = some 1) (hr : OwB W g d n f) (hr2 : RdB W g2 d2 n f')
    (h : OwB (W.setCells g d (cellsOf n f')) g d n f' → W.grownBy (W.setCells g d (cellsOf n f')) (some g) → wpList P ops Q rest (a.put o.dst (.int .i64 (n : Int))) (W.setCells g d (cellsOf n f'))) : wpList P ops Q (o :: rest) a W := by
  have hrun := run_copy_cells (P := P) W T T o.type e g d n c ⟨g2, d2, none⟩ n c2 (cellsOf n f') hu hs (by rw [cellsOf_len]; exact (Nat.min_self n).symm) (fun j v hj => by
      have hjl : j < n := by have := (List.getElem?_eq_some_iff.1 hj).1; rwa [cellsOf_len] at this
      rw [cellsOf_at n f' j hjl] at hj
      rw [Addr.add_lit, hr2 j hjl]
      exact hj)
    (fun j hj => by rw [cellsOf_len] at hj; rw [hr.1 j hj]; rfl) (fun j hj => by rw [cellsOf_len] at hj; exact hr.2 j hj) (fun v hv => by
      unfold cellsOf at hv
      obtain ⟨i, _, rfl⟩ := List.mem_map.1 hv
      rfl)
  rw [cellsOf_len] at hrun
  refine Kd.event_run hgd (v := .int .i64 (n : Int)) (w1 := W.setCells g d (cellsOf n f')) ?_ (h (hr.cells f') (grown_cells _ _ _))
  unfold execOp
  simp only [ho, resolve, invoke, builtin, Sem.run_bind, Sem.run_pure, Result.andThen_ok, List.map_toArray, List.map_cons, List.map_nil, hx, hy, hrun]
  rfl
end
/-- A text's byte. -/
def byteAt (s : ByteArray) (i : Nat) : UInt8 := s.data.toList.getD i 0
/-- The text of n bytes. -/
def strOf (n : Nat) (f : Nat → UInt8) : ByteArray := ⟨((List.range n).map f).toArray⟩
theorem byteAt_get (s : ByteArray) (k : Nat) (h : k < s.size) : s[k]'h = byteAt s k := by
  unfold byteAt
  rw [List.getD_eq_getElem?_getD, List.getElem?_eq_getElem (by simpa using h)]
  rfl
theorem strOf_size (n : Nat) (f : Nat → UInt8) : (strOf n f).size = n := by simp [strOf, ByteArray.size]
theorem byteAt_strOf (n : Nat) (f : Nat → UInt8) (i : Nat) (h : i < n) : byteAt (strOf n f) i = f i := by
  unfold byteAt strOf
  rw [List.getD_eq_getElem?_getD]
  simp [h]
theorem strOf_congr {n : Nat} {f f' : Nat → UInt8} (h : ∀ i, i < n → f i = f' i) : strOf n f = strOf n f' := by
  unfold strOf
  congr 2
  exact List.map_congr_left (fun i hi => h i (List.mem_range.1 hi))
theorem strOf_bytes (s : ByteArray) : strOf s.size (byteAt s) = s := by
  apply ByteArray.ext
  apply Array.ext
  · simp [strOf]
  · intro i h1 h2
    simp [strOf, byteAt, List.getD_eq_getElem?_getD]
    rw [Array.getElem?_eq_getElem h2]
    rfl
theorem ext_bytes {s t : ByteArray} (hs : s.size = t.size) (h : ∀ i, i < s.size → byteAt s i = byteAt t i) : s = t := by
  rw [← strOf_bytes s, ← strOf_bytes t, ← hs]
  exact strOf_congr h
section
variable {P : Program} {ops : Array Oper} {o : Oper} {rest : List Oper} {a : Act} {Q : Exit → Act → World → Prop}
theorem run_to_bytes (W : World) (src dst e : TypeId) (s : ByteArray) (hs : P.underlying src = some .string) (hd : P.underlying dst = some (.slice e)) (he : P.underlying e = some (.int .u8)) :
    ∃ c w1, (convert src dst (.string s)).run P W = .ok (.slice (some ⟨W.heap.size, 0, none⟩) s.size c) w1 ∧ s.size ≤ c ∧ OwB w1 W.heap.size 0 s.size (byteAt s) ∧ Below W.heap.size W w1 ∧ w1.heap.size = W.heap.size + 1 ∧
      w1.heap[W.heap.size]? = some (.cells (Lib.bytesCells W e s) e (c, c + 1)) ∧ (Lib.bytesCells W e s).size = c := by
  have hc : (Lib.bytesCells W e s).size = grownCap W s.size 0 e := by
    have := grownCap_ge W s.size 0 e
    simp [Lib.bytesCells]
    have hh : s.data.size = s.size := rfl
    omega
  refine ⟨_, _, Lib.run_convert_string_bytes W src dst e s hs hd he, grownCap_ge W s.size 0 e, ⟨fun i hi => ?_, fun i hi => ?_⟩, ⟨?_, ?_, ?_, ?_, fun k hk => Lib.bytesWorld_at_old W e s k hk⟩, Lib.bytesWorld_size W e s, ?_, hc⟩
  · rw [Nat.zero_add]; exact Lib.bytesWorld_cell W e s i hi
  · have hge := grownCap_ge W s.size 0 e
    simp [World.frozen?, Lib.bytesWorld_at_new]
    omega
  · rfl
  · rfl
  · rfl
  · rw [Lib.bytesWorld_size]; omega
  · rw [← hc]; exact Lib.bytesWorld_at_new W e s
theorem bytesW_facts (W : World) (e : TypeId) (s : ByteArray) : OwB (Lib.bytesWorld W e s) W.heap.size 0 s.size (byteAt s) ∧ Below W.heap.size W (Lib.bytesWorld W e s) := by
  have hc : (Lib.bytesCells W e s).size = grownCap W s.size 0 e := by
    have := grownCap_ge W s.size 0 e
    simp [Lib.bytesCells]
    have hh : s.data.size = s.size := rfl
    omega
  refine ⟨⟨fun i hi => ?_, fun i hi => ?_⟩, ⟨?_, ?_, ?_, ?_, fun k hk => Lib.bytesWorld_at_old W e s k hk⟩⟩
  · rw [Nat.zero_add]; exact Lib.bytesWorld_cell W e s i hi
  · have hge := grownCap_ge W s.size 0 e
    simp [World.frozen?, Lib.bytesWorld_at_new]
    omega
  · rfl
  · rfl
  · rfl
  · rw [Lib.bytesWorld_size]; omega
/-- '[]byte(s)'. -/
theorem conv_event {W : World} (hgd : o.guard = none) {N : Tmp} (_hd : o.dst = some N) (src dst e : TypeId) (x : Operand) (ho : o.op = .convert src dst x) (s : ByteArray) (hx : a.eval x = .string s) (hs : P.underlying src = some .string) (hd : P.underlying dst = some (.slice e)) (he : P.underlying e = some (.int .u8))
    (h : ∀ g c w1, g = W.heap.size → s.size ≤ c → OwB w1 g 0 s.size (byteAt s) → Below W.heap.size W w1 → w1.heap.size = g + 1 → w1.heap[g]? = some (.cells (Lib.bytesCells W e s) e (c, c + 1)) → (Lib.bytesCells W e s).size = c → wpList P ops Q rest (a.put o.dst (.slice (some ⟨g, 0, none⟩) s.size c)) w1) : wpList P ops Q (o :: rest) a W := by
  obtain ⟨c, w1, hr, h1, h2, h3, h4, h5, h6⟩ := run_to_bytes (P := P) W src dst e s hs hd he
  refine Kd.event_run hgd (v := .slice (some ⟨W.heap.size, 0, none⟩) s.size c) (w1 := w1) ?_ (h _ c w1 rfl h1 h2 h3 h4 h5 h6)
  unfold execOp
  simp [ho, hx, hr]
/-- 'string(b)'. -/
theorem back_event {W : World} (hgd : o.guard = none) {N : Tmp} (_hd : o.dst = some N) (src dst e : TypeId) (x : Operand) (ho : o.op = .convert src dst x) (g off n c : Nat) (f : Nat → UInt8) (hx : a.eval x = .slice (some ⟨g, off, none⟩) n c) (hs : P.underlying src = some (.slice e)) (he : P.underlying e = some (.int .u8)) (hd : P.underlying dst = some .string)
    (hr : RdB W g off n f) (h : wpList P ops Q rest (a.put o.dst (.string (strOf n f))) W) : wpList P ops Q (o :: rest) a W := by
  have hb := run_convert_bytes_back (P := P) W src dst e ⟨g, off, none⟩ c ((List.range n).map f) hs he hd (fun j hj => by
    rw [Addr.add_lit]
    rw [hr j (by simpa using hj)]
    simp)
  rw [List.length_map, List.length_range] at hb
  refine Kd.event_run hgd (v := .string (strOf n f)) (w1 := W) ?_ h
  unfold execOp
  simp [ho, hx, hb, strOf]
end
end Go.Proofs.Ytkcdhphhacjkhaa.B
