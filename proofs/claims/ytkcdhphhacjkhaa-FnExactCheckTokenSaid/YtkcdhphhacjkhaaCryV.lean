/- Rows of bytes that grow. -/
import Derived.Test.YtkcdhphhacjkhaaCryX
import Derived.Laws.Cover3
import Derived.Deep.RegionLaw
namespace Go.Proofs.Ytkcdhphhacjkhaa.B
open Go.RowKit Go.Proofs.YtkcdhphhacjkhaaW.PrintWords Go.Proofs.YtkcdhphhacjkhaaW.PrintLast Go.Proofs.YtkcdhphhacjkhaaW.PrintMore
open Go.Proofs.Ytkcdhphhacjkhaa.AES
open Go.Proofs.Ytkcdhphhacjkhaa
attribute [local go_sem] Go.Proofs.Ytkcdhphhacjkhaa.StoreK.isSome_setCell
set_option linter.unusedVariables false
set_option linter.unusedSimpArgs false
/-- A row of n bytes with room: all its cells are there and may be written. -/
def RowG (w : World) (g cap n : Nat) (f : Nat → UInt8) : Prop := n ≤ cap ∧ (∀ i, i < cap → (w.cell? ⟨g, i, none⟩).isSome = true ∧ w.frozen? ⟨g, i, none⟩ = false) ∧ RdB w g 0 n f
theorem RowG.move {w w' : World} {g cap n : Nat} {f : Nat → UInt8} (h : RowG w g cap n f) (e : w'.heap[g]? = w.heap[g]?) : RowG w' g cap n f :=
  ⟨h.1, fun i hi => by rw [World.cell?_of_block (a := ⟨g, i, none⟩) e, World.frozen?_of_block (a := ⟨g, i, none⟩) e]; exact h.2.1 i hi, h.2.2.move e⟩
theorem RowG.lt {w : World} {g cap n : Nat} {f : Nat → UInt8} (h : RowG w g cap n f) (hn : 0 < n) : g < w.heap.size := h.2.2.lt hn
theorem RowG.below {w w' : World} {g cap n : Nat} {f : Nat → UInt8} (h : RowG w g cap n f) (hn : 0 < n) (hb : Below w.heap.size w w') : RowG w' g cap n f := h.move (hb.block g (h.lt hn))
theorem RowG.grown {w w' : World} {g cap n : Nat} {f : Nat → UInt8} {row : Option Nat} (h : RowG w g cap n f) (hn : 0 < n) (hg : w.grownBy w' row) (hne : some g ≠ row) : RowG w' g cap n f := h.move (hg.block g (h.lt hn) hne)
theorem RowG.congr {w : World} {g cap n : Nat} {f f' : Nat → UInt8} (h : RowG w g cap n f) (e : ∀ i, i < n → f i = f' i) : RowG w g cap n f' := ⟨h.1, h.2.1, h.2.2.congr e⟩
theorem RowG.of_bytes {w : World} {g c : Nat} {W : World} {e : TypeId} {s : ByteArray} (ho : OwB w g 0 s.size (byteAt s)) (hb : w.heap[g]? = some (.cells (Lib.bytesCells W e s) e (c, c + 1))) (hs : (Lib.bytesCells W e s).size = c) (hc : s.size ≤ c) : RowG w g c s.size (byteAt s) := by
  refine ⟨hc, fun i hi => ⟨?_, ?_⟩, ho.1⟩
  · have : w.cell? ⟨g, i, none⟩ = (Lib.bytesCells W e s)[i]? := cell_of_row w g i _ e _ hb
    rw [this, Array.getElem?_eq_getElem (by omega)]; rfl
  · simp [World.frozen?, hb]; omega
section
variable {P : Program}
theorem run_append_G {W : World} {t ty e : TypeId} {i : TypeInfo} {z : Value} (ht : P.underlying t = some (.slice e)) (hi : P.info? e = some i) (hz : i.zero = some z) (hsize : i.size = 1) (hby : i.bytes = 1) (hzs : z.cells.size = 1)
    {g cap n : Nat} {f : Nat → UInt8} (h : RowG W g cap n f) (hn : n ≤ 1000000) {b : Nat} {x : UInt8} (hx : W.cell? ⟨b, 0, none⟩ = some (.int .u8 (x.toNat : Int))) :
    ∃ g' cap' w', (Builtin.append_ #[t, t] ty #[.slice (some ⟨g, 0, none⟩) n cap, .slice (some ⟨b, 0, none⟩) 1 1]).run P W = .ok (.slice (some ⟨g', 0, none⟩) (n + 1) cap') w' ∧ RowG w' g' cap' (n + 1) (upd f n x) ∧ W.grownBy w' (some g) ∧ (g' = g ∨ W.heap.size ≤ g') ∧ W.heap.size ≤ w'.heap.size := by
  have hnews : ∀ j u, [Value.int .u8 (x.toNat : Int)][j]? = some u → W.cell? ((⟨b, 0, none⟩ : Addr).add j) = some u := fun j u hu => by
    cases j with
    | zero => rw [Addr.add_lit]; simp at hu; rw [← hu]; exact hx
    | succ j => simp at hu
  by_cases hroom : n + 1 ≤ cap
  · obtain ⟨h1, h2, h3⟩ := h
    have hr := run_append_room_cells (P := P) W t ty e i ht hi g 0 n cap ⟨b, 0, none⟩ 1 1 [Value.int .u8 (x.toNat : Int)] (by rw [hsize]; rfl) hnews (by intro u hu; simp at hu; rw [hu]; rfl) hroom
      (fun j hj => by simp at hj; subst hj; rw [hsize]; simpa using (h2 n (by omega)).1) (fun j hj => by simp at hj; subst hj; rw [hsize]; simpa using (h2 n (by omega)).2)
    rw [hsize, Nat.zero_add, Nat.mul_one] at hr
    refine ⟨g, cap, _, hr, ⟨by omega, fun i hi => ⟨?_, ?_⟩, fun i hi => ?_⟩, grown_cells _ _ _, Or.inl rfl, (grown_cells [Value.int .u8 (x.toNat : Int)] n W).size⟩
    · exact some_set (h2 i hi).1 _ _
    · show (W.setCell ⟨g, n, none⟩ _).frozen? _ = _
      rw [World.frozen?_setCell]; exact (h2 i hi).2
    · show (W.setCell ⟨g, n, none⟩ _).cell? _ = _
      unfold upd
      rw [Nat.zero_add]
      by_cases e : i = n
      · subst e
        obtain ⟨u, hu⟩ := Option.isSome_iff_exists.1 (h2 i (by omega)).1
        rw [World.cell?_setCell_same _ _ _ hu, if_pos rfl]
      · rw [World.cell?_setCell_other _ _ _ _ (by intro h; injection h with _ h; omega), if_neg e]
        exact h3.at0 i (by omega)
  · obtain ⟨v', w', hr, how, hg⟩ := run_append_arg_grows (P := P) W t ty e i z 1 1 ht hi hz hsize hby hzs (by omega) ⟨g, 0, none⟩ n cap (cellsOf n f) (by rw [cellsOf_len, Nat.mul_one]) (fun j u hj => by
        have hjl : j < n := by have := (List.getElem?_eq_some_iff.1 hj).1; rwa [cellsOf_len] at this
        rw [cellsOf_at n f j hjl] at hj
        rw [Addr.add_lit, h.2.2 j hjl]
        exact hj)
      ⟨b, 0, none⟩ 1 1 [Value.int .u8 (x.toNat : Int)] rfl hnews (by have := h.1; omega) (by unfold maxLen; omega) (by omega)
    rcases how.2 with ⟨_, h0⟩ | ⟨g', cap', cur, rfl, hge, hb, hnc, hcm, hcs, htk⟩
    · omega
    · refine ⟨g', cap', w', hr, ⟨hnc, fun i hi => ⟨?_, ?_⟩, fun i hi => ?_⟩, ⟨hg.os, hg.tape, hg.output, hg.size, fun k hk _ => hg.block k hk (by simp)⟩, Or.inr hge, hg.size⟩
      · rw [blk_cell hb i, Array.getElem?_eq_getElem (by omega)]; rfl
      · exact blk_frozen hb i
      · rw [Nat.zero_add, blk_cell hb i]
        have e1 : cur[i]? = (cur.toList.take ((n + 1) * 1))[i]? := by rw [List.getElem?_take, if_pos (by omega)]; simp
        rw [e1, htk]
        unfold upd
        by_cases e : i = n
        · subst e; rw [List.getElem?_append_right (by rw [cellsOf_len]; omega), cellsOf_len]; simp
        · rw [List.getElem?_append_left (by rw [cellsOf_len]; omega), cellsOf_at n f i (by omega), if_neg e]
variable {ops : Array Oper} {o : Oper} {rest : List Oper} {a : Act} {Q : Exit → Act → World → Prop}
/-- 'append(s, x)' at bytes. -/
theorem appG_event {W : World} (hgd : o.guard = none) {N : Tmp} (_hd : o.dst = some N) (t e : TypeId) (x y : Operand) (ho : o.op = .call { callee := .builtin .append, args := #[x, y], argTypes := #[t, t] }) (z : Value) (ht : P.underlying t = some (.slice e)) (hinfo : (P.info? e).map (fun i => (i.zero, i.size, i.bytes)) = some (some z, 1, 1)) (hzs : z.cells.size = 1)
    (g cap n : Nat) (f : Nat → UInt8) (b : Nat) (v : UInt8) (hx : a.eval x = .slice (some ⟨g, 0, none⟩) n cap) (hy : a.eval y = .slice (some ⟨b, 0, none⟩) 1 1) (h : RowG W g cap n f) (hn : n ≤ 1000000) (hv : W.cell? ⟨b, 0, none⟩ = some (.int .u8 (v.toNat : Int)))
    (hk : ∀ g' cap' w', RowG w' g' cap' (n + 1) (upd f n v) → W.grownBy w' (some g) → (g' = g ∨ W.heap.size ≤ g') → wpList P ops Q rest (a.put o.dst (.slice (some ⟨g', 0, none⟩) (n + 1) cap')) w') : wpList P ops Q (o :: rest) a W := by
  obtain ⟨i0, hi, hzz⟩ := Option.map_eq_some_iff.1 hinfo
  simp only [Prod.mk.injEq] at hzz
  obtain ⟨hz0, hz1, hz2⟩ := hzz
  obtain ⟨g', cap', w', hr, h1, h2, h3, _⟩ := run_append_G (P := P) (W := W) (ty := o.type) ht hi hz0 hz1 hz2 hzs h hn hv
  refine Kd.event_run hgd (v := .slice (some ⟨g', 0, none⟩) (n + 1) cap') (w1 := w') ?_ (hk g' cap' w' h1 h2 h3)
  unfold execOp
  simp only [ho, resolve, invoke, builtin, Sem.run_bind, Sem.run_pure, Result.andThen_ok, List.map_toArray, List.map_cons, List.map_nil, hx, hy, hr]
theorem appG_step {Kc : Act → World → Prop} {W : World} (hgd : o.guard = none) (t e : TypeId) (x y : Operand) (ho : o.op = .call { callee := .builtin .append, args := #[x, y], argTypes := #[t, t] }) (z : Value) (ht : P.underlying t = some (.slice e)) (hinfo : (P.info? e).map (fun i => (i.zero, i.size, i.bytes)) = some (some z, 1, 1)) (hzs : z.cells.size = 1)
    (g cap n : Nat) (f : Nat → UInt8) (b : Nat) (v : UInt8) (hx : a.eval x = .slice (some ⟨g, 0, none⟩) n cap) (hy : a.eval y = .slice (some ⟨b, 0, none⟩) 1 1) (h : RowG W g cap n f) (hn : n ≤ 1000000) (hv : W.cell? ⟨b, 0, none⟩ = some (.int .u8 (v.toNat : Int)))
    (hk : ∀ g' cap' w', RowG w' g' cap' (n + 1) (upd f n v) → W.grownBy w' (some g) → (g' = g ∨ W.heap.size ≤ g') → Kc (a.put o.dst (.slice (some ⟨g', 0, none⟩) (n + 1) cap')) w') : if Region.wanted o (yielded ops a.tmps) = true then Oper.wp P o a W Kc Q else Kc (a.put o.dst undef) W := by
  obtain ⟨i0, hi, hzz⟩ := Option.map_eq_some_iff.1 hinfo
  simp only [Prod.mk.injEq] at hzz
  obtain ⟨hz0, hz1, hz2⟩ := hzz
  obtain ⟨g', cap', w', hr, h1, h2, h3, _⟩ := run_append_G (P := P) (W := W) (ty := o.type) ht hi hz0 hz1 hz2 hzs h hn hv
  refine event_step (v := .slice (some ⟨g', 0, none⟩) (n + 1) cap') (w1 := w') (by simp [Region.wanted, hgd]) ?_ (hk g' cap' w' h1 h2 h3)
  unfold execOp
  simp only [ho, resolve, invoke, builtin, Sem.run_bind, Sem.run_pure, Result.andThen_ok, List.map_toArray, List.map_cons, List.map_nil, hx, hy, hr]
end
end Go.Proofs.Ytkcdhphhacjkhaa.B
