/- The reference's rows. -/
import Derived.Test.YtkcdhphhacjkhaaCryA
import Derived.Test.YtkcdhphhacjkhaaCryV
import Derived.Laws.MakeOwn
namespace Go.Proofs.Ytkcdhphhacjkhaa.B
open Go.RowKit Go.Proofs.YtkcdhphhacjkhaaW.PrintWords Go.Proofs.YtkcdhphhacjkhaaW.PrintLast Go.Proofs.YtkcdhphhacjkhaaW.PrintMore
open Go.Proofs.Ytkcdhphhacjkhaa.AES
open Go.Proofs.Ytkcdhphhacjkhaa
attribute [local go_sem] Go.Proofs.Ytkcdhphhacjkhaa.StoreK.isSome_setCell
set_option linter.unusedVariables false
set_option linter.unusedSimpArgs false
section
variable {P : Program} {ops : Array Oper} {o : Oper} {rest : List Oper} {a : Act} {Q : Exit → Act → World → Prop}
/-- 'make([]byte, n)'. -/
theorem make_event {W : World} (hgd : o.guard = none) {N : Tmp} (_hd : o.dst = some N) (T e : TypeId) (x y : Operand) (ho : o.op = .makeSlice T x y) (n : Nat) (hx : a.eval x = .int .i64 (n : Int)) (hy : a.eval y = .int .i64 (n : Int)) (hn : n ≤ 1000000) (ht : P.underlying T = some (.slice e)) (hinfo : (P.info? e).map (fun i => (i.zero, i.size, i.bytes)) = some (some (.int .u8 0), 1, 1))
    (h : ∀ g w1, g = W.heap.size → OwB w1 g 0 n (fun _ => 0) → Below W.heap.size W w1 → w1.heap.size = W.heap.size + 1 → wpList P ops Q rest (a.put o.dst (.slice (some ⟨g, 0, none⟩) n n)) w1) : wpList P ops Q (o :: rest) a W := by
  obtain ⟨i0, hi, hzz⟩ := Option.map_eq_some_iff.1 hinfo
  simp only [Prod.mk.injEq] at hzz
  obtain ⟨hz0, hz1, hz2⟩ := hzz
  have hr := run_make (P := P) W T e i0 _ ht hi hz0 .i64 .i64 (n : Int) (n : Int) (by omega) (by omega) (by rw [hz2]; simp; omega) (by omega)
  rw [hz1, Int.toNat_natCast, Nat.mul_one] at hr
  have hb := blk_new W (.cells (madeCells (Value.int .u8 0).cells n) e)
  have hcell : ∀ i, i < n → (madeCells (Value.int .u8 0).cells n)[i]? = some (.int .u8 0) := fun i hi => by
    have e1 : (Value.int .u8 0).cells = #[Value.int .u8 0] := rfl
    have e2 : (madeCells (Value.int .u8 0).cells n)[i]? = some (#[Value.int .u8 0][i % 1]!) := by
      unfold madeCells
      rw [e1]
      simp [hi]
    rw [e2, Nat.mod_one]
    rfl
  refine Kd.event_run hgd (v := .slice (some ⟨W.heap.size, 0, none⟩) n n) (w1 := W.alloc (.cells (madeCells (Value.int .u8 0).cells n) e)) ?_ (h _ _ rfl ⟨fun i hi => ?_, fun i hi => blk_frozen hb _⟩ ((Below.refl _ _).alloc (Nat.le_refl _) _) (by simp))
  · unfold execOp
    simp [ho, hx, hy, hr]
  · rw [Nat.zero_add, blk_cell hb i, hcell i hi]; rfl
/-- What stands behind n bytes. -/
def catA (n : Nat) (f x : Nat → UInt8) : Nat → UInt8 := fun j => if j < n then f j else x (j - n)
theorem RdB.news {W : World} {b ob m : Nat} {x : Nat → UInt8} (h : RdB W b ob m x) : ∀ j u, (cellsOf m x)[j]? = some u → W.cell? ((⟨b, ob, none⟩ : Addr).add j) = some u := fun j u hj => by
  have hjl : j < m := by have := (List.getElem?_eq_some_iff.1 hj).1; rwa [cellsOf_len] at this
  rw [cellsOf_at m x j hjl] at hj
  rw [Addr.add_lit, h j hjl]
  exact hj
theorem some_cells (g : Nat) : ∀ (vs : List Value) (o : Nat) (w : World) (q : Addr), (w.cell? q).isSome = true → ((w.setCells g o vs).cell? q).isSome = true
  | [], _, _, _, h => h
  | v :: vs, o, w, q, h => some_cells g vs (o + 1) (w.setCell ⟨g, o, none⟩ v) q (some_set h _ _)
theorem cellsOf_one (m : Nat) (x : Nat → UInt8) : ∀ u ∈ cellsOf m x, u.oneCell' = true := fun v hv => by
  unfold cellsOf at hv
  obtain ⟨i, _, rfl⟩ := List.mem_map.1 hv
  rfl
theorem own_G {w' : World} {H base n m : Nat} {v' : Value} {f x : Nat → UInt8} {e : TypeId} (how : w'.ownsRow H e 1 v' (n + m) (cellsOf n f ++ cellsOf m x)) (hm : 0 < m) : ∃ g' cap', v' = .slice (some ⟨g', 0, none⟩) (n + m) cap' ∧ H ≤ g' ∧ RowG w' g' cap' (n + m) (catA n f x) := by
  rcases how.2 with ⟨_, h0⟩ | ⟨g', cap', cur, rfl, hge, hb, hnc, hcm, hcs, htk⟩
  · omega
  · refine ⟨g', cap', rfl, hge, hnc, fun i hi => ⟨?_, blk_frozen hb i⟩, fun i hi => ?_⟩
    · rw [blk_cell hb i, Array.getElem?_eq_getElem (by omega)]; rfl
    · rw [Nat.zero_add, blk_cell hb i]
      have e1 : cur[i]? = (cur.toList.take ((n + m) * 1))[i]? := by rw [List.getElem?_take, if_pos (by omega)]; simp
      rw [e1, htk]
      unfold catA
      by_cases e : i < n
      · rw [List.getElem?_append_left (by rw [cellsOf_len]; omega), cellsOf_at n f i e, if_pos e]
      · rw [List.getElem?_append_right (by rw [cellsOf_len]; omega), cellsOf_len, cellsOf_at m x (i - n) (by omega), if_neg e]
theorem run_append_GM {W : World} {t ty e : TypeId} {i : TypeInfo} {z : Value} (ht : P.underlying t = some (.slice e)) (hi : P.info? e = some i) (hz : i.zero = some z) (hsize : i.size = 1) (hby : i.bytes = 1) (hzs : z.cells.size = 1)
    {g cap n : Nat} {f : Nat → UInt8} (h : RowG W g cap n f) (hn : n ≤ 1000000) {b ob m c : Nat} {x : Nat → UInt8} (hx : RdB W b ob m x) (hm : 0 < m) (hm2 : m ≤ 1000000) :
    ∃ g' cap' w', (Builtin.append_ #[t, t] ty #[.slice (some ⟨g, 0, none⟩) n cap, .slice (some ⟨b, ob, none⟩) m c]).run P W = .ok (.slice (some ⟨g', 0, none⟩) (n + m) cap') w' ∧ RowG w' g' cap' (n + m) (catA n f x) ∧ W.grownBy w' (some g) ∧ (g' = g ∨ W.heap.size ≤ g') := by
  by_cases hroom : n + m ≤ cap
  · obtain ⟨h1, h2, h3⟩ := h
    have hr := run_append_room_cells (P := P) W t ty e i ht hi g 0 n cap ⟨b, ob, none⟩ m c (cellsOf m x) (by rw [hsize, cellsOf_len, Nat.mul_one]) hx.news (cellsOf_one m x) hroom
      (fun j hj => by rw [cellsOf_len] at hj; rw [hsize]; simpa using (h2 (n + j) (by omega)).1) (fun j hj => by rw [cellsOf_len] at hj; rw [hsize]; simpa using (h2 (n + j) (by omega)).2)
    rw [hsize, Nat.zero_add, Nat.mul_one] at hr
    refine ⟨g, cap, _, hr, ⟨by omega, fun i hi => ⟨?_, ?_⟩, fun i hi => ?_⟩, grown_cells _ _ _, Or.inl rfl⟩
    · exact some_cells g (cellsOf m x) n W _ (h2 i hi).1
    · rw [World.frozen?_setCells]; exact (h2 i hi).2
    · rw [Nat.zero_add]
      unfold catA
      by_cases e : i < n
      · rw [World.cell?_setCells_out g (cellsOf m x) n W ⟨g, i, none⟩ (fun _ _ => Or.inl e), if_pos e]
        exact h3.at0 i e
      · have := World.cell?_setCells_in g (cellsOf m x) n W (fun j hj => by rw [cellsOf_len] at hj; exact (h2 (n + j) (by omega)).1) (i - n) (by rw [cellsOf_len]; omega)
        rw [show n + (i - n) = i by omega] at this
        rw [this, if_neg e]
        have h2 := cellsOf_at m x (i - n) (by omega)
        rw [List.getElem?_eq_getElem (by rw [cellsOf_len]; omega)] at h2
        exact h2
  · obtain ⟨v', w', hr, how, hg⟩ := run_append_arg_grows (P := P) W t ty e i z 1 1 ht hi hz hsize hby hzs (by omega) ⟨g, 0, none⟩ n cap (cellsOf n f) (by rw [cellsOf_len, Nat.mul_one]) h.2.2.news
      ⟨b, ob, none⟩ m c (cellsOf m x) (by rw [cellsOf_len, Nat.mul_one]) hx.news (by have := h.1; omega) (by unfold maxLen; omega) (by omega)
    obtain ⟨g', cap', rfl, hge, hrow⟩ := own_G (base := 0) how hm
    exact ⟨g', cap', w', hr, hrow, ⟨hg.os, hg.tape, hg.output, hg.size, fun k hk _ => hg.block k hk (by simp)⟩, Or.inr hge⟩
/-- 'append(s, t...)' at bytes. -/
theorem appGM_event {W : World} (hgd : o.guard = none) {N : Tmp} (_hd : o.dst = some N) (t e : TypeId) (x y : Operand) (ho : o.op = .call { callee := .builtin .append, args := #[x, y], argTypes := #[t, t] }) (z : Value) (ht : P.underlying t = some (.slice e)) (hinfo : (P.info? e).map (fun i => (i.zero, i.size, i.bytes)) = some (some z, 1, 1)) (hzs : z.cells.size = 1)
    (g cap n : Nat) (f : Nat → UInt8) (b ob m c : Nat) (v : Nat → UInt8) (hx : a.eval x = .slice (some ⟨g, 0, none⟩) n cap) (hy : a.eval y = .slice (some ⟨b, ob, none⟩) m c) (h : RowG W g cap n f) (hn : n ≤ 1000000) (hv : RdB W b ob m v) (hm : 0 < m) (hm2 : m ≤ 1000000)
    (hk : ∀ g' cap' w', RowG w' g' cap' (n + m) (catA n f v) → W.grownBy w' (some g) → (g' = g ∨ W.heap.size ≤ g') → wpList P ops Q rest (a.put o.dst (.slice (some ⟨g', 0, none⟩) (n + m) cap')) w') : wpList P ops Q (o :: rest) a W := by
  obtain ⟨i0, hi, hzz⟩ := Option.map_eq_some_iff.1 hinfo
  simp only [Prod.mk.injEq] at hzz
  obtain ⟨hz0, hz1, hz2⟩ := hzz
  obtain ⟨g', cap', w', hr, h1, h2, h3⟩ := run_append_GM (P := P) (W := W) (ty := o.type) (c := c) ht hi hz0 hz1 hz2 hzs h hn hv hm hm2
  refine Kd.event_run hgd (v := .slice (some ⟨g', 0, none⟩) (n + m) cap') (w1 := w') ?_ (hk g' cap' w' h1 h2 h3)
  unfold execOp
  simp only [ho, resolve, invoke, builtin, Sem.run_bind, Sem.run_pure, Result.andThen_ok, List.map_toArray, List.map_cons, List.map_nil, hx, hy, hr]
/-- 'append(nil, t...)' at bytes. -/
theorem appNil_event {W : World} (hgd : o.guard = none) {N : Tmp} (_hd : o.dst = some N) (t e : TypeId) (x y : Operand) (ho : o.op = .call { callee := .builtin .append, args := #[x, y], argTypes := #[t, t] }) (z : Value) (ht : P.underlying t = some (.slice e)) (hinfo : (P.info? e).map (fun i => (i.zero, i.size, i.bytes)) = some (some z, 1, 1)) (hzs : z.cells.size = 1)
    (b ob m c : Nat) (v : Nat → UInt8) (hx : a.eval x = .slice none 0 0) (hy : a.eval y = .slice (some ⟨b, ob, none⟩) m c) (hv : RdB W b ob m v) (hm : 0 < m) (hm2 : m ≤ 1000000)
    (hk : ∀ g' cap' w', RowG w' g' cap' m v → Below W.heap.size W w' → W.heap.size ≤ g' → wpList P ops Q rest (a.put o.dst (.slice (some ⟨g', 0, none⟩) m cap')) w') : wpList P ops Q (o :: rest) a W := by
  obtain ⟨i0, hi, hzz⟩ := Option.map_eq_some_iff.1 hinfo
  simp only [Prod.mk.injEq] at hzz
  obtain ⟨hz0, hz1, hz2⟩ := hzz
  obtain ⟨v', w', hr, how, hg, _⟩ := run_append_own (P := P) W W.heap.size t o.type e i0 z 1 1 ht hi hz0 hz1 hz2 hzs (by omega) (.slice none 0 0) 0 [] (World.ownsRow_nil _ _ _ _) ⟨b, ob, none⟩ m c (cellsOf m v) (by rw [cellsOf_len, Nat.mul_one]) hv.news (cellsOf_one m v) (by unfold maxLen; omega) (by omega) (Nat.le_refl _)
  have how' : w'.ownsRow W.heap.size e 1 v' (0 + m) (cellsOf 0 v ++ cellsOf m v) := how
  obtain ⟨g', cap', rfl, hge, hrow⟩ := own_G (base := 0) how' hm
  rw [Nat.zero_add] at hrow hr
  refine Kd.event_run hgd (v := .slice (some ⟨g', 0, none⟩) m cap') (w1 := w') ?_ (hk g' cap' w' (hrow.congr (fun i hi => by unfold catA; rw [if_neg (by omega)]; rfl)) ⟨hg.os, hg.tape, hg.output, hg.size, fun k hk => hg.block k hk (by simp [Value.ownBlock])⟩ hge)
  unfold execOp
  simp only [ho, resolve, invoke, builtin, Sem.run_bind, Sem.run_pure, Result.andThen_ok, List.map_toArray, List.map_cons, List.map_nil, hx, hy, hr]
end
set_option maxHeartbeats 2000000 in
set_option maxRecDepth 100000 in
theorem l3Xor_c (w : World) (b0 o0 c0 b1 o1 c1 n : Nat) (f0 f1 : Nat → UInt8) (hn : n ≤ 1000) (h0 : RdB w b0 o0 n f0) (h1 : RdB w b1 o1 n f1) :
    Calls Try.prog 58 #[.slice (some ⟨b0, o0, none⟩) n c0, .slice (some ⟨b1, o1, none⟩) n c1] w fun e w' => ∃ g, w.heap.size ≤ g ∧ e = .returned (.slice (some ⟨g, 0, none⟩) n n) ∧ RdB w' g 0 n (fun i => f0 i ^^^ f1 i) ∧ Below w.heap.size w w' := by
  have H0 := Aside0.mk h0
  have H1 := Aside0.mk h1
  clear h0 h1
  go_enter Try.func58, Try.ntmps58
  go_wp2_with ((with_reducible refine gate_dst (N := 9) rfl ?_); refine make_event rfl (N := 9) rfl 56 5 _ _ rfl n rfl rfl (by omega) Try.underlying56 info5 ?_; intro g w1 hg ho hb hsz; have HO := Aside0.mk ho; have HB := Aside0.mk hb; have HG := Aside0.mk hg; clear ho hb hsz hg)
  have hgw : w.heap.size ≤ g := Nat.le_of_eq HG.out.symm
  go_loopg [12] n (fun gg v12 wr => ∃ k : Nat, k ≤ n ∧ n - k ≤ gg ∧ v12 = .int .i64 (k : Int) ∧ Aside0 (OwB wr g 0 n (mixA k (fun i => f0 i ^^^ f1 i) (fun _ => 0))) ∧ Aside0 (Below w.heap.size w wr))
  case atStart => exact ⟨0, by omega, by omega, rfl, ⟨by rw [mixA_zero]; exact HO.out⟩, HB⟩
  case round =>
    clear HO HB
    obtain ⟨k, hk, hgg, rfl, HO, HB⟩ := hrel
    by_cases hlt : k < n
    · have hd : decide (k < n) = true := decide_eq_true hlt
      have r0 : wr.cell? ⟨b0, o0 + k, none⟩ = some (.int .u8 ((f0 k).toNat : Int)) := (H0.out.below HB.out) k hlt
      have r1 : wr.cell? ⟨b1, o1 + k, none⟩ = some (.int .u8 ((f1 k).toNat : Int)) := (H1.out.below HB.out) k hlt
      have c2 := HO.out.1.at0 k hlt
      have f2 := HO.out.free0 k hlt
      go_wp2
      go_still_tail 12, (by kernel_rfl)
      go_wp2
      go_roundg (n - (k + 1))
      case measure => omega
      case rel =>
        refine ⟨k + 1, by omega, by omega, by go_num, ⟨?_⟩, ⟨(HB.out.setCell (by simpa using hgw) _).drew⟩⟩
        rw [xor8]
        exact (HO.out.step0 hlt (f0 k ^^^ f1 k) rfl).drew
    · have hd : decide (k < n) = false := decide_eq_false hlt
      go_wp2
      go_ret
      exact ⟨g, hgw, rfl, HO.out.1.congr (fun i hi => mixA_lt _ _ _ _ (by omega)), HB.out⟩
set_option maxHeartbeats 2000000 in
set_option maxRecDepth 100000 in
theorem l3Table_c (w : World) :
    Calls Try.prog 42 #[] w fun e w' => ∃ g, w.heap.size ≤ g ∧ e = .returned (.slice (some ⟨g, 0, none⟩) 256 256) ∧ RdB w' g 0 256 (fun i => sb (UInt8.ofNat i)) ∧ Below w.heap.size w w' := by
  go_enter Try.func42, Try.ntmps42
  go_wp2_with ((with_reducible refine gate_dst (N := 3) rfl ?_); refine make_event rfl (N := 3) rfl 56 5 _ _ rfl 256 rfl rfl (by omega) Try.underlying56 info5 ?_; intro g w1 hg ho hb hsz; have HO := Aside0.mk ho; have HB := Aside0.mk hb; have HG := Aside0.mk hg; clear ho hb hsz hg)
  have hgw : w.heap.size ≤ g := Nat.le_of_eq HG.out.symm
  go_loopg [6] 256 (fun gg v6 wr => ∃ k : Nat, k ≤ 256 ∧ 256 - k ≤ gg ∧ v6 = .int .i64 (k : Int) ∧ Aside0 (OwB wr g 0 256 (mixA k (fun i => sb (UInt8.ofNat i)) (fun _ => 0))) ∧ Aside0 (Below w.heap.size w wr))
  case atStart => exact ⟨0, by omega, by omega, rfl, ⟨by rw [mixA_zero]; exact HO.out⟩, HB⟩
  case round =>
    clear HO HB
    obtain ⟨k, hk, hgg, rfl, HO, HB⟩ := hrel
    by_cases hlt : k < 256
    · obtain ⟨x, rfl⟩ : ∃ x : UInt8, k = x.toNat := ⟨UInt8.ofNat k, by rw [UInt8.toNat_ofNat']; omega⟩
      have c2 := HO.out.1.at0 x.toNat hlt
      have f2 := HO.out.free0 x.toNat hlt
      go_wp2_with fail
      refine (l3Sub_s x _).mono ?_
      rintro e w' ⟨rfl, rfl⟩
      go_wp2
      go_roundg (256 - (x.toNat + 1))
      case measure => omega
      case rel =>
        refine ⟨x.toNat + 1, by omega, by omega, by go_num, ⟨?_⟩, ⟨HB.out.setCell (by simpa using hgw) _⟩⟩
        exact HO.out.step0 hlt (sb x) (by simp)
    · obtain rfl : k = 256 := by omega
      go_wp2
      go_ret
      exact ⟨g, hgw, rfl, HO.out.1.congr (fun i hi => mixA_lt _ _ _ _ (by omega)), HB.out⟩
set_option maxHeartbeats 2000000 in
set_option maxRecDepth 100000 in
theorem l3Mix_c (w : World) (b0 o0 c0 b1 c1 : Nat) (f : Nat → UInt8) (h0 : RdB w b0 o0 4 f) (h1 : RdB w b1 0 4 fb) :
    Calls Try.prog 59 #[.slice (some ⟨b0, o0, none⟩) 4 c0, .slice (some ⟨b1, 0, none⟩) 4 c1] w fun e w' => ∃ g, w.heap.size ≤ g ∧ e = .returned (.slice (some ⟨g, 0, none⟩) 4 4) ∧ RdB w' g 0 4 (mixc f) ∧ Below w.heap.size w w' := by
  have H0 := Aside0.mk h0
  have H1 := Aside0.mk h1
  clear h0 h1
  go_enter Try.func59, Try.ntmps59
  go_wp2_with ((with_reducible refine gate_dst (N := 8) rfl ?_); refine make_event rfl (N := 8) rfl 56 5 _ _ rfl 4 rfl rfl (by omega) Try.underlying56 info5 ?_; intro g w1 hg ho hb hsz; have HO := Aside0.mk ho; have HB := Aside0.mk hb; have HG := Aside0.mk hg; clear ho hb hsz hg)
  have hgw : w.heap.size ≤ g := Nat.le_of_eq HG.out.symm
  go_loopg [11] 4 (fun gg v11 wr => ∃ i : Nat, i ≤ 4 ∧ 4 - i ≤ gg ∧ v11 = .int .i64 (i : Int) ∧ Aside0 (OwB wr g 0 4 (mixA i (mixc f) (fun _ => 0))) ∧ Aside0 (Below w.heap.size w wr))
  case atStart => exact ⟨0, by omega, by omega, rfl, ⟨by rw [mixA_zero]; exact HO.out⟩, HB⟩
  case round =>
    clear HO HB
    obtain ⟨i, hi, hgg, rfl, HO, HB⟩ := hrel
    by_cases hlt : i < 4
    · have hd : decide ((i : Int) < 4) = true := decide_eq_true (by omega)
      go_wp2
      have HI2 : Aside0 (OwB wr g 0 4 (upd (mixA i (mixc f) (fun _ => 0)) i (mixs f i 0))) := ⟨by
        refine HO.out.congr (fun q hq => ?_)
        unfold upd
        by_cases e : q = i
        · rw [if_pos e, e, mixA_at]; rfl
        · rw [if_neg e]⟩
      obtain ⟨wo, rfl⟩ : ∃ wo : World, wo = wr := ⟨_, rfl⟩
      go_loopg [7] 4 (fun gg v7 wr => ∃ k : Nat, k ≤ 4 ∧ 4 - k ≤ gg ∧ v7 = .int .i64 (k : Int) ∧ Aside0 (OwB wr g 0 4 (upd (mixA i (mixc f) (fun _ => 0)) i (mixs f i k))) ∧ Aside0 (Below w.heap.size w wr))
      case atStart => exact ⟨0, by omega, by omega, rfl, HI2, HB⟩
      case round =>
        clear HI2 HO HB
        obtain ⟨k, hk, hgk, rfl, HO, HB⟩ := hrel
        by_cases hlk : k < 4
        · obtain ⟨q0, hq0⟩ : ∃ q0, q0 = i + k := ⟨_, rfl⟩
          obtain ⟨q, hq⟩ : ∃ q, q = q0 % 4 := ⟨_, rfl⟩
          have hqI : (q : Int) < 4 := by omega
          have hiI : (i : Int) < 4 := by omega
          have hkI : (k : Int) < 4 := by omega
          have X1 := Aside0.mk (addI hq0 (by omega))
          have X2 := Aside0.mk (tmodI (m := 4) (M := 4) rfl hq)
          have c19 : wr.cell? ⟨g, i, none⟩ = some (.int .u8 ((mixs f i k).toNat : Int)) := by
            have := HO.out.1.at0 i hlt
            unfold upd at this
            rwa [if_pos rfl] at this
          have f19 := HO.out.free0 i hlt
          have c25 := (H1.out.below HB.out).at0 k hlk
          have c27 : wr.cell? ⟨b0, o0 + q, none⟩ = some (.int .u8 ((f q).toNat : Int)) := (H0.out.below HB.out) q (by omega)
          have HQ := Aside0.mk hq
          have HQ0 := Aside0.mk hq0
          clear hq hq0
          obtain ⟨x1, x2⟩ := X1.out
          obtain ⟨x3, x4⟩ := X2.out
          clear X1 X2
          go_wp2
          refine wp_region_still_tail 18 (by kernel_rfl) (by kernel_rfl) ?_
          simp only [List.take_succ_cons, List.take_zero, List.drop_succ_cons, List.drop_zero]
          repeat still_step
          still_call (l3Mul_s (fb k) (f q) _)
          repeat still_step
          refine wpStill_nil ?_
          clear x1 x2 x3 x4
          go_wp2
          go_roundg (4 - (k + 1))
          case measure => omega
          case rel =>
            refine ⟨k + 1, by omega, by omega, by go_num, ⟨?_⟩, ⟨(HB.out.setCell (by simpa using hgw) _).drew⟩⟩
            rw [xor8]
            refine (HO.out.store0 i hlt (mixs f i k ^^^ gmul (fb k) (f q))).drew.congr (fun j hj => ?_)
            unfold upd
            by_cases e : j = i
            · rw [if_pos e, if_pos e, mixs, HQ.out, HQ0.out]
            · rw [if_neg e, if_neg e, if_neg e]
        · obtain rfl : k = 4 := by omega
          go_wp2
          go_roundg (4 - (i + 1))
          case measure => omega
          case rel => exact ⟨i + 1, by omega, by omega, by go_num, ⟨by rw [← mixA_step]; exact HO.out⟩, HB⟩
    · obtain rfl : i = 4 := by omega
      go_wp2
      go_ret
      exact ⟨g, hgw, rfl, HO.out.1.congr (fun j hj => mixA_lt _ _ _ _ hj), HB.out⟩
end Go.Proofs.Ytkcdhphhacjkhaa.B
