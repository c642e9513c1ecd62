/- Words for the walk of a law: what lies in memory, told by structures that the walk does not look into; each is carried to a later world by one lemma. -/
import Derived.Test.YtpdoplkiaejpiaaWWords
import Derived.Test.YtpdoplkiaejpiaaWQPut
import Derived.Test.YtpdoplkiaejpiaaWKept
import Derived.Test.YtpdoplkiaejpiaaShortK
namespace Go.Proofs.Ytpdoplkiaejpiaa.LawK
open Go.RowKit Go.Proofs.YtpdoplkiaejpiaaW.PrintWords Go.Proofs.Ytpdoplkiaejpiaa.ShortK

variable {α : Type} {d : Kd α} {e base g g' t n c : Nat} {ok ok' okN S : Nat → Prop} {w w0 W W2 : World} {v : Value} {A : Option Addr} {xs xs' : List α} {cs cs' : Array Value}

/-- A box of the call's own. -/
structure Bx (base : Nat) (w : World) (g : Nat) (cs : Array Value) (t : Nat) : Prop where
  b : w.heap[g]? = some (.cells cs t (0, 0))
  ge : base ≤ g
/-- A row of the call's own. -/
structure Rw (d : Kd α) (e : Nat) (base : Nat) (w : World) (ok : Nat → Prop) (v : Value) (xs : List α) : Prop where
  r : d.R e w base ok v xs
  lt : ∀ b, ok b → b < w.heap.size
/-- The same, of a row that may begin inside its block. -/
structure Qw (d : Kd α) (e : Nat) (base : Nat) (w : World) (ok : Nat → Prop) (v : Value) (xs : List α) : Prop where
  r : d.Q e w base ok v xs
  lt : ∀ b, ok b → b < w.heap.size
structure Dis (p q : Nat → Prop) : Prop where
  d : ∀ b, p b → ¬ q b
theorem Dis.symm {p q : Nat → Prop} (h : Dis p q) : Dis q p := ⟨fun b hq hp => h.d b hp hq⟩
theorem uH (h : Aside0 (Below w.heap.size w W)) (hb : Below W.heap.size W W2) : Aside0 (Below w.heap.size w W2) := ⟨below_step h.out hb⟩
theorem uHd (h : Aside0 (Below w.heap.size w W)) : Aside0 (Below w.heap.size w W.drew) := ⟨below_drew1 h.out⟩
theorem bd (W : World) : Below W.heap.size W W.drew := below_drew1 (Below.refl _ _)
theorem bn (W : World) (n : Nat) : Below W.heap.size W (W.drewN n) := pw_below_drewN (Below.refl _ _) n
theorem Bx.up (h : Bx base w g cs t) (hb : Below w.heap.size w W) : Bx base W g cs t := ⟨blk_below h.b hb, h.ge⟩
theorem Rw.up (h : Rw d e base w ok v xs) (hb : Below w.heap.size w W) : Rw d e base W ok v xs := ⟨Kd.R_below h.r hb, fun b hk => Nat.lt_of_lt_of_le (h.lt b hk) hb.size⟩
theorem Qw.up (h : Qw d e base w ok v xs) (hb : Below w.heap.size w W) : Qw d e base W ok v xs := ⟨Kd.Q_step h.r (fun k _ hk => hb.block k hk), fun b hk => Nat.lt_of_lt_of_le (h.lt b hk) hb.size⟩
theorem Bx.kept (h : Bx base W g cs t) (hk : Kept W W2 S) (hne : ¬ S g) : Bx base W2 g cs t := ⟨blk_kept h.b hk hne, h.ge⟩
theorem Bx.far (h : Bx base W g cs t) (hk : Kept W W2 (fun k => k = g')) (hne : Aside0 (g ≠ g')) : Bx base W2 g cs t := h.kept hk hne.out
theorem Rw.far (h : Rw d e base W ok v xs) (hb : Bx base W g cs t) (ht : ∀ q, q ∈ e :: d.E → q ≠ t) (hk : Kept W W2 (fun k => k = g)) : Rw d e base W2 ok v xs :=
  ⟨Kd.R_mono (Kd.R_kept (Kd.R_types h.r hb.b ht) hk (fun _ h2 => h2.2)) (fun _ h2 => h2.1), fun b hk2 => Nat.lt_of_lt_of_le (h.lt b hk2) hk.1⟩
theorem Q_types (h : d.Q e w base ok v xs) (hb : w.heap[g]? = some (.cells cs t (0, 0))) (ht : ∀ q, q ∈ e :: d.E → q ≠ t) : d.Q e w base (fun k => ok k ∧ k ≠ g) v xs :=
  Kd.Q_mono (Kd.Q_bound h) (fun k hk => ⟨hk.1, by
    rintro rfl
    obtain ⟨q, hq, cells, hc⟩ := hk.2.2.2
    rw [hb] at hc
    injection hc with hc
    injection hc with h1 h2 h3
    exact ht q hq h2.symm⟩)
theorem Qw.far (h : Qw d e base W ok v xs) (hb : Bx base W g cs t) (ht : ∀ q, q ∈ e :: d.E → q ≠ t) (hk : Kept W W2 (fun k => k = g)) : Qw d e base W2 ok v xs :=
  ⟨Kd.Q_mono (Kd.Q_kept (Q_types h.r hb.b ht) hk (fun _ h2 => h2.2)) (fun _ h2 => h2.1), fun b hk2 => Nat.lt_of_lt_of_le (h.lt b hk2) hk.1⟩
theorem Rw.kept (h : Rw d e base W ok v xs) (hk : Kept W W2 S) (hd : Dis ok S) : Rw d e base W2 ok v xs := ⟨Kd.R_kept h.r hk hd.d, fun b hk2 => Nat.lt_of_lt_of_le (h.lt b hk2) hk.1⟩
theorem Qw.kept (h : Qw d e base W ok v xs) (hk : Kept W W2 S) (hd : Dis ok S) : Qw d e base W2 ok v xs := ⟨Kd.Q_kept h.r hk hd.d, fun b hk2 => Nat.lt_of_lt_of_le (h.lt b hk2) hk.1⟩
/-- Blocks that hold something else than elements at e. -/
structure NoB (d : Kd α) (e : Nat) (W : World) (gs : List Nat) : Prop where
  n : ∀ g, g ∈ gs → ∃ cs t, W.heap[g]? = some (.cells cs t (0, 0)) ∧ ∀ q, q ∈ e :: d.E → q ≠ t
theorem NoB.nil : NoB d e W [] := ⟨fun _ h => by cases h⟩
theorem NoB.cons {gs : List Nat} (hb : Bx base W g cs t) (ht : ∀ q, q ∈ e :: d.E → q ≠ t) (h : NoB d e W gs) : NoB d e W (g :: gs) :=
  ⟨fun x hx => (List.mem_cons.1 hx).elim (fun h1 => h1 ▸ ⟨_, _, hb.b, ht⟩) (h.n x)⟩
theorem Rw.shrink {gs : List Nat} (h : Rw d e base W ok v xs) (hn : NoB d e W gs) : Rw d e base W (fun k => ok k ∧ k ∉ gs) v xs :=
  ⟨Kd.R_mono (Kd.R_bound h.r) (fun k hk => ⟨hk.1, fun hm => by
    obtain ⟨cs, t, hb, ht⟩ := hn.n k hm
    obtain ⟨q, hq, cells, hc⟩ := hk.2.2.2
    rw [hb] at hc
    injection hc with hc
    injection hc with h1 h2 h3
    exact ht q hq h2.symm⟩), fun b hk => h.lt b hk.1⟩
theorem Qw.shrink {gs : List Nat} (h : Qw d e base W ok v xs) (hn : NoB d e W gs) : Qw d e base W (fun k => ok k ∧ k ∉ gs) v xs :=
  ⟨Kd.Q_mono (Kd.Q_bound h.r) (fun k hk => ⟨hk.1, fun hm => by
    obtain ⟨cs, t, hb, ht⟩ := hn.n k hm
    obtain ⟨q, hq, cells, hc⟩ := hk.2.2.2
    rw [hb] at hc
    injection hc with hc
    injection hc with h1 h2 h3
    exact ht q hq h2.symm⟩), fun b hk => h.lt b hk.1⟩
theorem Dis.sub {p q p' : Nat → Prop} (h : Dis p q) (hs : ∀ k, p' k → p k) : Dis p' q := ⟨fun b h1 => h.d b (hs b h1)⟩
theorem Bx.off {gs : List Nat} (h : Bx base W g cs t) (hk : Kept W W2 (fun k => ok k ∧ k ∉ gs)) (hm : g ∈ gs) : Bx base W2 g cs t := h.kept hk (fun h2 => h2.2 hm)
theorem Rw.off {gs : List Nat} (h : Rw d e base W ok v xs) (hk : Kept W W2 (fun k => ok' k ∧ k ∉ gs)) (hd : Dis ok' ok) : Rw d e base W2 ok v xs := h.kept hk ⟨fun b h1 h2 => hd.d b h2.1 h1⟩
theorem Qw.off {gs : List Nat} (h : Qw d e base W ok v xs) (hk : Kept W W2 (fun k => ok' k ∧ k ∉ gs)) (hd : Dis ok' ok) : Qw d e base W2 ok v xs := h.kept hk ⟨fun b h1 h2 => hd.d b h2.1 h1⟩
theorem Rw.readsC (h : Rw d e base w ok (.slice A n c) xs) : d.C w A xs.length xs := (Kd.R_reads' h.r).2.2
theorem Rw.readsN (h : Rw d e base w ok (.slice A n c) xs) : n ≤ c := (Kd.R_reads' h.r).2.1
theorem Qw.readsC (h : Qw d e base w ok (.slice A n c) xs) : d.C w A xs.length xs := (Kd.Q_reads' h.r).2.2
theorem Qw.readsN (h : Qw d e base w ok (.slice A n c) xs) : n ≤ c := (Kd.Q_reads' h.r).2.1
/-- What a call hands back as a row of its own. -/
theorem Rw.new (HB : Aside0 (Below w0.heap.size w0 W)) (ho : d.R e W2 W.heap.size (fun _ => True) v xs) : ∃ (ok : Nat → Prop) (A : Option Addr) (c : Nat), v = .slice A xs.length c ∧ Rw d e w0.heap.size W2 ok (.slice A xs.length c) xs ∧ Aside0 (∀ b, ok b → W.heap.size ≤ b) := by
  obtain ⟨A, c, rfl⟩ := Kd.R_slice ho
  exact ⟨fun k => W.heap.size ≤ k ∧ k < W2.heap.size, A, c, rfl, ⟨Kd.R_lower (Kd.R_mono (Kd.R_bound ho) (fun _ hk => ⟨hk.2.1, hk.2.2.1⟩)) HB.out.size, fun _ hk => hk.2⟩, ⟨fun _ hk => hk.1⟩⟩
theorem Qw.new (HB : Aside0 (Below w0.heap.size w0 W)) (ho : d.Q e W2 W.heap.size (fun _ => True) v xs) : ∃ (ok : Nat → Prop) (A : Option Addr) (c : Nat), v = .slice A xs.length c ∧ Qw d e w0.heap.size W2 ok (.slice A xs.length c) xs ∧ Aside0 (∀ b, ok b → W.heap.size ≤ b) := by
  obtain ⟨A, c, rfl, _⟩ := Kd.Q_slice ho
  exact ⟨fun k => W.heap.size ≤ k ∧ k < W2.heap.size, A, c, rfl, ⟨Kd.Q_lower (Kd.Q_mono (Kd.Q_bound ho) (fun _ hk => ⟨hk.2.1, hk.2.2.1⟩)) HB.out.size, fun _ hk => hk.2⟩, ⟨fun _ hk => hk.1⟩⟩
theorem Dis.mark {α : Type} {d : Kd α} {e base : Nat} {W W2 : World} {okx okr : Nat → Prop} {v : Value} {xs : List α} {gs : List Nat} (hd : Dis okx okr) (hx : Rw d e base W okx v xs) : Dis okx (fun k => (okr k ∧ k ∉ gs) ∨ W.heap.size ≤ k ∧ k < W2.heap.size) :=
  ⟨fun b p q => q.elim (fun h => hd.d b p h.1) (fun h => Nat.not_le.2 (hx.lt b p) h.1)⟩
/-- Three rows that one call hands back: the first of another element type than the others, which are apart. -/
theorem Rw.newT {α : Type} {d : Kd α} {e : Nat} {w0 W W2 : World} {ok : Nat → Prop} {v : Value} {xs : List α} (HB : Aside0 (Below w0.heap.size w0 W)) (hE : d.E = []) (ho : d.R e W2 W.heap.size ok v xs) : ∃ A c, v = .slice A xs.length c ∧ Rw d e w0.heap.size W2 (fun k => some k = v.ownBlock ∧ W.heap.size ≤ k ∧ k < W2.heap.size) v xs := by
  obtain ⟨A, c, hv⟩ := Kd.R_slice ho
  exact ⟨A, c, hv, ⟨Kd.R_lower (Kd.R_mono (Kd.R_bound (Kd.R_tight hE ho)) (fun _ hk => ⟨hk.1, hk.2.1, hk.2.2.1⟩)) HB.out.size, fun _ hk => hk.2.2⟩⟩
theorem Rw.new3 {α β γ : Type} {d1 : Kd α} {d2 : Kd β} {d3 : Kd γ} {e1 e2 e3 : Nat} {w0 W W2 : World} {okA okB okC : Nat → Prop} {v1 v2 v3 : Value} {x1 : List α} {x2 : List β} {x3 : List γ} (HB : Aside0 (Below w0.heap.size w0 W)) (h1 : d1.R e1 W2 W.heap.size okA v1 x1) (h2 : d2.R e2 W2 W.heap.size okB v2 x2) (h3 : d3.R e3 W2 W.heap.size okC v3 x3) (E1 : d1.E = []) (E2 : d2.E = []) (E3 : d3.E = []) (n12 : e1 ≠ e2) (n13 : e1 ≠ e3) (n23 : ∀ k, v2.ownBlock = some k → some k ≠ v3.ownBlock) :
    ∃ (ok1 : Nat → Prop) (A1 : Option Addr) (c1 : Nat) (ok2 : Nat → Prop) (A2 : Option Addr) (c2 : Nat) (ok3 : Nat → Prop) (A3 : Option Addr) (c3 : Nat), v1 = .slice A1 x1.length c1 ∧ v2 = .slice A2 x2.length c2 ∧ v3 = .slice A3 x3.length c3 ∧ Rw d1 e1 w0.heap.size W2 ok1 (.slice A1 x1.length c1) x1 ∧ Rw d2 e2 w0.heap.size W2 ok2 (.slice A2 x2.length c2) x2 ∧ Rw d3 e3 w0.heap.size W2 ok3 (.slice A3 x3.length c3) x3 ∧ Aside0 (∀ b, ok1 b → W.heap.size ≤ b) ∧ Aside0 (∀ b, ok2 b → W.heap.size ≤ b) ∧ Aside0 (∀ b, ok3 b → W.heap.size ≤ b) ∧ Dis ok1 ok2 ∧ Dis ok1 ok3 ∧ Dis ok2 ok3 := by
  obtain ⟨A1, c1, q1, r1⟩ := Rw.newT HB E1 h1
  obtain ⟨A2, c2, q2, r2⟩ := Rw.newT HB E2 h2
  obtain ⟨A3, c3, q3, r3⟩ := Rw.newT HB E3 h3
  have t1 := Kd.R_typed h1
  have t2 := Kd.R_typed h2
  have t3 := Kd.R_typed h3
  refine ⟨_, A1, c1, _, A2, c2, _, A3, c3, q1, q2, q3, q1 ▸ r1, q2 ▸ r2, q3 ▸ r3, ⟨fun _ hk => hk.2.1⟩, ⟨fun _ hk => hk.2.1⟩, ⟨fun _ hk => hk.2.1⟩, ⟨fun b p q => ?_⟩, ⟨fun b p q => ?_⟩, ⟨fun b p q => ?_⟩⟩
  · rw [← q1] at p
    rw [← q2] at q
    obtain ⟨u, hu⟩ := t1 b p.1.symm
    obtain ⟨u', hu'⟩ := t2 b q.1.symm
    rw [hu] at hu'
    injection hu' with hu'
    injection hu' with _ hu'
    exact n12 hu'
  · rw [← q1] at p
    rw [← q3] at q
    obtain ⟨u, hu⟩ := t1 b p.1.symm
    obtain ⟨u', hu'⟩ := t3 b q.1.symm
    rw [hu] at hu'
    injection hu' with hu'
    injection hu' with _ hu'
    exact n13 hu'
  · rw [← q2] at p
    rw [← q3] at q
    exact n23 b p.1.symm q.1
theorem Rw.dis (h : Rw d e base W ok v xs) (hn : Aside0 (∀ b, okN b → W.heap.size ≤ b)) : Dis okN ok := ⟨fun b h1 h2 => Nat.not_le.2 (h.lt b h2) (hn.out b h1)⟩
theorem Qw.dis (h : Qw d e base W ok v xs) (hn : Aside0 (∀ b, okN b → W.heap.size ≤ b)) : Dis okN ok := ⟨fun b h1 h2 => Nat.not_le.2 (h.lt b h2) (hn.out b h1)⟩
theorem Bx.ne (h : Bx base W g cs t) (hg : g' = W.heap.size) : Aside0 (g ≠ g') := ⟨by rw [hg]; exact Nat.ne_of_lt (blk_lt h.b)⟩
theorem Bx.set1 (h : Bx base W g cs t) (i : Nat) (u : Value) (e : cs.setIfInBounds i u = cs') : Bx base (W.setCell ⟨g, i, none⟩ u) g cs' t := ⟨blk_put h.b i u e, h.ge⟩
theorem kept_self (W : World) : Kept W W S := Kept.refl W S
theorem kept_set (h : Kept w W (fun k => k = g)) (i : Nat) (u : Value) : Kept w (W.setCell ⟨g, i, none⟩ u) (fun k => k = g) := h.setCell (Or.inl rfl) u
/-- Only block g was written. -/
structure Sk (g : Nat) (W W2 : World) : Prop where
  k : Kept W W2 (fun k => k = g)
  os : W2.os = W.os
  tape : W2.tape = W.tape
  output : W2.output = W.output
theorem Sk.refl (g : Nat) (W : World) : Sk g W W := ⟨Kept.refl W _, rfl, rfl, rfl⟩
theorem setCell_os (W : World) (p : Addr) (u : Value) : (W.setCell p u).os = W.os := rfl
theorem setCell_tape (W : World) (p : Addr) (u : Value) : (W.setCell p u).tape = W.tape := rfl
theorem setCell_output (W : World) (p : Addr) (u : Value) : (W.setCell p u).output = W.output := rfl
theorem Sk.set (h : Sk g W W2) (i : Nat) (u : Value) : Sk g W (W2.setCell ⟨g, i, none⟩ u) := ⟨kept_set h.k i u, (setCell_os _ _ _).trans h.os, (setCell_tape _ _ _).trans h.tape, (setCell_output _ _ _).trans h.output⟩
theorem uHset (h : Aside0 (Below w.heap.size w W)) (ho : Sk g W W2) (hb : Bx w.heap.size W g cs t) : Aside0 (Below w.heap.size w W2) :=
  ⟨⟨ho.os.trans h.out.os, ho.tape.trans h.out.tape, ho.output.trans h.out.output, Nat.le_trans h.out.size ho.k.1, fun i hi => (ho.k.2 i (Nat.lt_of_lt_of_le hi h.out.size) (fun h2 => by have := hb.ge; omega)).trans (h.out.block i hi)⟩⟩
/-- What a mark leaves. -/
theorem Rw.marked (hl : Rw d e base W ok v xs') (hr : d.R e W2 base (fun k => ok k ∨ W.heap.size ≤ k) v xs) (hk : Kept W W2 ok) : Rw d e base W2 (fun k => ok k ∨ W.heap.size ≤ k ∧ k < W2.heap.size) v xs :=
  ⟨Kd.R_mono (Kd.R_bound hr) (fun _ h2 => h2.1.elim Or.inl (fun h3 => Or.inr ⟨h3, h2.2.2.1⟩)), fun b h2 => h2.elim (fun h3 => Nat.lt_of_lt_of_le (hl.lt b h3) hk.1) (fun h3 => h3.2)⟩
theorem Qw.marked (hl : Qw d e base W ok v xs') (hr : d.Q e W2 base (fun k => ok k ∨ W.heap.size ≤ k) v xs) (hk : Kept W W2 ok) : Qw d e base W2 (fun k => ok k ∨ W.heap.size ≤ k ∧ k < W2.heap.size) v xs :=
  ⟨Kd.Q_mono (Kd.Q_bound hr) (fun _ h2 => h2.1.elim Or.inl (fun h3 => Or.inr ⟨h3, h2.2.2.1⟩)), fun b h2 => h2.elim (fun h3 => Nat.lt_of_lt_of_le (hl.lt b h3) hk.1) (fun h3 => h3.2)⟩

theorem cz1' {c0 : Value} (h : Bx base W g #[c0] t) : W.cell? ⟨g, 0, none⟩ = some c0 := (blk_cell h.b 0).trans rfl
theorem fz1' {c0 : Value} (h : Bx base W g #[c0] t) : W.frozen? ⟨g, 0, none⟩ = false := blk_frozen h.b 0
theorem st1 {c0 v0 : Value} (h : Bx base W g #[c0] t) : Bx base (W.setCell ⟨g, 0, none⟩ v0) g #[v0] t ∧ Sk g W (W.setCell ⟨g, 0, none⟩ v0) :=
  ⟨(Bx.set1 (cs' := #[v0]) h 0 v0 rfl), (Sk.set (Sk.refl g W) 0 v0)⟩
theorem cz2' {c0 c1 : Value} (h : Bx base W g #[c0, c1] t) : W.cell? ⟨g, 0, none⟩ = some c0 ∧ W.cell? ⟨g, 1, none⟩ = some c1 :=
  ⟨(blk_cell h.b 0).trans rfl, (blk_cell h.b 1).trans rfl⟩
theorem fz2' {c0 c1 : Value} (h : Bx base W g #[c0, c1] t) : W.frozen? ⟨g, 0, none⟩ = false ∧ W.frozen? ⟨g, 1, none⟩ = false :=
  ⟨blk_frozen h.b 0, blk_frozen h.b 1⟩
theorem st2 {c0 c1 v0 v1 : Value} (h : Bx base W g #[c0, c1] t) : Bx base ((W.setCell ⟨g, 0, none⟩ v0).setCell ⟨g, 1, none⟩ v1) g #[v0, v1] t ∧ Sk g W ((W.setCell ⟨g, 0, none⟩ v0).setCell ⟨g, 1, none⟩ v1) :=
  ⟨(Bx.set1 (cs' := #[v0, v1]) (Bx.set1 (cs' := #[v0, c1]) h 0 v0 rfl) 1 v1 rfl), (Sk.set ((Sk.set (Sk.refl g W) 0 v0)) 1 v1)⟩
theorem cz3' {c0 c1 c2 : Value} (h : Bx base W g #[c0, c1, c2] t) : W.cell? ⟨g, 0, none⟩ = some c0 ∧ W.cell? ⟨g, 1, none⟩ = some c1 ∧ W.cell? ⟨g, 2, none⟩ = some c2 :=
  ⟨(blk_cell h.b 0).trans rfl, (blk_cell h.b 1).trans rfl, (blk_cell h.b 2).trans rfl⟩
theorem fz3' {c0 c1 c2 : Value} (h : Bx base W g #[c0, c1, c2] t) : W.frozen? ⟨g, 0, none⟩ = false ∧ W.frozen? ⟨g, 1, none⟩ = false ∧ W.frozen? ⟨g, 2, none⟩ = false :=
  ⟨blk_frozen h.b 0, blk_frozen h.b 1, blk_frozen h.b 2⟩
theorem st3 {c0 c1 c2 v0 v1 v2 : Value} (h : Bx base W g #[c0, c1, c2] t) : Bx base (((W.setCell ⟨g, 0, none⟩ v0).setCell ⟨g, 1, none⟩ v1).setCell ⟨g, 2, none⟩ v2) g #[v0, v1, v2] t ∧ Sk g W (((W.setCell ⟨g, 0, none⟩ v0).setCell ⟨g, 1, none⟩ v1).setCell ⟨g, 2, none⟩ v2) :=
  ⟨(Bx.set1 (cs' := #[v0, v1, v2]) (Bx.set1 (cs' := #[v0, v1, c2]) (Bx.set1 (cs' := #[v0, c1, c2]) h 0 v0 rfl) 1 v1 rfl) 2 v2 rfl), (Sk.set ((Sk.set ((Sk.set (Sk.refl g W) 0 v0)) 1 v1)) 2 v2)⟩
theorem cz4' {c0 c1 c2 c3 : Value} (h : Bx base W g #[c0, c1, c2, c3] t) : W.cell? ⟨g, 0, none⟩ = some c0 ∧ W.cell? ⟨g, 1, none⟩ = some c1 ∧ W.cell? ⟨g, 2, none⟩ = some c2 ∧ W.cell? ⟨g, 3, none⟩ = some c3 :=
  ⟨(blk_cell h.b 0).trans rfl, (blk_cell h.b 1).trans rfl, (blk_cell h.b 2).trans rfl, (blk_cell h.b 3).trans rfl⟩
theorem fz4' {c0 c1 c2 c3 : Value} (h : Bx base W g #[c0, c1, c2, c3] t) : W.frozen? ⟨g, 0, none⟩ = false ∧ W.frozen? ⟨g, 1, none⟩ = false ∧ W.frozen? ⟨g, 2, none⟩ = false ∧ W.frozen? ⟨g, 3, none⟩ = false :=
  ⟨blk_frozen h.b 0, blk_frozen h.b 1, blk_frozen h.b 2, blk_frozen h.b 3⟩
theorem st4 {c0 c1 c2 c3 v0 v1 v2 v3 : Value} (h : Bx base W g #[c0, c1, c2, c3] t) : Bx base ((((W.setCell ⟨g, 0, none⟩ v0).setCell ⟨g, 1, none⟩ v1).setCell ⟨g, 2, none⟩ v2).setCell ⟨g, 3, none⟩ v3) g #[v0, v1, v2, v3] t ∧ Sk g W ((((W.setCell ⟨g, 0, none⟩ v0).setCell ⟨g, 1, none⟩ v1).setCell ⟨g, 2, none⟩ v2).setCell ⟨g, 3, none⟩ v3) :=
  ⟨(Bx.set1 (cs' := #[v0, v1, v2, v3]) (Bx.set1 (cs' := #[v0, v1, v2, c3]) (Bx.set1 (cs' := #[v0, v1, c2, c3]) (Bx.set1 (cs' := #[v0, c1, c2, c3]) h 0 v0 rfl) 1 v1 rfl) 2 v2 rfl) 3 v3 rfl), (Sk.set ((Sk.set ((Sk.set ((Sk.set (Sk.refl g W) 0 v0)) 1 v1)) 2 v2)) 3 v3)⟩
theorem cz5' {c0 c1 c2 c3 c4 : Value} (h : Bx base W g #[c0, c1, c2, c3, c4] t) : W.cell? ⟨g, 0, none⟩ = some c0 ∧ W.cell? ⟨g, 1, none⟩ = some c1 ∧ W.cell? ⟨g, 2, none⟩ = some c2 ∧ W.cell? ⟨g, 3, none⟩ = some c3 ∧ W.cell? ⟨g, 4, none⟩ = some c4 :=
  ⟨(blk_cell h.b 0).trans rfl, (blk_cell h.b 1).trans rfl, (blk_cell h.b 2).trans rfl, (blk_cell h.b 3).trans rfl, (blk_cell h.b 4).trans rfl⟩
theorem fz5' {c0 c1 c2 c3 c4 : Value} (h : Bx base W g #[c0, c1, c2, c3, c4] t) : W.frozen? ⟨g, 0, none⟩ = false ∧ W.frozen? ⟨g, 1, none⟩ = false ∧ W.frozen? ⟨g, 2, none⟩ = false ∧ W.frozen? ⟨g, 3, none⟩ = false ∧ W.frozen? ⟨g, 4, none⟩ = false :=
  ⟨blk_frozen h.b 0, blk_frozen h.b 1, blk_frozen h.b 2, blk_frozen h.b 3, blk_frozen h.b 4⟩
theorem st5 {c0 c1 c2 c3 c4 v0 v1 v2 v3 v4 : Value} (h : Bx base W g #[c0, c1, c2, c3, c4] t) : Bx base (((((W.setCell ⟨g, 0, none⟩ v0).setCell ⟨g, 1, none⟩ v1).setCell ⟨g, 2, none⟩ v2).setCell ⟨g, 3, none⟩ v3).setCell ⟨g, 4, none⟩ v4) g #[v0, v1, v2, v3, v4] t ∧ Sk g W (((((W.setCell ⟨g, 0, none⟩ v0).setCell ⟨g, 1, none⟩ v1).setCell ⟨g, 2, none⟩ v2).setCell ⟨g, 3, none⟩ v3).setCell ⟨g, 4, none⟩ v4) :=
  ⟨(Bx.set1 (cs' := #[v0, v1, v2, v3, v4]) (Bx.set1 (cs' := #[v0, v1, v2, v3, c4]) (Bx.set1 (cs' := #[v0, v1, v2, c3, c4]) (Bx.set1 (cs' := #[v0, v1, c2, c3, c4]) (Bx.set1 (cs' := #[v0, c1, c2, c3, c4]) h 0 v0 rfl) 1 v1 rfl) 2 v2 rfl) 3 v3 rfl) 4 v4 rfl), (Sk.set ((Sk.set ((Sk.set ((Sk.set ((Sk.set (Sk.refl g W) 0 v0)) 1 v1)) 2 v2)) 3 v3)) 4 v4)⟩
theorem cz6' {c0 c1 c2 c3 c4 c5 : Value} (h : Bx base W g #[c0, c1, c2, c3, c4, c5] t) : W.cell? ⟨g, 0, none⟩ = some c0 ∧ W.cell? ⟨g, 1, none⟩ = some c1 ∧ W.cell? ⟨g, 2, none⟩ = some c2 ∧ W.cell? ⟨g, 3, none⟩ = some c3 ∧ W.cell? ⟨g, 4, none⟩ = some c4 ∧ W.cell? ⟨g, 5, none⟩ = some c5 :=
  ⟨(blk_cell h.b 0).trans rfl, (blk_cell h.b 1).trans rfl, (blk_cell h.b 2).trans rfl, (blk_cell h.b 3).trans rfl, (blk_cell h.b 4).trans rfl, (blk_cell h.b 5).trans rfl⟩
theorem fz6' {c0 c1 c2 c3 c4 c5 : Value} (h : Bx base W g #[c0, c1, c2, c3, c4, c5] t) : W.frozen? ⟨g, 0, none⟩ = false ∧ W.frozen? ⟨g, 1, none⟩ = false ∧ W.frozen? ⟨g, 2, none⟩ = false ∧ W.frozen? ⟨g, 3, none⟩ = false ∧ W.frozen? ⟨g, 4, none⟩ = false ∧ W.frozen? ⟨g, 5, none⟩ = false :=
  ⟨blk_frozen h.b 0, blk_frozen h.b 1, blk_frozen h.b 2, blk_frozen h.b 3, blk_frozen h.b 4, blk_frozen h.b 5⟩
theorem st6 {c0 c1 c2 c3 c4 c5 v0 v1 v2 v3 v4 v5 : Value} (h : Bx base W g #[c0, c1, c2, c3, c4, c5] t) : Bx base ((((((W.setCell ⟨g, 0, none⟩ v0).setCell ⟨g, 1, none⟩ v1).setCell ⟨g, 2, none⟩ v2).setCell ⟨g, 3, none⟩ v3).setCell ⟨g, 4, none⟩ v4).setCell ⟨g, 5, none⟩ v5) g #[v0, v1, v2, v3, v4, v5] t ∧ Sk g W ((((((W.setCell ⟨g, 0, none⟩ v0).setCell ⟨g, 1, none⟩ v1).setCell ⟨g, 2, none⟩ v2).setCell ⟨g, 3, none⟩ v3).setCell ⟨g, 4, none⟩ v4).setCell ⟨g, 5, none⟩ v5) :=
  ⟨(Bx.set1 (cs' := #[v0, v1, v2, v3, v4, v5]) (Bx.set1 (cs' := #[v0, v1, v2, v3, v4, c5]) (Bx.set1 (cs' := #[v0, v1, v2, v3, c4, c5]) (Bx.set1 (cs' := #[v0, v1, v2, c3, c4, c5]) (Bx.set1 (cs' := #[v0, v1, c2, c3, c4, c5]) (Bx.set1 (cs' := #[v0, c1, c2, c3, c4, c5]) h 0 v0 rfl) 1 v1 rfl) 2 v2 rfl) 3 v3 rfl) 4 v4 rfl) 5 v5 rfl), (Sk.set ((Sk.set ((Sk.set ((Sk.set ((Sk.set ((Sk.set (Sk.refl g W) 0 v0)) 1 v1)) 2 v2)) 3 v3)) 4 v4)) 5 v5)⟩
theorem cz7' {c0 c1 c2 c3 c4 c5 c6 : Value} (h : Bx base W g #[c0, c1, c2, c3, c4, c5, c6] t) : W.cell? ⟨g, 0, none⟩ = some c0 ∧ W.cell? ⟨g, 1, none⟩ = some c1 ∧ W.cell? ⟨g, 2, none⟩ = some c2 ∧ W.cell? ⟨g, 3, none⟩ = some c3 ∧ W.cell? ⟨g, 4, none⟩ = some c4 ∧ W.cell? ⟨g, 5, none⟩ = some c5 ∧ W.cell? ⟨g, 6, none⟩ = some c6 :=
  ⟨(blk_cell h.b 0).trans rfl, (blk_cell h.b 1).trans rfl, (blk_cell h.b 2).trans rfl, (blk_cell h.b 3).trans rfl, (blk_cell h.b 4).trans rfl, (blk_cell h.b 5).trans rfl, (blk_cell h.b 6).trans rfl⟩
theorem fz7' {c0 c1 c2 c3 c4 c5 c6 : Value} (h : Bx base W g #[c0, c1, c2, c3, c4, c5, c6] t) : W.frozen? ⟨g, 0, none⟩ = false ∧ W.frozen? ⟨g, 1, none⟩ = false ∧ W.frozen? ⟨g, 2, none⟩ = false ∧ W.frozen? ⟨g, 3, none⟩ = false ∧ W.frozen? ⟨g, 4, none⟩ = false ∧ W.frozen? ⟨g, 5, none⟩ = false ∧ W.frozen? ⟨g, 6, none⟩ = false :=
  ⟨blk_frozen h.b 0, blk_frozen h.b 1, blk_frozen h.b 2, blk_frozen h.b 3, blk_frozen h.b 4, blk_frozen h.b 5, blk_frozen h.b 6⟩
theorem st7 {c0 c1 c2 c3 c4 c5 c6 v0 v1 v2 v3 v4 v5 v6 : Value} (h : Bx base W g #[c0, c1, c2, c3, c4, c5, c6] t) : Bx base (((((((W.setCell ⟨g, 0, none⟩ v0).setCell ⟨g, 1, none⟩ v1).setCell ⟨g, 2, none⟩ v2).setCell ⟨g, 3, none⟩ v3).setCell ⟨g, 4, none⟩ v4).setCell ⟨g, 5, none⟩ v5).setCell ⟨g, 6, none⟩ v6) g #[v0, v1, v2, v3, v4, v5, v6] t ∧ Sk g W (((((((W.setCell ⟨g, 0, none⟩ v0).setCell ⟨g, 1, none⟩ v1).setCell ⟨g, 2, none⟩ v2).setCell ⟨g, 3, none⟩ v3).setCell ⟨g, 4, none⟩ v4).setCell ⟨g, 5, none⟩ v5).setCell ⟨g, 6, none⟩ v6) :=
  ⟨(Bx.set1 (cs' := #[v0, v1, v2, v3, v4, v5, v6]) (Bx.set1 (cs' := #[v0, v1, v2, v3, v4, v5, c6]) (Bx.set1 (cs' := #[v0, v1, v2, v3, v4, c5, c6]) (Bx.set1 (cs' := #[v0, v1, v2, v3, c4, c5, c6]) (Bx.set1 (cs' := #[v0, v1, v2, c3, c4, c5, c6]) (Bx.set1 (cs' := #[v0, v1, c2, c3, c4, c5, c6]) (Bx.set1 (cs' := #[v0, c1, c2, c3, c4, c5, c6]) h 0 v0 rfl) 1 v1 rfl) 2 v2 rfl) 3 v3 rfl) 4 v4 rfl) 5 v5 rfl) 6 v6 rfl), (Sk.set ((Sk.set ((Sk.set ((Sk.set ((Sk.set ((Sk.set ((Sk.set (Sk.refl g W) 0 v0)) 1 v1)) 2 v2)) 3 v3)) 4 v4)) 5 v5)) 6 v6)⟩
theorem cz8' {c0 c1 c2 c3 c4 c5 c6 c7 : Value} (h : Bx base W g #[c0, c1, c2, c3, c4, c5, c6, c7] t) : W.cell? ⟨g, 0, none⟩ = some c0 ∧ W.cell? ⟨g, 1, none⟩ = some c1 ∧ W.cell? ⟨g, 2, none⟩ = some c2 ∧ W.cell? ⟨g, 3, none⟩ = some c3 ∧ W.cell? ⟨g, 4, none⟩ = some c4 ∧ W.cell? ⟨g, 5, none⟩ = some c5 ∧ W.cell? ⟨g, 6, none⟩ = some c6 ∧ W.cell? ⟨g, 7, none⟩ = some c7 :=
  ⟨(blk_cell h.b 0).trans rfl, (blk_cell h.b 1).trans rfl, (blk_cell h.b 2).trans rfl, (blk_cell h.b 3).trans rfl, (blk_cell h.b 4).trans rfl, (blk_cell h.b 5).trans rfl, (blk_cell h.b 6).trans rfl, (blk_cell h.b 7).trans rfl⟩
theorem fz8' {c0 c1 c2 c3 c4 c5 c6 c7 : Value} (h : Bx base W g #[c0, c1, c2, c3, c4, c5, c6, c7] t) : W.frozen? ⟨g, 0, none⟩ = false ∧ W.frozen? ⟨g, 1, none⟩ = false ∧ W.frozen? ⟨g, 2, none⟩ = false ∧ W.frozen? ⟨g, 3, none⟩ = false ∧ W.frozen? ⟨g, 4, none⟩ = false ∧ W.frozen? ⟨g, 5, none⟩ = false ∧ W.frozen? ⟨g, 6, none⟩ = false ∧ W.frozen? ⟨g, 7, none⟩ = false :=
  ⟨blk_frozen h.b 0, blk_frozen h.b 1, blk_frozen h.b 2, blk_frozen h.b 3, blk_frozen h.b 4, blk_frozen h.b 5, blk_frozen h.b 6, blk_frozen h.b 7⟩
theorem st8 {c0 c1 c2 c3 c4 c5 c6 c7 v0 v1 v2 v3 v4 v5 v6 v7 : Value} (h : Bx base W g #[c0, c1, c2, c3, c4, c5, c6, c7] t) : Bx base ((((((((W.setCell ⟨g, 0, none⟩ v0).setCell ⟨g, 1, none⟩ v1).setCell ⟨g, 2, none⟩ v2).setCell ⟨g, 3, none⟩ v3).setCell ⟨g, 4, none⟩ v4).setCell ⟨g, 5, none⟩ v5).setCell ⟨g, 6, none⟩ v6).setCell ⟨g, 7, none⟩ v7) g #[v0, v1, v2, v3, v4, v5, v6, v7] t ∧ Sk g W ((((((((W.setCell ⟨g, 0, none⟩ v0).setCell ⟨g, 1, none⟩ v1).setCell ⟨g, 2, none⟩ v2).setCell ⟨g, 3, none⟩ v3).setCell ⟨g, 4, none⟩ v4).setCell ⟨g, 5, none⟩ v5).setCell ⟨g, 6, none⟩ v6).setCell ⟨g, 7, none⟩ v7) :=
  ⟨(Bx.set1 (cs' := #[v0, v1, v2, v3, v4, v5, v6, v7]) (Bx.set1 (cs' := #[v0, v1, v2, v3, v4, v5, v6, c7]) (Bx.set1 (cs' := #[v0, v1, v2, v3, v4, v5, c6, c7]) (Bx.set1 (cs' := #[v0, v1, v2, v3, v4, c5, c6, c7]) (Bx.set1 (cs' := #[v0, v1, v2, v3, c4, c5, c6, c7]) (Bx.set1 (cs' := #[v0, v1, v2, c3, c4, c5, c6, c7]) (Bx.set1 (cs' := #[v0, v1, c2, c3, c4, c5, c6, c7]) (Bx.set1 (cs' := #[v0, c1, c2, c3, c4, c5, c6, c7]) h 0 v0 rfl) 1 v1 rfl) 2 v2 rfl) 3 v3 rfl) 4 v4 rfl) 5 v5 rfl) 6 v6 rfl) 7 v7 rfl), (Sk.set ((Sk.set ((Sk.set ((Sk.set ((Sk.set ((Sk.set ((Sk.set ((Sk.set (Sk.refl g W) 0 v0)) 1 v1)) 2 v2)) 3 v3)) 4 v4)) 5 v5)) 6 v6)) 7 v7)⟩
theorem cz9' {c0 c1 c2 c3 c4 c5 c6 c7 c8 : Value} (h : Bx base W g #[c0, c1, c2, c3, c4, c5, c6, c7, c8] t) : W.cell? ⟨g, 0, none⟩ = some c0 ∧ W.cell? ⟨g, 1, none⟩ = some c1 ∧ W.cell? ⟨g, 2, none⟩ = some c2 ∧ W.cell? ⟨g, 3, none⟩ = some c3 ∧ W.cell? ⟨g, 4, none⟩ = some c4 ∧ W.cell? ⟨g, 5, none⟩ = some c5 ∧ W.cell? ⟨g, 6, none⟩ = some c6 ∧ W.cell? ⟨g, 7, none⟩ = some c7 ∧ W.cell? ⟨g, 8, none⟩ = some c8 :=
  ⟨(blk_cell h.b 0).trans rfl, (blk_cell h.b 1).trans rfl, (blk_cell h.b 2).trans rfl, (blk_cell h.b 3).trans rfl, (blk_cell h.b 4).trans rfl, (blk_cell h.b 5).trans rfl, (blk_cell h.b 6).trans rfl, (blk_cell h.b 7).trans rfl, (blk_cell h.b 8).trans rfl⟩
theorem fz9' {c0 c1 c2 c3 c4 c5 c6 c7 c8 : Value} (h : Bx base W g #[c0, c1, c2, c3, c4, c5, c6, c7, c8] t) : W.frozen? ⟨g, 0, none⟩ = false ∧ W.frozen? ⟨g, 1, none⟩ = false ∧ W.frozen? ⟨g, 2, none⟩ = false ∧ W.frozen? ⟨g, 3, none⟩ = false ∧ W.frozen? ⟨g, 4, none⟩ = false ∧ W.frozen? ⟨g, 5, none⟩ = false ∧ W.frozen? ⟨g, 6, none⟩ = false ∧ W.frozen? ⟨g, 7, none⟩ = false ∧ W.frozen? ⟨g, 8, none⟩ = false :=
  ⟨blk_frozen h.b 0, blk_frozen h.b 1, blk_frozen h.b 2, blk_frozen h.b 3, blk_frozen h.b 4, blk_frozen h.b 5, blk_frozen h.b 6, blk_frozen h.b 7, blk_frozen h.b 8⟩
theorem st9 {c0 c1 c2 c3 c4 c5 c6 c7 c8 v0 v1 v2 v3 v4 v5 v6 v7 v8 : Value} (h : Bx base W g #[c0, c1, c2, c3, c4, c5, c6, c7, c8] t) : Bx base (((((((((W.setCell ⟨g, 0, none⟩ v0).setCell ⟨g, 1, none⟩ v1).setCell ⟨g, 2, none⟩ v2).setCell ⟨g, 3, none⟩ v3).setCell ⟨g, 4, none⟩ v4).setCell ⟨g, 5, none⟩ v5).setCell ⟨g, 6, none⟩ v6).setCell ⟨g, 7, none⟩ v7).setCell ⟨g, 8, none⟩ v8) g #[v0, v1, v2, v3, v4, v5, v6, v7, v8] t ∧ Sk g W (((((((((W.setCell ⟨g, 0, none⟩ v0).setCell ⟨g, 1, none⟩ v1).setCell ⟨g, 2, none⟩ v2).setCell ⟨g, 3, none⟩ v3).setCell ⟨g, 4, none⟩ v4).setCell ⟨g, 5, none⟩ v5).setCell ⟨g, 6, none⟩ v6).setCell ⟨g, 7, none⟩ v7).setCell ⟨g, 8, none⟩ v8) :=
  ⟨(Bx.set1 (cs' := #[v0, v1, v2, v3, v4, v5, v6, v7, v8]) (Bx.set1 (cs' := #[v0, v1, v2, v3, v4, v5, v6, v7, c8]) (Bx.set1 (cs' := #[v0, v1, v2, v3, v4, v5, v6, c7, c8]) (Bx.set1 (cs' := #[v0, v1, v2, v3, v4, v5, c6, c7, c8]) (Bx.set1 (cs' := #[v0, v1, v2, v3, v4, c5, c6, c7, c8]) (Bx.set1 (cs' := #[v0, v1, v2, v3, c4, c5, c6, c7, c8]) (Bx.set1 (cs' := #[v0, v1, v2, c3, c4, c5, c6, c7, c8]) (Bx.set1 (cs' := #[v0, v1, c2, c3, c4, c5, c6, c7, c8]) (Bx.set1 (cs' := #[v0, c1, c2, c3, c4, c5, c6, c7, c8]) h 0 v0 rfl) 1 v1 rfl) 2 v2 rfl) 3 v3 rfl) 4 v4 rfl) 5 v5 rfl) 6 v6 rfl) 7 v7 rfl) 8 v8 rfl), (Sk.set ((Sk.set ((Sk.set ((Sk.set ((Sk.set ((Sk.set ((Sk.set ((Sk.set ((Sk.set (Sk.refl g W) 0 v0)) 1 v1)) 2 v2)) 3 v3)) 4 v4)) 5 v5)) 6 v6)) 7 v7)) 8 v8)⟩
theorem cz10' {c0 c1 c2 c3 c4 c5 c6 c7 c8 c9 : Value} (h : Bx base W g #[c0, c1, c2, c3, c4, c5, c6, c7, c8, c9] t) : W.cell? ⟨g, 0, none⟩ = some c0 ∧ W.cell? ⟨g, 1, none⟩ = some c1 ∧ W.cell? ⟨g, 2, none⟩ = some c2 ∧ W.cell? ⟨g, 3, none⟩ = some c3 ∧ W.cell? ⟨g, 4, none⟩ = some c4 ∧ W.cell? ⟨g, 5, none⟩ = some c5 ∧ W.cell? ⟨g, 6, none⟩ = some c6 ∧ W.cell? ⟨g, 7, none⟩ = some c7 ∧ W.cell? ⟨g, 8, none⟩ = some c8 ∧ W.cell? ⟨g, 9, none⟩ = some c9 :=
  ⟨(blk_cell h.b 0).trans rfl, (blk_cell h.b 1).trans rfl, (blk_cell h.b 2).trans rfl, (blk_cell h.b 3).trans rfl, (blk_cell h.b 4).trans rfl, (blk_cell h.b 5).trans rfl, (blk_cell h.b 6).trans rfl, (blk_cell h.b 7).trans rfl, (blk_cell h.b 8).trans rfl, (blk_cell h.b 9).trans rfl⟩
theorem fz10' {c0 c1 c2 c3 c4 c5 c6 c7 c8 c9 : Value} (h : Bx base W g #[c0, c1, c2, c3, c4, c5, c6, c7, c8, c9] t) : W.frozen? ⟨g, 0, none⟩ = false ∧ W.frozen? ⟨g, 1, none⟩ = false ∧ W.frozen? ⟨g, 2, none⟩ = false ∧ W.frozen? ⟨g, 3, none⟩ = false ∧ W.frozen? ⟨g, 4, none⟩ = false ∧ W.frozen? ⟨g, 5, none⟩ = false ∧ W.frozen? ⟨g, 6, none⟩ = false ∧ W.frozen? ⟨g, 7, none⟩ = false ∧ W.frozen? ⟨g, 8, none⟩ = false ∧ W.frozen? ⟨g, 9, none⟩ = false :=
  ⟨blk_frozen h.b 0, blk_frozen h.b 1, blk_frozen h.b 2, blk_frozen h.b 3, blk_frozen h.b 4, blk_frozen h.b 5, blk_frozen h.b 6, blk_frozen h.b 7, blk_frozen h.b 8, blk_frozen h.b 9⟩
theorem st10 {c0 c1 c2 c3 c4 c5 c6 c7 c8 c9 v0 v1 v2 v3 v4 v5 v6 v7 v8 v9 : Value} (h : Bx base W g #[c0, c1, c2, c3, c4, c5, c6, c7, c8, c9] t) : Bx base ((((((((((W.setCell ⟨g, 0, none⟩ v0).setCell ⟨g, 1, none⟩ v1).setCell ⟨g, 2, none⟩ v2).setCell ⟨g, 3, none⟩ v3).setCell ⟨g, 4, none⟩ v4).setCell ⟨g, 5, none⟩ v5).setCell ⟨g, 6, none⟩ v6).setCell ⟨g, 7, none⟩ v7).setCell ⟨g, 8, none⟩ v8).setCell ⟨g, 9, none⟩ v9) g #[v0, v1, v2, v3, v4, v5, v6, v7, v8, v9] t ∧ Sk g W ((((((((((W.setCell ⟨g, 0, none⟩ v0).setCell ⟨g, 1, none⟩ v1).setCell ⟨g, 2, none⟩ v2).setCell ⟨g, 3, none⟩ v3).setCell ⟨g, 4, none⟩ v4).setCell ⟨g, 5, none⟩ v5).setCell ⟨g, 6, none⟩ v6).setCell ⟨g, 7, none⟩ v7).setCell ⟨g, 8, none⟩ v8).setCell ⟨g, 9, none⟩ v9) :=
  ⟨(Bx.set1 (cs' := #[v0, v1, v2, v3, v4, v5, v6, v7, v8, v9]) (Bx.set1 (cs' := #[v0, v1, v2, v3, v4, v5, v6, v7, v8, c9]) (Bx.set1 (cs' := #[v0, v1, v2, v3, v4, v5, v6, v7, c8, c9]) (Bx.set1 (cs' := #[v0, v1, v2, v3, v4, v5, v6, c7, c8, c9]) (Bx.set1 (cs' := #[v0, v1, v2, v3, v4, v5, c6, c7, c8, c9]) (Bx.set1 (cs' := #[v0, v1, v2, v3, v4, c5, c6, c7, c8, c9]) (Bx.set1 (cs' := #[v0, v1, v2, v3, c4, c5, c6, c7, c8, c9]) (Bx.set1 (cs' := #[v0, v1, v2, c3, c4, c5, c6, c7, c8, c9]) (Bx.set1 (cs' := #[v0, v1, c2, c3, c4, c5, c6, c7, c8, c9]) (Bx.set1 (cs' := #[v0, c1, c2, c3, c4, c5, c6, c7, c8, c9]) h 0 v0 rfl) 1 v1 rfl) 2 v2 rfl) 3 v3 rfl) 4 v4 rfl) 5 v5 rfl) 6 v6 rfl) 7 v7 rfl) 8 v8 rfl) 9 v9 rfl), (Sk.set ((Sk.set ((Sk.set ((Sk.set ((Sk.set ((Sk.set ((Sk.set ((Sk.set ((Sk.set ((Sk.set (Sk.refl g W) 0 v0)) 1 v1)) 2 v2)) 3 v3)) 4 v4)) 5 v5)) 6 v6)) 7 v7)) 8 v8)) 9 v9)⟩
theorem cz11' {c0 c1 c2 c3 c4 c5 c6 c7 c8 c9 c10 : Value} (h : Bx base W g #[c0, c1, c2, c3, c4, c5, c6, c7, c8, c9, c10] t) : W.cell? ⟨g, 0, none⟩ = some c0 ∧ W.cell? ⟨g, 1, none⟩ = some c1 ∧ W.cell? ⟨g, 2, none⟩ = some c2 ∧ W.cell? ⟨g, 3, none⟩ = some c3 ∧ W.cell? ⟨g, 4, none⟩ = some c4 ∧ W.cell? ⟨g, 5, none⟩ = some c5 ∧ W.cell? ⟨g, 6, none⟩ = some c6 ∧ W.cell? ⟨g, 7, none⟩ = some c7 ∧ W.cell? ⟨g, 8, none⟩ = some c8 ∧ W.cell? ⟨g, 9, none⟩ = some c9 ∧ W.cell? ⟨g, 10, none⟩ = some c10 :=
  ⟨(blk_cell h.b 0).trans rfl, (blk_cell h.b 1).trans rfl, (blk_cell h.b 2).trans rfl, (blk_cell h.b 3).trans rfl, (blk_cell h.b 4).trans rfl, (blk_cell h.b 5).trans rfl, (blk_cell h.b 6).trans rfl, (blk_cell h.b 7).trans rfl, (blk_cell h.b 8).trans rfl, (blk_cell h.b 9).trans rfl, (blk_cell h.b 10).trans rfl⟩
theorem fz11' {c0 c1 c2 c3 c4 c5 c6 c7 c8 c9 c10 : Value} (h : Bx base W g #[c0, c1, c2, c3, c4, c5, c6, c7, c8, c9, c10] t) : W.frozen? ⟨g, 0, none⟩ = false ∧ W.frozen? ⟨g, 1, none⟩ = false ∧ W.frozen? ⟨g, 2, none⟩ = false ∧ W.frozen? ⟨g, 3, none⟩ = false ∧ W.frozen? ⟨g, 4, none⟩ = false ∧ W.frozen? ⟨g, 5, none⟩ = false ∧ W.frozen? ⟨g, 6, none⟩ = false ∧ W.frozen? ⟨g, 7, none⟩ = false ∧ W.frozen? ⟨g, 8, none⟩ = false ∧ W.frozen? ⟨g, 9, none⟩ = false ∧ W.frozen? ⟨g, 10, none⟩ = false :=
  ⟨blk_frozen h.b 0, blk_frozen h.b 1, blk_frozen h.b 2, blk_frozen h.b 3, blk_frozen h.b 4, blk_frozen h.b 5, blk_frozen h.b 6, blk_frozen h.b 7, blk_frozen h.b 8, blk_frozen h.b 9, blk_frozen h.b 10⟩
theorem st11 {c0 c1 c2 c3 c4 c5 c6 c7 c8 c9 c10 v0 v1 v2 v3 v4 v5 v6 v7 v8 v9 v10 : Value} (h : Bx base W g #[c0, c1, c2, c3, c4, c5, c6, c7, c8, c9, c10] t) : Bx base (((((((((((W.setCell ⟨g, 0, none⟩ v0).setCell ⟨g, 1, none⟩ v1).setCell ⟨g, 2, none⟩ v2).setCell ⟨g, 3, none⟩ v3).setCell ⟨g, 4, none⟩ v4).setCell ⟨g, 5, none⟩ v5).setCell ⟨g, 6, none⟩ v6).setCell ⟨g, 7, none⟩ v7).setCell ⟨g, 8, none⟩ v8).setCell ⟨g, 9, none⟩ v9).setCell ⟨g, 10, none⟩ v10) g #[v0, v1, v2, v3, v4, v5, v6, v7, v8, v9, v10] t ∧ Sk g W (((((((((((W.setCell ⟨g, 0, none⟩ v0).setCell ⟨g, 1, none⟩ v1).setCell ⟨g, 2, none⟩ v2).setCell ⟨g, 3, none⟩ v3).setCell ⟨g, 4, none⟩ v4).setCell ⟨g, 5, none⟩ v5).setCell ⟨g, 6, none⟩ v6).setCell ⟨g, 7, none⟩ v7).setCell ⟨g, 8, none⟩ v8).setCell ⟨g, 9, none⟩ v9).setCell ⟨g, 10, none⟩ v10) :=
  ⟨(Bx.set1 (cs' := #[v0, v1, v2, v3, v4, v5, v6, v7, v8, v9, v10]) (Bx.set1 (cs' := #[v0, v1, v2, v3, v4, v5, v6, v7, v8, v9, c10]) (Bx.set1 (cs' := #[v0, v1, v2, v3, v4, v5, v6, v7, v8, c9, c10]) (Bx.set1 (cs' := #[v0, v1, v2, v3, v4, v5, v6, v7, c8, c9, c10]) (Bx.set1 (cs' := #[v0, v1, v2, v3, v4, v5, v6, c7, c8, c9, c10]) (Bx.set1 (cs' := #[v0, v1, v2, v3, v4, v5, c6, c7, c8, c9, c10]) (Bx.set1 (cs' := #[v0, v1, v2, v3, v4, c5, c6, c7, c8, c9, c10]) (Bx.set1 (cs' := #[v0, v1, v2, v3, c4, c5, c6, c7, c8, c9, c10]) (Bx.set1 (cs' := #[v0, v1, v2, c3, c4, c5, c6, c7, c8, c9, c10]) (Bx.set1 (cs' := #[v0, v1, c2, c3, c4, c5, c6, c7, c8, c9, c10]) (Bx.set1 (cs' := #[v0, c1, c2, c3, c4, c5, c6, c7, c8, c9, c10]) h 0 v0 rfl) 1 v1 rfl) 2 v2 rfl) 3 v3 rfl) 4 v4 rfl) 5 v5 rfl) 6 v6 rfl) 7 v7 rfl) 8 v8 rfl) 9 v9 rfl) 10 v10 rfl), (Sk.set ((Sk.set ((Sk.set ((Sk.set ((Sk.set ((Sk.set ((Sk.set ((Sk.set ((Sk.set ((Sk.set ((Sk.set (Sk.refl g W) 0 v0)) 1 v1)) 2 v2)) 3 v3)) 4 v4)) 5 v5)) 6 v6)) 7 v7)) 8 v8)) 9 v9)) 10 v10)⟩
theorem cz12' {c0 c1 c2 c3 c4 c5 c6 c7 c8 c9 c10 c11 : Value} (h : Bx base W g #[c0, c1, c2, c3, c4, c5, c6, c7, c8, c9, c10, c11] t) : W.cell? ⟨g, 0, none⟩ = some c0 ∧ W.cell? ⟨g, 1, none⟩ = some c1 ∧ W.cell? ⟨g, 2, none⟩ = some c2 ∧ W.cell? ⟨g, 3, none⟩ = some c3 ∧ W.cell? ⟨g, 4, none⟩ = some c4 ∧ W.cell? ⟨g, 5, none⟩ = some c5 ∧ W.cell? ⟨g, 6, none⟩ = some c6 ∧ W.cell? ⟨g, 7, none⟩ = some c7 ∧ W.cell? ⟨g, 8, none⟩ = some c8 ∧ W.cell? ⟨g, 9, none⟩ = some c9 ∧ W.cell? ⟨g, 10, none⟩ = some c10 ∧ W.cell? ⟨g, 11, none⟩ = some c11 :=
  ⟨(blk_cell h.b 0).trans rfl, (blk_cell h.b 1).trans rfl, (blk_cell h.b 2).trans rfl, (blk_cell h.b 3).trans rfl, (blk_cell h.b 4).trans rfl, (blk_cell h.b 5).trans rfl, (blk_cell h.b 6).trans rfl, (blk_cell h.b 7).trans rfl, (blk_cell h.b 8).trans rfl, (blk_cell h.b 9).trans rfl, (blk_cell h.b 10).trans rfl, (blk_cell h.b 11).trans rfl⟩
theorem fz12' {c0 c1 c2 c3 c4 c5 c6 c7 c8 c9 c10 c11 : Value} (h : Bx base W g #[c0, c1, c2, c3, c4, c5, c6, c7, c8, c9, c10, c11] t) : W.frozen? ⟨g, 0, none⟩ = false ∧ W.frozen? ⟨g, 1, none⟩ = false ∧ W.frozen? ⟨g, 2, none⟩ = false ∧ W.frozen? ⟨g, 3, none⟩ = false ∧ W.frozen? ⟨g, 4, none⟩ = false ∧ W.frozen? ⟨g, 5, none⟩ = false ∧ W.frozen? ⟨g, 6, none⟩ = false ∧ W.frozen? ⟨g, 7, none⟩ = false ∧ W.frozen? ⟨g, 8, none⟩ = false ∧ W.frozen? ⟨g, 9, none⟩ = false ∧ W.frozen? ⟨g, 10, none⟩ = false ∧ W.frozen? ⟨g, 11, none⟩ = false :=
  ⟨blk_frozen h.b 0, blk_frozen h.b 1, blk_frozen h.b 2, blk_frozen h.b 3, blk_frozen h.b 4, blk_frozen h.b 5, blk_frozen h.b 6, blk_frozen h.b 7, blk_frozen h.b 8, blk_frozen h.b 9, blk_frozen h.b 10, blk_frozen h.b 11⟩
theorem st12 {c0 c1 c2 c3 c4 c5 c6 c7 c8 c9 c10 c11 v0 v1 v2 v3 v4 v5 v6 v7 v8 v9 v10 v11 : Value} (h : Bx base W g #[c0, c1, c2, c3, c4, c5, c6, c7, c8, c9, c10, c11] t) : Bx base ((((((((((((W.setCell ⟨g, 0, none⟩ v0).setCell ⟨g, 1, none⟩ v1).setCell ⟨g, 2, none⟩ v2).setCell ⟨g, 3, none⟩ v3).setCell ⟨g, 4, none⟩ v4).setCell ⟨g, 5, none⟩ v5).setCell ⟨g, 6, none⟩ v6).setCell ⟨g, 7, none⟩ v7).setCell ⟨g, 8, none⟩ v8).setCell ⟨g, 9, none⟩ v9).setCell ⟨g, 10, none⟩ v10).setCell ⟨g, 11, none⟩ v11) g #[v0, v1, v2, v3, v4, v5, v6, v7, v8, v9, v10, v11] t ∧ Sk g W ((((((((((((W.setCell ⟨g, 0, none⟩ v0).setCell ⟨g, 1, none⟩ v1).setCell ⟨g, 2, none⟩ v2).setCell ⟨g, 3, none⟩ v3).setCell ⟨g, 4, none⟩ v4).setCell ⟨g, 5, none⟩ v5).setCell ⟨g, 6, none⟩ v6).setCell ⟨g, 7, none⟩ v7).setCell ⟨g, 8, none⟩ v8).setCell ⟨g, 9, none⟩ v9).setCell ⟨g, 10, none⟩ v10).setCell ⟨g, 11, none⟩ v11) :=
  ⟨(Bx.set1 (cs' := #[v0, v1, v2, v3, v4, v5, v6, v7, v8, v9, v10, v11]) (Bx.set1 (cs' := #[v0, v1, v2, v3, v4, v5, v6, v7, v8, v9, v10, c11]) (Bx.set1 (cs' := #[v0, v1, v2, v3, v4, v5, v6, v7, v8, v9, c10, c11]) (Bx.set1 (cs' := #[v0, v1, v2, v3, v4, v5, v6, v7, v8, c9, c10, c11]) (Bx.set1 (cs' := #[v0, v1, v2, v3, v4, v5, v6, v7, c8, c9, c10, c11]) (Bx.set1 (cs' := #[v0, v1, v2, v3, v4, v5, v6, c7, c8, c9, c10, c11]) (Bx.set1 (cs' := #[v0, v1, v2, v3, v4, v5, c6, c7, c8, c9, c10, c11]) (Bx.set1 (cs' := #[v0, v1, v2, v3, v4, c5, c6, c7, c8, c9, c10, c11]) (Bx.set1 (cs' := #[v0, v1, v2, v3, c4, c5, c6, c7, c8, c9, c10, c11]) (Bx.set1 (cs' := #[v0, v1, v2, c3, c4, c5, c6, c7, c8, c9, c10, c11]) (Bx.set1 (cs' := #[v0, v1, c2, c3, c4, c5, c6, c7, c8, c9, c10, c11]) (Bx.set1 (cs' := #[v0, c1, c2, c3, c4, c5, c6, c7, c8, c9, c10, c11]) h 0 v0 rfl) 1 v1 rfl) 2 v2 rfl) 3 v3 rfl) 4 v4 rfl) 5 v5 rfl) 6 v6 rfl) 7 v7 rfl) 8 v8 rfl) 9 v9 rfl) 10 v10 rfl) 11 v11 rfl), (Sk.set ((Sk.set ((Sk.set ((Sk.set ((Sk.set ((Sk.set ((Sk.set ((Sk.set ((Sk.set ((Sk.set ((Sk.set ((Sk.set (Sk.refl g W) 0 v0)) 1 v1)) 2 v2)) 3 v3)) 4 v4)) 5 v5)) 6 v6)) 7 v7)) 8 v8)) 9 v9)) 10 v10)) 11 v11)⟩
end Go.Proofs.Ytpdoplkiaejpiaa.LawK
