/- A value that reads as data at a type is one of the print's kinds: whole numbers, bools, strings, slices, structs; with what the reading tells of its sizes. General words for the rows of laws whose arguments are structs and slices of structs. -/
import Derived.Test.YtkcdhphhacjkhaaWWords
import Derived.OpenShut
import Derived.ShutString
import Derived.SizedLaws
import Derived.Carry
import Derived.Below
import Derived.ChangeArms
import Derived.DataElems
namespace Go.Proofs.Ytkcdhphhacjkhaa.OpenK
open Go.RowKit Go.Proofs.YtkcdhphhacjkhaaW.PrintWords

/-- What reads as data at type t is one of kind d, of which ok holds. -/
def Opn (P : Program) (t : TypeId) {α : Type} (d : Kd α) (ok : α → Prop) : Prop :=
  ∀ (H : Type) (enc : TypeId × Value → H) (w : World) (base : Nat) (spare : Nat → Bool) (held : Bool) (fuel : Nat) (cs : List Value) (x : DataW H × List MemPlace),
    DataW.trod enc P w base spare held fuel t cs = some x → (∀ n, n ∈ x.1.weights P t → n ≤ reachBytes) → ∃ y : α, d.K w y cs ∧ ok y

variable {P : Program} {t e : TypeId} {α β : Type}

theorem Opn.int {k : IntKind} (ht : P.underlying t = some (.int k)) : Opn P t (Kd.int k) (fun n => (Lit.int k n).wf = true) := by
  intro H enc w base spare held fuel cs x h _
  obtain ⟨n, rfl, rfl, hw⟩ := DataW.trod_int ht h
  exact ⟨n, rfl, hw⟩

theorem wf_i64 {n : Int} (h : (Lit.int .i64 n).wf = true) : -9223372036854775808 ≤ n ∧ n ≤ 9223372036854775807 := by
  exact bounds_i64 h

theorem Opn.i64 (ht : P.underlying t = some (.int .i64)) : Opn P t (Kd.int .i64) (fun n => -9223372036854775808 ≤ n ∧ n ≤ 9223372036854775807) := by
  intro H enc w base spare held fuel cs x h _
  obtain ⟨n, rfl, rfl, hw⟩ := DataW.trod_int ht h
  exact ⟨n, rfl, wf_i64 hw⟩

theorem Opn.bool (ht : P.underlying t = some .bool) : Opn P t Kd.bool (fun _ => True) := by
  intro H enc w base spare held fuel cs x h _
  obtain ⟨b, rfl, rfl⟩ := DataW.trod_bool ht h
  exact ⟨b, rfl, trivial⟩

theorem Opn.string (ht : P.underlying t = some .string) : Opn P t Kd.string (fun s => s.size ≤ 140737488351232) := by
  intro H enc w base spare held fuel cs x h hw
  obtain ⟨s, rfl, rfl, hs⟩ := DataW.trod_string ht h
  refine ⟨s, rfl, ?_⟩
  have := hw s.data.toList.length (by simp [DataW.weights])
  simpa [reachBytes] using this

theorem list_of {Q : Nat → α → Prop} : ∀ (n : Nat), (∀ i, i < n → ∃ y, Q i y) → ∃ ys : List α, ys.length = n ∧ ∀ j y, ys[j]? = some y → Q j y
  | 0, _ => ⟨[], rfl, fun j y h => by simp at h⟩
  | n + 1, h => by
    obtain ⟨ys, hl, hq⟩ := list_of n (fun i hi => h i (by omega))
    obtain ⟨y, hy⟩ := h n (by omega)
    refine ⟨ys ++ [y], by simp [hl], fun j z hj => ?_⟩
    rcases Nat.lt_or_ge j ys.length with hlt | hge
    · rw [List.getElem?_append_left hlt] at hj
      exact hq j z hj
    · have hj2 := (List.getElem?_eq_some_iff.1 hj).1
      have e : j = n := by simp at hj2; omega
      subst e
      rw [← hl] at hj
      simp at hj
      subst hj
      exact hy

theorem weightsAll_mem {H : Type} {e : TypeId} {d : DataW H} {n : Nat} : ∀ {l : List (DataW H)} {i : Nat}, l[i]? = some d → n ∈ d.weights P e → n ∈ DataW.weightsAll P e l
  | [], _, h, _ => by simp at h
  | x :: r, 0, h, hn => by
    simp at h
    subst h
    simp only [DataW.weightsAll, List.mem_append]
    exact Or.inl hn
  | x :: r, i + 1, h, hn => by
    simp at h
    simp only [DataW.weightsAll, List.mem_append]
    exact Or.inr (weightsAll_mem h hn)

theorem Opn.slice {d : Kd α} {ok : α → Prop} (ht : P.underlying t = some (.slice e)) (hc : P.cellsOf e = d.sz) (b : Nat) (hb : P.bytesOf e = b) (h : Opn P e d ok) :
    Opn P t (Kd.slice e d) (fun l => l.length * b ≤ 140737488351232 ∧ l.length ≤ 9223372036854775807 ∧ ∀ z, z ∈ l → ok z) := by
  intro H enc w base spare held fuel cs x hx hw
  rcases DataW.trod_slice ht hx with ⟨rfl, rfl⟩ | ⟨a, len, cap, elems, rest, n, _, rfl, rfl, hbk, hl, hm, hlen, hel, hsp, hns⟩
  · exact ⟨[], ⟨none, 0, rfl, Nat.le_refl _, rfl, by simp, fun h0 => absurd h0 (by simp)⟩, by simp, by simp, fun z hz => by simp at hz⟩
  · have hwt : ∀ m, m ∈ (DataW.slice (elems.map (·.1)) (rest.map (·.1)) : DataW H).weights P t → m ≤ reachBytes := hw
    simp only [DataW.weights, ht] at hwt
    have each : ∀ i, i < len → ∃ y : α, (∃ c, c.length = d.sz ∧ d.K w y c ∧ ∀ j u, c[j]? = some u → w.cell? (a.add (i * d.sz + j)) = some u) ∧ ok y := by
      intro i hi
      have h1 := hel i hi
      have h2 : elems[i]? = some (elems[i]'(by omega)) := List.getElem?_eq_getElem (by omega)
      rw [h2, Option.bind_eq_some_iff] at h1
      obtain ⟨c, hcs, hy⟩ := h1
      obtain ⟨_, hcl, hcell⟩ := World.cells?_some hcs
      have hwi : ∀ m, m ∈ (elems[i]'(by omega)).1.weights P e → m ≤ reachBytes := by
        intro m hm
        refine hwt m ?_
        refine List.mem_cons_of_mem _ (List.mem_append_left _ (weightsAll_mem (i := i) (d := (elems[i]'(by omega)).1) ?_ hm))
        rw [List.getElem?_map, h2]
        rfl
      obtain ⟨y, hK, hok⟩ := h H enc w base spare held n c _ hy hwi
      refine ⟨y, ⟨c, by rw [hcl, hc], hK, fun j u hj => ?_⟩, hok⟩
      have hj2 := (List.getElem?_eq_some_iff.1 hj).1
      have := hcell j (by omega)
      rw [Addr.add_add, hc] at this
      rw [this, hj]
    obtain ⟨ys, hyl, hys⟩ := list_of len each
    have hbig : (elems.length + rest.length) * b ≤ 140737488351232 := by
      have := hwt ((elems.length + rest.length) * b) (by rw [← hb]; simp)
      simpa [reachBytes] using this
    have hmx : cap ≤ 9223372036854775807 := by simpa [maxLen] using hm
    refine ⟨ys, ⟨some a, cap, by rw [hyl], by omega, rfl, by omega, fun _ => ⟨a, rfl, fun j p hj => (hys j p hj).1⟩⟩, ?_, by omega, fun z hz => ?_⟩
    · refine Nat.le_trans (Nat.mul_le_mul_right b ?_) hbig
      omega
    · obtain ⟨j, hj⟩ := List.getElem?_of_mem hz
      exact (hys j z hj).2

/-- The same of a run of fields from offset o on. -/
def OpnF (P : Program) (fs : List Field) (o : Nat) (d : Kd α) (ok : α → Prop) : Prop :=
  ∀ (H : Type) (enc : TypeId × Value → H) (w : World) (base : Nat) (spare : Nat → Bool) (held : Bool) (n : Nat) (cs : List Value) (xs : List (DataW H × List MemPlace)),
    xs.length = fs.length → (∀ (i : Nat) (f : Field), fs[i]? = some f → DataW.trod enc P w base spare held n f.type ((cs.drop f.offset).take (P.cellsOf f.type)) = xs[i]?) →
    (∀ m, m ∈ DataW.weightsEach P (fs.map (·.type)) (xs.map (·.1)) → m ≤ reachBytes) → cs.length = o + d.sz → ∃ y : α, d.K w y (cs.drop o) ∧ ok y

theorem OpnF.one {f : Field} {o : Nat} {d : Kd α} {ok : α → Prop} (ho : f.offset = o) (hc : P.cellsOf f.type = d.sz) (h : Opn P f.type d ok) : OpnF P [f] o d ok := by
  intro H enc w base spare held n cs xs hl hx hw hcs
  match xs, hl with
  | [x], _ =>
    have h0 := hx 0 f rfl
    rw [ho, hc, List.take_of_length_le (by rw [List.length_drop]; omega)] at h0
    refine h H enc w base spare held n _ x h0 (fun m hm => hw m ?_)
    simp only [List.map_cons, List.map_nil, DataW.weightsEach, List.append_nil]
    exact hm

theorem OpnF.cons {f : Field} {fs : List Field} {o o' : Nat} {d1 : Kd α} {d2 : Kd β} {ok1 : α → Prop} {ok2 : β → Prop} (ho : f.offset = o) (hc : P.cellsOf f.type = d1.sz) (ho' : o + d1.sz = o') (h1 : Opn P f.type d1 ok1) (h2 : OpnF P fs o' d2 ok2) :
    OpnF P (f :: fs) o (Kd.pair d1 d2) (fun p => ok1 p.1 ∧ ok2 p.2) := by
  intro H enc w base spare held n cs xs hl hx hw hcs
  subst ho'
  match xs, hl with
  | x :: xs, hl =>
    simp only [List.length_cons, Nat.add_right_cancel_iff] at hl
    have hcs' : cs.length = o + (d1.sz + d2.sz) := hcs
    have h0 := hx 0 f rfl
    rw [ho, hc] at h0
    simp only [List.map_cons, DataW.weightsEach] at hw
    obtain ⟨y1, k1, o1⟩ := h1 H enc w base spare held n _ x h0 (fun m hm => hw m (List.mem_append_left _ hm))
    obtain ⟨y2, k2, o2⟩ := h2 H enc w base spare held n cs xs hl (fun i g hg => hx (i + 1) g (by simpa using hg)) (fun m hm => hw m (List.mem_append_right _ hm)) (by omega)
    refine ⟨(y1, y2), ⟨_, _, ?_, k1, k2⟩, o1, o2⟩
    rw [← List.drop_drop, List.take_append_drop]

theorem Opn.struct {fs : Array Field} {fl : List Field} {d : Kd α} {ok : α → Prop} {ok' : β → Prop} (f : β → α) (g : α → β) (hfg : ∀ y, f (g y) = y) (ht : P.underlying t = some (.struct fs)) (hfs : fs.toList = fl) (hc : P.cellsOf t = d.sz) (h : OpnF P fl 0 d ok) (hok : ∀ y, ok y → ok' (g y)) :
    Opn P t (Kd.iso d f) ok' := by
  subst hfs
  intro H enc w base spare held fuel cs x hx hw
  obtain ⟨xs, n, _, rfl, hcl, hlen, hget⟩ := DataW.trod_struct ht hx
  have hw' : ∀ m, m ∈ (DataW.agg (xs.map (·.1)) : DataW H).weights P t → m ≤ reachBytes := hw
  simp only [DataW.weights, ht] at hw'
  obtain ⟨y, hK, ho⟩ := h H enc w base spare held n cs xs (by simpa using hlen) (fun i f hf => hget i f (by simpa using hf)) hw' (by rw [hcl, hc]; omega)
  refine ⟨g y, ?_, hok y ho⟩
  show d.K w (f (g y)) cs
  rw [hfg]
  simpa using hK

theorem Opn.agg {fs : Array Field} {fl : List Field} {d : Kd α} {ok : α → Prop} (ht : P.underlying t = some (.struct fs)) (hfs : fs.toList = fl) (hc : P.cellsOf t = d.sz) (h : OpnF P fl 0 d ok) : Opn P t d ok := by
  intro H enc w base spare held fuel cs x hx hw
  exact Opn.struct (β := α) id id (fun _ => rfl) ht hfs hc h (ok' := ok) (fun _ h => h) H enc w base spare held fuel cs x hx hw

/-- The weights of one argument lie among all. -/
theorem weights_at {H : Type} {ts : List TypeId} {ds : List (DataW H)} {j : Nat} {t : TypeId} {d : DataW H} (h : (DataW.weightsEach P ts ds).all (· ≤ reachBytes) = true) (ht : ts[j]? = some t) (hd : ds[j]? = some d) : ∀ n, n ∈ d.weights P t → n ≤ reachBytes := by
  intro n hn
  have := List.all_eq_true.1 h n (DataW.weights_mem_each ht hd n hn)
  simpa using this

/-- A struct's value is an aggregate. -/
theorem agg_of {w : World} {r : Reach} {base : Nat} {v : Value} {fs : Array Field} (ht : P.underlying t = some (.struct fs)) (h : Value.okWide P w r base t v) : ∃ cs : Array Value, v = .agg cs ∧ v.cells.toList = cs.toList := by
  unfold Value.okWide at h
  rw [ht] at h
  obtain ⟨cs, rfl, _⟩ := h
  exact ⟨cs, rfl, rfl⟩
theorem cells_slice {w : World} {r : Reach} {base : Nat} {v : Value} {e : TypeId} (ht : P.underlying t = some (.slice e)) (h : Value.okWide P w r base t v) : v.cells.toList = [v] := by
  obtain ⟨a, l, c, rfl⟩ := WideShapes.okWide_slice ht h
  rfl
theorem agg_toList {cs : Array Value} {l : List Value} (h : cs.toList = l) : Value.agg cs = Value.agg l.toArray := by
  subst h
  simp
end Go.Proofs.Ytkcdhphhacjkhaa.OpenK
