/- An own row of plain structs, as the library's sort speaks of rows: there and back. -/
import Derived.Test.YtjmakjddhbdocaaWWords
import Derived.Shelf.SlSortCmp.WholeK
import Derived.Shelf.SlSortCmp.NoneTotal
import Derived.Shelf.SlGeneric
import Derived.Ground.SlsfProg
import Derived.Test.YtjmakjddhbdocaaWKept
namespace Go.Proofs.Ytjmakjddhbdocaa.SortK
open Go.RowKit Go.Proofs.YtjmakjddhbdocaaW.PrintWords Go.Proofs.YtjmakjddhbdocaaW.PrintWords.Kd Go.Lib Go.Sort
section
variable {α : Type} [Inhabited α]
theorem get_bang {l : List Value} {t : Nat} (h : t < l.length) : l[t]? = some l[t]! := by
  rw [List.getElem!_eq_getElem?_getD, List.getElem?_eq_getElem h]
  rfl
theorem R_holds (d : Kd α) (enc : α → List Value) (hsz : 0 < d.sz) (henc : ∀ w base ok x cs, d.M w base ok x cs → cs = enc x) {e g n cap : Nat} {W : World} {base : Nat} {ok : Nat → Prop} {xs : List α} (HO : d.R e W base ok (.slice (some ⟨g, 0, none⟩) n cap) xs) :
    HoldsK enc d.sz W g 0 xs.toArray := by
  have hn := (R_reads' HO).1
  intro t ht
  have htx : t < xs.length * d.sz := by simpa [flatK] using ht
  rw [get_flatK _ _ _ _ (by simpa using htx), Nat.zero_add]
  have hj : t / d.sz < xs.length := Nat.div_lt_of_lt_mul (by rw [Nat.mul_comm]; exact htx)
  obtain ⟨c, hcl, hM, hcc, hfr⟩ := R_elem HO xs[t / d.sz] ((t / d.sz : Nat) : Int) (Int.natCast_nonneg _) (by rw [hn]; exact Int.ofNat_lt.2 hj)
  rw [Int.toNat_natCast] at hM hcc hfr
  have ec := henc _ _ _ _ _ hM
  have ex : xs.getD (t / d.sz) xs[t / d.sz] = xs[t / d.sz] := by rw [List.getD_eq_getElem?_getD, List.getElem?_eq_getElem hj]; rfl
  rw [ex] at ec
  have eb : xs.toArray[t / d.sz]! = xs[t / d.sz] := by simp [hj]
  rw [eb]
  subst ec
  have hm : t % d.sz < (enc xs[t / d.sz]).length := by rw [hcl]; exact Nat.mod_lt _ hsz
  have et : t / d.sz * d.sz + t % d.sz = t := by rw [Nat.mul_comm]; exact Nat.div_add_mod _ _
  have h1 := hcc (t % d.sz) _ (get_bang hm)
  have h2 := hfr (t % d.sz)
  rw [et] at h1 h2
  exact ⟨h1, h2⟩
theorem flat_size (enc : α → List Value) (k : Nat) (d : Array α) : (flatK enc k d).size = d.size * k := by simp [flatK]
theorem flat_part (enc : α → List Value) (k : Nat) (hk : ∀ x, (enc x).length = k) (d : Array α) (j : Nat) (p : α) (hj : d.toList[j]? = some p) : ((flatK enc k d).toList.drop (j * k)).take k = enc p := by
  have hjl : j < d.size := by simpa using (List.getElem?_eq_some_iff.1 hj).1
  have hp : d[j]! = p := by
    rw [getElem!_pos d j hjl]
    have := (List.getElem?_eq_some_iff.1 hj).2
    simpa using this
  have h1 : j * k + k ≤ d.size * k := by rw [← Nat.succ_mul]; exact Nat.mul_le_mul_right _ hjl
  refine List.ext_getElem (by rw [List.length_take, List.length_drop, Array.length_toList, flat_size, hk]; omega) (fun i hi1 hi2 => ?_)
  rw [hk] at hi2
  have hk0 : 0 < k := by omega
  have hlt : j * k + i < d.size * k := by omega
  have hg := get_flatK enc k d (j * k + i) hlt
  rw [getElem!_pos _ _ (by rw [flat_size]; exact hlt)] at hg
  have e1 : (j * k + i) / k = j := by rw [Nat.mul_comm, Nat.mul_add_div hk0, Nat.div_eq_of_lt hi2, Nat.add_zero]
  have e2 : (j * k + i) % k = i := by rw [Nat.mul_comm, Nat.mul_add_mod, Nat.mod_eq_of_lt hi2]
  rw [e1, e2, hp] at hg
  rw [List.getElem_take, List.getElem_drop, Array.getElem_toList, hg, getElem!_pos _ _ (by rw [hk]; exact hi2)]
theorem sorted_block (enc : α → List Value) (k g m : Nat) (W : World) (d' : Array α) (os : Array Obj) {cur : Array Value} {e : Nat} (hh : W.heap[g]? = some (.cells cur e (0, 0))) :
    (sortWorldK enc k W g 0 m d' os).heap[g]? = some (.cells (putCells id 0 (flatK enc k d') cur) e (0, 0)) := by
  have hg : g < W.heap.size := (Array.getElem?_eq_some_iff.1 hh).1
  have h1 : (W.heap.modify g (onCells (putCells id 0 (flatK enc k d'))))[g]? = some (.cells (putCells id 0 (flatK enc k d') cur) e (0, 0)) := by
    rw [Array.getElem?_modify, if_pos rfl, hh]
    rfl
  show (W.heap.modify g (onCells (putCells id 0 (flatK enc k d'))) ++ os)[g]? = _
  rw [Array.getElem?_append_left (by simpa using hg), h1]
theorem sorted_far (enc : α → List Value) (k g m : Nat) (W : World) (d' : Array α) (os : Array Obj) (i : Nat) (hi : i < W.heap.size) (hne : i ≠ g) : (sortWorldK enc k W g 0 m d' os).heap[i]? = W.heap[i]? := by
  show (W.heap.modify g (onCells (putCells id 0 (flatK enc k d'))) ++ os)[i]? = _
  rw [Array.getElem?_append_left (by simpa using hi), Array.getElem?_modify, if_neg (fun h => hne h.symm)]
theorem sorted_grown (enc : α → List Value) (k g m : Nat) (W : World) (d' : Array α) (os : Array Obj) : W.grownBy (sortWorldK enc k W g 0 m d' os) (some g) := by
  refine ⟨rfl, rfl, rfl, ?_, fun i hi hne => sorted_far enc k g m W d' os i hi (fun h => hne (by rw [h]))⟩
  show W.heap.size ≤ (W.heap.modify g (onCells (putCells id 0 (flatK enc k d'))) ++ os).size
  simp
theorem put_take (F cur : Array Value) (h : F.size ≤ cur.size) : (putCells id 0 F cur).toList.take F.size = F.toList := by
  refine List.ext_getElem (by simp [putCells]; omega) (fun i hi1 hi2 => ?_)
  have hi : i < F.size := by simpa using hi2
  rw [List.getElem_take, Array.getElem_toList]
  simp [putCells, hi]
theorem R_sorted (d : Kd α) (enc : α → List Value) (hk : ∀ x, (enc x).length = d.sz) (hM : ∀ w base ok x, d.M w base ok x (enc x)) {e g n cap m : Nat} {W : World} {base : Nat} {ok : Nat → Prop} {xs : List α} (d' : Array α) (os : Array Obj) (hs : d'.size = xs.length) (HO : d.R e W base ok (.slice (some ⟨g, 0, none⟩) n cap) xs) :
    d.R e (sortWorldK enc d.sz W g 0 m d' os) base ok (.slice (some ⟨g, 0, none⟩) n cap) d'.toList := by
  have hn := (R_reads' HO).1
  obtain ⟨hok, inner, hown, hr⟩ := HO
  rcases hown.2 with ⟨hv, _⟩ | ⟨g', cap', cur, hv, hb, hh, hml, hcm, hcs, htake⟩
  · cases hv
  injection hv with ha _ hc
  injection ha with ha
  injection ha with hg
  subst hg; subst hc
  have hfs : (flatK enc d.sz d').size = xs.length * d.sz := by rw [flat_size, hs]
  have hxl : xs.length * d.sz ≤ cur.size := by rw [hcs]; exact Nat.mul_le_mul_right _ (by omega)
  have hdl : d'.toList.length = xs.length := by simpa using hs
  refine ⟨hok, (flatK enc d.sz d').toList, ⟨?_, .inr ⟨g, cap, putCells id 0 (flatK enc d.sz d') cur, by rw [hdl, ← hn], hb, sorted_block enc d.sz g m W d' os hh, by omega, hcm, by simpa [putCells] using hcs, ?_⟩⟩, ?_, fun j p hj => ?_⟩
  · rw [Array.length_toList, hfs, hdl]
  · rw [hdl, ← hfs]
    exact put_take _ _ (by omega)
  · rw [Array.length_toList, hfs, hdl]
  · rw [flat_part enc d.sz hk d' j p hj]
    exact hM _ _ _ p
end
end Go.Proofs.Ytjmakjddhbdocaa.SortK
