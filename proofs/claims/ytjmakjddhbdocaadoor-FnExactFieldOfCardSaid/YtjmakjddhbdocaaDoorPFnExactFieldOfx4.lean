-- Written by a program of this session (wip/xprint.py).
import Derived.Test.YtjmakjddhbdocaaDoorPFnExactFieldOfx0
import Derived.Test.YtjmakjddhbdocaaDoorPFnExactFieldOfx1
import Derived.Test.YtjmakjddhbdocaaDoorPFnExactFieldOfx2
import Derived.Test.YtjmakjddhbdocaaDoorPFnExactFieldOfx3
namespace Go.Proofs.YtjmakjddhbdocaaDoor.PFnExactFieldOf
open Go.RowKit Go.Proofs.YtjmakjddhbdocaaDoorW.PrintWords Go.Proofs.YtjmakjddhbdocaaDoorW.PrintLast Go.Proofs.YtjmakjddhbdocaaDoorW.PrintMore
open Go.Proofs.YtjmakjddhbdocaaDoor.ShortK (bN bD bA sA sZ sS mR mB bX bLt bS cz2 fz2 cx2 cz3 fz3 cx3 cz4 fz4 cx4 cz5 fz5 cx5 cz6 fz6 cx6 cz7 fz7 cx7 cz8 fz8 cx8 cz9 fz9 cx9 cz10 fz10 cx10 cz11 fz11 cx11 cz12 fz12 cx12)
attribute [local go_sem] Go.Proofs.YtjmakjddhbdocaaDoor.StoreK.isSome_setCell max2_int min2_int max_two min_two max_three min_three max_four min_four   -- for this text's walks alone
set_option linter.unusedVariables false
set_option linter.unusedSimpArgs false

/-! ### impl_Field_20: function 83 -/
def impl_Field_20.p (k : Nat) (x : S36) : Option Bool := impl_GoodFields_1.f k x.f0 x.f1
def impl_Field_20.f (k : Nat) (l0 : List (S36)) : Option (Bool) := if (l0.all fun x => (impl_Field_20.p k x).isSome) = true then (some (l0.any fun x => (impl_Field_20.p k x).getD false)) else none
theorem impl_Field_20.mono : ∀ (l0 : List (S36)) (k : Nat), LeO (impl_Field_20.f k l0) (impl_Field_20.f (k + 1) l0) := by
  intro l0 k r h
  unfold impl_Field_20.f at h ⊢
  by_cases ha : (l0.all fun x => (impl_Field_20.p k x).isSome) = true
  · rw [if_pos ha] at h
    have he : ∀ x, x ∈ l0 → impl_Field_20.p (k + 1) x = impl_Field_20.p k x := fun x hx => by
      obtain ⟨b, hb⟩ := Option.isSome_iff_exists.1 (List.all_eq_true.1 ha x hx)
      rw [hb]
      exact impl_GoodFields_1.mono _ _ k b hb
    have ha' : (l0.all fun x => (impl_Field_20.p (k + 1) x).isSome) = true := List.all_eq_true.2 (fun x hx => by rw [he x hx]; exact List.all_eq_true.1 ha x hx)
    have hn : (l0.any fun x => (impl_Field_20.p (k + 1) x).getD false) = (l0.any fun x => (impl_Field_20.p k x).getD false) := by
      rw [Bool.eq_iff_iff, List.any_eq_true, List.any_eq_true]
      exact ⟨fun ⟨x, hx, h⟩ => ⟨x, hx, by rw [← he x hx]; exact h⟩, fun ⟨x, hx, h⟩ => ⟨x, hx, by rw [he x hx]; exact h⟩⟩
    rw [if_pos ha', hn]
    exact h
  · rw [if_neg ha] at h
    cases h
set_option maxHeartbeats 4000000 in
set_option maxRecDepth 100000 in
theorem impl_Field_20.calls (k : Nat) (A0 : Option Addr) (c0 : Nat) (l0 : List (S36)) (r : Bool) (w : World) (hr0 : Kd.C k36 w A0 l0.length l0) (hc0 : l0.length ≤ c0) (h : impl_Field_20.f k l0 = some r) :
    Calls Tryd.prog 19 #[.slice A0 l0.length c0, .func (.func 20) #[] #[]] w fun e w' => e = .returned (.bool r) ∧ Below w.heap.size w w' := by
  have hs : (l0.all fun x => (impl_Field_20.p k x).isSome) = true ∧ (l0.any fun x => (impl_Field_20.p k x).getD false) = r := by
    unfold impl_Field_20.f at h
    split at h
    · exact ⟨by assumption, Option.some.inj h⟩
    · cases h
  obtain ⟨ha, rfl⟩ := hs
  have eg : ∀ args w, (callFunc 20 args).run Tryd.prog w = .ok (.enter 20 args) w := enters_ Tryd.func20 (by kernel_rfl) rfl
  exact anyF_Field A0 c0 l0 20 #[] (fun x => (impl_Field_20.p k x).getD false) w eg
    (fun W x hx hb => by
      have hq := List.all_eq_true.1 ha x hx
      obtain ⟨b, hb'⟩ := Option.isSome_iff_exists.1 hq
      refine (show Calls Tryd.prog 20 (#[.agg #[.string x.f0, .string x.f1]] ++ #[]) W _ from ?_)
      rw [hb', Option.getD_some]
      exact (impl_GoodFields_1.calls k x.f0 x.f1 b W hb').mono fun e w' hh => ⟨hh.1, hb.trans ((show Below W.heap.size W w' from by first | exact hh.2 | exact hh.2.below).mono hb.size)⟩) hr0

/-! ### impl_GoodFields: function 9 -/
/-- What the closure says of an element. -/
def GoodFieldsP (k : Nat) (x : S36) : Option Bool := impl_GoodFields_1.f k x.f0 x.f1
def impl_GoodFields.f (k : Nat) (l0 : List (S36)) : Option (Bool) := if (l0.all fun x => (GoodFieldsP k x).isSome) = true then (some (decide ((l0.length : Int) ≤ 30) && !(l0.any fun x => (GoodFieldsP k x).getD false))) else none
theorem impl_GoodFields.mono : ∀ (l0 : List (S36)) (k : Nat), LeO (impl_GoodFields.f k l0) (impl_GoodFields.f (k + 1) l0) := by
  intro l0 k r h
  unfold impl_GoodFields.f at h ⊢
  by_cases ha : (l0.all fun x => (GoodFieldsP k x).isSome) = true
  · rw [if_pos ha] at h
    have he : ∀ x, x ∈ l0 → GoodFieldsP (k + 1) x = GoodFieldsP k x := fun x hx => by
      obtain ⟨b, hb⟩ := Option.isSome_iff_exists.1 (List.all_eq_true.1 ha x hx)
      rw [hb]
      exact impl_GoodFields_1.mono _ _ k b hb
    have ha' : (l0.all fun x => (GoodFieldsP (k + 1) x).isSome) = true := List.all_eq_true.2 (fun x hx => by rw [he x hx]; exact List.all_eq_true.1 ha x hx)
    have hn : (l0.any fun x => (GoodFieldsP (k + 1) x).getD false) = (l0.any fun x => (GoodFieldsP k x).getD false) := by
      rw [Bool.eq_iff_iff, List.any_eq_true, List.any_eq_true]
      exact ⟨fun ⟨x, hx, h⟩ => ⟨x, hx, by rw [← he x hx]; exact h⟩, fun ⟨x, hx, h⟩ => ⟨x, hx, by rw [he x hx]; exact h⟩⟩
    rw [if_pos ha', hn]
    exact h
  · rw [if_neg ha] at h
    cases h
theorem GoodFieldsP_calls (k : Nat) (x : S36) (b : Bool) (W : World) (h : GoodFieldsP k x = some b) :
    Calls Tryd.prog 20 #[.agg #[.string x.f0, .string x.f1]] W fun e w' => e = .returned (.bool b) ∧ Below W.heap.size W w' :=
  (impl_GoodFields_1.calls k x.f0 x.f1 b W h).mono fun e w' hh => ⟨hh.1, by first | exact hh.2 | exact hh.2.below⟩
set_option maxHeartbeats 4000000 in
set_option maxRecDepth 100000 in
theorem impl_GoodFields.calls (k : Nat) (A0 : Option Addr) (c0 : Nat) (l0 : List (S36)) (r : Bool) (w : World) (hr0 : Kd.C k36 w A0 l0.length l0) (hc0 : l0.length ≤ c0) (h : impl_GoodFields.f k l0 = some r) :
    Calls Tryd.prog 9 #[.slice A0 l0.length c0] w fun e w' => e = .returned (.bool r) ∧ Below w.heap.size w w' := by
  have hs : (l0.all fun x => (GoodFieldsP k x).isSome) = true ∧ (decide ((l0.length : Int) ≤ 30) && !(l0.any fun x => (GoodFieldsP k x).getD false)) = r := by
    unfold impl_GoodFields.f at h
    split at h
    · exact ⟨by assumption, Option.some.inj h⟩
    · cases h
  clear h
  obtain ⟨ha, rfl⟩ := hs
  have eg : ∀ args w, (callFunc 20 args).run Tryd.prog w = .ok (.enter 20 args) w := enters_ Tryd.func20 (by kernel_rfl) rfl
  have hcon := anyF_Field A0 c0 l0 20 #[] (fun x => (GoodFieldsP k x).getD false) w eg
    (fun W x hx hb => by
      have hq := List.all_eq_true.1 ha x hx
      obtain ⟨b, hb'⟩ := Option.isSome_iff_exists.1 hq
      refine (show Calls Tryd.prog 20 (#[.agg #[.string x.f0, .string x.f1]] ++ #[]) W _ from ?_)
      rw [hb', Option.getD_some]
      exact (GoodFieldsP_calls k x b W hb').mono fun e w' hh => ⟨hh.1, hb.trans (hh.2.mono hb.size)⟩) hr0
  clear hr0 eg ha
  have HB := Aside0.mk (Below.refl w.heap.size w)
  generalize (l0.any fun x => (GoodFieldsP k x).getD false) = q at hcon ⊢
  by_cases hl : (l0.length : Int) ≤ 30
  · have c1 : decide ((l0.length : Int) ≤ 30) = true := decide_eq_true hl
    rw [c1]
    clear hl
    go_enter Tryd.func9, Tryd.ntmps9
    go_wp2_with fail
    refine hcon.mono ?_
    rintro e w' ⟨rfl, hb'⟩
    go_wp2
    go_ret
    exact ⟨rfl, HB.out.trans (hb'.mono (by simp))⟩
  · have c1 : decide ((l0.length : Int) ≤ 30) = false := decide_eq_false hl
    rw [c1]
    clear hl hcon
    go_enter Tryd.func9, Tryd.ntmps9
    go_wp2_with fail
    go_ret
    exact ⟨rfl, HB.out⟩

-- NOT PRINTED: function 24 (impl_FieldOf_1)

/-! ### impl_FieldOf: function 12 -/
theorem idxFrom_inF (p : S36 → Bool) : ∀ (l : List S36) (i : Nat), -1 ≤ Go.Proofs.YtjmakjddhbdocaaDoor.IdxK.idxFrom p l i ∧ Go.Proofs.YtjmakjddhbdocaaDoor.IdxK.idxFrom p l i < ((i + l.length : Nat) : Int)
  | [], i => by simp only [Go.Proofs.YtjmakjddhbdocaaDoor.IdxK.idxFrom, List.length_nil]; omega
  | x :: r, i => by
    have ih := idxFrom_inF p r (i + 1)
    simp only [Go.Proofs.YtjmakjddhbdocaaDoor.IdxK.idxFrom, List.length_cons]
    split
    · omega
    · omega
def impl_FieldOf.f (k : Nat) (l0 : List S36) (a1 : ByteArray) : Option (ByteArray × Bool) := (impl_GoodFields.f k l0).bind fun g => if g = true then (if Go.Proofs.YtjmakjddhbdocaaDoor.IdxK.idxF (fun g => g.f0.toList == a1.toList) l0 < 0 then some ((⟨#[]⟩ : ByteArray), false) else some ((rd_T36 l0 (Go.Proofs.YtjmakjddhbdocaaDoor.IdxK.idxF (fun g => g.f0.toList == a1.toList) l0)).f1, true)) else some ((⟨#[]⟩ : ByteArray), false)
theorem impl_FieldOf.mono : ∀ (l0 : List S36) (a1 : ByteArray) (k : Nat), LeO (impl_FieldOf.f k l0 a1) (impl_FieldOf.f (k + 1) l0 a1) := by
  intro l0 a1 k
  unfold impl_FieldOf.f
  exact LeO.bind (impl_GoodFields.mono _ _) (fun _ => LeO.refl _)
set_option maxHeartbeats 4000000 in
theorem fieldOf1_calls (n0 : ByteArray) (B : Nat) (w : World) (hB : B < w.heap.size) (hcell : w.cell? ⟨B, 0, none⟩ = some (.string n0)) (W : World) (x : S36) (hb : Below w.heap.size w W) :
    Calls Tryd.prog 24 #[.agg #[.string x.f0, .string x.f1], .pointer (some ⟨B, 0, none⟩)] W fun e w' => e = .returned (.bool (x.f0.toList == n0.toList)) ∧ Below w.heap.size w w' := by
  have hc : W.cell? ⟨B, 0, none⟩ = some (.string n0) := (hb.cell (p := ⟨B, 0, none⟩) hB).trans hcell
  have hBW : B < W.heap.size := Nat.lt_of_lt_of_le hB hb.size
  have hne : B ≠ W.heap.size := by omega
  have HD := Aside0.mk (hb.alloc hb.size (.cells #[.string x.f0, .string x.f1] 36))
  clear hb hcell
  go_enter Tryd.func24, Tryd.ntmps24
  go_wp2
  go_ret
  exact ⟨rfl, HD.out⟩
set_option maxHeartbeats 4000000 in
set_option maxRecDepth 100000 in
theorem impl_FieldOf.calls (k : Nat) (A0 : Option Addr) (c0 : Nat) (l0 : List (S36)) (a1 : ByteArray) (r1 : ByteArray) (r2 : Bool) (w : World) (hr0 : Kd.C k36 w A0 l0.length l0) (hc0 : l0.length ≤ c0) (h : impl_FieldOf.f k l0 a1 = some (r1, r2)) :
    Calls Tryd.prog 12 #[.slice A0 l0.length c0, .string a1] w fun e w' => e = .returned (.tuple #[.string r1, .bool r2]) ∧ Below w.heap.size w w' := by
  obtain ⟨gd, A1, H⟩ := Option.bind_eq_some_iff.mp h
  clear h
  have HA1 := Aside0.mk A1
  have HH := Aside0.mk H
  clear A1 H
  have hB0 : Below w.heap.size w (w.alloc (.cells #[.string a1] 9)) := (Below.refl _ w).alloc (Nat.le_refl _) _
  have HB := Aside0.mk hB0
  have HC0 : Aside0 ((w.alloc (.cells #[.string a1] 9)).heap[w.heap.size]? = some (.cells #[.string a1] 9 (0, 0))) := ⟨blk_new w _⟩
  have HR := Aside0.mk (Kd.C_below hr0 hB0)
  have HL := Aside0.mk hc0
  clear hB0 hr0 hc0
  generalize hgb : w.heap.size = gb at HC0 HB ⊢
  have HG : Aside0 (gb < (w.alloc (.cells #[.string a1] 9)).heap.size) := ⟨by rw [← hgb]; simp⟩
  have eg : ∀ args W, (callFunc 24 args).run Tryd.prog W = .ok (.enter 24 args) W := enters_ Tryd.func24 (by kernel_rfl) rfl
  have hidx := idxF_Field A0 c0 l0 24 #[.pointer (some ⟨gb, 0, none⟩)] (fun g => g.f0.toList == a1.toList) (w.alloc (.cells #[.string a1] 9)) eg
    (fun W x hx hb => fieldOf1_calls a1 gb _ HG.out ((blk_cell HC0.out 0).trans rfl) W x hb) HR.out
  clear eg
  have HX := Aside0.mk hidx
  clear hidx
  have HF := Aside0.mk hgb
  clear hgb
  generalize hq : Go.Proofs.YtjmakjddhbdocaaDoor.IdxK.idxF (fun g : S36 => g.f0.toList == a1.toList) l0 = q at HX HH
  have HQ : Aside0 (q < (l0.length : Int)) := ⟨by have := (idxFrom_inF (fun g : S36 => g.f0.toList == a1.toList) l0 0).2; rw [Nat.zero_add] at this; rw [← hq]; exact this⟩
  clear hq
  go_enter Tryd.func12, Tryd.ntmps12
  go_wp2_with fail
  rw [HF.out]
  refine HX.out.mono ?_
  rintro e w1 ⟨rfl, hb1⟩
  have HB1 := Aside0.mk (HB.out.trans (hb1.mono (by have := HB.out.size; have := HF.out; omega)))
  have HR1 := Aside0.mk (Kd.C_below HR.out hb1)
  clear hb1 HX HC0 HG HR HB
  go_wp2_with fail
  refine (impl_GoodFields.calls k A0 c0 l0 gd w1 HR1.out HL.out HA1.out).mono ?_
  rintro e w2 ⟨rfl, hb2⟩
  have HB2 := Aside0.mk (HB1.out.trans (hb2.mono (by have := HB1.out.size; have := HF.out; omega)))
  have HR2 := Aside0.mk (Kd.C_below HR1.out hb2)
  clear hb2 HB1 HR1 HA1
  have H := HH.out
  clear HH
  cases gd with
  | false =>
    simp only [Bool.false_eq_true, if_false, Option.some.injEq, Prod.mk.injEq] at H
    obtain ⟨rfl, rfl⟩ := H
    go_wp2
    go_ret2
    exact ⟨rfl, HF.out ▸ HB2.out⟩
  | true =>
    rw [if_pos rfl] at H
    by_cases hq : q < 0
    · rw [if_pos hq] at H
      simp only [Option.some.injEq, Prod.mk.injEq] at H
      obtain ⟨rfl, rfl⟩ := H
      have hq1 : decide (q < 0) = true := decide_eq_true hq
      go_wp2
      go_ret2
      exact ⟨rfl, HF.out ▸ HB2.out⟩
    · rw [if_neg hq] at H
      simp only [Option.some.injEq, Prod.mk.injEq] at H
      obtain ⟨rfl, rfl⟩ := H
      have hq1 : decide (q < 0) = false := decide_eq_false hq
      obtain ⟨ad, eA, hx0, hx1⟩ := at_T36 HR2.out q (by omega) HQ.out
      subst eA
      have hltz : q < (l0.length : Int) := HQ.out
      have hnn : 0 ≤ q := by omega
      generalize hy : rd_T36 l0 q = y at hx0 hx1
      have HY := Aside0.mk hy
      clear hy
      go_wp2
      go_ret2
      exact ⟨by rw [HY.out]; rfl, HF.out ▸ HB2.out⟩

/-! ### laws_FnExactFieldOf: function 4 -/
def laws_FnExactFieldOf.j0 : Nat → List (S35) → List (S36) → Bool → Option (Bool)
 | 0, _, _, _ => none
 | k + 1, x0, x8, x41 => if x41 = true then (some false) else ((laws_toFieldS.f k x0).bind fun t150 => ((laws_eqFieldS.f k x8 t150).bind fun t153 => (if t153 = true then (some true) else (some false))))
def laws_FnExactFieldOf.f (k : Nat) (l0 : List (S35)) (a1 : ByteArray) : Option (Bool) := if (a1.size : Int) > 1048576 then (some true) else ((laws_szFieldS.f k l0 1048576).bind fun t139 => (if t139 < 0 then (some true) else ((laws_toFieldS.f k l0).bind fun t140 => ((spec_FieldOf.f k t140 a1).bind fun bt143 => ((laws_toFieldS.f k l0).bind fun t145 => ((impl_FieldOf.f k t145 a1).bind fun bt148 => (if bt148.1.toList = bt143.1.toList then (laws_FnExactFieldOf.j0 k l0 t145 (bt148.2 != bt143.2)) else (laws_FnExactFieldOf.j0 k l0 t145 true))))))))
theorem laws_FnExactFieldOf.mono_l : ∀ k, (∀ y0 y1 y2, LeO (laws_FnExactFieldOf.j0 k y0 y1 y2) (laws_FnExactFieldOf.j0 (k + 1) y0 y1 y2))
 | 0 => fun _ _ _ r h => by simp [laws_FnExactFieldOf.j0] at h
 | k + 1 => by
  have ih0 := laws_FnExactFieldOf.mono_l k
  ·intro y0 y1 y2
   unfold laws_FnExactFieldOf.j0
   repeat' first
   | (with_reducible exact ih0 _ _ _)
   | (with_reducible exact impl_FieldOf.mono _ _ _)
   | (with_reducible exact laws_eqFieldS.mono _ _ _)
   | (with_reducible exact laws_szFieldS.mono _ _ _)
   | (with_reducible exact laws_toFieldS.mono _ _)
   | (with_reducible exact spec_FieldOf.mono _ _ _)
   | (with_reducible exact LeO.refl _)
   | (with_reducible exact LeO.none _)
   | (with_reducible refine LeO.ite ?_ ?_)
   | (with_reducible refine LeO.bind ?_ (fun _ => ?_))
   | exact ih0 _ _ _
   | exact impl_FieldOf.mono _ _ _
   | exact laws_eqFieldS.mono _ _ _
   | exact laws_szFieldS.mono _ _ _
   | exact laws_toFieldS.mono _ _
   | exact spec_FieldOf.mono _ _ _
   | exact LeO.none _
   | refine LeO.ite ?_ ?_
   | refine LeO.bind ?_ (fun _ => ?_)
theorem laws_FnExactFieldOf.mono : ∀ a0 a1 k, LeO (laws_FnExactFieldOf.f k a0 a1) (laws_FnExactFieldOf.f (k + 1) a0 a1) := by
 intro a0 a1 k
 have ih0 := laws_FnExactFieldOf.mono_l k
 unfold laws_FnExactFieldOf.f
 repeat' first
   | (with_reducible exact ih0 _ _ _)
   | (with_reducible exact impl_FieldOf.mono _ _ _)
   | (with_reducible exact laws_eqFieldS.mono _ _ _)
   | (with_reducible exact laws_szFieldS.mono _ _ _)
   | (with_reducible exact laws_toFieldS.mono _ _)
   | (with_reducible exact spec_FieldOf.mono _ _ _)
   | (with_reducible exact LeO.refl _)
   | (with_reducible exact LeO.none _)
   | (with_reducible refine LeO.ite ?_ ?_)
   | (with_reducible refine LeO.bind ?_ (fun _ => ?_))
   | exact ih0 _ _ _
   | exact impl_FieldOf.mono _ _ _
   | exact laws_eqFieldS.mono _ _ _
   | exact laws_szFieldS.mono _ _ _
   | exact laws_toFieldS.mono _ _
   | exact spec_FieldOf.mono _ _ _
   | exact LeO.none _
   | refine LeO.ite ?_ ?_
   | refine LeO.bind ?_ (fun _ => ?_)
set_option maxHeartbeats 64000000 in
set_option maxRecDepth 100000 in
theorem laws_FnExactFieldOf.calls (k : Nat) (A0 : Option Addr) (c0 : Nat) (l0 : List (S35)) (a1 : ByteArray) (r : Bool) (w : World) (hr0 : Kd.C k35 w A0 l0.length l0) (hc0 : l0.length ≤ c0) (h : laws_FnExactFieldOf.f k l0 a1 = some r) :
  Calls Tryd.prog 4 #[.slice A0 l0.length c0, .string a1] w fun e w' => e = .returned (.bool r) ∧ Below w.heap.size w w' := by
 have HR0 := Aside0.mk hr0
 have HC0 := Aside0.mk hc0
 clear hr0 hc0
 have HB := Aside0.mk (Below.refl w.heap.size w)
 have H : (if (a1.size : Int) > 1048576 then (some true) else ((laws_szFieldS.f k l0 1048576).bind fun t139 => (if t139 < 0 then (some true) else ((laws_toFieldS.f k l0).bind fun t140 => ((spec_FieldOf.f k t140 a1).bind fun bt143 => ((laws_toFieldS.f k l0).bind fun t145 => ((impl_FieldOf.f k t145 a1).bind fun bt148 => (if bt148.1.toList = bt143.1.toList then (laws_FnExactFieldOf.j0 k l0 t145 (bt148.2 != bt143.2)) else (laws_FnExactFieldOf.j0 k l0 t145 true))))))))) = some r := h
 clear h
 by_cases c3 : (a1.size : Int) > 1048576
 ·rw [if_pos c3] at H
  have c3b0 : decide (1048576 < (a1.size : Int)) = true := decide_eq_true c3
  have c3b1 : decide (1048576 < a1.size) = true := decide_eq_true (by omega)
  clear c3
  obtain rfl := Option.some.inj H
  go_enter Tryd.func4, Tryd.ntmps4
  go_wp2
  go_ret
  exact ⟨by first | rfl | (simp [errW_none, errW_some] <;> rfl) | (simp [*, errW_none, errW_some] <;> rfl), by repeat (first | (with_reducible first | exact HB.out | apply below_alloc | apply pw_below_drewN | apply below_drew1) | exact HB.out)⟩
 ·rw [if_neg c3] at H
  have c3b0 : decide (1048576 < (a1.size : Int)) = false := decide_eq_false c3
  have c3b1 : decide (1048576 < a1.size) = false := decide_eq_false (by omega)
  clear c3
  replace H := Option.bind_eq_some_iff.mp H
  obtain ⟨t139, A40, H⟩ := H
  replace H : (if t139 < 0 then (some true) else ((laws_toFieldS.f k l0).bind fun t140 => ((spec_FieldOf.f k t140 a1).bind fun bt143 => ((laws_toFieldS.f k l0).bind fun t145 => ((impl_FieldOf.f k t145 a1).bind fun bt148 => (if bt148.1.toList = bt143.1.toList then (laws_FnExactFieldOf.j0 k l0 t145 (bt148.2 != bt143.2)) else (laws_FnExactFieldOf.j0 k l0 t145 true))))))) = some r := H
  have A4 := Aside0.mk A40
  clear A40
  by_cases c5 : t139 < 0
  ·rw [if_pos c5] at H
   have c5b0 : decide (t139 < 0) = true := decide_eq_true c5
   clear c5
   obtain rfl := Option.some.inj H
   go_enter Tryd.func4, Tryd.ntmps4
   go_wp2_with (first | ((with_reducible refine gate_callee (f := 6) rfl ?_); refine goesL_ (some 16) rfl rfl Tryd.func6 (by kernel_rfl) rfl #[.slice A0 l0.length c0, .int .i64 1048576] rfl (by (try simp only [List.map_toArray, List.map_cons, List.map_nil]); first | done | rfl | (simp only [List.length_drop, List.length_take]; rfl)) ?_; (with_reducible refine (laws_szFieldS.calls k _ _ l0 1048576 t139 _ ?side1 ?side2 A4.out).mono ?_); (case side1 => repeat (first | exact HR0.out | (with_reducible refine Kd.C_alloc ?_ _) | (with_reducible refine Kd.C_drewN ?_ _) | (with_reducible refine Kd.C_drew ?_))); (case side2 => exact HC0.out); rintro e w6 ⟨rfl, hb⟩; refine ⟨_, rfl, ?_⟩; have n0_ := bS HB hb; clear HB; have HB := n0_; clear n0_; (try clear hb); (try clear hb2); (try clear hk); (try clear hi)))
   go_ret
   exact ⟨by first | rfl | (simp [errW_none, errW_some] <;> rfl) | (simp [*, errW_none, errW_some] <;> rfl), by repeat (first | (with_reducible first | exact HB.out | apply below_alloc | apply pw_below_drewN | apply below_drew1) | exact HB.out)⟩
  ·rw [if_neg c5] at H
   have c5b0 : decide (t139 < 0) = false := decide_eq_false c5
   clear c5
   replace H := Option.bind_eq_some_iff.mp H
   obtain ⟨t140, A70, H⟩ := H
   replace H : ((spec_FieldOf.f k t140 a1).bind fun bt143 => ((laws_toFieldS.f k l0).bind fun t145 => ((impl_FieldOf.f k t145 a1).bind fun bt148 => (if bt148.1.toList = bt143.1.toList then (laws_FnExactFieldOf.j0 k l0 t145 (bt148.2 != bt143.2)) else (laws_FnExactFieldOf.j0 k l0 t145 true))))) = some r := H
   have A7 := Aside0.mk A70
   clear A70
   replace H := Option.bind_eq_some_iff.mp H
   obtain ⟨⟨t143, t144⟩, A80, H⟩ := H
   replace H : ((laws_toFieldS.f k l0).bind fun t145 => ((impl_FieldOf.f k t145 a1).bind fun bt148 => (if bt148.1.toList = t143.toList then (laws_FnExactFieldOf.j0 k l0 t145 (bt148.2 != t144)) else (laws_FnExactFieldOf.j0 k l0 t145 true)))) = some r := H
   have A8 := Aside0.mk A80
   clear A80
   replace H := Option.bind_eq_some_iff.mp H
   obtain ⟨t145, A90, H⟩ := H
   replace H : ((impl_FieldOf.f k t145 a1).bind fun bt148 => (if bt148.1.toList = t143.toList then (laws_FnExactFieldOf.j0 k l0 t145 (bt148.2 != t144)) else (laws_FnExactFieldOf.j0 k l0 t145 true))) = some r := H
   have A9 := Aside0.mk A90
   clear A90
   replace H := Option.bind_eq_some_iff.mp H
   obtain ⟨⟨t148, t149⟩, A100, H⟩ := H
   replace H : (if t148.toList = t143.toList then (laws_FnExactFieldOf.j0 k l0 t145 (t149 != t144)) else (laws_FnExactFieldOf.j0 k l0 t145 true)) = some r := H
   have A10 := Aside0.mk A100
   clear A100
   have HC11 := Aside0.mk H
   clear H
   go_enter Tryd.func4, Tryd.ntmps4
   go_upto_region 10 with (first | ((with_reducible refine gate_callee (f := 6) rfl ?_); refine goesL_ (some 16) rfl rfl Tryd.func6 (by kernel_rfl) rfl #[.slice A0 l0.length c0, .int .i64 1048576] rfl (by (try simp only [List.map_toArray, List.map_cons, List.map_nil]); first | done | rfl | (simp only [List.length_drop, List.length_take]; rfl)) ?_; (with_reducible refine (laws_szFieldS.calls k _ _ l0 1048576 t139 _ ?side1 ?side2 A4.out).mono ?_); (case side1 => repeat (first | exact HR0.out | (with_reducible refine Kd.C_alloc ?_ _) | (with_reducible refine Kd.C_drewN ?_ _) | (with_reducible refine Kd.C_drew ?_))); (case side2 => exact HC0.out); rintro e w12 ⟨rfl, hb⟩; refine ⟨_, rfl, ?_⟩; have n0_ := bS HB hb; clear HB; have HB := n0_; clear n0_; (try clear hb); (try clear hb2); (try clear hk); (try clear hi)) | ((with_reducible refine gate_callee (f := 8) rfl ?_); refine goesL_ (some 21) rfl rfl Tryd.func8 (by kernel_rfl) rfl #[.slice A0 l0.length c0] rfl (by (try simp only [List.map_toArray, List.map_cons, List.map_nil]); first | done | rfl | (simp only [List.length_drop, List.length_take]; rfl)) ?_; (with_reducible refine (laws_toFieldS.calls k _ _ l0 t140 _ ?side1 ?side2 A7.out).mono ?_); (case side1 => repeat (first | exact (Kd.C_below HR0.out HB.out) | (with_reducible refine Kd.C_alloc ?_ _) | (with_reducible refine Kd.C_drewN ?_ _) | (with_reducible refine Kd.C_drew ?_))); (case side2 => exact HC0.out); rintro e w13 ⟨v141, rfl, ho0, hb⟩; refine ⟨_, rfl, ?_⟩; have n0_ := Aside0.mk (Kd.R_lower ho0 (below_size (by repeat (first | (with_reducible first | exact HB.out | apply below_alloc | apply pw_below_drewN | apply below_drew1) | exact HB.out)))); have n1_ := bS HB hb; clear HB; have HO142 := n0_; have HB := n1_; clear n0_ n1_; (try clear hb); (try clear hb2); (try clear hk); (try clear hi); (try clear ho0); obtain ⟨Ao14, co14, eo14⟩ := Kd.R_slice HO142.out; subst eo14) | ((with_reducible refine gate_callee (f := 11) rfl ?_); refine goesL_ (some 23) rfl rfl Tryd.func11 (by kernel_rfl) rfl #[.slice Ao14 t140.length co14, .string a1] rfl (by (try simp only [List.map_toArray, List.map_cons, List.map_nil]); first | done | rfl | (simp only [List.length_drop, List.length_take]; rfl)) ?_; (with_reducible refine (spec_FieldOf.calls k _ _ t140 a1 t143 t144 _ ?side1 ?side2 A8.out).mono ?_); (case side1 => repeat (first | exact (Kd.R_reads' HO142.out).2.2 | (with_reducible refine Kd.C_alloc ?_ _) | (with_reducible refine Kd.C_drewN ?_ _) | (with_reducible refine Kd.C_drew ?_))); (case side2 => exact (Kd.R_reads' HO142.out).2.1); rintro e w15 ⟨rfl, hb⟩; refine ⟨_, rfl, ?_⟩; have n0_ := Aside0.mk (Kd.R_below (mR HO142.out) hb); have n1_ := bS HB hb; clear HO142; clear HB; have HO142 := n0_; have HB := n1_; clear n0_ n1_; (try clear hb); (try clear hb2); (try clear hk); (try clear hi)) | ((with_reducible refine gate_callee (f := 8) rfl ?_); refine goesL_ (some 27) rfl rfl Tryd.func8 (by kernel_rfl) rfl #[.slice A0 l0.length c0] rfl (by (try simp only [List.map_toArray, List.map_cons, List.map_nil]); first | done | rfl | (simp only [List.length_drop, List.length_take]; rfl)) ?_; (with_reducible refine (laws_toFieldS.calls k _ _ l0 t145 _ ?side1 ?side2 A9.out).mono ?_); (case side1 => repeat (first | exact (Kd.C_below HR0.out HB.out) | (with_reducible refine Kd.C_alloc ?_ _) | (with_reducible refine Kd.C_drewN ?_ _) | (with_reducible refine Kd.C_drew ?_))); (case side2 => exact HC0.out); rintro e w16 ⟨v146, rfl, ho0, hb⟩; refine ⟨_, rfl, ?_⟩; have n0_ := Aside0.mk (Kd.R_elder' (mR HO142.out) (Kd.R_base ho0) hb); have n1_ := Aside0.mk (Kd.R_lower (Kd.R_new' ho0 (Kd.R_lt (mR HO142.out))) (below_size (by repeat (first | (with_reducible first | exact HB.out | apply below_alloc | apply pw_below_drewN | apply below_drew1) | exact HB.out)))); have n2_ := bS HB hb; clear HO142; clear HB; have HO142 := n0_; have HO147 := n1_; have HB := n2_; clear n0_ n1_ n2_; (try clear hb); (try clear hb2); (try clear hk); (try clear hi); (try clear ho0); obtain ⟨Ao17, co17, eo17⟩ := Kd.R_slice HO147.out; subst eo17) | ((with_reducible refine gate_callee (f := 12) rfl ?_); refine goesL_ (some 31) rfl rfl Tryd.func12 (by kernel_rfl) rfl #[.slice Ao17 t145.length co17, .string a1] rfl (by (try simp only [List.map_toArray, List.map_cons, List.map_nil]); first | done | rfl | (simp only [List.length_drop, List.length_take]; rfl)) ?_; (with_reducible refine (impl_FieldOf.calls k _ _ t145 a1 t148 t149 _ ?side1 ?side2 A10.out).mono ?_); (case side1 => repeat (first | exact (Kd.R_reads' HO147.out).2.2 | (with_reducible refine Kd.C_alloc ?_ _) | (with_reducible refine Kd.C_drewN ?_ _) | (with_reducible refine Kd.C_drew ?_))); (case side2 => exact (Kd.R_reads' HO147.out).2.1); rintro e w18 ⟨rfl, hb⟩; refine ⟨_, rfl, ?_⟩; have n0_ := Aside0.mk (Kd.R_below (mR HO142.out) hb); have n1_ := Aside0.mk (Kd.R_below (mR HO147.out) hb); have n2_ := bS HB hb; clear HO142; clear HO147; clear HB; have HO142 := n0_; have HO147 := n1_; have HB := n2_; clear n0_ n1_ n2_; (try clear hb); (try clear hb2); (try clear hk); (try clear hi)))
   (try simp only [Act.put, sA, sZ, sS])
   go_cut [41] (fun v41 wc => ∃ (kq : Nat) (x41_10 : Bool), v41 = .bool x41_10 ∧ Aside0 (laws_FnExactFieldOf.j0 kq l0 t145 x41_10 = some r) ∧ Aside0 (kq ≤ k) ∧ Aside0 (Kd.R k36 36 wc w.heap.size (fun _ => True) (.slice Ao17 t145.length co17) t145) ∧ Aside0 (Below w.heap.size w wc))
   case first =>
    have H := HC11.out
    clear HC11
    by_cases c19 : t148.toList = t143.toList
    ·rw [if_pos c19] at H
     have c19b0 : (t148.toList == t143.toList) = true := beq_iff_eq.mpr c19
     have c19b1 : (t148.toList != t143.toList) = false := bne_eq_false_iff_eq.mpr c19
     clear c19
     (first | rw [c19b0] | (simp only [i64_w, i32_w]; rw [c19b0]) | skip)
     have H' := Aside0.mk H
     clear H
     go_wp2
     go_meet
     case rel => exact ⟨_, ((t149 != t144)), (by first | rfl | (simp; done) | (simp [*]; done)), H', ⟨by first | omega | exact Nat.le_refl _⟩, ⟨by (with_reducible repeat (first | apply Kd.R_alloc | apply Kd.R_drewN | apply Kd.R_drew)); exact Kd.R_mono HO147.out (fun _ hk => trivial)⟩, ⟨by repeat (first | (with_reducible first | exact HB.out | apply below_alloc | apply pw_below_drewN | apply below_drew1) | exact HB.out)⟩⟩
    ·rw [if_neg c19] at H
     have c19b0 : (t148.toList == t143.toList) = false := beq_eq_false_iff_ne.mpr c19
     have c19b1 : (t148.toList != t143.toList) = true := bne_iff_ne.mpr c19
     (first | rw [c19b0] | (simp only [i64_w, i32_w]; rw [c19b0]) | skip)
     have H' := Aside0.mk H
     clear H
     go_wp2
     go_meet
     case rel => exact ⟨_, (true), (by first | rfl | (simp; done) | (simp [*]; done)), H', ⟨by first | omega | exact Nat.le_refl _⟩, ⟨by (with_reducible repeat (first | apply Kd.R_alloc | apply Kd.R_drewN | apply Kd.R_drew)); exact Kd.R_mono HO147.out (fun _ hk => trivial)⟩, ⟨by repeat (first | (with_reducible first | exact HB.out | apply below_alloc | apply pw_below_drewN | apply below_drew1) | exact HB.out)⟩⟩
   case rest =>
    clear HC11
    try clear c1
    try clear p2
    try clear c3
    try clear c3b0
    try clear c3b1
    try clear c4
    try clear c5
    try clear c5b0
    try clear c6
    try clear c8
    try clear c11
    try clear c12
    try clear c19
    try clear c19b0
    try clear c19b1
    obtain ⟨kq, x41_10, rfl, HA, HJ10, HO_8, HB⟩ := hcut
    cases kq with
    | zero => exact absurd HA.out (by simp [laws_FnExactFieldOf.j0])
    | succ kj10 =>
     have H := HA.out
     clear HA
     simp only [laws_FnExactFieldOf.j0] at H
     by_cases c20 : x41_10 = true
     ·subst c20
      have H1 : (some false) = some r := by rw [if_pos rfl] at H; exact H
      clear H
      have H := H1
      clear H1
      obtain rfl := Option.some.inj H
      go_wp2
      go_ret
      exact ⟨by first | rfl | (simp [errW_none, errW_some] <;> rfl) | (simp [*, errW_none, errW_some] <;> rfl), by repeat (first | (with_reducible first | exact HB.out | apply below_alloc | apply pw_below_drewN | apply below_drew1) | exact HB.out)⟩
     ·replace c20 := Bool.eq_false_iff.mpr c20
      subst c20
      have H1 : ((laws_toFieldS.f kj10 l0).bind fun t150 => ((laws_eqFieldS.f kj10 t145 t150).bind fun t153 => (if t153 = true then (some true) else (some false)))) = some r := by rw [if_neg (show ¬ (false = true) by decide)] at H; exact H
      clear H
      have H := H1
      clear H1
      replace H := Option.bind_eq_some_iff.mp H
      obtain ⟨t150, A210, H⟩ := H
      replace H : ((laws_eqFieldS.f kj10 t145 t150).bind fun t153 => (if t153 = true then (some true) else (some false))) = some r := H
      have A21 := Aside0.mk A210
      clear A210
      replace H := Option.bind_eq_some_iff.mp H
      obtain ⟨t153, A220, H⟩ := H
      replace H : (if t153 = true then (some true) else (some false)) = some r := H
      have A22 := Aside0.mk A220
      clear A220
      by_cases c23 : t153 = true
      ·subst c23
       have H1 : (some true) = some r := by rw [if_pos rfl] at H; exact H
       clear H
       have H := H1
       clear H1
       obtain rfl := Option.some.inj H
       go_wp2_with (first | ((with_reducible refine gate_callee (f := 8) rfl ?_); refine goesL_ (some 44) rfl rfl Tryd.func8 (by kernel_rfl) rfl #[.slice A0 l0.length c0] rfl (by (try simp only [List.map_toArray, List.map_cons, List.map_nil]); first | done | rfl | (simp only [List.length_drop, List.length_take]; rfl)) ?_; (with_reducible refine (laws_toFieldS.calls kj10 _ _ l0 t150 _ ?side1 ?side2 A21.out).mono ?_); (case side1 => repeat (first | exact (Kd.C_below HR0.out HB.out) | (with_reducible refine Kd.C_alloc ?_ _) | (with_reducible refine Kd.C_drewN ?_ _) | (with_reducible refine Kd.C_drew ?_))); (case side2 => exact HC0.out); rintro e w24 ⟨v151, rfl, ho0, hb⟩; refine ⟨_, rfl, ?_⟩; have n0_ := Aside0.mk (Kd.R_elder' (mR HO_8.out) (Kd.R_base ho0) hb); have n1_ := Aside0.mk (Kd.R_lower (Kd.R_new' ho0 (Kd.R_lt (mR HO_8.out))) (below_size (by repeat (first | (with_reducible first | exact HB.out | apply below_alloc | apply pw_below_drewN | apply below_drew1) | exact HB.out)))); have n2_ := bS HB hb; clear HO_8; clear HB; have HO_8 := n0_; have HO152 := n1_; have HB := n2_; clear n0_ n1_ n2_; (try clear hb); (try clear hb2); (try clear hk); (try clear hi); (try clear ho0); obtain ⟨Ao25, co25, eo25⟩ := Kd.R_slice HO152.out; subst eo25) | ((with_reducible refine gate_callee (f := 10) rfl ?_); refine goesL_ (some 45) rfl rfl Tryd.func10 (by kernel_rfl) rfl #[.slice Ao17 t145.length co17, .slice Ao25 t150.length co25] rfl (by (try simp only [List.map_toArray, List.map_cons, List.map_nil]); first | done | rfl | (simp only [List.length_drop, List.length_take]; rfl)) ?_; (with_reducible refine (laws_eqFieldS.calls kj10 _ _ t145 _ _ t150 true _ ?side1 ?side2 ?side3 ?side4 A22.out).mono ?_); (case side1 => repeat (first | exact (Kd.R_reads' HO_8.out).2.2 | (with_reducible refine Kd.C_alloc ?_ _) | (with_reducible refine Kd.C_drewN ?_ _) | (with_reducible refine Kd.C_drew ?_))); (case side2 => exact (Kd.R_reads' HO_8.out).2.1); (case side3 => repeat (first | exact (Kd.R_reads' HO152.out).2.2 | (with_reducible refine Kd.C_alloc ?_ _) | (with_reducible refine Kd.C_drewN ?_ _) | (with_reducible refine Kd.C_drew ?_))); (case side4 => exact (Kd.R_reads' HO152.out).2.1); rintro e w26 ⟨rfl, hb⟩; refine ⟨_, rfl, ?_⟩; have n0_ := Aside0.mk (Kd.R_below (mR HO_8.out) hb); have n1_ := Aside0.mk (Kd.R_below (mR HO152.out) hb); have n2_ := bS HB hb; clear HO_8; clear HO152; clear HB; have HO_8 := n0_; have HO152 := n1_; have HB := n2_; clear n0_ n1_ n2_; (try clear hb); (try clear hb2); (try clear hk); (try clear hi)))
       go_ret
       exact ⟨by first | rfl | (simp [errW_none, errW_some] <;> rfl) | (simp [*, errW_none, errW_some] <;> rfl), by repeat (first | (with_reducible first | exact HB.out | apply below_alloc | apply pw_below_drewN | apply below_drew1) | exact HB.out)⟩
      ·replace c23 := Bool.eq_false_iff.mpr c23
       subst c23
       have H1 : (some false) = some r := by rw [if_neg (show ¬ (false = true) by decide)] at H; exact H
       clear H
       have H := H1
       clear H1
       obtain rfl := Option.some.inj H
       go_wp2_with (first | ((with_reducible refine gate_callee (f := 8) rfl ?_); refine goesL_ (some 44) rfl rfl Tryd.func8 (by kernel_rfl) rfl #[.slice A0 l0.length c0] rfl (by (try simp only [List.map_toArray, List.map_cons, List.map_nil]); first | done | rfl | (simp only [List.length_drop, List.length_take]; rfl)) ?_; (with_reducible refine (laws_toFieldS.calls kj10 _ _ l0 t150 _ ?side1 ?side2 A21.out).mono ?_); (case side1 => repeat (first | exact (Kd.C_below HR0.out HB.out) | (with_reducible refine Kd.C_alloc ?_ _) | (with_reducible refine Kd.C_drewN ?_ _) | (with_reducible refine Kd.C_drew ?_))); (case side2 => exact HC0.out); rintro e w27 ⟨v151, rfl, ho0, hb⟩; refine ⟨_, rfl, ?_⟩; have n0_ := Aside0.mk (Kd.R_elder' (mR HO_8.out) (Kd.R_base ho0) hb); have n1_ := Aside0.mk (Kd.R_lower (Kd.R_new' ho0 (Kd.R_lt (mR HO_8.out))) (below_size (by repeat (first | (with_reducible first | exact HB.out | apply below_alloc | apply pw_below_drewN | apply below_drew1) | exact HB.out)))); have n2_ := bS HB hb; clear HO_8; clear HB; have HO_8 := n0_; have HO152 := n1_; have HB := n2_; clear n0_ n1_ n2_; (try clear hb); (try clear hb2); (try clear hk); (try clear hi); (try clear ho0); obtain ⟨Ao28, co28, eo28⟩ := Kd.R_slice HO152.out; subst eo28) | ((with_reducible refine gate_callee (f := 10) rfl ?_); refine goesL_ (some 45) rfl rfl Tryd.func10 (by kernel_rfl) rfl #[.slice Ao17 t145.length co17, .slice Ao28 t150.length co28] rfl (by (try simp only [List.map_toArray, List.map_cons, List.map_nil]); first | done | rfl | (simp only [List.length_drop, List.length_take]; rfl)) ?_; (with_reducible refine (laws_eqFieldS.calls kj10 _ _ t145 _ _ t150 false _ ?side1 ?side2 ?side3 ?side4 A22.out).mono ?_); (case side1 => repeat (first | exact (Kd.R_reads' HO_8.out).2.2 | (with_reducible refine Kd.C_alloc ?_ _) | (with_reducible refine Kd.C_drewN ?_ _) | (with_reducible refine Kd.C_drew ?_))); (case side2 => exact (Kd.R_reads' HO_8.out).2.1); (case side3 => repeat (first | exact (Kd.R_reads' HO152.out).2.2 | (with_reducible refine Kd.C_alloc ?_ _) | (with_reducible refine Kd.C_drewN ?_ _) | (with_reducible refine Kd.C_drew ?_))); (case side4 => exact (Kd.R_reads' HO152.out).2.1); rintro e w29 ⟨rfl, hb⟩; refine ⟨_, rfl, ?_⟩; have n0_ := Aside0.mk (Kd.R_below (mR HO_8.out) hb); have n1_ := Aside0.mk (Kd.R_below (mR HO152.out) hb); have n2_ := bS HB hb; clear HO_8; clear HO152; clear HB; have HO_8 := n0_; have HO152 := n1_; have HB := n2_; clear n0_ n1_ n2_; (try clear hb); (try clear hb2); (try clear hk); (try clear hi)))
       go_ret
       exact ⟨by first | rfl | (simp [errW_none, errW_some] <;> rfl) | (simp [*, errW_none, errW_some] <;> rfl), by repeat (first | (with_reducible first | exact HB.out | apply below_alloc | apply pw_below_drewN | apply below_drew1) | exact HB.out)⟩

end Go.Proofs.YtjmakjddhbdocaaDoor.PFnExactFieldOf
