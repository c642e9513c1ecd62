-- Written by a program of this session (wip/xprint.py).
import Derived.Test.YtilkginahmfagaaDoorPFnExactGoodBalancerx0
import Derived.Test.YtilkginahmfagaaDoorPFnExactGoodBalancerx1
namespace Go.Proofs.YtilkginahmfagaaDoor.PFnExactGoodBalancer
open Go.RowKit Go.Proofs.YtilkginahmfagaaDoorW.PrintWords Go.Proofs.YtilkginahmfagaaDoorW.PrintLast Go.Proofs.YtilkginahmfagaaDoorW.PrintMore
attribute [local go_sem] Go.Proofs.YtilkginahmfagaaDoor.StoreK.isSome_setCell max2_int min2_int max_two min_two max_three min_three max_four min_four   -- for this text's walks alone
set_option linter.unusedVariables false
set_option linter.unusedSimpArgs false

/-! ### spec_l8Backend: function 64 -/
mutual
def spec_l8Backend.l0 : Nat → ByteArray → Int → Option (Bool)
 | 0, _, _ => none
 | k + 1, x0, x3 => if x3 < (x0.size : Int) then (if 0 ≤ x3 then (if (bt x0 x3) ≥ 97 then (if (bt x0 x3) ≤ 122 then (spec_l8Backend.j1 k x0 x3 (!true)) else (if (bt x0 x3) ≥ 48 then (spec_l8Backend.j1 k x0 x3 (!(decide ((bt x0 x3) ≤ 57)))) else (spec_l8Backend.j1 k x0 x3 (!false)))) else (if (bt x0 x3) ≥ 48 then (spec_l8Backend.j1 k x0 x3 (!(decide ((bt x0 x3) ≤ 57)))) else (spec_l8Backend.j1 k x0 x3 (!false)))) else (none)) else ((spec_l1In.f (x0.size : Int) 1 12).bind fun t121 => (some t121))
def spec_l8Backend.j1 : Nat → ByteArray → Int → Bool → Option (Bool)
 | 0, _, _, _ => none
 | k + 1, x0, x3, x28 => if x28 = true then (some false) else (spec_l8Backend.l0 k x0 (wrap64 (x3 + 1)))
end
def spec_l8Backend.f (k : Nat) (a0 : ByteArray) : Option (Bool) := spec_l8Backend.l0 k a0 0
theorem spec_l8Backend.mono_l : ∀ k, (∀ y0 y1, LeO (spec_l8Backend.l0 k y0 y1) (spec_l8Backend.l0 (k + 1) y0 y1)) ∧ (∀ y0 y1 y2, LeO (spec_l8Backend.j1 k y0 y1 y2) (spec_l8Backend.j1 (k + 1) y0 y1 y2))
 | 0 => ⟨fun _ _ r h => by simp [spec_l8Backend.l0] at h, fun _ _ _ r h => by simp [spec_l8Backend.j1] at h⟩
 | k + 1 => by
  obtain ⟨ih0, ih1⟩ := spec_l8Backend.mono_l k
  refine ⟨?_, ?_⟩
  ·intro y0 y1
   unfold spec_l8Backend.l0
   repeat' first
   | (with_reducible exact ih0 _ _)
   | (with_reducible exact ih1 _ _ _)
   | (with_reducible exact LeO.refl _)
   | (with_reducible exact LeO.none _)
   | (with_reducible refine LeO.ite ?_ ?_)
   | (with_reducible refine LeO.bind ?_ (fun _ => ?_))
   | exact ih0 _ _
   | exact ih1 _ _ _
   | exact LeO.none _
   | refine LeO.ite ?_ ?_
   | refine LeO.bind ?_ (fun _ => ?_)
  ·intro y0 y1 y2
   unfold spec_l8Backend.j1
   repeat' first
   | (with_reducible exact ih0 _ _)
   | (with_reducible exact ih1 _ _ _)
   | (with_reducible exact LeO.refl _)
   | (with_reducible exact LeO.none _)
   | (with_reducible refine LeO.ite ?_ ?_)
   | (with_reducible refine LeO.bind ?_ (fun _ => ?_))
   | exact ih0 _ _
   | exact ih1 _ _ _
   | exact LeO.none _
   | refine LeO.ite ?_ ?_
   | refine LeO.bind ?_ (fun _ => ?_)
theorem spec_l8Backend.mono : ∀ a0 k, LeO (spec_l8Backend.f k a0) (spec_l8Backend.f (k + 1) a0) := by
 intro a0 k
 obtain ⟨ih0, ih1⟩ := spec_l8Backend.mono_l k
 unfold spec_l8Backend.f
 repeat' first
   | (with_reducible exact ih0 _ _)
   | (with_reducible exact ih1 _ _ _)
   | (with_reducible exact LeO.refl _)
   | (with_reducible exact LeO.none _)
   | (with_reducible refine LeO.ite ?_ ?_)
   | (with_reducible refine LeO.bind ?_ (fun _ => ?_))
   | exact ih0 _ _
   | exact ih1 _ _ _
   | exact LeO.none _
   | refine LeO.ite ?_ ?_
   | refine LeO.bind ?_ (fun _ => ?_)
set_option maxHeartbeats 64000000 in
set_option maxRecDepth 100000 in
theorem spec_l8Backend.calls (k : Nat) (a0 : ByteArray) (r : Bool) (w : World) (h : spec_l8Backend.f k a0 = some r) :
  Calls Tryd.prog 64 #[.string a0] w fun e w' => e = .returned (.bool r) ∧ Drawn0 w w' := by
 have H : (spec_l8Backend.l0 k a0 0) = some r := h
 clear h
 have H' := Aside0.mk H
 clear H
 go_enter Tryd.func64, Tryd.ntmps64
 go_wp2
 go_loopg [3] k (fun kq v3 w' => ∃ (x3_1 : Int), v3 = .int .i64 x3_1 ∧ Aside0 (spec_l8Backend.l0 kq a0 x3_1 = some r) ∧ Aside0 (kq ≤ k) ∧ Drawn0 w w')
 case atStart => exact ⟨(0), (by first | rfl | (simp; done) | (simp [*]; done)), H', ⟨Nat.le_refl _⟩, by repeat (first | exact Drawn0.refl _ | apply Drawn0.step)⟩
 case round =>
  clear H'
  obtain ⟨x3_1, rfl, HA, HK1, ⟨m1, rfl⟩⟩ := hrel
  cases gk with
  | zero => exact absurd HA.out (by simp [spec_l8Backend.l0])
  | succ k1 =>
   have H := HA.out
   clear HA
   simp only [spec_l8Backend.l0] at H
   by_cases c2 : x3_1 < (a0.size : Int)
   ·rw [if_pos c2] at H
    have c2b0 : decide (x3_1 < (a0.size : Int)) = true := decide_eq_true c2
    clear c2
    by_cases c3 : 0 ≤ x3_1
    ·rw [if_pos c3] at H
     have c3b0 : decide (0 ≤ x3_1) = true := decide_eq_true c3
     clear c3
     have HC5 := Aside0.mk H
     clear H
     have p4 : 0 ≤ (x3_1 : Int) := of_decide_eq_true (by first | (with_reducible assumption) | assumption)
     have q4 : x3_1 < (a0.size : Int) := of_decide_eq_true (by first | (with_reducible assumption) | assumption)
     have hx4 := bt_at a0 x3_1
     replace p4 := eq_true p4
     replace q4 := eq_true q4
     go_upto_region 5 with (fail)
     go_cut [28] (fun v28 wc => ∃ (kq : Nat) (x28_4 : Bool), v28 = .bool x28_4 ∧ Aside0 (spec_l8Backend.j1 kq a0 x3_1 x28_4 = some r) ∧ Aside0 (kq ≤ k1) ∧ Drawn0 w wc)
     case first =>
      have H := HC5.out
      clear HC5
      by_cases c6 : (bt a0 x3_1) ≥ 97
      ·rw [if_pos c6] at H
       have c6b0 : decide (97 ≤ (bt a0 x3_1)) = true := decide_eq_true c6
       clear c6
       (first | rw [c6b0] | (simp only [i64_w, i32_w]; rw [c6b0]) | skip)
       by_cases c7 : (bt a0 x3_1) ≤ 122
       ·rw [if_pos c7] at H
        have c7b0 : decide ((bt a0 x3_1) ≤ 122) = true := decide_eq_true c7
        clear c7
        have H' := Aside0.mk H
        clear H
        go_wp2
        go_meet
        case rel => exact ⟨_, (!true), (by first | rfl | (simp; done) | (simp [*]; done)), H', ⟨by have := HK1.out; first | omega | exact Nat.le_refl _⟩, by repeat (first | exact Drawn0.refl _ | apply Drawn0.step)⟩
       ·rw [if_neg c7] at H
        have c7b0 : decide ((bt a0 x3_1) ≤ 122) = false := decide_eq_false c7
        clear c7
        by_cases c8 : (bt a0 x3_1) ≥ 48
        ·rw [if_pos c8] at H
         have c8b0 : decide (48 ≤ (bt a0 x3_1)) = true := decide_eq_true c8
         clear c8
         have H' := Aside0.mk H
         clear H
         go_wp2
         go_meet
         case rel => exact ⟨_, (!(decide ((bt a0 x3_1) ≤ 57))), (by first | rfl | (simp; done) | (simp [*]; done)), H', ⟨by have := HK1.out; first | omega | exact Nat.le_refl _⟩, by repeat (first | exact Drawn0.refl _ | apply Drawn0.step)⟩
        ·rw [if_neg c8] at H
         have c8b0 : decide (48 ≤ (bt a0 x3_1)) = false := decide_eq_false c8
         clear c8
         have H' := Aside0.mk H
         clear H
         go_wp2
         go_meet
         case rel => exact ⟨_, (!false), (by first | rfl | (simp; done) | (simp [*]; done)), H', ⟨by have := HK1.out; first | omega | exact Nat.le_refl _⟩, by repeat (first | exact Drawn0.refl _ | apply Drawn0.step)⟩
      ·rw [if_neg c6] at H
       have c6b0 : decide (97 ≤ (bt a0 x3_1)) = false := decide_eq_false c6
       clear c6
       (first | rw [c6b0] | (simp only [i64_w, i32_w]; rw [c6b0]) | skip)
       by_cases c9 : (bt a0 x3_1) ≥ 48
       ·rw [if_pos c9] at H
        have c9b0 : decide (48 ≤ (bt a0 x3_1)) = true := decide_eq_true c9
        clear c9
        have H' := Aside0.mk H
        clear H
        go_wp2
        go_meet
        case rel => exact ⟨_, (!(decide ((bt a0 x3_1) ≤ 57))), (by first | rfl | (simp; done) | (simp [*]; done)), H', ⟨by have := HK1.out; first | omega | exact Nat.le_refl _⟩, by repeat (first | exact Drawn0.refl _ | apply Drawn0.step)⟩
       ·rw [if_neg c9] at H
        have c9b0 : decide (48 ≤ (bt a0 x3_1)) = false := decide_eq_false c9
        clear c9
        have H' := Aside0.mk H
        clear H
        go_wp2
        go_meet
        case rel => exact ⟨_, (!false), (by first | rfl | (simp; done) | (simp [*]; done)), H', ⟨by have := HK1.out; first | omega | exact Nat.le_refl _⟩, by repeat (first | exact Drawn0.refl _ | apply Drawn0.step)⟩
     case rest =>
      clear HC5
      try clear c2
      try clear c2b0
      try clear p2
      try clear c3
      try clear c3b0
      try clear p4
      try clear q4
      try clear hx4
      try clear c6
      try clear c6b0
      try clear c7
      try clear c7b0
      try clear c8
      try clear c8b0
      try clear c9
      try clear c9b0
      try clear p4
      try clear q4
      obtain ⟨kq, x28_4, rfl, HA, HJ4, ⟨mc4, rfl⟩⟩ := hcut
      cases kq with
      | zero => exact absurd HA.out (by simp [spec_l8Backend.j1])
      | succ kj4 =>
       have H := HA.out
       clear HA
       simp only [spec_l8Backend.j1] at H
       by_cases c10 : x28_4 = true
       ·subst c10
        have H1 : (some false) = some r := by rw [if_pos rfl] at H; exact H
        clear H
        have H := H1
        clear H1
        obtain rfl := Option.some.inj H
        go_wp2
        go_ret
        exact ⟨by first | rfl | (simp; done) | (simp [*]; done), by repeat (first | exact Drawn0.refl _ | apply Drawn0.step)⟩
       ·replace c10 := Bool.eq_false_iff.mpr c10
        subst c10
        have H1 : (spec_l8Backend.l0 kj4 a0 (wrap64 (x3_1 + 1))) = some r := by rw [if_neg (show ¬ (false = true) by decide)] at H; exact H
        clear H
        have H := H1
        clear H1
        have H' := Aside0.mk H
        clear H
        go_wp2
        go_roundg kj4
        case measure => have := HK1.out; have := HJ4.out; omega
        case rel => exact ⟨(wrap64 (x3_1 + 1)), (by first | rfl | (simp; done) | (simp [*]; done)), H', ⟨by have := HK1.out; have := HJ4.out; omega⟩, by repeat (first | exact Drawn0.refl _ | apply Drawn0.step)⟩
    ·rw [if_neg c3] at H
     exact absurd H (by simp)
   ·rw [if_neg c2] at H
    have c2b0 : decide (x3_1 < (a0.size : Int)) = false := decide_eq_false c2
    clear c2
    replace H := Option.bind_eq_some_iff.mp H
    obtain ⟨t121, A110, H⟩ := H
    replace H : (some t121) = some r := H
    have A11 := Aside0.mk A110
    clear A110
    obtain rfl := Option.some.inj H
    go_wp2_with (first | ((with_reducible refine gate_callee (f := 27) rfl ?_); refine goesL_ (some 31) rfl rfl Tryd.func27 (by kernel_rfl) rfl #[.int .i64 (a0.size : Int), .int .i64 1, .int .i64 12] rfl (by (try simp only [List.map_toArray, List.map_cons, List.map_nil]); first | done | rfl | (simp only [List.length_drop, List.length_take]; rfl)) ?_; (with_reducible refine (spec_l1In.calls (a0.size : Int) 1 12 t121 _ A11.out).mono ?_); rintro e w' ⟨rfl, ⟨nd, rfl⟩⟩; refine ⟨_, rfl, ?_⟩))
    go_ret
    exact ⟨by first | rfl | (simp; done) | (simp [*]; done), by repeat (first | exact Drawn0.refl _ | apply Drawn0.step)⟩

/-! ### spec_GoodTable: function 25 -/
open Go.Proofs.YtilkginahmfagaaDoor.QuietK
/-- Is a text among the backends ahead of number i? -/
def sany (b : ByteArray) (l : List S93) (i : Int) : Bool := (l.take i.toNat).any (fun o => o.f1.toList == b.toList)
/-- The servers from number i on, n of them. -/
def ssrv (k : Nat) (srv : Int) (l : List S93) : Nat → Int → Option Bool
  | 0, _ => some true
  | n + 1, i =>
    if ((rd_T93 l i).f0.size : Int) = srv then
      (spec_l8Backend.f k (rd_T93 l i).f1).bind fun g => if g = true then (if 0 < i ∧ Op.bytesLess (rd_T93 l (i - 1)).f0.toList (rd_T93 l i).f0.toList = false then some false else if sany (rd_T93 l i).f1 l i = true then some false else ssrv k srv l n (i + 1)) else some false
    else some false
/-- The entries from number i on, n of them. -/
def stab (k : Nat) (l : List S90) : Nat → Int → Option Bool
  | 0, _ => some (decide ((l.length : Int) ≤ 3))
  | n + 1, i => (spec_GoodConfig.f (rd_T90 l i).f0.f0 (rd_T90 l i).f0.f1 (rd_T90 l i).f0.f2 (rd_T90 l i).f0.f3 (rd_T90 l i).f0.f4).bind fun g1 => if g1 = true then (spec_l1In.f (rd_T90 l i).f0.f0 0 2).bind fun g2 => if g2 = true then (if 12 < ((rd_T90 l i).f1.length : Int) then some false else (spec_l1In.f (rd_T90 l i).f2 0 1000000000).bind fun g3 => if g3 = true then (if 0 < i ∧ (rd_T90 l i).f0.f0 ≤ (rd_T90 l (i - 1)).f0.f0 then some false else (ssrv k (rd_T90 l i).f0.f1 (rd_T90 l i).f1 (rd_T90 l i).f1.length 0).bind fun b => if b = true then stab k l n (i + 1) else some false) else some false) else some false else some false
def spec_GoodTable.f (k : Nat) (l : List S90) : Option Bool := if (l.length : Int) ≤ 4611686018427387904 ∧ ∀ e, e ∈ l → (e.f1.length : Int) ≤ 4611686018427387904 then stab k l l.length 0 else none
theorem ssrv_mono (k : Nat) (srv : Int) (l : List S93) : ∀ n i, LeO (ssrv k srv l n i) (ssrv (k + 1) srv l n i)
  | 0, _ => LeO.refl _
  | n + 1, i => by
    unfold ssrv
    exact LeO.ite (LeO.bind (spec_l8Backend.mono _ _) (fun _ => LeO.ite (LeO.ite (LeO.refl _) (LeO.ite (LeO.refl _) (ssrv_mono k srv l n _))) (LeO.refl _))) (LeO.refl _)
theorem stab_mono (k : Nat) (l : List S90) : ∀ n i, LeO (stab k l n i) (stab (k + 1) l n i)
  | 0, _ => LeO.refl _
  | n + 1, i => by
    unfold stab
    exact LeO.bind (LeO.refl _) (fun _ => LeO.ite (LeO.bind (LeO.refl _) (fun _ => LeO.ite (LeO.ite (LeO.refl _) (LeO.bind (LeO.refl _) (fun _ => LeO.ite (LeO.ite (LeO.refl _) (LeO.bind (ssrv_mono _ _ _ _ _) (fun _ => LeO.ite (stab_mono k l n _) (LeO.refl _)))) (LeO.refl _)))) (LeO.refl _))) (LeO.refl _))
theorem spec_GoodTable.mono : ∀ (l : List (S90)) (k : Nat), LeO (spec_GoodTable.f k l) (spec_GoodTable.f (k + 1) l) := by
  intro l k
  unfold spec_GoodTable.f
  exact LeO.ite (stab_mono _ _ _ _) (LeO.refl _)
theorem any_at (p : S93 → Bool) (l : List S93) (j t : Int) (h0 : 0 ≤ t) (h1 : t < j) (h2 : j ≤ (l.length : Int)) : ((l.take j.toNat).drop t.toNat).any p = (p (rd_T93 l t) || ((l.take j.toNat).drop (t + 1).toNat).any p) := by
  have hl : t.toNat < (l.take j.toNat).length := by rw [List.length_take]; omega
  have e1 : (t + 1).toNat = t.toNat + 1 := by omega
  rw [List.drop_eq_getElem_cons hl, List.any_cons, e1]
  congr 2
  rw [List.getElem_take]
  unfold rd_T93
  rw [List.getD_eq_getElem?_getD, List.getElem?_eq_getElem (by omega)]
  rfl
theorem any_end (p : S93 → Bool) (l : List S93) (j : Int) : ((l.take j.toNat).drop j.toNat).any p = false := by
  rw [List.drop_eq_nil_of_le (by rw [List.length_take]; omega)]
  rfl
theorem rd_mem (l : List S90) (i : Int) (h0 : 0 ≤ i) (h1 : i < (l.length : Int)) : rd_T90 l i ∈ l := by
  unfold rd_T90
  rw [List.getD_eq_getElem?_getD, List.getElem?_eq_getElem (by omega)]
  exact List.getElem_mem _
set_option maxHeartbeats 4000000 in
set_option maxRecDepth 100000 in
theorem spec_GoodTable.calls (k : Nat) (A0_0 : Option Addr) (c0_0 : Nat) (l : List (S90)) (r : Bool) (w : World) (hr0_0 : Kd.C k90 w A0_0 l.length l) (hc0_0 : l.length ≤ c0_0) (h : spec_GoodTable.f k l = some r) :
    Calls Tryd.prog 25 #[.agg #[.slice A0_0 l.length c0_0]] w fun e w' => e = .returned (.bool r) ∧ Below w.heap.size w w' := by
  unfold spec_GoodTable.f at h
  split at h
  case isFalse => cases h
  case isTrue hlen =>
  have hu32 := Tryd.underlying32
  have hu90 := Tryd.underlying90
  have hu87 := Tryd.underlying87
  have hu93 := Tryd.underlying93
  have HA := Aside0.mk h
  have HL := Aside0.mk hlen.1
  have HLS := Aside0.mk hlen.2
  have HR := Aside0.mk hr0_0
  clear h hlen hr0_0
  have HB := Aside0.mk (Below.refl w.heap.size w)
  go_enter Tryd.func25, Tryd.ntmps25
  go_wp2_with (first | ((with_reducible refine gate_dst (N := 1) rfl ?_); (try (refine gate_guard (by rfl) ?_; dsimp only)); refine box_event ?hg (N := 1) ?hd (cs := #[.slice A0_0 l.length c0_0]) (t := 32) ?hr ?_; (case hd => rfl); (case hg => rfl); (case hr => first | (go_simp; done) | (go_simp; rfl)); intro g1 hg1 w2 hbox hb; have HBOX := Aside0.mk hbox; have HB2 := Aside0.mk (HB.out.trans (hb.mono HB.out.size)); clear hbox hb hg1; have hz0 : w2.cell? ⟨g1, 0, none⟩ = some (.slice A0_0 l.length c0_0) := (blk_cell HBOX.out 0).trans rfl))
  go_loopg [12] l.length (fun kq v12 w' => ∃ (i : Int), v12 = .int .i64 i ∧ Aside0 (stab k l kq i = some r) ∧ Aside0 (i + kq = l.length ∧ 0 ≤ i) ∧ Aside0 (w'.heap[g1]? = some (.cells #[.slice A0_0 l.length c0_0] 32 (0, 0))) ∧ Aside0 (Below w.heap.size w w'))
  case atStart => exact ⟨0, rfl, HA, ⟨⟨by omega, by omega⟩⟩, HBOX, HB2⟩
  case round =>
    clear HA HB2 HBOX hz0
    obtain ⟨i, rfl, HA, HI, HBOX, HB⟩ := hrel
    obtain ⟨hi1, hi0⟩ := HI.out
    clear HI
    cases gk with
    | zero =>
      have hd : decide (i < (l.length : Int)) = false := decide_eq_false (by omega)
      have H := HA.out
      have hz0 : wr.cell? ⟨g1, 0, none⟩ = some (.slice A0_0 l.length c0_0) := (blk_cell HBOX.out 0).trans rfl
      obtain rfl := Option.some.inj H
      clear H HA hi1 hi0
      go_wp2
      go_ret
      exact ⟨rfl, HB.out⟩
    | succ n =>
      have hi2 : i < (l.length : Int) := by omega
      have hd : decide (i < (l.length : Int)) = true := decide_eq_true hi2
      have HLE := Aside0.mk (HLS.out _ (rd_mem l i hi0 hi2))
      obtain ⟨ad, A5, c5, e5, hx0, hx1, hx2, hx3, hx4, hx5, hx6, hl5, hk5⟩ := at_T90 HR.out i hi0 hi2
      subst e5
      replace hx0 := cb_ hx0 HB.out
      replace hx1 := cb_ hx1 HB.out
      replace hx2 := cb_ hx2 HB.out
      replace hx3 := cb_ hx3 HB.out
      replace hx4 := cb_ hx4 HB.out
      replace hx5 := cb_ hx5 HB.out
      replace hx6 := cb_ hx6 HB.out
      have hpv0 : 0 < i → w.cell? (ad.add ((i - 1).toNat * 7)) = some (.int .i64 (rd_T90 l (i - 1)).f0.f0) := fun h => by
        have hlt : i - 1 < (l.length : Int) := by omega
        have hge : 0 ≤ i - 1 := by omega
        obtain ⟨ad', A', c', e5, h0, _⟩ := at_T90 HR.out (i - 1) hge hlt
        injection e5 with e5
        subst e5
        exact h0
      have HPV := Aside0.mk hpv0
      have HL5 := Aside0.mk hl5
      have HK5 := Aside0.mk hk5
      have p1 := eq_true hi0
      have p2 := eq_true hi2
      have HI := Aside0.mk hi1
      have HWI := Aside0.mk (show wrap64 (i + 1) = i + 1 from by unfold wrap64; have := HL.out; omega)
      clear hi0 hi2 hi1 hl5 hk5 hpv0
      go_wp2_with (first | ((with_reducible refine gate_dst (N := 4) rfl ?_); (try (refine gate_guard (by rfl) ?_; dsimp only)); refine box_event ?hg (N := 4) ?hd (cs := #[.int .i64 0, .int .i64 0, .int .i64 0, .string (⟨#[]⟩ : ByteArray), .bool false, .slice none 0 0, .int .i64 0]) (t := 90) ?hr ?_; (case hd => rfl); (case hg => rfl); (case hr => first | (go_simp; done) | (go_simp; rfl)); intro gb hgb w8 hbox hb; have HX := Aside0.mk hbox; have HB8 := Aside0.mk (HB.out.trans (hb.mono HB.out.size)); have HGW := Aside0.mk (show w.heap.size ≤ gb from by rw [hgb]; exact HB.out.size); have HBOX8 := Aside0.mk (blk_below HBOX.out hb); have Ng1_gb := Aside0.mk (show g1 ≠ gb from by rw [hgb]; exact Nat.ne_of_lt (blk_lt HBOX.out)); clear HBOX HB hb hbox hgb; obtain ⟨hz0, hz1, hz2, hz3, hz4, hz5, hz6⟩ := Go.Proofs.YtilkginahmfagaaDoor.ShortK.cz7 HX; obtain ⟨hf0, hf1, hf2, hf3, hf4, hf5, hf6⟩ := Go.Proofs.YtilkginahmfagaaDoor.ShortK.fz7 HX))
      go_cut [57] (fun v57 wc => ∃ (q : Bool), v57 = .bool q ∧ Aside0 ((q = true ∧ r = false) ∨ (q = false ∧ ∃ b, ssrv k (rd_T90 l i).f0.f1 (rd_T90 l i).f1 (rd_T90 l i).f1.length 0 = some b ∧ (if b = true then stab k l n (i + 1) else some false) = some r)) ∧ Aside0 (wc.heap[g1]? = some (.cells #[.slice (some ad) l.length c0_0] 32 (0, 0))) ∧ Aside0 (wc.heap[gb]? = some (.cells #[.int .i64 (rd_T90 l i).f0.f0, .int .i64 (rd_T90 l i).f0.f1, .int .i64 (rd_T90 l i).f0.f2, .string (rd_T90 l i).f0.f3, .bool (rd_T90 l i).f0.f4, .slice A5 (rd_T90 l i).f1.length c5, .int .i64 (rd_T90 l i).f2] 90 (0, 0))) ∧ Aside0 (Below w.heap.size w wc))
      case first =>
        have hgw : w.heap.size ≤ gb := HGW.out
        have hQX : (((((((w8.setCell ⟨gb, 0, none⟩ (.int .i64 (rd_T90 l i).f0.f0)).setCell ⟨gb, 1, none⟩ (.int .i64 (rd_T90 l i).f0.f1)).setCell ⟨gb, 2, none⟩ (.int .i64 (rd_T90 l i).f0.f2)).setCell ⟨gb, 3, none⟩ (.string (rd_T90 l i).f0.f3)).setCell ⟨gb, 4, none⟩ (.bool (rd_T90 l i).f0.f4)).setCell ⟨gb, 5, none⟩ (.slice A5 (rd_T90 l i).f1.length c5)).setCell ⟨gb, 6, none⟩ (.int .i64 (rd_T90 l i).f2)).heap[gb]? = some (.cells #[.int .i64 (rd_T90 l i).f0.f0, .int .i64 (rd_T90 l i).f0.f1, .int .i64 (rd_T90 l i).f0.f2, .string (rd_T90 l i).f0.f3, .bool (rd_T90 l i).f0.f4, .slice A5 (rd_T90 l i).f1.length c5, .int .i64 (rd_T90 l i).f2] 90 (0, 0)) := (blk_put (cs := #[.int .i64 (rd_T90 l i).f0.f0, .int .i64 (rd_T90 l i).f0.f1, .int .i64 (rd_T90 l i).f0.f2, .string (rd_T90 l i).f0.f3, .bool (rd_T90 l i).f0.f4, .slice A5 (rd_T90 l i).f1.length c5, .int .i64 0]) (blk_put (cs := #[.int .i64 (rd_T90 l i).f0.f0, .int .i64 (rd_T90 l i).f0.f1, .int .i64 (rd_T90 l i).f0.f2, .string (rd_T90 l i).f0.f3, .bool (rd_T90 l i).f0.f4, .slice none 0 0, .int .i64 0]) (blk_put (cs := #[.int .i64 (rd_T90 l i).f0.f0, .int .i64 (rd_T90 l i).f0.f1, .int .i64 (rd_T90 l i).f0.f2, .string (rd_T90 l i).f0.f3, .bool false, .slice none 0 0, .int .i64 0]) (blk_put (cs := #[.int .i64 (rd_T90 l i).f0.f0, .int .i64 (rd_T90 l i).f0.f1, .int .i64 (rd_T90 l i).f0.f2, .string (⟨#[]⟩ : ByteArray), .bool false, .slice none 0 0, .int .i64 0]) (blk_put (cs := #[.int .i64 (rd_T90 l i).f0.f0, .int .i64 (rd_T90 l i).f0.f1, .int .i64 0, .string (⟨#[]⟩ : ByteArray), .bool false, .slice none 0 0, .int .i64 0]) (blk_put (cs := #[.int .i64 (rd_T90 l i).f0.f0, .int .i64 0, .int .i64 0, .string (⟨#[]⟩ : ByteArray), .bool false, .slice none 0 0, .int .i64 0]) (blk_put (cs := #[.int .i64 0, .int .i64 0, .int .i64 0, .string (⟨#[]⟩ : ByteArray), .bool false, .slice none 0 0, .int .i64 0]) HX.out 0 _ rfl) 1 _ rfl) 2 _ rfl) 3 _ rfl) 4 _ rfl) 5 _ rfl) 6 _ rfl)
        have hQB : Below w.heap.size w (((((((w8.setCell ⟨gb, 0, none⟩ (.int .i64 (rd_T90 l i).f0.f0)).setCell ⟨gb, 1, none⟩ (.int .i64 (rd_T90 l i).f0.f1)).setCell ⟨gb, 2, none⟩ (.int .i64 (rd_T90 l i).f0.f2)).setCell ⟨gb, 3, none⟩ (.string (rd_T90 l i).f0.f3)).setCell ⟨gb, 4, none⟩ (.bool (rd_T90 l i).f0.f4)).setCell ⟨gb, 5, none⟩ (.slice A5 (rd_T90 l i).f1.length c5)).setCell ⟨gb, 6, none⟩ (.int .i64 (rd_T90 l i).f2)) := (below_set (below_set (below_set (below_set (below_set (below_set (below_set HB8.out hgw) hgw) hgw) hgw) hgw) hgw) hgw)
        have hQg1 : (((((((w8.setCell ⟨gb, 0, none⟩ (.int .i64 (rd_T90 l i).f0.f0)).setCell ⟨gb, 1, none⟩ (.int .i64 (rd_T90 l i).f0.f1)).setCell ⟨gb, 2, none⟩ (.int .i64 (rd_T90 l i).f0.f2)).setCell ⟨gb, 3, none⟩ (.string (rd_T90 l i).f0.f3)).setCell ⟨gb, 4, none⟩ (.bool (rd_T90 l i).f0.f4)).setCell ⟨gb, 5, none⟩ (.slice A5 (rd_T90 l i).f1.length c5)).setCell ⟨gb, 6, none⟩ (.int .i64 (rd_T90 l i).f2)).heap[g1]? = some (.cells #[.slice (some ad) l.length c0_0] 32 (0, 0)) := (blk_far (blk_far (blk_far (blk_far (blk_far (blk_far (blk_far HBOX8.out Ng1_gb.out _) Ng1_gb.out _) Ng1_gb.out _) Ng1_gb.out _) Ng1_gb.out _) Ng1_gb.out _) Ng1_gb.out _)
        generalize (((((((w8.setCell ⟨gb, 0, none⟩ (.int .i64 (rd_T90 l i).f0.f0)).setCell ⟨gb, 1, none⟩ (.int .i64 (rd_T90 l i).f0.f1)).setCell ⟨gb, 2, none⟩ (.int .i64 (rd_T90 l i).f0.f2)).setCell ⟨gb, 3, none⟩ (.string (rd_T90 l i).f0.f3)).setCell ⟨gb, 4, none⟩ (.bool (rd_T90 l i).f0.f4)).setCell ⟨gb, 5, none⟩ (.slice A5 (rd_T90 l i).f1.length c5)).setCell ⟨gb, 6, none⟩ (.int .i64 (rd_T90 l i).f2)) = W at hQX hQB hQg1 ⊢
        have QX := Aside0.mk hQX
        have QB := Aside0.mk hQB
        have Qg1 := Aside0.mk hQg1
        clear hz0 hf0 hz1 hf1 hz2 hf2 hz3 hf3 hz4 hf4 hz5 hf5 hz6 hf6 HX HB8 HBOX8 hQX hQB hQg1 hgw
        have HHV := Aside0.mk (fun h => cb_ (HPV.out h) QB.out)
        clear hx0 hx1 hx2 hx3 hx4 hx5 hx6
        have H := HA.out
        clear HA
        unfold stab at H
        have wi : IntKind.i64.wrap (i - 1) = i - 1 := by rw [i64_w]; unfold wrap64; have := HI.out; have := HL.out; have := of_eq_true p1; omega
        obtain ⟨j, hj⟩ : ∃ j : Int, i - 1 = j := ⟨_, rfl⟩
        have hjb : 0 < i → 0 ≤ j ∧ j < (l.length : Int) := fun h => by have := HI.out; omega
        have HJ := Aside0.mk hjb
        rw [hj] at HHV H
        replace wi := wi.trans hj
        have wi2 : wrap64 (i - 1) = j := (i64_w _).symm.trans wi
        clear hjb hj
        have hcases : ∃ c1, Aside0 (spec_GoodConfig.f (rd_T90 l i).f0.f0 (rd_T90 l i).f0.f1 (rd_T90 l i).f0.f2 (rd_T90 l i).f0.f3 (rd_T90 l i).f0.f4 = some c1) ∧ ((c1 = false ∧ Aside0 ((true = true ∧ r = false) ∨ (true = false ∧ ∃ b, ssrv k (rd_T90 l i).f0.f1 (rd_T90 l i).f1 (rd_T90 l i).f1.length 0 = some b ∧ (if b = true then stab k l n (i + 1) else some false) = some r))) ∨ (c1 = true ∧ ∃ c2, Aside0 (spec_l1In.f (rd_T90 l i).f0.f0 0 2 = some c2) ∧ ((c2 = false ∧ Aside0 ((true = true ∧ r = false) ∨ (true = false ∧ ∃ b, ssrv k (rd_T90 l i).f0.f1 (rd_T90 l i).f1 (rd_T90 l i).f1.length 0 = some b ∧ (if b = true then stab k l n (i + 1) else some false) = some r))) ∨ (c2 = true ∧ ((decide (12 < ((rd_T90 l i).f1.length : Int)) = true ∧ Aside0 ((true = true ∧ r = false) ∨ (true = false ∧ ∃ b, ssrv k (rd_T90 l i).f0.f1 (rd_T90 l i).f1 (rd_T90 l i).f1.length 0 = some b ∧ (if b = true then stab k l n (i + 1) else some false) = some r))) ∨ (decide (12 < ((rd_T90 l i).f1.length : Int)) = false ∧ ∃ c3, Aside0 (spec_l1In.f (rd_T90 l i).f2 0 1000000000 = some c3) ∧ ((c3 = false ∧ Aside0 ((true = true ∧ r = false) ∨ (true = false ∧ ∃ b, ssrv k (rd_T90 l i).f0.f1 (rd_T90 l i).f1 (rd_T90 l i).f1.length 0 = some b ∧ (if b = true then stab k l n (i + 1) else some false) = some r))) ∨ (c3 = true ∧ ((decide (0 < i) = false ∧ Aside0 ((false = true ∧ r = false) ∨ (false = false ∧ ∃ b, ssrv k (rd_T90 l i).f0.f1 (rd_T90 l i).f1 (rd_T90 l i).f1.length 0 = some b ∧ (if b = true then stab k l n (i + 1) else some false) = some r))) ∨ (0 < i ∧ (0 ≤ j) = True ∧ (j < (l.length : Int)) = True ∧ ((decide ((rd_T90 l i).f0.f0 ≤ (rd_T90 l j).f0.f0) = true ∧ Aside0 ((true = true ∧ r = false) ∨ (true = false ∧ ∃ b, ssrv k (rd_T90 l i).f0.f1 (rd_T90 l i).f1 (rd_T90 l i).f1.length 0 = some b ∧ (if b = true then stab k l n (i + 1) else some false) = some r))) ∨ (decide ((rd_T90 l i).f0.f0 ≤ (rd_T90 l j).f0.f0) = false ∧ Aside0 ((false = true ∧ r = false) ∨ (false = false ∧ ∃ b, ssrv k (rd_T90 l i).f0.f1 (rd_T90 l i).f1 (rd_T90 l i).f1.length 0 = some b ∧ (if b = true then stab k l n (i + 1) else some false) = some r)))))))))))))) := by
          obtain ⟨c1, G1, H⟩ := Option.bind_eq_some_iff.mp H
          refine ⟨c1, ⟨G1⟩, ?_⟩
          cases c1 with
          | false => rw [if_neg (by decide)] at H; exact Or.inl ⟨rfl, ⟨Or.inl ⟨rfl, (Option.some.inj H).symm⟩⟩⟩
          | true =>
          rw [if_pos rfl] at H
          obtain ⟨c2, G2, H⟩ := Option.bind_eq_some_iff.mp H
          refine Or.inr ⟨rfl, c2, ⟨G2⟩, ?_⟩
          cases c2 with
          | false => rw [if_neg (by decide)] at H; exact Or.inl ⟨rfl, ⟨Or.inl ⟨rfl, (Option.some.inj H).symm⟩⟩⟩
          | true =>
          rw [if_pos rfl] at H
          refine Or.inr ⟨rfl, ?_⟩
          by_cases h12 : 12 < ((rd_T90 l i).f1.length : Int)
          · rw [if_pos h12] at H; exact Or.inl ⟨decide_eq_true h12, ⟨Or.inl ⟨rfl, (Option.some.inj H).symm⟩⟩⟩
          rw [if_neg h12] at H
          obtain ⟨c3, G3, H⟩ := Option.bind_eq_some_iff.mp H
          refine Or.inr ⟨decide_eq_false h12, c3, ⟨G3⟩, ?_⟩
          cases c3 with
          | false => rw [if_neg (by decide)] at H; exact Or.inl ⟨rfl, ⟨Or.inl ⟨rfl, (Option.some.inj H).symm⟩⟩⟩
          | true =>
          rw [if_pos rfl] at H
          refine Or.inr ⟨rfl, ?_⟩
          by_cases h0 : 0 < i
          · refine Or.inr ⟨h0, eq_true (HJ.out h0).1, eq_true (HJ.out h0).2, ?_⟩
            by_cases h1 : (rd_T90 l i).f0.f0 ≤ (rd_T90 l j).f0.f0
            · rw [if_pos ⟨h0, h1⟩] at H; exact Or.inl ⟨decide_eq_true h1, ⟨Or.inl ⟨rfl, (Option.some.inj H).symm⟩⟩⟩
            · rw [if_neg (fun h => h1 h.2)] at H
              obtain ⟨b, G, H⟩ := Option.bind_eq_some_iff.mp H
              exact Or.inr ⟨decide_eq_false h1, ⟨Or.inr ⟨rfl, b, G, H⟩⟩⟩
          · rw [if_neg (fun h => h0 h.1)] at H
            obtain ⟨b, G, H⟩ := Option.bind_eq_some_iff.mp H
            exact Or.inl ⟨decide_eq_false h0, ⟨Or.inr ⟨rfl, b, G, H⟩⟩⟩
        clear H
        rcases hcases with ⟨c1, G1, ⟨rfl, HQ⟩ | ⟨rfl, c2, G2, ⟨rfl, HQ⟩ | ⟨rfl, ⟨h12, HQ⟩ | ⟨h12, c3, G3, ⟨rfl, HQ⟩ | ⟨rfl, ⟨h0, HQ⟩ | ⟨h0, p3, p4, ⟨h1, HQ⟩ | ⟨h1, HQ⟩⟩⟩⟩⟩⟩⟩
        all_goals (
          refine region_quiet (C := fun w' => w'.cell? ⟨gb, 0, none⟩ = some (.int .i64 (rd_T90 l i).f0.f0) ∧ w'.cell? ⟨gb, 1, none⟩ = some (.int .i64 (rd_T90 l i).f0.f1) ∧ w'.cell? ⟨gb, 2, none⟩ = some (.int .i64 (rd_T90 l i).f0.f2) ∧ w'.cell? ⟨gb, 3, none⟩ = some (.string (rd_T90 l i).f0.f3) ∧ w'.cell? ⟨gb, 4, none⟩ = some (.bool (rd_T90 l i).f0.f4) ∧ w'.cell? ⟨gb, 5, none⟩ = some (.slice A5 (rd_T90 l i).f1.length c5) ∧ w'.cell? ⟨gb, 6, none⟩ = some (.int .i64 (rd_T90 l i).f2) ∧ w'.cell? ⟨g1, 0, none⟩ = some (.slice (some ad) l.length c0_0) ∧ (0 < i → w'.cell? (ad.add (j.toNat * 7)) = some (.int .i64 (rd_T90 l j).f0.f0)) ∧ Aside0 (w'.heap[gb]? = some (.cells #[.int .i64 (rd_T90 l i).f0.f0, .int .i64 (rd_T90 l i).f0.f1, .int .i64 (rd_T90 l i).f0.f2, .string (rd_T90 l i).f0.f3, .bool (rd_T90 l i).f0.f4, .slice A5 (rd_T90 l i).f1.length c5, .int .i64 (rd_T90 l i).f2] 90 (0, 0))) ∧ Aside0 (w'.heap[g1]? = some (.cells #[.slice (some ad) l.length c0_0] 32 (0, 0))) ∧ Aside0 (Below w.heap.size w w')) (by kernel_rfl) (by kernel_rfl) ?hC ?_
          case hC => exact ⟨(blk_cell QX.out 0).trans rfl, (blk_cell QX.out 1).trans rfl, (blk_cell QX.out 2).trans rfl, (blk_cell QX.out 3).trans rfl, (blk_cell QX.out 4).trans rfl, (blk_cell QX.out 5).trans rfl, (blk_cell QX.out 6).trans rfl, (blk_cell Qg1.out 0).trans rfl, HHV.out, QX, Qg1, ⟨below_drew QB.out⟩⟩
          repeat (first
            | go_big_quiet_skip
            | (go_big_quiet_want; refine quiet_call ?_ Tryd.func63 (by kernel_rfl) rfl #[.agg #[.int .i64 (rd_T90 l i).f0.f0, .int .i64 (rd_T90 l i).f0.f1, .int .i64 (rd_T90 l i).f0.f2, .string (rd_T90 l i).f0.f3, .bool (rd_T90 l i).f0.f4]] rfl (by (try simp only [List.map_toArray, List.map_cons, List.map_nil]); first | done | rfl) ?_ ?_; rotate_left 1; (· (rintro w' ⟨z0, z1, z2, z3, z4, z5, z6, z7, z8, y0, y1, y2⟩; refine (spec_GoodConfig.calls (rd_T90 l i).f0.f0 (rd_T90 l i).f0.f1 (rd_T90 l i).f0.f2 (rd_T90 l i).f0.f3 (rd_T90 l i).f0.f4 _ w' G1.out).mono ?_; rintro e w'' ⟨rfl, hb0⟩; have hb := (show Below w'.heap.size w' w'' from by first | exact hb0 | exact hb0.below); exact ⟨by with_reducible rfl, cb_ z0 hb, cb_ z1 hb, cb_ z2 hb, cb_ z3 hb, cb_ z4 hb, cb_ z5 hb, cb_ z6 hb, cb_ z7 hb, fun h => cb_ (z8 h) hb, ⟨blk_below y0.out hb⟩, ⟨blk_below y1.out hb⟩, ⟨y2.out.trans (hb.mono y2.out.size)⟩⟩)); simp only [Act.put, List.setIfInBounds_toArray, List.set_cons_zero, List.set_cons_succ, i64_w, i32_w]; go_big_quiet_on)
            | (go_big_quiet_want; refine quiet_call ?_ Tryd.func27 (by kernel_rfl) rfl #[.int .i64 (rd_T90 l i).f0.f0, .int .i64 0, .int .i64 2] rfl (by (try simp only [List.map_toArray, List.map_cons, List.map_nil]); first | done | rfl) ?_ ?_; rotate_left 1; (· (rintro w' hC; refine (spec_l1In.calls (rd_T90 l i).f0.f0 0 2 _ w' G2.out).mono ?_; rintro e w'' ⟨rfl, ⟨nd, rfl⟩⟩; obtain ⟨z0, z1, z2, z3, z4, z5, z6, z7, z8, y0, y1, y2⟩ := hC; exact ⟨by with_reducible rfl, z0, z1, z2, z3, z4, z5, z6, z7, z8, y0, y1, ⟨pw_below_drewN y2.out _⟩⟩)); simp only [Act.put, List.setIfInBounds_toArray, List.set_cons_zero, List.set_cons_succ, i64_w, i32_w]; go_big_quiet_on)
            | (go_big_quiet_want; refine quiet_call ?_ Tryd.func27 (by kernel_rfl) rfl #[.int .i64 (rd_T90 l i).f2, .int .i64 0, .int .i64 1000000000] rfl (by (try simp only [List.map_toArray, List.map_cons, List.map_nil]); first | done | rfl) ?_ ?_; rotate_left 1; (· (rintro w' hC; refine (spec_l1In.calls (rd_T90 l i).f2 0 1000000000 _ w' G3.out).mono ?_; rintro e w'' ⟨rfl, ⟨nd, rfl⟩⟩; obtain ⟨z0, z1, z2, z3, z4, z5, z6, z7, z8, y0, y1, y2⟩ := hC; exact ⟨by with_reducible rfl, z0, z1, z2, z3, z4, z5, z6, z7, z8, y0, y1, ⟨pw_below_drewN y2.out _⟩⟩)); simp only [Act.put, List.setIfInBounds_toArray, List.set_cons_zero, List.set_cons_succ, i64_w, i32_w]; go_big_quiet_on)
            | (go_big_quiet_want; refine quiet_op (v := ?_) ?_ ?_; rotate_left 1; (· (rintro w' ⟨z0, z1, z2, z3, z4, z5, z6, z7, z8, -, -, -⟩; (try have z8 := z8 h0); go_simp; with_reducible rfl)); simp only [Act.put, List.setIfInBounds_toArray, List.set_cons_zero, List.set_cons_succ, i64_w, i32_w]; go_big_quiet_on))
          refine wpQuiet_nil ?_
          rintro w' ⟨-, -, -, -, -, -, -, -, -, y0, y1, y2⟩
          go_wp2
          go_meet
          case rel => exact ⟨_, rfl, ⟨by have h_ := HQ.out; first | exact h_ | simpa using h_⟩, y1, y0, y2⟩)
      case rest =>
        clear HA HPV
        obtain ⟨q, rfl, HD, HBOX, HX, HB⟩ := hcut
        have hD := HD.out
        clear HD
        rcases hD with ⟨rfl, rfl⟩ | ⟨rfl, b, hb1, hb2⟩
        · go_wp2
          go_ret
          exact ⟨rfl, HB.out⟩
        · have HA := Aside0.mk hb1
          have HT := Aside0.mk hb2
          clear hb1 hb2
          obtain ⟨hz0, hz1, hz2, hz3, hz4, hz5, hz6⟩ := Go.Proofs.YtilkginahmfagaaDoor.ShortK.cz7 HX
          go_wp2_with fail
          go_loopg [61] (rd_T90 l i).f1.length (fun kq v61 w' => ∃ (j : Int), v61 = .int .i64 j ∧ Aside0 (ssrv k (rd_T90 l i).f0.f1 (rd_T90 l i).f1 kq j = some b) ∧ Aside0 (j + kq = (rd_T90 l i).f1.length ∧ 0 ≤ j) ∧ Aside0 (w'.heap[g1]? = some (.cells #[.slice (some ad) l.length c0_0] 32 (0, 0))) ∧ Aside0 (w'.heap[gb]? = some (.cells #[.int .i64 (rd_T90 l i).f0.f0, .int .i64 (rd_T90 l i).f0.f1, .int .i64 (rd_T90 l i).f0.f2, .string (rd_T90 l i).f0.f3, .bool (rd_T90 l i).f0.f4, .slice A5 (rd_T90 l i).f1.length c5, .int .i64 (rd_T90 l i).f2] 90 (0, 0))) ∧ Aside0 (Below w.heap.size w w'))
          case atStart => exact ⟨0, rfl, HA, ⟨⟨by omega, by omega⟩⟩, HBOX, HX, HB⟩
          case round =>
            clear HA HB HBOX HX hz0 hz1 hz2 hz3 hz4 hz5 hz6
            obtain ⟨j, rfl, HA, HJ, HBOX, HX, HB⟩ := hrel
            obtain ⟨hj1, hj0⟩ := HJ.out
            clear HJ
            cases gk with
            | zero =>
              have hd : decide (j < ((rd_T90 l i).f1.length : Int)) = false := decide_eq_false (by omega)
              obtain rfl : b = true := (Option.some.inj HA.out).symm
              have HT' := Aside0.mk ((if_pos rfl).symm.trans HT.out)
              clear hj1 hj0 HA HT
              go_wp2
              go_roundg n
              case measure => omega
              case rel => exact ⟨i + 1, by first | rfl | (simp; done) | (rw [HWI.out]), HT', ⟨⟨by have := HI.out; omega, by have := of_eq_true p1; omega⟩⟩, HBOX, HB⟩
            | succ m =>
              have hj2 : j < ((rd_T90 l i).f1.length : Int) := by omega
              have hd : decide (j < ((rd_T90 l i).f1.length : Int)) = true := decide_eq_true hj2
              obtain ⟨ad5, e5, hx0, hx1⟩ := at_T93 HK5.out j hj0 hj2
              subst e5
              replace hx0 := cb_ hx0 HB.out
              replace hx1 := cb_ hx1 HB.out
              have hpv0 : 0 < j → w.cell? (ad5.add ((j - 1).toNat * 2)) = some (.string (rd_T93 (rd_T90 l i).f1 (j - 1)).f0) := fun h => by
                have hlt : j - 1 < ((rd_T90 l i).f1.length : Int) := by omega
                have hge : 0 ≤ j - 1 := by omega
                obtain ⟨ad', e5, h0, _⟩ := at_T93 HK5.out (j - 1) hge hlt
                injection e5 with e5
                subst e5
                exact h0
              have HPV := Aside0.mk hpv0
              have p3 := eq_true hj0
              have p4 := eq_true hj2
              have HJ := Aside0.mk hj1
              have HWJ := Aside0.mk (show wrap64 (j + 1) = j + 1 from by unfold wrap64; have := HLE.out; omega)
              clear hj0 hj2 hj1 hpv0
              go_wp2_with (first | ((with_reducible refine gate_dst (N := 6) rfl ?_); (try (refine gate_guard (by rfl) ?_; dsimp only)); refine box_event ?hg (N := 6) ?hd (cs := #[.string (⟨#[]⟩ : ByteArray), .string (⟨#[]⟩ : ByteArray)]) (t := 93) ?hr ?_; (case hd => rfl); (case hg => rfl); (case hr => first | (go_simp; done) | (go_simp; rfl)); intro g6 hgb w9 hbox hb; have HY := Aside0.mk hbox; have HB8 := Aside0.mk (HB.out.trans (hb.mono HB.out.size)); have HGW := Aside0.mk (show w.heap.size ≤ g6 from by rw [hgb]; exact HB.out.size); have HBOX8 := Aside0.mk (blk_below HBOX.out hb); have HX8 := Aside0.mk (blk_below HX.out hb); have Ng1_g6 := Aside0.mk (show g1 ≠ g6 from by rw [hgb]; exact Nat.ne_of_lt (blk_lt HBOX.out)); have Ngb_g6 := Aside0.mk (show gb ≠ g6 from by rw [hgb]; exact Nat.ne_of_lt (blk_lt HX.out)); clear HBOX HX HB hb hbox hgb; obtain ⟨hz0, hz1⟩ := Go.Proofs.YtilkginahmfagaaDoor.ShortK.cz2 HY; obtain ⟨hf0, hf1⟩ := Go.Proofs.YtilkginahmfagaaDoor.ShortK.fz2 HY))
              go_cut [94] (fun v94 wc => ∃ (q : Bool), v94 = .bool q ∧ Aside0 ((q = true ∧ b = false) ∨ (q = false ∧ (if sany (rd_T93 (rd_T90 l i).f1 j).f1 (rd_T90 l i).f1 j = true then some false else ssrv k (rd_T90 l i).f0.f1 (rd_T90 l i).f1 m (j + 1)) = some b)) ∧ Aside0 (wc.heap[g1]? = some (.cells #[.slice (some ad) l.length c0_0] 32 (0, 0))) ∧ Aside0 (wc.heap[gb]? = some (.cells #[.int .i64 (rd_T90 l i).f0.f0, .int .i64 (rd_T90 l i).f0.f1, .int .i64 (rd_T90 l i).f0.f2, .string (rd_T90 l i).f0.f3, .bool (rd_T90 l i).f0.f4, .slice (some ad5) (rd_T90 l i).f1.length c5, .int .i64 (rd_T90 l i).f2] 90 (0, 0))) ∧ Aside0 (wc.heap[g6]? = some (.cells #[.string (rd_T93 (rd_T90 l i).f1 j).f0, .string (rd_T93 (rd_T90 l i).f1 j).f1] 93 (0, 0))) ∧ Aside0 (Below w.heap.size w wc))
              case first =>
                have hgw : w.heap.size ≤ g6 := HGW.out
                have hQX : ((w9.setCell ⟨g6, 0, none⟩ (.string (rd_T93 (rd_T90 l i).f1 j).f0)).setCell ⟨g6, 1, none⟩ (.string (rd_T93 (rd_T90 l i).f1 j).f1)).heap[g6]? = some (.cells #[.string (rd_T93 (rd_T90 l i).f1 j).f0, .string (rd_T93 (rd_T90 l i).f1 j).f1] 93 (0, 0)) := (blk_put (cs := #[.string (rd_T93 (rd_T90 l i).f1 j).f0, .string (⟨#[]⟩ : ByteArray)]) (blk_put (cs := #[.string (⟨#[]⟩ : ByteArray), .string (⟨#[]⟩ : ByteArray)]) HY.out 0 _ rfl) 1 _ rfl)
                have hQB : Below w.heap.size w ((w9.setCell ⟨g6, 0, none⟩ (.string (rd_T93 (rd_T90 l i).f1 j).f0)).setCell ⟨g6, 1, none⟩ (.string (rd_T93 (rd_T90 l i).f1 j).f1)) := (below_set (below_set HB8.out hgw) hgw)
                have hQg1 : ((w9.setCell ⟨g6, 0, none⟩ (.string (rd_T93 (rd_T90 l i).f1 j).f0)).setCell ⟨g6, 1, none⟩ (.string (rd_T93 (rd_T90 l i).f1 j).f1)).heap[g1]? = some (.cells #[.slice (some ad) l.length c0_0] 32 (0, 0)) := (blk_far (blk_far HBOX8.out Ng1_g6.out _) Ng1_g6.out _)
                have hQgb : ((w9.setCell ⟨g6, 0, none⟩ (.string (rd_T93 (rd_T90 l i).f1 j).f0)).setCell ⟨g6, 1, none⟩ (.string (rd_T93 (rd_T90 l i).f1 j).f1)).heap[gb]? = some (.cells #[.int .i64 (rd_T90 l i).f0.f0, .int .i64 (rd_T90 l i).f0.f1, .int .i64 (rd_T90 l i).f0.f2, .string (rd_T90 l i).f0.f3, .bool (rd_T90 l i).f0.f4, .slice (some ad5) (rd_T90 l i).f1.length c5, .int .i64 (rd_T90 l i).f2] 90 (0, 0)) := (blk_far (blk_far HX8.out Ngb_g6.out _) Ngb_g6.out _)
                generalize ((w9.setCell ⟨g6, 0, none⟩ (.string (rd_T93 (rd_T90 l i).f1 j).f0)).setCell ⟨g6, 1, none⟩ (.string (rd_T93 (rd_T90 l i).f1 j).f1)) = W at hQX hQB hQg1 hQgb ⊢
                have QX := Aside0.mk hQX
                have QB := Aside0.mk hQB
                have Qg1 := Aside0.mk hQg1
                have Qgb := Aside0.mk hQgb
                clear hz0 hf0 hz1 hf1 HY HB8 HBOX8 HX8 hQX hQB hQg1 hQgb hgw
                have HHV := Aside0.mk (fun h => cb_ (HPV.out h) QB.out)
                clear hx0 hx1
                have H := HA.out
                clear HA
                unfold ssrv at H
                have wi : IntKind.i64.wrap (j - 1) = j - 1 := by rw [i64_w]; unfold wrap64; have := HJ.out; have := HLE.out; have := of_eq_true p3; omega
                obtain ⟨u, hu⟩ : ∃ u : Int, j - 1 = u := ⟨_, rfl⟩
                have hjb : 0 < j → 0 ≤ u ∧ u < ((rd_T90 l i).f1.length : Int) := fun h => by have := HJ.out; omega
                have HU := Aside0.mk hjb
                rw [hu] at HHV H
                replace wi := wi.trans hu
                have wi2 : wrap64 (j - 1) = u := (i64_w _).symm.trans wi
                clear hjb hu
                have hcases : (((((rd_T93 (rd_T90 l i).f1 j).f0.size : Int) != (rd_T90 l i).f0.f1) = true ∧ Aside0 ((true = true ∧ b = false) ∨ (true = false ∧ (if sany (rd_T93 (rd_T90 l i).f1 j).f1 (rd_T90 l i).f1 j = true then some false else ssrv k (rd_T90 l i).f0.f1 (rd_T90 l i).f1 m (j + 1)) = some b))) ∨ (((rd_T93 (rd_T90 l i).f1 j).f0.size : Int) = (rd_T90 l i).f0.f1 ∧ ∃ c1, Aside0 (spec_l8Backend.f k (rd_T93 (rd_T90 l i).f1 j).f1 = some c1) ∧ ((c1 = false ∧ Aside0 ((true = true ∧ b = false) ∨ (true = false ∧ (if sany (rd_T93 (rd_T90 l i).f1 j).f1 (rd_T90 l i).f1 j = true then some false else ssrv k (rd_T90 l i).f0.f1 (rd_T90 l i).f1 m (j + 1)) = some b))) ∨ (c1 = true ∧ ((decide (0 < j) = false ∧ Aside0 ((false = true ∧ b = false) ∨ (false = false ∧ (if sany (rd_T93 (rd_T90 l i).f1 j).f1 (rd_T90 l i).f1 j = true then some false else ssrv k (rd_T90 l i).f0.f1 (rd_T90 l i).f1 m (j + 1)) = some b))) ∨ (0 < j ∧ (0 ≤ u) = True ∧ (u < ((rd_T90 l i).f1.length : Int)) = True ∧ ((Op.bytesLess (rd_T93 (rd_T90 l i).f1 u).f0.toList (rd_T93 (rd_T90 l i).f1 j).f0.toList = false ∧ Aside0 ((true = true ∧ b = false) ∨ (true = false ∧ (if sany (rd_T93 (rd_T90 l i).f1 j).f1 (rd_T90 l i).f1 j = true then some false else ssrv k (rd_T90 l i).f0.f1 (rd_T90 l i).f1 m (j + 1)) = some b))) ∨ (Op.bytesLess (rd_T93 (rd_T90 l i).f1 u).f0.toList (rd_T93 (rd_T90 l i).f1 j).f0.toList = true ∧ Aside0 ((false = true ∧ b = false) ∨ (false = false ∧ (if sany (rd_T93 (rd_T90 l i).f1 j).f1 (rd_T90 l i).f1 j = true then some false else ssrv k (rd_T90 l i).f0.f1 (rd_T90 l i).f1 m (j + 1)) = some b)))))))))) := by
                  by_cases c0 : ((rd_T93 (rd_T90 l i).f1 j).f0.size : Int) = (rd_T90 l i).f0.f1
                  case neg => rw [if_neg c0] at H; exact Or.inl ⟨bne_iff_ne.mpr c0, ⟨Or.inl ⟨rfl, (Option.some.inj H).symm⟩⟩⟩
                  rw [if_pos c0] at H
                  obtain ⟨c1, G1, H⟩ := Option.bind_eq_some_iff.mp H
                  refine Or.inr ⟨c0, c1, ⟨G1⟩, ?_⟩
                  cases c1 with
                  | false => rw [if_neg (by decide)] at H; exact Or.inl ⟨rfl, ⟨Or.inl ⟨rfl, (Option.some.inj H).symm⟩⟩⟩
                  | true =>
                  rw [if_pos rfl] at H
                  refine Or.inr ⟨rfl, ?_⟩
                  by_cases h0 : 0 < j
                  · refine Or.inr ⟨h0, eq_true (HU.out h0).1, eq_true (HU.out h0).2, ?_⟩
                    cases h1 : Op.bytesLess (rd_T93 (rd_T90 l i).f1 u).f0.toList (rd_T93 (rd_T90 l i).f1 j).f0.toList with
                    | false => rw [if_pos ⟨h0, h1⟩] at H; exact Or.inl ⟨rfl, ⟨Or.inl ⟨rfl, (Option.some.inj H).symm⟩⟩⟩
                    | true => rw [if_neg (fun h => by rw [h1] at h; exact Bool.noConfusion h.2)] at H; exact Or.inr ⟨rfl, ⟨Or.inr ⟨rfl, H⟩⟩⟩
                  · rw [if_neg (fun h => h0 h.1)] at H; exact Or.inl ⟨decide_eq_false h0, ⟨Or.inr ⟨rfl, H⟩⟩⟩
                clear H
                rcases hcases with ⟨c0, HQ⟩ | ⟨c0, c1, G1, ⟨rfl, HQ⟩ | ⟨rfl, ⟨h0, HQ⟩ | ⟨h0, p5, p6, ⟨h1, HQ⟩ | ⟨h1, HQ⟩⟩⟩⟩
                all_goals (
                  refine region_quiet (C := fun w' => w'.cell? ⟨g6, 0, none⟩ = some (.string (rd_T93 (rd_T90 l i).f1 j).f0) ∧ w'.cell? ⟨g6, 1, none⟩ = some (.string (rd_T93 (rd_T90 l i).f1 j).f1) ∧ w'.cell? ⟨gb, 1, none⟩ = some (.int .i64 (rd_T90 l i).f0.f1) ∧ w'.cell? ⟨gb, 5, none⟩ = some (.slice (some ad5) (rd_T90 l i).f1.length c5) ∧ (0 < j → w'.cell? (ad5.add (u.toNat * 2)) = some (.string (rd_T93 (rd_T90 l i).f1 u).f0)) ∧ Aside0 (w'.heap[g6]? = some (.cells #[.string (rd_T93 (rd_T90 l i).f1 j).f0, .string (rd_T93 (rd_T90 l i).f1 j).f1] 93 (0, 0))) ∧ Aside0 (w'.heap[gb]? = some (.cells #[.int .i64 (rd_T90 l i).f0.f0, .int .i64 (rd_T90 l i).f0.f1, .int .i64 (rd_T90 l i).f0.f2, .string (rd_T90 l i).f0.f3, .bool (rd_T90 l i).f0.f4, .slice (some ad5) (rd_T90 l i).f1.length c5, .int .i64 (rd_T90 l i).f2] 90 (0, 0))) ∧ Aside0 (w'.heap[g1]? = some (.cells #[.slice (some ad) l.length c0_0] 32 (0, 0))) ∧ Aside0 (Below w.heap.size w w')) (by kernel_rfl) (by kernel_rfl) ?hC ?_
                  case hC => exact ⟨(blk_cell QX.out 0).trans rfl, (blk_cell QX.out 1).trans rfl, (blk_cell Qgb.out 1).trans rfl, (blk_cell Qgb.out 5).trans rfl, HHV.out, QX, Qgb, Qg1, ⟨below_drew QB.out⟩⟩
                  repeat (first
                    | go_big_quiet_skip
                    | (go_big_quiet_want; refine quiet_call ?_ Tryd.func64 (by kernel_rfl) rfl #[.string (rd_T93 (rd_T90 l i).f1 j).f1] rfl (by (try simp only [List.map_toArray, List.map_cons, List.map_nil]); first | done | rfl) ?_ ?_; rotate_left 1; (· (rintro w' ⟨z0, z1, z2, z3, z4, y0, y1, y2, y3⟩; refine (spec_l8Backend.calls k (rd_T93 (rd_T90 l i).f1 j).f1 _ w' G1.out).mono ?_; rintro e w'' ⟨rfl, hb0⟩; have hb := (show Below w'.heap.size w' w'' from by first | exact hb0 | exact hb0.below | (obtain ⟨nd, rfl⟩ := hb0; exact pw_below_drewN (Below.refl _ _) _)); exact ⟨by with_reducible rfl, cb_ z0 hb, cb_ z1 hb, cb_ z2 hb, cb_ z3 hb, fun h => cb_ (z4 h) hb, ⟨blk_below y0.out hb⟩, ⟨blk_below y1.out hb⟩, ⟨blk_below y2.out hb⟩, ⟨y3.out.trans (hb.mono y3.out.size)⟩⟩)); simp only [Act.put, List.setIfInBounds_toArray, List.set_cons_zero, List.set_cons_succ, i64_w, i32_w]; go_big_quiet_on)
                    | (go_big_quiet_want; refine quiet_op (v := ?_) ?_ ?_; rotate_left 1; (· (rintro w' ⟨z0, z1, z2, z3, z4, -, -, -, -⟩; (try have z4 := z4 h0); go_simp; with_reducible rfl)); simp only [Act.put, List.setIfInBounds_toArray, List.set_cons_zero, List.set_cons_succ, i64_w, i32_w]; go_big_quiet_on))
                  refine wpQuiet_nil ?_
                  rintro w' ⟨-, -, -, -, -, y0, y1, y2, y3⟩
                  go_wp2
                  go_meet
                  case rel => exact ⟨_, rfl, ⟨by have h_ := HQ.out; first | exact h_ | simpa using h_⟩, y2, y1, y0, y3⟩)
              case rest =>
                clear HA HPV
                obtain ⟨q, rfl, HD, HBOX, HX, HY, HB⟩ := hcut
                have hD := HD.out
                clear HD
                rcases hD with ⟨rfl, rfl⟩ | ⟨rfl, hb1⟩
                · obtain rfl : r = false := (Option.some.inj ((if_neg (by decide)).symm.trans HT.out)).symm
                  go_wp2
                  go_ret
                  exact ⟨rfl, HB.out⟩
                · have HA := Aside0.mk hb1
                  clear hb1
                  have hz5 : wc.cell? ⟨gb, 5, none⟩ = some (.slice (some ad5) (rd_T90 l i).f1.length c5) := (blk_cell HX.out 5).trans rfl
                  have hjc : (j ≤ (c5 : Int)) = True := eq_true (by have := HL5.out; have := of_eq_true p4; omega)
                  have hjc2 : j.toNat ≤ c5 := by have := of_eq_true hjc; omega
                  go_wp2_with fail
                  go_loopg [100] j.toNat (fun kq v100 w' => ∃ (t : Int), v100 = .int .i64 t ∧ Aside0 ((((rd_T90 l i).f1.take j.toNat).drop t.toNat).any (fun o => o.f1.toList == (rd_T93 (rd_T90 l i).f1 j).f1.toList) = sany (rd_T93 (rd_T90 l i).f1 j).f1 (rd_T90 l i).f1 j) ∧ Aside0 (t + kq = j ∧ 0 ≤ t) ∧ Aside0 (w'.heap[g1]? = some (.cells #[.slice (some ad) l.length c0_0] 32 (0, 0))) ∧ Aside0 (w'.heap[gb]? = some (.cells #[.int .i64 (rd_T90 l i).f0.f0, .int .i64 (rd_T90 l i).f0.f1, .int .i64 (rd_T90 l i).f0.f2, .string (rd_T90 l i).f0.f3, .bool (rd_T90 l i).f0.f4, .slice (some ad5) (rd_T90 l i).f1.length c5, .int .i64 (rd_T90 l i).f2] 90 (0, 0))) ∧ Aside0 (w'.heap[g6]? = some (.cells #[.string (rd_T93 (rd_T90 l i).f1 j).f0, .string (rd_T93 (rd_T90 l i).f1 j).f1] 93 (0, 0))) ∧ Aside0 (Below w.heap.size w w'))
                  case atStart => exact ⟨0, rfl, ⟨rfl⟩, ⟨⟨by have := of_eq_true p3; omega, by omega⟩⟩, HBOX, HX, HY, HB⟩
                  case round =>
                    clear HB HBOX HX HY hz5
                    obtain ⟨t, rfl, HAN, HTJ, HBOX, HX, HY, HB⟩ := hrel
                    obtain ⟨ht1, ht0⟩ := HTJ.out
                    clear HTJ
                    cases gk with
                    | zero =>
                      have hd : decide (t < max j 0) = false := decide_eq_false (by have := of_eq_true p3; omega)
                      have hs : sany (rd_T93 (rd_T90 l i).f1 j).f1 (rd_T90 l i).f1 j = false := by
                        rw [← HAN.out, show t = j from by omega]
                        exact any_end _ _ _
                      have HA' := Aside0.mk ((if_neg (by rw [hs]; decide)).symm.trans HA.out)
                      clear ht1 ht0 HA HAN hs
                      go_wp2
                      go_roundg m
                      case measure => omega
                      case rel => exact ⟨j + 1, by first | rfl | (simp; done) | (rw [HWJ.out]), HA', ⟨⟨by have := HJ.out; omega, by have := of_eq_true p3; omega⟩⟩, HBOX, HX, HB⟩
                    | succ q =>
                      have ht2 : t < j := by omega
                      have ht3 : t < ((rd_T90 l i).f1.length : Int) := by have := of_eq_true p4; omega
                      have hd : decide (t < max j 0) = true := decide_eq_true (by omega)
                      have hd2 : (t < max j 0) = True := eq_true (by omega)
                      have hd3 : (t < (j.toNat : Int)) = True := eq_true (by omega)
                      have hd4 : (0 ≤ t) = True := eq_true ht0
                      obtain ⟨ad', e5, hx0, hx1⟩ := at_T93 HK5.out t ht0 ht3
                      obtain rfl : ad5 = ad' := Option.some.inj e5
                      replace hx0 := cb_ hx0 HB.out
                      replace hx1 := cb_ hx1 HB.out
                      have HTJ := Aside0.mk ht1
                      have HT2 := Aside0.mk ht2
                      have HWT := Aside0.mk (show wrap64 (t + 1) = t + 1 from by unfold wrap64; have := HLE.out; omega)
                      have HAT := Aside0.mk (any_at (fun o => o.f1.toList == (rd_T93 (rd_T90 l i).f1 j).f1.toList) (rd_T90 l i).f1 j t ht0 ht2 (by have := of_eq_true p4; omega))
                      clear ht0 ht1 ht2 ht3 e5
                      cases hq : ((rd_T93 (rd_T90 l i).f1 t).f1.toList == (rd_T93 (rd_T90 l i).f1 j).f1.toList) with
                      | true =>
                        have hs : sany (rd_T93 (rd_T90 l i).f1 j).f1 (rd_T90 l i).f1 j = true := by
                          rw [← HAN.out, HAT.out]
                          simp only [hq, Bool.true_or]
                        obtain rfl : b = false := (Option.some.inj ((if_pos hs).symm.trans HA.out)).symm
                        obtain rfl : r = false := (Option.some.inj ((if_neg (by decide)).symm.trans HT.out)).symm
                        clear HAN HA HT hs HAT
                        go_wp2_with (first | ((with_reducible refine gate_dst (N := 8) rfl ?_); (try (refine gate_guard (by rfl) ?_; dsimp only)); refine box_event ?hg (N := 8) ?hd (cs := #[.string (⟨#[]⟩ : ByteArray), .string (⟨#[]⟩ : ByteArray)]) (t := 93) ?hr ?_; (case hd => rfl); (case hg => rfl); (case hr => first | (go_simp; done) | (go_simp; rfl)); intro g8 hgb w10 hbox hb; have HZ := Aside0.mk hbox; have HB8 := Aside0.mk (HB.out.trans (hb.mono HB.out.size)); have HGW := Aside0.mk (show w.heap.size ≤ g8 from by rw [hgb]; exact HB.out.size); have HBOX8 := Aside0.mk (blk_below HBOX.out hb); have HX8 := Aside0.mk (blk_below HX.out hb); have HY8 := Aside0.mk (blk_below HY.out hb); have Ng1_g8 := Aside0.mk (show g1 ≠ g8 from by rw [hgb]; exact Nat.ne_of_lt (blk_lt HBOX.out)); have Ngb_g8 := Aside0.mk (show gb ≠ g8 from by rw [hgb]; exact Nat.ne_of_lt (blk_lt HX.out)); have Ng6_g8 := Aside0.mk (show g6 ≠ g8 from by rw [hgb]; exact Nat.ne_of_lt (blk_lt HY.out)); clear HBOX HX HY HB hb hbox hgb; obtain ⟨hz0, hz1⟩ := Go.Proofs.YtilkginahmfagaaDoor.ShortK.cz2 HZ; obtain ⟨hf0, hf1⟩ := Go.Proofs.YtilkginahmfagaaDoor.ShortK.fz2 HZ; have hy1 : w10.cell? ⟨g6, 1, none⟩ = some (.string (rd_T93 (rd_T90 l i).f1 j).f1) := (blk_cell HY8.out 1).trans rfl; have hne := Ng6_g8.out; have hne2 := Ne.symm hne))
                        go_ret
                        exact ⟨rfl, below_set (below_set HB8.out HGW.out) HGW.out⟩
                      | false =>
                        have hs : (((rd_T90 l i).f1.take j.toNat).drop (t + 1).toNat).any (fun o => o.f1.toList == (rd_T93 (rd_T90 l i).f1 j).f1.toList) = sany (rd_T93 (rd_T90 l i).f1 j).f1 (rd_T90 l i).f1 j := by
                          rw [← HAN.out, HAT.out]
                          simp only [hq, Bool.false_or]
                        have HAN' := Aside0.mk hs
                        clear HAN hs HAT
                        go_wp2_with (first | ((with_reducible refine gate_dst (N := 8) rfl ?_); (try (refine gate_guard (by rfl) ?_; dsimp only)); refine box_event ?hg (N := 8) ?hd (cs := #[.string (⟨#[]⟩ : ByteArray), .string (⟨#[]⟩ : ByteArray)]) (t := 93) ?hr ?_; (case hd => rfl); (case hg => rfl); (case hr => first | (go_simp; done) | (go_simp; rfl)); intro g8 hgb w10 hbox hb; have HZ := Aside0.mk hbox; have HB8 := Aside0.mk (HB.out.trans (hb.mono HB.out.size)); have HGW := Aside0.mk (show w.heap.size ≤ g8 from by rw [hgb]; exact HB.out.size); have HBOX8 := Aside0.mk (blk_below HBOX.out hb); have HX8 := Aside0.mk (blk_below HX.out hb); have HY8 := Aside0.mk (blk_below HY.out hb); have Ng1_g8 := Aside0.mk (show g1 ≠ g8 from by rw [hgb]; exact Nat.ne_of_lt (blk_lt HBOX.out)); have Ngb_g8 := Aside0.mk (show gb ≠ g8 from by rw [hgb]; exact Nat.ne_of_lt (blk_lt HX.out)); have Ng6_g8 := Aside0.mk (show g6 ≠ g8 from by rw [hgb]; exact Nat.ne_of_lt (blk_lt HY.out)); clear HBOX HX HY HB hb hbox hgb; obtain ⟨hz0, hz1⟩ := Go.Proofs.YtilkginahmfagaaDoor.ShortK.cz2 HZ; obtain ⟨hf0, hf1⟩ := Go.Proofs.YtilkginahmfagaaDoor.ShortK.fz2 HZ; have hy1 : w10.cell? ⟨g6, 1, none⟩ = some (.string (rd_T93 (rd_T90 l i).f1 j).f1) := (blk_cell HY8.out 1).trans rfl; have hne := Ng6_g8.out; have hne2 := Ne.symm hne))
                        go_roundg q
                        case measure => omega
                        case rel => exact ⟨t + 1, by first | rfl | (simp; done) | (rw [HWT.out]), HAN', ⟨⟨by have := HTJ.out; omega, by have := of_eq_true hd4; omega⟩⟩, ⟨blk_far (blk_far HBOX8.out Ng1_g8.out _) Ng1_g8.out _⟩, ⟨blk_far (blk_far HX8.out Ngb_g8.out _) Ngb_g8.out _⟩, ⟨blk_far (blk_far HY8.out Ng6_g8.out _) Ng6_g8.out _⟩, ⟨below_set (below_set HB8.out HGW.out) HGW.out⟩⟩

/-! ### spec_GoodLive: function 26 -/
mutual
def spec_GoodLive.l0 : Nat → List ByteArray → List ByteArray → Int → Int → Option (Bool)
 | 0, _, _, _, _ => none
 | k + 1, x0, x5, x6, x7 => if x7 < x6 then (if 0 ≤ x7 then (if x7 < (x5.length : Int) then ((spec_l8Backend.f k (rdOf ByteArray.empty x5 x7)).bind fun t123 => (if t123 = true then (if x7 > 0 then (if 0 ≤ (wrap64 (x7 - 1)) then (if (wrap64 (x7 - 1)) < (x0.length : Int) then (spec_GoodLive.j1 k x0 x5 x6 x7 (!(Op.bytesLess ((rdOf ByteArray.empty x0 (wrap64 (x7 - 1))).toList) ((rdOf ByteArray.empty x5 x7).toList)))) else (none)) else (none)) else (spec_GoodLive.j1 k x0 x5 x6 x7 false)) else (spec_GoodLive.j1 k x0 x5 x6 x7 true))) else (none)) else (none)) else (some (decide ((x0.length : Int) ≤ 12)))
def spec_GoodLive.j1 : Nat → List ByteArray → List ByteArray → Int → Int → Bool → Option (Bool)
 | 0, _, _, _, _, _ => none
 | k + 1, x0, x5, x6, x7, x27 => if x27 = true then (some false) else (spec_GoodLive.l0 k x0 x5 x6 (wrap64 (x7 + 1)))
end
def spec_GoodLive.f (k : Nat) (l0 : List ByteArray) : Option (Bool) := spec_GoodLive.l0 k l0 l0 (l0.length : Int) 0
theorem spec_GoodLive.mono_l : ∀ k, (∀ y0 y1 y2 y3, LeO (spec_GoodLive.l0 k y0 y1 y2 y3) (spec_GoodLive.l0 (k + 1) y0 y1 y2 y3)) ∧ (∀ y0 y1 y2 y3 y4, LeO (spec_GoodLive.j1 k y0 y1 y2 y3 y4) (spec_GoodLive.j1 (k + 1) y0 y1 y2 y3 y4))
 | 0 => ⟨fun _ _ _ _ r h => by simp [spec_GoodLive.l0] at h, fun _ _ _ _ _ r h => by simp [spec_GoodLive.j1] at h⟩
 | k + 1 => by
  obtain ⟨ih0, ih1⟩ := spec_GoodLive.mono_l k
  refine ⟨?_, ?_⟩
  ·intro y0 y1 y2 y3
   unfold spec_GoodLive.l0
   repeat' first
   | (with_reducible exact ih0 _ _ _ _)
   | (with_reducible exact ih1 _ _ _ _ _)
   | (with_reducible exact spec_l8Backend.mono _ _)
   | (with_reducible exact LeO.refl _)
   | (with_reducible exact LeO.none _)
   | (with_reducible refine LeO.ite ?_ ?_)
   | (with_reducible refine LeO.bind ?_ (fun _ => ?_))
   | exact ih0 _ _ _ _
   | exact ih1 _ _ _ _ _
   | exact spec_l8Backend.mono _ _
   | exact LeO.none _
   | refine LeO.ite ?_ ?_
   | refine LeO.bind ?_ (fun _ => ?_)
  ·intro y0 y1 y2 y3 y4
   unfold spec_GoodLive.j1
   repeat' first
   | (with_reducible exact ih0 _ _ _ _)
   | (with_reducible exact ih1 _ _ _ _ _)
   | (with_reducible exact spec_l8Backend.mono _ _)
   | (with_reducible exact LeO.refl _)
   | (with_reducible exact LeO.none _)
   | (with_reducible refine LeO.ite ?_ ?_)
   | (with_reducible refine LeO.bind ?_ (fun _ => ?_))
   | exact ih0 _ _ _ _
   | exact ih1 _ _ _ _ _
   | exact spec_l8Backend.mono _ _
   | exact LeO.none _
   | refine LeO.ite ?_ ?_
   | refine LeO.bind ?_ (fun _ => ?_)
theorem spec_GoodLive.mono : ∀ a0 k, LeO (spec_GoodLive.f k a0) (spec_GoodLive.f (k + 1) a0) := by
 intro a0 k
 obtain ⟨ih0, ih1⟩ := spec_GoodLive.mono_l k
 unfold spec_GoodLive.f
 repeat' first
   | (with_reducible exact ih0 _ _ _ _)
   | (with_reducible exact ih1 _ _ _ _ _)
   | (with_reducible exact spec_l8Backend.mono _ _)
   | (with_reducible exact LeO.refl _)
   | (with_reducible exact LeO.none _)
   | (with_reducible refine LeO.ite ?_ ?_)
   | (with_reducible refine LeO.bind ?_ (fun _ => ?_))
   | exact ih0 _ _ _ _
   | exact ih1 _ _ _ _ _
   | exact spec_l8Backend.mono _ _
   | exact LeO.none _
   | refine LeO.ite ?_ ?_
   | refine LeO.bind ?_ (fun _ => ?_)
set_option maxHeartbeats 64000000 in
set_option maxRecDepth 100000 in
theorem spec_GoodLive.calls (k : Nat) (A0 : Option Addr) (c0 : Nat) (l0 : List ByteArray) (r : Bool) (w : World) (hr0 : Kd.C Kd.string w A0 l0.length l0) (hc0 : l0.length ≤ c0) (h : spec_GoodLive.f k l0 = some r) :
  Calls Tryd.prog 26 #[.slice A0 l0.length c0] w fun e w' => e = .returned (.bool r) ∧ Drawn0 w w' := by
 have HR0 := Aside0.mk hr0
 have HC0 := Aside0.mk hc0
 clear hr0 hc0
 have H : (spec_GoodLive.l0 k l0 l0 (l0.length : Int) 0) = some r := h
 clear h
 have H' := Aside0.mk H
 clear H
 go_enter Tryd.func26, Tryd.ntmps26
 go_wp2
 go_loopg [7] k (fun kq v7 w' => ∃ (x7_1 : Int), v7 = .int .i64 x7_1 ∧ Aside0 (spec_GoodLive.l0 kq l0 l0 (l0.length : Int) x7_1 = some r) ∧ Aside0 (kq ≤ k) ∧ Drawn0 w w')
 case atStart => exact ⟨(0), (by first | rfl | (simp; done) | (simp [*]; done)), H', ⟨Nat.le_refl _⟩, by repeat (first | exact Drawn0.refl _ | apply Drawn0.step)⟩
 case round =>
  clear H'
  obtain ⟨x7_1, rfl, HA, HK1, ⟨m1, rfl⟩⟩ := hrel
  cases gk with
  | zero => exact absurd HA.out (by simp [spec_GoodLive.l0])
  | succ k1 =>
   have H := HA.out
   clear HA
   simp only [spec_GoodLive.l0] at H
   by_cases c2 : x7_1 < (l0.length : Int)
   ·rw [if_pos c2] at H
    have c2b0 : decide (x7_1 < (l0.length : Int)) = true := decide_eq_true c2
    clear c2
    by_cases c3 : 0 ≤ x7_1
    ·rw [if_pos c3] at H
     have c3b0 : decide (0 ≤ x7_1) = true := decide_eq_true c3
     clear c3
     by_cases c4 : x7_1 < (l0.length : Int)
     ·rw [if_pos c4] at H
      have c4b0 : decide (x7_1 < (l0.length : Int)) = true := decide_eq_true c4
      clear c4
      have HC5 := Aside0.mk H
      clear H
      have p122 : 0 ≤ (x7_1 : Int) := of_decide_eq_true (by first | (with_reducible assumption) | assumption)
      have q122 : x7_1 < (l0.length : Int) := of_decide_eq_true (by first | (with_reducible assumption) | assumption)
      obtain ⟨ad122, e122, hx122_0⟩ := Kd.at_string HR0.out x7_1 p122 q122
      cases e122
      replace p122 := eq_true p122
      replace q122 := eq_true q122
      go_upto_region 4 with (fail)
      go_cut [27] (fun v27 wc => ∃ (kq : Nat) (x27_4 : Bool), v27 = .bool x27_4 ∧ Aside0 (spec_GoodLive.j1 kq l0 l0 (l0.length : Int) x7_1 x27_4 = some r) ∧ Aside0 (kq ≤ k1) ∧ Drawn0 w wc)
      case first =>
       have H := HC5.out
       clear HC5
       replace H := Option.bind_eq_some_iff.mp H
       obtain ⟨t123, A60, H⟩ := H
       replace H : (if t123 = true then (if x7_1 > 0 then (if 0 ≤ (wrap64 (x7_1 - 1)) then (if (wrap64 (x7_1 - 1)) < (l0.length : Int) then (spec_GoodLive.j1 k1 l0 l0 (l0.length : Int) x7_1 (!(Op.bytesLess ((rdOf ByteArray.empty l0 (wrap64 (x7_1 - 1))).toList) ((rdOf ByteArray.empty l0 x7_1).toList)))) else (none)) else (none)) else (spec_GoodLive.j1 k1 l0 l0 (l0.length : Int) x7_1 false)) else (spec_GoodLive.j1 k1 l0 l0 (l0.length : Int) x7_1 true)) = some r := H
       have A6 := Aside0.mk A60
       clear A60
       by_cases c7 : t123 = true
       ·subst c7
        have H1 : (if x7_1 > 0 then (if 0 ≤ (wrap64 (x7_1 - 1)) then (if (wrap64 (x7_1 - 1)) < (l0.length : Int) then (spec_GoodLive.j1 k1 l0 l0 (l0.length : Int) x7_1 (!(Op.bytesLess ((rdOf ByteArray.empty l0 (wrap64 (x7_1 - 1))).toList) ((rdOf ByteArray.empty l0 x7_1).toList)))) else (none)) else (none)) else (spec_GoodLive.j1 k1 l0 l0 (l0.length : Int) x7_1 false)) = some r := by rw [if_pos rfl] at H; exact H
        clear H
        have H := H1
        clear H1
        by_cases c8 : x7_1 > 0
        ·rw [if_pos c8] at H
         have c8b0 : decide (0 < x7_1) = true := decide_eq_true c8
         clear c8
         (first | rw [c8b0] | (simp only [i64_w, i32_w]; rw [c8b0]) | skip)
         obtain ⟨ji9, hji9⟩ : ∃ j_ : Int, (wrap64 (x7_1 - 1)) = j_ := ⟨_, rfl⟩
         replace H : (if 0 ≤ (ji9) then (if (ji9) < (l0.length : Int) then (spec_GoodLive.j1 k1 l0 l0 (l0.length : Int) x7_1 (!(Op.bytesLess ((rdOf ByteArray.empty l0 (ji9)).toList) ((rdOf ByteArray.empty l0 x7_1).toList)))) else (none)) else (none)) = some r := by first | (rw [hji9] at H; exact H) | (simp only [hji9] at H ⊢; exact H)
         (try rw [hji9] at A6)
         have hji9w : (IntKind.i64.wrap (x7_1 - 1)) = ji9 := (i64_w _).trans hji9
         by_cases c10 : 0 ≤ (ji9)
         ·rw [if_pos c10] at H
          have c10b0 : decide (0 ≤ (ji9)) = true := decide_eq_true c10
          clear c10
          by_cases c11 : (ji9) < (l0.length : Int)
          ·rw [if_pos c11] at H
           have c11b0 : decide ((ji9) < (l0.length : Int)) = true := decide_eq_true c11
           clear c11
           have H' := Aside0.mk H
           clear H
           go_wp2_with (first | ((with_reducible refine gate_callee (f := 64) rfl ?_); refine goesL_ (some 13) rfl rfl Tryd.func64 (by kernel_rfl) rfl #[.string (rdOf ByteArray.empty l0 x7_1)] rfl (by (try simp only [List.map_toArray, List.map_cons, List.map_nil]); first | done | rfl | (simp only [List.length_drop, List.length_take]; rfl)) ?_; (with_reducible refine (spec_l8Backend.calls k1 (rdOf ByteArray.empty l0 x7_1) true _ A6.out).mono ?_); rintro e w' ⟨rfl, ⟨nd, rfl⟩⟩; refine ⟨_, rfl, ?_⟩; have p124 : 0 ≤ ((ji9) : Int) := of_decide_eq_true (by first | (with_reducible assumption) | assumption); have q124 : (ji9) < (l0.length : Int) := of_decide_eq_true (by first | (with_reducible assumption) | assumption); obtain ⟨ad124, e124, hx124_0⟩ := Kd.at_string HR0.out (ji9) p124 q124; obtain rfl : ad122 = ad124 := (by injection e124); replace p124 := eq_true p124; replace q124 := eq_true q124))
           go_meet
           case rel => exact ⟨_, (!(Op.bytesLess ((rdOf ByteArray.empty l0 (ji9)).toList) ((rdOf ByteArray.empty l0 x7_1).toList))), (by first | rfl | (simp; done) | (simp only [← hji9] <;> (first | rfl | (simp; done))) | (simp only [← hji9, i64_w] <;> (first | rfl | (simp; done))) | (simp [*]; done)), H', ⟨by have := HK1.out; first | omega | exact Nat.le_refl _⟩, by repeat (first | exact Drawn0.refl _ | apply Drawn0.step)⟩
          ·rw [if_neg c11] at H
           exact absurd H (by simp)
         ·rw [if_neg c10] at H
          exact absurd H (by simp)
        ·rw [if_neg c8] at H
         have c8b0 : decide (0 < x7_1) = false := decide_eq_false c8
         clear c8
         (first | rw [c8b0] | (simp only [i64_w, i32_w]; rw [c8b0]) | skip)
         have H' := Aside0.mk H
         clear H
         go_wp2_with (first | ((with_reducible refine gate_callee (f := 64) rfl ?_); refine goesL_ (some 13) rfl rfl Tryd.func64 (by kernel_rfl) rfl #[.string (rdOf ByteArray.empty l0 x7_1)] rfl (by (try simp only [List.map_toArray, List.map_cons, List.map_nil]); first | done | rfl | (simp only [List.length_drop, List.length_take]; rfl)) ?_; (with_reducible refine (spec_l8Backend.calls k1 (rdOf ByteArray.empty l0 x7_1) true _ A6.out).mono ?_); rintro e w' ⟨rfl, ⟨nd, rfl⟩⟩; refine ⟨_, rfl, ?_⟩))
         go_meet
         case rel => exact ⟨_, (false), (by first | rfl | (simp; done) | (simp [*]; done)), H', ⟨by have := HK1.out; first | omega | exact Nat.le_refl _⟩, by repeat (first | exact Drawn0.refl _ | apply Drawn0.step)⟩
       ·replace c7 := Bool.eq_false_iff.mpr c7
        subst c7
        have H1 : (spec_GoodLive.j1 k1 l0 l0 (l0.length : Int) x7_1 true) = some r := by rw [if_neg (show ¬ (false = true) by decide)] at H; exact H
        clear H
        have H := H1
        clear H1
        have H' := Aside0.mk H
        clear H
        go_wp2_with (first | ((with_reducible refine gate_callee (f := 64) rfl ?_); refine goesL_ (some 13) rfl rfl Tryd.func64 (by kernel_rfl) rfl #[.string (rdOf ByteArray.empty l0 x7_1)] rfl (by (try simp only [List.map_toArray, List.map_cons, List.map_nil]); first | done | rfl | (simp only [List.length_drop, List.length_take]; rfl)) ?_; (with_reducible refine (spec_l8Backend.calls k1 (rdOf ByteArray.empty l0 x7_1) false _ A6.out).mono ?_); rintro e w' ⟨rfl, ⟨nd, rfl⟩⟩; refine ⟨_, rfl, ?_⟩))
        go_meet
        case rel => exact ⟨_, (true), (by first | rfl | (simp; done) | (simp [*]; done)), H', ⟨by have := HK1.out; first | omega | exact Nat.le_refl _⟩, by repeat (first | exact Drawn0.refl _ | apply Drawn0.step)⟩
      case rest =>
       clear HC5
       try clear c1
       try clear p1
       try clear q1
       try clear hx1
       try clear c2
       try clear c2b0
       try clear p2
       try clear c3
       try clear c3b0
       try clear c4
       try clear c4b0
       try clear c6
       try clear p6
       try clear c7
       try clear c8
       try clear c8b0
       try clear c10
       try clear c10b0
       try clear c11
       try clear c11b0
       try clear hx122_0
       try clear hx124_0
       try clear p122
       try clear p124
       try clear q122
       try clear q124
       obtain ⟨kq, x27_4, rfl, HA, HJ4, ⟨mc4, rfl⟩⟩ := hcut
       cases kq with
       | zero => exact absurd HA.out (by simp [spec_GoodLive.j1])
       | succ kj4 =>
        have H := HA.out
        clear HA
        simp only [spec_GoodLive.j1] at H
        by_cases c12 : x27_4 = true
        ·subst c12
         have H1 : (some false) = some r := by rw [if_pos rfl] at H; exact H
         clear H
         have H := H1
         clear H1
         obtain rfl := Option.some.inj H
         go_wp2
         go_ret
         exact ⟨by first | rfl | (simp; done) | (simp [*]; done), by repeat (first | exact Drawn0.refl _ | apply Drawn0.step)⟩
        ·replace c12 := Bool.eq_false_iff.mpr c12
         subst c12
         have H1 : (spec_GoodLive.l0 kj4 l0 l0 (l0.length : Int) (wrap64 (x7_1 + 1))) = some r := by rw [if_neg (show ¬ (false = true) by decide)] at H; exact H
         clear H
         have H := H1
         clear H1
         have H' := Aside0.mk H
         clear H
         go_wp2
         go_roundg kj4
         case measure => have := HK1.out; have := HJ4.out; omega
         case rel => exact ⟨(wrap64 (x7_1 + 1)), (by first | rfl | (simp; done) | (simp [*]; done)), H', ⟨by have := HK1.out; have := HJ4.out; omega⟩, by repeat (first | exact Drawn0.refl _ | apply Drawn0.step)⟩
     ·rw [if_neg c4] at H
      exact absurd H (by simp)
    ·rw [if_neg c3] at H
     exact absurd H (by simp)
   ·rw [if_neg c2] at H
    have c2b0 : decide (x7_1 < (l0.length : Int)) = false := decide_eq_false c2
    clear c2
    obtain rfl := Option.some.inj H
    go_wp2
    go_ret
    exact ⟨by first | rfl | (simp; done) | (simp [*]; done), by repeat (first | exact Drawn0.refl _ | apply Drawn0.step)⟩

end Go.Proofs.YtilkginahmfagaaDoor.PFnExactGoodBalancer
