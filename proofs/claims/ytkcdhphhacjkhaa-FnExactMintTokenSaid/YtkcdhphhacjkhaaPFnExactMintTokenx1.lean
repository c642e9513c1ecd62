-- Written by a program of this session (wip/xprint.py).
import Derived.Test.YtkcdhphhacjkhaaPFnExactMintTokenx0
namespace Go.Proofs.Ytkcdhphhacjkhaa.PFnExactMintToken
open Go.RowKit Go.Proofs.YtkcdhphhacjkhaaW.PrintWords Go.Proofs.YtkcdhphhacjkhaaW.PrintLast Go.Proofs.YtkcdhphhacjkhaaW.PrintMore
open Go.Proofs.Ytkcdhphhacjkhaa.ShortK (bN bD bA sA sZ sS mR mB bX bLt bS cz2 fz2 cx2 cz3 fz3 cx3 cz4 fz4 cx4 cz5 fz5 cx5 cz6 fz6 cx6 cz7 fz7 cx7 cz8 fz8 cx8 cz9 fz9 cx9 cz10 fz10 cx10 cz11 fz11 cx11 cz12 fz12 cx12)
attribute [local go_sem] Go.Proofs.Ytkcdhphhacjkhaa.StoreK.isSome_setCell max2_int min2_int max_two min_two max_three min_three max_four min_four   -- for this text's walks alone
set_option linter.unusedVariables false
set_option linter.unusedSimpArgs false

/-! ### laws_szMinted: function 5 -/
def laws_szMinted.f (a0_0 : ByteArray) (a0_1 : Int) (a0_2 : Bool) (a1 : Int) : Option (Int) := if (wrap64 (a1 - (a0_0.size : Int))) < 0 then (some (-1)) else (some (wrap64 (a1 - (a0_0.size : Int))))
set_option maxHeartbeats 64000000 in
set_option maxRecDepth 100000 in
theorem laws_szMinted.calls (a0_0 : ByteArray) (a0_1 : Int) (a0_2 : Bool) (a1 : Int) (r : Int) (w : World) (h : laws_szMinted.f a0_0 a0_1 a0_2 a1 = some r) :
  Calls Try.prog 5 #[.agg #[.string a0_0, .int .i64 a0_1, .bool a0_2], .int .i64 a1] w fun e w' => e = .returned (.int .i64 r) ∧ Below w.heap.size w w' := by
 have hu23 := Try.underlying23
 have HB := Aside0.mk (Below.refl w.heap.size w)
 have H : (if (wrap64 (a1 - (a0_0.size : Int))) < 0 then (some (-1)) else (some (wrap64 (a1 - (a0_0.size : Int))))) = some r := h
 clear h
 by_cases c3 : (wrap64 (a1 - (a0_0.size : Int))) < 0
 ·rw [if_pos c3] at H
  have c3b0 : decide ((wrap64 (a1 - (a0_0.size : Int))) < 0) = true := decide_eq_true c3
  (try (have c3b1 : decide ((IntKind.i64.wrap (a1 - (a0_0.size : Int))) < 0) = true := by simp only [i64_w]; exact (decide_eq_true c3)))
  clear c3
  obtain rfl := Option.some.inj H
  go_enter Try.func5, Try.ntmps5
  go_wp2_with (first | ((with_reducible refine gate_dst (N := 2) rfl ?_); refine box_event ?hg (N := 2) ?hd (cs := #[.string a0_0, .int .i64 a0_1, .bool a0_2]) (t := 23) ?hr ?_; (case hd => rfl); (case hg => rfl); (case hr => first | (go_simp; done) | (go_simp; rfl)); intro gb101 hg w4 hbox hb; have n0_ := bS HB hb; have n1_ := Aside0.mk (hbox); have n2_ := Aside0.mk ((by rw [hg]; exact (below_size (by repeat (first | (with_reducible first | exact HB.out | apply below_alloc | apply pw_below_drewN | apply below_drew1) | exact HB.out))) : w.heap.size ≤ gb101)); have n3_ := n2_; clear HB; have HB := n0_; have BK101 := n1_; have GW101 := n2_; have GE101 := n3_; clear n0_ n1_ n2_ n3_; clear hb hbox hg; obtain ⟨hcz5_0, hcz5_1, hcz5_2⟩ := cz3 BK101; obtain ⟨hfz5_0, hfz5_1, hfz5_2⟩ := fz3 BK101))
  go_ret
  exact ⟨by first | rfl | (simp [errW_none, errW_some] <;> rfl) | (simp [*, errW_none, errW_some] <;> rfl), by repeat (first | (with_reducible first | exact HB.out | apply below_alloc | apply pw_below_drewN | apply below_drew1 | refine below_set ?_ GE101.out) | exact HB.out)⟩
 ·rw [if_neg c3] at H
  have c3b0 : decide ((wrap64 (a1 - (a0_0.size : Int))) < 0) = false := decide_eq_false c3
  (try (have c3b1 : decide ((IntKind.i64.wrap (a1 - (a0_0.size : Int))) < 0) = false := by simp only [i64_w]; exact (decide_eq_false c3)))
  clear c3
  obtain rfl := Option.some.inj H
  go_enter Try.func5, Try.ntmps5
  go_wp2_with (first | ((with_reducible refine gate_dst (N := 2) rfl ?_); refine box_event ?hg (N := 2) ?hd (cs := #[.string a0_0, .int .i64 a0_1, .bool a0_2]) (t := 23) ?hr ?_; (case hd => rfl); (case hg => rfl); (case hr => first | (go_simp; done) | (go_simp; rfl)); intro gb101 hg w6 hbox hb; have n0_ := bS HB hb; have n1_ := Aside0.mk (hbox); have n2_ := Aside0.mk ((by rw [hg]; exact (below_size (by repeat (first | (with_reducible first | exact HB.out | apply below_alloc | apply pw_below_drewN | apply below_drew1) | exact HB.out))) : w.heap.size ≤ gb101)); have n3_ := n2_; clear HB; have HB := n0_; have BK101 := n1_; have GW101 := n2_; have GE101 := n3_; clear n0_ n1_ n2_ n3_; clear hb hbox hg; obtain ⟨hcz7_0, hcz7_1, hcz7_2⟩ := cz3 BK101; obtain ⟨hfz7_0, hfz7_1, hfz7_2⟩ := fz3 BK101))
  go_ret
  exact ⟨by first | rfl | (simp [errW_none, errW_some] <;> rfl) | (simp [*, errW_none, errW_some] <;> rfl), by repeat (first | (with_reducible first | exact HB.out | apply below_alloc | apply pw_below_drewN | apply below_drew1 | refine below_set ?_ GE101.out) | exact HB.out)⟩

/-! ### spec_l1In: function 23 -/
def spec_l1In.f (a0 : Int) (a1 : Int) (a2 : Int) : Option (Bool) := if a0 ≥ a1 then (some (decide (a0 ≤ a2))) else (some false)
set_option maxHeartbeats 64000000 in
set_option maxRecDepth 100000 in
theorem spec_l1In.calls (a0 : Int) (a1 : Int) (a2 : Int) (r : Bool) (w : World) (h : spec_l1In.f a0 a1 a2 = some r) :
  Calls Try.prog 23 #[.int .i64 a0, .int .i64 a1, .int .i64 a2] w fun e w' => e = .returned (.bool r) ∧ Drawn0 w w' := by
 have H : (if a0 ≥ a1 then (some (decide (a0 ≤ a2))) else (some false)) = some r := h
 clear h
 by_cases c4 : a0 ≥ a1
 ·rw [if_pos c4] at H
  have c4b0 : decide (a1 ≤ a0) = true := decide_eq_true c4
  clear c4
  obtain rfl := Option.some.inj H
  go_enter Try.func23, Try.ntmps23
  go_wp2
  go_ret
  exact ⟨by first | rfl | (simp; done) | (simp [*]; done), by repeat (first | exact Drawn0.refl _ | apply Drawn0.step)⟩
 ·rw [if_neg c4] at H
  have c4b0 : decide (a1 ≤ a0) = false := decide_eq_false c4
  clear c4
  obtain rfl := Option.some.inj H
  go_enter Try.func23, Try.ntmps23
  go_wp2
  go_ret
  exact ⟨by first | rfl | (simp; done) | (simp [*]; done), by repeat (first | exact Drawn0.refl _ | apply Drawn0.step)⟩

/-! ### spec_l10Address: function 15 -/
def spec_l10Address.f (a0 : ByteArray) : Option (Bool) := (spec_l1In.f (a0.size : Int) 1 18).bind fun t102 => (some t102)
set_option maxHeartbeats 64000000 in
set_option maxRecDepth 100000 in
theorem spec_l10Address.calls (a0 : ByteArray) (r : Bool) (w : World) (h : spec_l10Address.f a0 = some r) :
  Calls Try.prog 15 #[.string a0] w fun e w' => e = .returned (.bool r) ∧ Drawn0 w w' := by
 have H : ((spec_l1In.f (a0.size : Int) 1 18).bind fun t102 => (some t102)) = some r := h
 clear h
 replace H := Option.bind_eq_some_iff.mp H
 obtain ⟨t102, A20, H⟩ := H
 replace H : (some t102) = some r := H
 have A2 := Aside0.mk A20
 clear A20
 obtain rfl := Option.some.inj H
 go_enter Try.func15, Try.ntmps15
 go_wp2_with (first | ((with_reducible refine gate_callee (f := 23) rfl ?_); refine goesL_ (some 5) rfl rfl Try.func23 (by kernel_rfl) rfl #[.int .i64 (a0.size : Int), .int .i64 1, .int .i64 18] rfl (by (try simp only [List.map_toArray, List.map_cons, List.map_nil]); first | done | rfl | (simp only [List.length_drop, List.length_take]; rfl)) ?_; (with_reducible refine (spec_l1In.calls (a0.size : Int) 1 18 t102 _ A2.out).mono ?_); rintro e w' ⟨rfl, ⟨nd, rfl⟩⟩; refine ⟨_, rfl, ?_⟩))
 go_ret
 exact ⟨by first | rfl | (simp; done) | (simp [*]; done), by repeat (first | exact Drawn0.refl _ | apply Drawn0.step)⟩

/-! ### spec_l10Minted: function 16 -/
def spec_l10Minted.f (a0_0 : ByteArray) (a0_1 : Int) (a0_2 : Bool) : Option (Bool) := if (a0_0.size : Int) ≤ 20 then ((spec_l1In.f a0_1 0 1000000000).bind fun t104 => (some t104)) else (some false)
set_option maxHeartbeats 64000000 in
set_option maxRecDepth 100000 in
theorem spec_l10Minted.calls (a0_0 : ByteArray) (a0_1 : Int) (a0_2 : Bool) (r : Bool) (w : World) (h : spec_l10Minted.f a0_0 a0_1 a0_2 = some r) :
  Calls Try.prog 16 #[.agg #[.string a0_0, .int .i64 a0_1, .bool a0_2]] w fun e w' => e = .returned (.bool r) ∧ Below w.heap.size w w' := by
 have hu27 := Try.underlying27
 have HB := Aside0.mk (Below.refl w.heap.size w)
 have H : (if (a0_0.size : Int) ≤ 20 then ((spec_l1In.f a0_1 0 1000000000).bind fun t104 => (some t104)) else (some false)) = some r := h
 clear h
 by_cases c2 : (a0_0.size : Int) ≤ 20
 ·rw [if_pos c2] at H
  have c2b0 : decide ((a0_0.size : Int) ≤ 20) = true := decide_eq_true c2
  have c2b1 : decide (a0_0.size ≤ 20) = true := decide_eq_true (by omega)
  clear c2
  replace H := Option.bind_eq_some_iff.mp H
  obtain ⟨t104, A30, H⟩ := H
  replace H : (some t104) = some r := H
  have A3 := Aside0.mk A30
  clear A30
  obtain rfl := Option.some.inj H
  go_enter Try.func16, Try.ntmps16
  go_wp2_with (first | ((with_reducible refine gate_dst (N := 1) rfl ?_); refine box_event ?hg (N := 1) ?hd (cs := #[.string a0_0, .int .i64 a0_1, .bool a0_2]) (t := 27) ?hr ?_; (case hd => rfl); (case hg => rfl); (case hr => first | (go_simp; done) | (go_simp; rfl)); intro gb103 hg w4 hbox hb; have n0_ := bS HB hb; have n1_ := Aside0.mk (hbox); have n2_ := Aside0.mk ((by rw [hg]; exact (below_size (by repeat (first | (with_reducible first | exact HB.out | apply below_alloc | apply pw_below_drewN | apply below_drew1) | exact HB.out))) : w.heap.size ≤ gb103)); have n3_ := n2_; clear HB; have HB := n0_; have BK103 := n1_; have GW103 := n2_; have GE103 := n3_; clear n0_ n1_ n2_ n3_; clear hb hbox hg; obtain ⟨hcz5_0, hcz5_1, hcz5_2⟩ := cz3 BK103; obtain ⟨hfz5_0, hfz5_1, hfz5_2⟩ := fz3 BK103) | (go_at_call 23; (with_reducible refine (spec_l1In.calls a0_1 0 1000000000 t104 _ A3.out).mono ?_); rintro e w' ⟨rfl, ⟨nd, rfl⟩⟩))
  go_ret
  exact ⟨by first | rfl | (simp [errW_none, errW_some] <;> rfl) | (simp [*, errW_none, errW_some] <;> rfl), by repeat (first | (with_reducible first | exact HB.out | apply below_alloc | apply pw_below_drewN | apply below_drew1 | refine below_set ?_ GE103.out) | exact HB.out)⟩
 ·rw [if_neg c2] at H
  have c2b0 : decide ((a0_0.size : Int) ≤ 20) = false := decide_eq_false c2
  have c2b1 : decide (a0_0.size ≤ 20) = false := decide_eq_false (by omega)
  clear c2
  obtain rfl := Option.some.inj H
  go_enter Try.func16, Try.ntmps16
  go_wp2_with (first | ((with_reducible refine gate_dst (N := 1) rfl ?_); refine box_event ?hg (N := 1) ?hd (cs := #[.string a0_0, .int .i64 a0_1, .bool a0_2]) (t := 27) ?hr ?_; (case hd => rfl); (case hg => rfl); (case hr => first | (go_simp; done) | (go_simp; rfl)); intro gb103 hg w6 hbox hb; have n0_ := bS HB hb; have n1_ := Aside0.mk (hbox); have n2_ := Aside0.mk ((by rw [hg]; exact (below_size (by repeat (first | (with_reducible first | exact HB.out | apply below_alloc | apply pw_below_drewN | apply below_drew1) | exact HB.out))) : w.heap.size ≤ gb103)); have n3_ := n2_; clear HB; have HB := n0_; have BK103 := n1_; have GW103 := n2_; have GE103 := n3_; clear n0_ n1_ n2_ n3_; clear hb hbox hg; obtain ⟨hcz7_0, hcz7_1, hcz7_2⟩ := cz3 BK103; obtain ⟨hfz7_0, hfz7_1, hfz7_2⟩ := fz3 BK103))
  go_ret
  exact ⟨by first | rfl | (simp [errW_none, errW_some] <;> rfl) | (simp [*, errW_none, errW_some] <;> rfl), by repeat (first | (with_reducible first | exact HB.out | apply below_alloc | apply pw_below_drewN | apply below_drew1 | refine below_set ?_ GE103.out) | exact HB.out)⟩

-- NOT PRINTED: function 57 (spec_l3Mul)

-- NOT PRINTED: function 71 (spec_l3Inverse)

-- NOT PRINTED: function 72 (spec_l3Turn)

-- NOT PRINTED: function 56 (spec_l3Sub)

-- NOT PRINTED: function 41 (spec_l3Keys)

-- NOT PRINTED: function 42 (spec_l3Table)

-- NOT PRINTED: function 58 (spec_l3Xor)

-- NOT PRINTED: function 59 (spec_l3Mix)

-- NOT PRINTED: function 43 (spec_l3With)

-- NOT PRINTED: function 30 (spec_l5Key)

-- NOT PRINTED: function 32 (spec_l1Fixed)

-- NOT PRINTED: function 44 (spec_l5K_count)

-- NOT PRINTED: function 60 (spec_l5Full)

-- NOT PRINTED: function 61 (spec_l5Told)

-- NOT PRINTED: function 38 (spec_l1Big)

-- NOT PRINTED: function 73 (spec_l5Of)

-- NOT PRINTED: function 74 (spec_l5Mul)

-- NOT PRINTED: function 62 (spec_l5Ghash)

-- NOT PRINTED: function 45 (spec_l5K_tag)

-- NOT PRINTED: function 31 (spec_l5K_seal)

/-! ### spec_l10Mint: function 17 -/
def spec_l10Mint.f (a0 : ByteArray) (a1 : ByteArray) (a2 : ByteArray) (a3_0 : ByteArray) (a3_1 : Int) (a3_2 : Bool) : Option (ByteArray) := if a0.size = 16 ∧ a1.size = 12 ∧ a2.size ≤ 1000 ∧ a3_0.size ≤ 1000 then (some (Go.Proofs.Ytkcdhphhacjkhaa.B.mintF a0 a1 a2 a3_0 a3_1 a3_2)) else none
theorem spec_l10Mint.calls (a0 : ByteArray) (a1 : ByteArray) (a2 : ByteArray) (a3_0 : ByteArray) (a3_1 : Int) (a3_2 : Bool) (r : ByteArray) (w : World) (h : spec_l10Mint.f a0 a1 a2 a3_0 a3_1 a3_2 = some r) :
    Calls Try.prog 17 #[.string a0, .string a1, .string a2, .agg #[.string a3_0, .int .i64 a3_1, .bool a3_2]] w fun e w' => e = .returned (.string r) ∧ Below w.heap.size w w' := by
  unfold spec_l10Mint.f at h
  split at h
  · rename_i hc
    simp only [Option.some.injEq] at h
    subst h
    exact Go.Proofs.Ytkcdhphhacjkhaa.B.l10Mint_c w a0 a1 a2 a3_0 a3_1 a3_2 hc.1 hc.2.1 hc.2.2.1 hc.2.2.2
  · cases h

/-! ### spec_MintToken: function 6 -/
def spec_MintToken.j0 : Nat → ByteArray → ByteArray → ByteArray → Bool → ByteArray → Int → Bool → Option (ByteArray × Bool)
 | 0, _, _, _, _, _, _, _ => none
 | k + 1, x0, x1, x2, x27, x106000, x106001, x106002 => if x27 = true then (some ((⟨#[]⟩ : ByteArray), false)) else ((spec_l10Mint.f x0 x1 x2 x106000 x106001 x106002).bind fun t108 => (some (t108, true)))
def spec_MintToken.f (k : Nat) (a0 : ByteArray) (a1 : ByteArray) (a2 : ByteArray) (a3_0 : ByteArray) (a3_1 : Int) (a3_2 : Bool) : Option (ByteArray × Bool) := if (a0.size : Int) = 16 then (if (a1.size : Int) = 12 then ((spec_l10Address.f a2).bind fun t106 => (if t106 = true then ((spec_l10Minted.f a3_0 a3_1 a3_2).bind fun t107 => (spec_MintToken.j0 k a0 a1 a2 (!t107) a3_0 a3_1 a3_2)) else (spec_MintToken.j0 k a0 a1 a2 true a3_0 a3_1 a3_2))) else (spec_MintToken.j0 k a0 a1 a2 true a3_0 a3_1 a3_2)) else (spec_MintToken.j0 k a0 a1 a2 true a3_0 a3_1 a3_2)
theorem spec_MintToken.mono_l : ∀ k, (∀ y0 y1 y2 y3 y4 y5 y6, LeO (spec_MintToken.j0 k y0 y1 y2 y3 y4 y5 y6) (spec_MintToken.j0 (k + 1) y0 y1 y2 y3 y4 y5 y6))
 | 0 => fun _ _ _ _ _ _ _ r h => by simp [spec_MintToken.j0] at h
 | k + 1 => by
  have ih0 := spec_MintToken.mono_l k
  ·intro y0 y1 y2 y3 y4 y5 y6
   unfold spec_MintToken.j0
   repeat' first
   | (with_reducible exact ih0 _ _ _ _ _ _ _)
   | (with_reducible exact LeO.refl _)
   | (with_reducible exact LeO.none _)
   | (with_reducible refine LeO.ite ?_ ?_)
   | (with_reducible refine LeO.bind ?_ (fun _ => ?_))
   | exact ih0 _ _ _ _ _ _ _
   | exact LeO.none _
   | refine LeO.ite ?_ ?_
   | refine LeO.bind ?_ (fun _ => ?_)
theorem spec_MintToken.mono : ∀ a0 a1 a2 a3 a4 a5 k, LeO (spec_MintToken.f k a0 a1 a2 a3 a4 a5) (spec_MintToken.f (k + 1) a0 a1 a2 a3 a4 a5) := by
 intro a0 a1 a2 a3 a4 a5 k
 have ih0 := spec_MintToken.mono_l k
 unfold spec_MintToken.f
 repeat' first
   | (with_reducible exact ih0 _ _ _ _ _ _ _)
   | (with_reducible exact LeO.refl _)
   | (with_reducible exact LeO.none _)
   | (with_reducible refine LeO.ite ?_ ?_)
   | (with_reducible refine LeO.bind ?_ (fun _ => ?_))
   | exact ih0 _ _ _ _ _ _ _
   | exact LeO.none _
   | refine LeO.ite ?_ ?_
   | refine LeO.bind ?_ (fun _ => ?_)
set_option maxHeartbeats 64000000 in
set_option maxRecDepth 100000 in
theorem spec_MintToken.calls (k : Nat) (a0 : ByteArray) (a1 : ByteArray) (a2 : ByteArray) (a3_0 : ByteArray) (a3_1 : Int) (a3_2 : Bool) (r1 : ByteArray) (r2 : Bool) (w : World) (h : spec_MintToken.f k a0 a1 a2 a3_0 a3_1 a3_2 = some (r1, r2)) :
  Calls Try.prog 6 #[.string a0, .string a1, .string a2, .agg #[.string a3_0, .int .i64 a3_1, .bool a3_2]] w fun e w' => e = .returned (.tuple #[.string r1, .bool r2]) ∧ Below w.heap.size w w' := by
 have hu27 := Try.underlying27
 have HB := Aside0.mk (Below.refl w.heap.size w)
 have H : (if (a0.size : Int) = 16 then (if (a1.size : Int) = 12 then ((spec_l10Address.f a2).bind fun t106 => (if t106 = true then ((spec_l10Minted.f a3_0 a3_1 a3_2).bind fun t107 => (spec_MintToken.j0 k a0 a1 a2 (!t107) a3_0 a3_1 a3_2)) else (spec_MintToken.j0 k a0 a1 a2 true a3_0 a3_1 a3_2))) else (spec_MintToken.j0 k a0 a1 a2 true a3_0 a3_1 a3_2)) else (spec_MintToken.j0 k a0 a1 a2 true a3_0 a3_1 a3_2)) = some (r1, r2) := h
 clear h
 have HC5 := Aside0.mk H
 clear H
 go_enter Try.func6, Try.ntmps6
 go_upto_region 1 with (first | ((with_reducible refine gate_dst (N := 7) rfl ?_); (try (refine gate_guard (by rfl) ?_; dsimp only)); refine box_event ?hg (N := 7) ?hd (cs := #[.string a3_0, .int .i64 a3_1, .bool a3_2]) (t := 27) ?hr ?_; (case hd => rfl); (case hg => rfl); (case hr => first | (go_simp; done) | (go_simp; rfl)); intro gb105 hg w6 hbox hb; have n0_ := bS HB hb; have n1_ := Aside0.mk (hbox); have n2_ := Aside0.mk ((by rw [hg]; exact (below_size (by repeat (first | (with_reducible first | exact HB.out | apply below_alloc | apply pw_below_drewN | apply below_drew1) | exact HB.out))) : w.heap.size ≤ gb105)); have n3_ := n2_; clear HB; have HB := n0_; have BK105 := n1_; have GW105 := n2_; have GE105 := n3_; clear n0_ n1_ n2_ n3_; clear hb hbox hg))
 (try simp only [Act.put, sA, sZ, sS])
 go_cut [27] (fun v27 wc => ∃ (kq : Nat) (x27_4 : Bool), v27 = .bool x27_4 ∧ Aside0 (spec_MintToken.j0 kq a0 a1 a2 x27_4 a3_0 a3_1 a3_2 = some (r1, r2)) ∧ Aside0 (kq ≤ k) ∧ Aside0 (wc.heap[gb105]? = some (.cells #[.string a3_0, .int .i64 a3_1, .bool a3_2] 27 (0, 0))) ∧ Aside0 (Below w.heap.size w wc))
 case first =>
  have H := HC5.out
  clear HC5
  by_cases c7 : (a0.size : Int) = 16
  ·rw [if_pos c7] at H
   have c7b0 : ((a0.size : Int) == 16) = true := beq_iff_eq.mpr c7
   have c7b1 : ((a0.size : Int) != 16) = false := bne_eq_false_iff_eq.mpr c7
   clear c7
   (first | rw [c7b0] | (simp only [i64_w, i32_w]; rw [c7b0]) | skip)
   by_cases c8 : (a1.size : Int) = 12
   ·rw [if_pos c8] at H
    have c8b0 : ((a1.size : Int) == 12) = true := beq_iff_eq.mpr c8
    have c8b1 : ((a1.size : Int) != 12) = false := bne_eq_false_iff_eq.mpr c8
    clear c8
    replace H := Option.bind_eq_some_iff.mp H
    obtain ⟨t106, A90, H⟩ := H
    replace H : (if t106 = true then ((spec_l10Minted.f a3_0 a3_1 a3_2).bind fun t107 => (spec_MintToken.j0 k a0 a1 a2 (!t107) a3_0 a3_1 a3_2)) else (spec_MintToken.j0 k a0 a1 a2 true a3_0 a3_1 a3_2)) = some (r1, r2) := H
    have A9 := Aside0.mk A90
    clear A90
    by_cases c10 : t106 = true
    ·subst c10
     have H1 : ((spec_l10Minted.f a3_0 a3_1 a3_2).bind fun t107 => (spec_MintToken.j0 k a0 a1 a2 (!t107) a3_0 a3_1 a3_2)) = some (r1, r2) := by rw [if_pos rfl] at H; exact H
     clear H
     have H := H1
     clear H1
     replace H := Option.bind_eq_some_iff.mp H
     obtain ⟨t107, A110, H⟩ := H
     replace H : (spec_MintToken.j0 k a0 a1 a2 (!t107) a3_0 a3_1 a3_2) = some (r1, r2) := H
     have A11 := Aside0.mk A110
     clear A110
     have H' := Aside0.mk H
     clear H
     go_wp2_with (first | (go_at_call 15; (with_reducible refine (spec_l10Address.calls a2 true _ A9.out).mono ?_); rintro e w' ⟨rfl, ⟨nd, rfl⟩⟩; obtain ⟨hcz12_0, hcz12_1, hcz12_2⟩ := cz3 BK105; obtain ⟨hfz12_0, hfz12_1, hfz12_2⟩ := fz3 BK105) | (go_at_call 16; (with_reducible refine (spec_l10Minted.calls a3_0 a3_1 a3_2 t107 _ A11.out).mono ?_); rintro e w13 ⟨rfl, hb⟩; have n0_ := bX BK105 hb; have n1_ := bS HB hb; clear BK105; clear HB; have BK105 := n0_; have HB := n1_; clear n0_ n1_; (try clear hb); (try clear hb2); (try clear hk); (try clear hi)))
     go_meet
     case rel => exact ⟨_, (!t107), (by first | rfl | (simp; done) | (simp [*]; done)), H', ⟨by first | omega | exact Nat.le_refl _⟩, ⟨by (with_reducible repeat (first | refine bN ?_ _ | refine bD ?_ | refine bA ?_ _)); exact BK105.out⟩, ⟨by repeat (first | (with_reducible first | exact HB.out | apply below_alloc | apply pw_below_drewN | apply below_drew1 | refine below_set ?_ GE105.out) | exact HB.out)⟩⟩
    ·replace c10 := Bool.eq_false_iff.mpr c10
     subst c10
     have H1 : (spec_MintToken.j0 k a0 a1 a2 true a3_0 a3_1 a3_2) = some (r1, r2) := by rw [if_neg (show ¬ (false = true) by decide)] at H; exact H
     clear H
     have H := H1
     clear H1
     have H' := Aside0.mk H
     clear H
     go_wp2_with (first | (go_at_call 15; (with_reducible refine (spec_l10Address.calls a2 false _ A9.out).mono ?_); rintro e w' ⟨rfl, ⟨nd, rfl⟩⟩))
     go_meet
     case rel => exact ⟨_, (true), (by first | rfl | (simp; done) | (simp [*]; done)), H', ⟨by first | omega | exact Nat.le_refl _⟩, ⟨by (with_reducible repeat (first | refine bN ?_ _ | refine bD ?_ | refine bA ?_ _)); exact BK105.out⟩, ⟨by repeat (first | (with_reducible first | exact HB.out | apply below_alloc | apply pw_below_drewN | apply below_drew1 | refine below_set ?_ GE105.out) | exact HB.out)⟩⟩
   ·rw [if_neg c8] at H
    have c8b0 : ((a1.size : Int) == 12) = false := beq_eq_false_iff_ne.mpr c8
    have c8b1 : ((a1.size : Int) != 12) = true := bne_iff_ne.mpr c8
    have H' := Aside0.mk H
    clear H
    go_wp2
    go_meet
    case rel => exact ⟨_, (true), (by first | rfl | (simp; done) | (simp [*]; done)), H', ⟨by first | omega | exact Nat.le_refl _⟩, ⟨by (with_reducible repeat (first | refine bN ?_ _ | refine bD ?_ | refine bA ?_ _)); exact BK105.out⟩, ⟨by repeat (first | (with_reducible first | exact HB.out | apply below_alloc | apply pw_below_drewN | apply below_drew1 | refine below_set ?_ GE105.out) | exact HB.out)⟩⟩
  ·rw [if_neg c7] at H
   have c7b0 : ((a0.size : Int) == 16) = false := beq_eq_false_iff_ne.mpr c7
   have c7b1 : ((a0.size : Int) != 16) = true := bne_iff_ne.mpr c7
   (first | rw [c7b0] | (simp only [i64_w, i32_w]; rw [c7b0]) | skip)
   have H' := Aside0.mk H
   clear H
   go_wp2
   go_meet
   case rel => exact ⟨_, (true), (by first | rfl | (simp; done) | (simp [*]; done)), H', ⟨by first | omega | exact Nat.le_refl _⟩, ⟨by (with_reducible repeat (first | refine bN ?_ _ | refine bD ?_ | refine bA ?_ _)); exact BK105.out⟩, ⟨by repeat (first | (with_reducible first | exact HB.out | apply below_alloc | apply pw_below_drewN | apply below_drew1 | refine below_set ?_ GE105.out) | exact HB.out)⟩⟩
 case rest =>
  clear HC5
  try clear c1
  try clear p2
  try clear c6
  try clear c7
  try clear c7b0
  try clear c7b1
  try clear c8
  try clear c8b0
  try clear c8b1
  try clear c10
  try clear hcz12_0
  try clear hcz12_1
  try clear hcz12_2
  try clear hfz12_0
  try clear hfz12_1
  try clear hfz12_2
  obtain ⟨kq, x27_4, rfl, HA, HJ4, BK105, HB⟩ := hcut
  cases kq with
  | zero => exact absurd HA.out (by simp [spec_MintToken.j0])
  | succ kj4 =>
   have H := HA.out
   clear HA
   simp only [spec_MintToken.j0] at H
   by_cases c14 : x27_4 = true
   ·subst c14
    have H1 : (some ((⟨#[]⟩ : ByteArray), false)) = some (r1, r2) := by rw [if_pos rfl] at H; exact H
    clear H
    have H := H1
    clear H1
    simp only [Option.some.injEq, Prod.mk.injEq] at H
    obtain ⟨rfl, rfl⟩ := H
    go_wp2
    go_ret2
    exact ⟨by first | rfl | (simp [errW_none, errW_some] <;> rfl) | (simp [*, errW_none, errW_some] <;> rfl), by repeat (first | (with_reducible first | exact HB.out | apply below_alloc | apply pw_below_drewN | apply below_drew1 | refine below_set ?_ GE105.out) | exact HB.out)⟩
   ·replace c14 := Bool.eq_false_iff.mpr c14
    subst c14
    have H1 : ((spec_l10Mint.f a0 a1 a2 a3_0 a3_1 a3_2).bind fun t108 => (some (t108, true))) = some (r1, r2) := by rw [if_neg (show ¬ (false = true) by decide)] at H; exact H
    clear H
    have H := H1
    clear H1
    replace H := Option.bind_eq_some_iff.mp H
    obtain ⟨t108, A150, H⟩ := H
    replace H : (some (t108, true)) = some (r1, r2) := H
    have A15 := Aside0.mk A150
    clear A150
    simp only [Option.some.injEq, Prod.mk.injEq] at H
    obtain ⟨rfl, rfl⟩ := H
    obtain ⟨hcz16_0, hcz16_1, hcz16_2⟩ := cz3 BK105
    obtain ⟨hfz16_0, hfz16_1, hfz16_2⟩ := fz3 BK105
    go_wp2_with (first | ((with_reducible refine gate_callee (f := 17) rfl ?_); refine goesL_ (some 32) rfl rfl Try.func17 (by kernel_rfl) rfl #[.string a0, .string a1, .string a2, .agg #[.string a3_0, .int .i64 a3_1, .bool a3_2]] rfl (by (try simp only [List.map_toArray, List.map_cons, List.map_nil]); first | done | rfl | (simp only [List.length_drop, List.length_take]; rfl)) ?_; (with_reducible refine (spec_l10Mint.calls a0 a1 a2 a3_0 a3_1 a3_2 t108 _ A15.out).mono ?_); rintro e w17 ⟨rfl, hb⟩; refine ⟨_, rfl, ?_⟩; have n0_ := bX BK105 hb; have n1_ := bS HB hb; clear BK105; clear HB; have BK105 := n0_; have HB := n1_; clear n0_ n1_; (try clear hb); (try clear hb2); (try clear hk); (try clear hi)))
    go_ret2
    exact ⟨by first | rfl | (simp [errW_none, errW_some] <;> rfl) | (simp [*, errW_none, errW_some] <;> rfl), by repeat (first | (with_reducible first | exact HB.out | apply below_alloc | apply pw_below_drewN | apply below_drew1 | refine below_set ?_ GE105.out) | exact HB.out)⟩

/-! ### laws_toMinted: function 7 -/
def laws_toMinted.f (a0_0 : ByteArray) (a0_1 : Int) (a0_2 : Bool) : Option (ByteArray × Int × Bool) := some (a0_0, a0_1, a0_2)
set_option maxHeartbeats 64000000 in
set_option maxRecDepth 100000 in
theorem laws_toMinted.calls (a0_0 : ByteArray) (a0_1 : Int) (a0_2 : Bool) (r1 : ByteArray) (r2 : Int) (r3 : Bool) (w : World) (h : laws_toMinted.f a0_0 a0_1 a0_2 = some (r1, r2, r3)) :
  Calls Try.prog 7 #[.agg #[.string a0_0, .int .i64 a0_1, .bool a0_2]] w fun e w' => e = .returned (.agg #[.string r1, .int .i64 r2, .bool r3]) ∧ Below w.heap.size w w' := by
 have hu23 := Try.underlying23
 have hu27 := Try.underlying27
 have HB := Aside0.mk (Below.refl w.heap.size w)
 have H : (some (a0_0, a0_1, a0_2)) = some (r1, r2, r3) := h
 clear h
 simp only [Option.some.injEq, Prod.mk.injEq] at H
 obtain ⟨rfl, rfl, rfl⟩ := H
 go_enter Try.func7, Try.ntmps7
 go_wp2_with (first | ((with_reducible refine gate_dst (N := 1) rfl ?_); refine box_event ?hg (N := 1) ?hd (cs := #[.string a0_0, .int .i64 a0_1, .bool a0_2]) (t := 23) ?hr ?_; (case hd => rfl); (case hg => rfl); (case hr => first | (go_simp; done) | (go_simp; rfl)); intro gb109 hg w2 hbox hb; have n0_ := bS HB hb; have n1_ := Aside0.mk (hbox); have n2_ := Aside0.mk ((by rw [hg]; exact (below_size (by repeat (first | (with_reducible first | exact HB.out | apply below_alloc | apply pw_below_drewN | apply below_drew1) | exact HB.out))) : w.heap.size ≤ gb109)); have n3_ := n2_; clear HB; have HB := n0_; have BK109 := n1_; have GW109 := n2_; have GE109 := n3_; clear n0_ n1_ n2_ n3_; clear hb hbox hg) | ((with_reducible refine gate_dst (N := 2) rfl ?_); refine box_event ?hg (N := 2) ?hd (cs := #[.string (⟨#[]⟩ : ByteArray), .int .i64 0, .bool false]) (t := 27) ?hr ?_; (case hd => rfl); (case hg => rfl); (case hr => first | (go_simp; done) | (go_simp; rfl)); intro gb110 hg w3 hbox hb; have n0_ := bX BK109 hb; have n1_ := bS HB hb; have n2_ := Aside0.mk (hbox); have n3_ := Aside0.mk ((by rw [hg]; exact (below_size (by repeat (first | (with_reducible first | exact HB.out | apply below_alloc | apply pw_below_drewN | apply below_drew1 | refine below_set ?_ GE109.out) | exact HB.out))) : w.heap.size ≤ gb110)); have n4_ := n3_; have n5_ := Aside0.mk ((by rw [hg]; exact Nat.ne_of_lt (bLt BK109) : gb109 ≠ gb110)); have n6_ := Aside0.mk ((by rw [hg]; exact Nat.ne_of_gt (bLt BK109) : gb110 ≠ gb109)); clear BK109; clear HB; have BK109 := n0_; have HB := n1_; have BK110 := n2_; have GW110 := n3_; have GE110 := n4_; have NB109_110 := n5_; have NB110_109 := n6_; clear n0_ n1_ n2_ n3_ n4_ n5_ n6_; clear hb hbox hg) | ((with_reducible refine gate_dst (N := 3) rfl ?_); refine box_event ?hg (N := 3) ?hd (cs := #[.string (⟨#[]⟩ : ByteArray), .int .i64 0, .bool false]) (t := 27) ?hr ?_; (case hd => rfl); (case hg => rfl); (case hr => first | (go_simp; done) | (go_simp; rfl)); intro gb111 hg w4 hbox hb; have n0_ := bX BK109 hb; have n1_ := bX BK110 hb; have n2_ := bS HB hb; have n3_ := Aside0.mk (hbox); have n4_ := Aside0.mk ((by rw [hg]; exact (below_size (by repeat (first | (with_reducible first | exact HB.out | apply below_alloc | apply pw_below_drewN | apply below_drew1 | refine below_set ?_ GE109.out | refine below_set ?_ GE110.out) | exact HB.out))) : w.heap.size ≤ gb111)); have n5_ := n4_; have n6_ := Aside0.mk ((by rw [hg]; exact Nat.ne_of_lt (bLt BK109) : gb109 ≠ gb111)); have n7_ := Aside0.mk ((by rw [hg]; exact Nat.ne_of_gt (bLt BK109) : gb111 ≠ gb109)); have n8_ := Aside0.mk ((by rw [hg]; exact Nat.ne_of_lt (bLt BK110) : gb110 ≠ gb111)); have n9_ := Aside0.mk ((by rw [hg]; exact Nat.ne_of_gt (bLt BK110) : gb111 ≠ gb110)); clear BK109; clear BK110; clear HB; have BK109 := n0_; have BK110 := n1_; have HB := n2_; have BK111 := n3_; have GW111 := n4_; have GE111 := n5_; have NB109_111 := n6_; have NB111_109 := n7_; have NB110_111 := n8_; have NB111_110 := n9_; clear n0_ n1_ n2_ n3_ n4_ n5_ n6_ n7_ n8_ n9_; clear hb hbox hg; have hnb5 := NB109_110.out; have hnc5 := NB110_109.out; have hnb6 := NB109_111.out; have hnc6 := NB111_109.out; obtain ⟨hcz7_0, hcz7_1, hcz7_2⟩ := cz3 BK109; obtain ⟨hfz7_0, hfz7_1, hfz7_2⟩ := fz3 BK109; have hnb8 := NB111_110.out; have hnc8 := NB110_111.out; obtain ⟨hcz9_0, hcz9_1, hcz9_2⟩ := cz3 BK111; obtain ⟨hfz9_0, hfz9_1, hfz9_2⟩ := fz3 BK111; obtain ⟨hcz10_0, hcz10_1, hcz10_2⟩ := cz3 BK110; obtain ⟨hfz10_0, hfz10_1, hfz10_2⟩ := fz3 BK110))
 refine bodyPost_ret (results_cell_row rfl _ _ gb110 27 #[.string a0_0, .int .i64 a0_1, .bool a0_2] (0, 0) _ rfl (by (with_reducible repeat (first | refine bN ?_ _ | refine bD ?_ | refine bA ?_ _)); refine blk_put (cs := #[.string a0_0, .int .i64 a0_1, .bool false]) ?_ 2 _ rfl; (with_reducible repeat (first | refine bN ?_ _ | refine bD ?_ | refine bA ?_ _)); refine blk_put (cs := #[.string a0_0, .int .i64 0, .bool false]) ?_ 1 _ rfl; (with_reducible repeat (first | refine bN ?_ _ | refine bD ?_ | refine bA ?_ _)); refine blk_put (cs := #[.string (⟨#[]⟩ : ByteArray), .int .i64 0, .bool false]) ?_ 0 _ rfl; (with_reducible repeat (first | refine bN ?_ _ | refine bD ?_ | refine bA ?_ _)); refine blk_far ?_ NB110_111.out _; (with_reducible repeat (first | refine bN ?_ _ | refine bD ?_ | refine bA ?_ _)); refine blk_far ?_ NB110_111.out _; (with_reducible repeat (first | refine bN ?_ _ | refine bD ?_ | refine bA ?_ _)); refine blk_far ?_ NB110_111.out _; (with_reducible repeat (first | refine bN ?_ _ | refine bD ?_ | refine bA ?_ _)); exact BK110.out) Try.underlying27 rfl (by kernel_rfl)) rfl ?_
 exact ⟨by first | rfl | (simp [errW_none, errW_some] <;> rfl) | (simp [*, errW_none, errW_some] <;> rfl), by repeat (first | (with_reducible first | exact HB.out | apply below_alloc | apply pw_below_drewN | apply below_drew1 | refine below_set ?_ GE109.out | refine below_set ?_ GE110.out | refine below_set ?_ GE111.out) | exact HB.out)⟩

/-! ### impl_isKey: function 18 -/
def impl_isKey.f (a0 : ByteArray) : Option (Bool) := some ((a0.size : Int) == 16)
set_option maxHeartbeats 64000000 in
set_option maxRecDepth 100000 in
theorem impl_isKey.calls (a0 : ByteArray) (r : Bool) (w : World) (h : impl_isKey.f a0 = some r) :
  Calls Try.prog 18 #[.string a0] w fun e w' => e = .returned (.bool r) ∧ Drawn0 w w' := by
 have H : (some ((a0.size : Int) == 16)) = some r := h
 clear h
 obtain rfl := Option.some.inj H
 go_enter Try.func18, Try.ntmps18
 go_wp2
 go_ret
 exact ⟨by first | rfl | (simp; done) | (simp [*]; done), by repeat (first | exact Drawn0.refl _ | apply Drawn0.step)⟩

/-! ### impl_in: function 27 -/
def impl_in.f (a0 : Int) (a1 : Int) (a2 : Int) : Option (Bool) := if a0 ≥ a1 then (some (decide (a0 ≤ a2))) else (some false)
set_option maxHeartbeats 64000000 in
set_option maxRecDepth 100000 in
theorem impl_in.calls (a0 : Int) (a1 : Int) (a2 : Int) (r : Bool) (w : World) (h : impl_in.f a0 a1 a2 = some r) :
  Calls Try.prog 27 #[.int .i64 a0, .int .i64 a1, .int .i64 a2] w fun e w' => e = .returned (.bool r) ∧ Drawn0 w w' := by
 have H : (if a0 ≥ a1 then (some (decide (a0 ≤ a2))) else (some false)) = some r := h
 clear h
 by_cases c4 : a0 ≥ a1
 ·rw [if_pos c4] at H
  have c4b0 : decide (a1 ≤ a0) = true := decide_eq_true c4
  clear c4
  obtain rfl := Option.some.inj H
  go_enter Try.func27, Try.ntmps27
  go_wp2
  go_ret
  exact ⟨by first | rfl | (simp; done) | (simp [*]; done), by repeat (first | exact Drawn0.refl _ | apply Drawn0.step)⟩
 ·rw [if_neg c4] at H
  have c4b0 : decide (a1 ≤ a0) = false := decide_eq_false c4
  clear c4
  obtain rfl := Option.some.inj H
  go_enter Try.func27, Try.ntmps27
  go_wp2
  go_ret
  exact ⟨by first | rfl | (simp; done) | (simp [*]; done), by repeat (first | exact Drawn0.refl _ | apply Drawn0.step)⟩

/-! ### impl_isAddress: function 19 -/
def impl_isAddress.f (a0 : ByteArray) : Option (Bool) := (impl_in.f (a0.size : Int) 1 18).bind fun t112 => (some t112)
set_option maxHeartbeats 64000000 in
set_option maxRecDepth 100000 in
theorem impl_isAddress.calls (a0 : ByteArray) (r : Bool) (w : World) (h : impl_isAddress.f a0 = some r) :
  Calls Try.prog 19 #[.string a0] w fun e w' => e = .returned (.bool r) ∧ Drawn0 w w' := by
 have H : ((impl_in.f (a0.size : Int) 1 18).bind fun t112 => (some t112)) = some r := h
 clear h
 replace H := Option.bind_eq_some_iff.mp H
 obtain ⟨t112, A20, H⟩ := H
 replace H : (some t112) = some r := H
 have A2 := Aside0.mk A20
 clear A20
 obtain rfl := Option.some.inj H
 go_enter Try.func19, Try.ntmps19
 go_wp2_with (first | ((with_reducible refine gate_callee (f := 27) rfl ?_); refine goesL_ (some 5) rfl rfl Try.func27 (by kernel_rfl) rfl #[.int .i64 (a0.size : Int), .int .i64 1, .int .i64 18] rfl (by (try simp only [List.map_toArray, List.map_cons, List.map_nil]); first | done | rfl | (simp only [List.length_drop, List.length_take]; rfl)) ?_; (with_reducible refine (impl_in.calls (a0.size : Int) 1 18 t112 _ A2.out).mono ?_); rintro e w' ⟨rfl, ⟨nd, rfl⟩⟩; refine ⟨_, rfl, ?_⟩))
 go_ret
 exact ⟨by first | rfl | (simp; done) | (simp [*]; done), by repeat (first | exact Drawn0.refl _ | apply Drawn0.step)⟩

/-! ### impl_isTime: function 26 -/
def impl_isTime.f (a0 : Int) : Option (Bool) := (impl_in.f a0 0 1000000000).bind fun t113 => (some t113)
set_option maxHeartbeats 64000000 in
set_option maxRecDepth 100000 in
theorem impl_isTime.calls (a0 : Int) (r : Bool) (w : World) (h : impl_isTime.f a0 = some r) :
  Calls Try.prog 26 #[.int .i64 a0] w fun e w' => e = .returned (.bool r) ∧ Drawn0 w w' := by
 have H : ((impl_in.f a0 0 1000000000).bind fun t113 => (some t113)) = some r := h
 clear h
 replace H := Option.bind_eq_some_iff.mp H
 obtain ⟨t113, A20, H⟩ := H
 replace H : (some t113) = some r := H
 have A2 := Aside0.mk A20
 clear A20
 obtain rfl := Option.some.inj H
 go_enter Try.func26, Try.ntmps26
 go_wp2_with (first | ((with_reducible refine gate_callee (f := 27) rfl ?_); refine goesL_ (some 4) rfl rfl Try.func27 (by kernel_rfl) rfl #[.int .i64 a0, .int .i64 0, .int .i64 1000000000] rfl (by (try simp only [List.map_toArray, List.map_cons, List.map_nil]); first | done | rfl | (simp only [List.length_drop, List.length_take]; rfl)) ?_; (with_reducible refine (impl_in.calls a0 0 1000000000 t113 _ A2.out).mono ?_); rintro e w' ⟨rfl, ⟨nd, rfl⟩⟩; refine ⟨_, rfl, ?_⟩))
 go_ret
 exact ⟨by first | rfl | (simp; done) | (simp [*]; done), by repeat (first | exact Drawn0.refl _ | apply Drawn0.step)⟩

/-! ### impl_goodMinted: function 20 -/
def impl_goodMinted.f (a0_0 : ByteArray) (a0_1 : Int) (a0_2 : Bool) : Option (Bool) := if (a0_0.size : Int) ≤ 20 then ((impl_isTime.f a0_1).bind fun t115 => (some t115)) else (some false)
set_option maxHeartbeats 64000000 in
set_option maxRecDepth 100000 in
theorem impl_goodMinted.calls (a0_0 : ByteArray) (a0_1 : Int) (a0_2 : Bool) (r : Bool) (w : World) (h : impl_goodMinted.f a0_0 a0_1 a0_2 = some r) :
  Calls Try.prog 20 #[.agg #[.string a0_0, .int .i64 a0_1, .bool a0_2]] w fun e w' => e = .returned (.bool r) ∧ Below w.heap.size w w' := by
 have hu27 := Try.underlying27
 have HB := Aside0.mk (Below.refl w.heap.size w)
 have H : (if (a0_0.size : Int) ≤ 20 then ((impl_isTime.f a0_1).bind fun t115 => (some t115)) else (some false)) = some r := h
 clear h
 by_cases c2 : (a0_0.size : Int) ≤ 20
 ·rw [if_pos c2] at H
  have c2b0 : decide ((a0_0.size : Int) ≤ 20) = true := decide_eq_true c2
  have c2b1 : decide (a0_0.size ≤ 20) = true := decide_eq_true (by omega)
  clear c2
  replace H := Option.bind_eq_some_iff.mp H
  obtain ⟨t115, A30, H⟩ := H
  replace H : (some t115) = some r := H
  have A3 := Aside0.mk A30
  clear A30
  obtain rfl := Option.some.inj H
  go_enter Try.func20, Try.ntmps20
  go_wp2_with (first | ((with_reducible refine gate_dst (N := 1) rfl ?_); refine box_event ?hg (N := 1) ?hd (cs := #[.string a0_0, .int .i64 a0_1, .bool a0_2]) (t := 27) ?hr ?_; (case hd => rfl); (case hg => rfl); (case hr => first | (go_simp; done) | (go_simp; rfl)); intro gb114 hg w4 hbox hb; have n0_ := bS HB hb; have n1_ := Aside0.mk (hbox); have n2_ := Aside0.mk ((by rw [hg]; exact (below_size (by repeat (first | (with_reducible first | exact HB.out | apply below_alloc | apply pw_below_drewN | apply below_drew1) | exact HB.out))) : w.heap.size ≤ gb114)); have n3_ := n2_; clear HB; have HB := n0_; have BK114 := n1_; have GW114 := n2_; have GE114 := n3_; clear n0_ n1_ n2_ n3_; clear hb hbox hg; obtain ⟨hcz5_0, hcz5_1, hcz5_2⟩ := cz3 BK114; obtain ⟨hfz5_0, hfz5_1, hfz5_2⟩ := fz3 BK114) | (go_at_call 26; (with_reducible refine (impl_isTime.calls a0_1 t115 _ A3.out).mono ?_); rintro e w' ⟨rfl, ⟨nd, rfl⟩⟩))
  go_ret
  exact ⟨by first | rfl | (simp [errW_none, errW_some] <;> rfl) | (simp [*, errW_none, errW_some] <;> rfl), by repeat (first | (with_reducible first | exact HB.out | apply below_alloc | apply pw_below_drewN | apply below_drew1 | refine below_set ?_ GE114.out) | exact HB.out)⟩
 ·rw [if_neg c2] at H
  have c2b0 : decide ((a0_0.size : Int) ≤ 20) = false := decide_eq_false c2
  have c2b1 : decide (a0_0.size ≤ 20) = false := decide_eq_false (by omega)
  clear c2
  obtain rfl := Option.some.inj H
  go_enter Try.func20, Try.ntmps20
  go_wp2_with (first | ((with_reducible refine gate_dst (N := 1) rfl ?_); refine box_event ?hg (N := 1) ?hd (cs := #[.string a0_0, .int .i64 a0_1, .bool a0_2]) (t := 27) ?hr ?_; (case hd => rfl); (case hg => rfl); (case hr => first | (go_simp; done) | (go_simp; rfl)); intro gb114 hg w6 hbox hb; have n0_ := bS HB hb; have n1_ := Aside0.mk (hbox); have n2_ := Aside0.mk ((by rw [hg]; exact (below_size (by repeat (first | (with_reducible first | exact HB.out | apply below_alloc | apply pw_below_drewN | apply below_drew1) | exact HB.out))) : w.heap.size ≤ gb114)); have n3_ := n2_; clear HB; have HB := n0_; have BK114 := n1_; have GW114 := n2_; have GE114 := n3_; clear n0_ n1_ n2_ n3_; clear hb hbox hg; obtain ⟨hcz7_0, hcz7_1, hcz7_2⟩ := cz3 BK114; obtain ⟨hfz7_0, hfz7_1, hfz7_2⟩ := fz3 BK114))
  go_ret
  exact ⟨by first | rfl | (simp [errW_none, errW_some] <;> rfl) | (simp [*, errW_none, errW_some] <;> rfl), by repeat (first | (with_reducible first | exact HB.out | apply below_alloc | apply pw_below_drewN | apply below_drew1 | refine below_set ?_ GE114.out) | exact HB.out)⟩

/-! ### impl_sealOk: function 33 -/
def impl_sealOk.f (a0 : ByteArray) (a1 : ByteArray) (a2 : ByteArray) : Option (Bool) := (impl_isKey.f a0).bind fun t116 => (if t116 = true then (if (a1.size : Int) = 12 then (some (decide ((a2.size : Int) ≤ 1500))) else (some false)) else (some false))
set_option maxHeartbeats 64000000 in
set_option maxRecDepth 100000 in
theorem impl_sealOk.calls (a0 : ByteArray) (a1 : ByteArray) (a2 : ByteArray) (r : Bool) (w : World) (h : impl_sealOk.f a0 a1 a2 = some r) :
  Calls Try.prog 33 #[.string a0, .string a1, .string a2] w fun e w' => e = .returned (.bool r) ∧ Drawn0 w w' := by
 have H : ((impl_isKey.f a0).bind fun t116 => (if t116 = true then (if (a1.size : Int) = 12 then (some (decide ((a2.size : Int) ≤ 1500))) else (some false)) else (some false))) = some r := h
 clear h
 replace H := Option.bind_eq_some_iff.mp H
 obtain ⟨t116, A40, H⟩ := H
 replace H : (if t116 = true then (if (a1.size : Int) = 12 then (some (decide ((a2.size : Int) ≤ 1500))) else (some false)) else (some false)) = some r := H
 have A4 := Aside0.mk A40
 clear A40
 by_cases c5 : t116 = true
 ·subst c5
  have H1 : (if (a1.size : Int) = 12 then (some (decide ((a2.size : Int) ≤ 1500))) else (some false)) = some r := by rw [if_pos rfl] at H; exact H
  clear H
  have H := H1
  clear H1
  by_cases c6 : (a1.size : Int) = 12
  ·rw [if_pos c6] at H
   have c6b0 : ((a1.size : Int) == 12) = true := beq_iff_eq.mpr c6
   have c6b1 : ((a1.size : Int) != 12) = false := bne_eq_false_iff_eq.mpr c6
   clear c6
   obtain rfl := Option.some.inj H
   go_enter Try.func33, Try.ntmps33
   go_wp2_with (first | ((with_reducible refine gate_callee (f := 18) rfl ?_); refine goesL_ (some 8) rfl rfl Try.func18 (by kernel_rfl) rfl #[.string a0] rfl (by (try simp only [List.map_toArray, List.map_cons, List.map_nil]); first | done | rfl | (simp only [List.length_drop, List.length_take]; rfl)) ?_; (with_reducible refine (impl_isKey.calls a0 true _ A4.out).mono ?_); rintro e w' ⟨rfl, ⟨nd, rfl⟩⟩; refine ⟨_, rfl, ?_⟩))
   go_ret
   exact ⟨by first | rfl | (simp; done) | (simp [*]; done), by repeat (first | exact Drawn0.refl _ | apply Drawn0.step)⟩
  ·rw [if_neg c6] at H
   have c6b0 : ((a1.size : Int) == 12) = false := beq_eq_false_iff_ne.mpr c6
   have c6b1 : ((a1.size : Int) != 12) = true := bne_iff_ne.mpr c6
   obtain rfl := Option.some.inj H
   go_enter Try.func33, Try.ntmps33
   go_wp2_with (first | ((with_reducible refine gate_callee (f := 18) rfl ?_); refine goesL_ (some 8) rfl rfl Try.func18 (by kernel_rfl) rfl #[.string a0] rfl (by (try simp only [List.map_toArray, List.map_cons, List.map_nil]); first | done | rfl | (simp only [List.length_drop, List.length_take]; rfl)) ?_; (with_reducible refine (impl_isKey.calls a0 true _ A4.out).mono ?_); rintro e w' ⟨rfl, ⟨nd, rfl⟩⟩; refine ⟨_, rfl, ?_⟩))
   go_ret
   exact ⟨by first | rfl | (simp; done) | (simp [*]; done), by repeat (first | exact Drawn0.refl _ | apply Drawn0.step)⟩
 ·replace c5 := Bool.eq_false_iff.mpr c5
  subst c5
  have H1 : (some false) = some r := by rw [if_neg (show ¬ (false = true) by decide)] at H; exact H
  clear H
  have H := H1
  clear H1
  obtain rfl := Option.some.inj H
  go_enter Try.func33, Try.ntmps33
  go_wp2_with (first | ((with_reducible refine gate_callee (f := 18) rfl ?_); refine goesL_ (some 8) rfl rfl Try.func18 (by kernel_rfl) rfl #[.string a0] rfl (by (try simp only [List.map_toArray, List.map_cons, List.map_nil]); first | done | rfl | (simp only [List.length_drop, List.length_take]; rfl)) ?_; (with_reducible refine (impl_isKey.calls a0 false _ A4.out).mono ?_); rintro e w' ⟨rfl, ⟨nd, rfl⟩⟩; refine ⟨_, rfl, ?_⟩))
  go_ret
  exact ⟨by first | rfl | (simp; done) | (simp [*]; done), by repeat (first | exact Drawn0.refl _ | apply Drawn0.step)⟩

-- NOT PRINTED: function 47 (impl_mulGf)

-- NOT PRINTED: function 75 (impl_inverseGf)

-- NOT PRINTED: function 76 (bits_RotateLeft8)

-- NOT PRINTED: function 63 (impl_subByte)

-- NOT PRINTED: function 46 (impl_newBox)

-- NOT PRINTED: function 34 (impl_cipherOf)

/-! ### impl_bigEndian: function 22 -/
def impl_bigEndian.f (a0 : Int) (a1 : Int) : Option (ByteArray) := if 0 ≤ a1 ∧ a1 ≤ 8 then (some (Go.Proofs.Ytkcdhphhacjkhaa.B.beT a0 a1.toNat)) else none
theorem impl_bigEndian.calls (a0 : Int) (a1 : Int) (r : ByteArray) (w : World) (h : impl_bigEndian.f a0 a1 = some r) :
    Calls Try.prog 22 #[.int .u64 a0, .int .i64 a1] w fun e w' => e = .returned (.string r) ∧ Below w.heap.size w w' := by
  unfold impl_bigEndian.f at h
  split at h
  · rename_i hc
    simp only [Option.some.injEq] at h
    subst h
    obtain ⟨m, rfl⟩ := Int.eq_ofNat_of_zero_le hc.1
    exact Go.Proofs.Ytkcdhphhacjkhaa.B.bigEndian_c a0 m (by omega) w
  · cases h

-- NOT PRINTED: function 29 (impl_numberOf)

-- NOT PRINTED: function 64 (impl_cipher_addKey)

-- NOT PRINTED: function 65 (impl_shift)

-- NOT PRINTED: function 66 (impl_mixed)

-- NOT PRINTED: function 67 (impl_forth)

-- NOT PRINTED: function 50 (impl_cipher_encrypt)

-- NOT PRINTED: function 48 (impl_cipher_counter)

-- NOT PRINTED: function 35 (impl_cipher_turned)

-- NOT PRINTED: function 49 (impl_polyOf)

-- NOT PRINTED: function 68 (impl_poly_xor)

-- NOT PRINTED: function 77 (impl_poly_byX)

-- NOT PRINTED: function 69 (impl_poly_times)

-- NOT PRINTED: function 51 (impl_ghash)

-- NOT PRINTED: function 84 (bits_Mul32)

-- NOT PRINTED: function 85 (bits_Mul64)

-- NOT PRINTED: function 78 (bits_Mul)

-- NOT PRINTED: function 86 (stringslite_HasPrefix)

-- NOT PRINTED: function 79 (strings_HasPrefix)

-- NOT PRINTED: function 89 (abi_NoEscape)

-- NOT PRINTED: function 87 (strings_Builder_copyCheck)

-- NOT PRINTED: function 90 (bytealg_MakeNoZero)

-- NOT PRINTED: function 88 (strings_Builder_grow)

-- NOT PRINTED: function 80 (strings_Builder_Grow)

-- NOT PRINTED: function 81 (strings_Builder_WriteString)

-- NOT PRINTED: function 82 (strings_Builder_Len)

-- NOT PRINTED: function 83 (strings_Builder_String)

-- NOT PRINTED: function 70 (strings_Repeat)

-- NOT PRINTED: function 52 (impl_filled)

-- NOT PRINTED: function 53 (impl_poly_text)

-- NOT PRINTED: function 54 (impl_xored)

-- NOT PRINTED: function 36 (impl_cipher_tag)

/-! ### impl_SealText: function 21 -/
def impl_SealText.f (a0 : ByteArray) (a1 : ByteArray) (a2 : ByteArray) (a3 : ByteArray) : Option (ByteArray × Bool) := if a0.size = 16 ∧ a1.size = 12 ∧ a2.size ≤ 1500 ∧ a3.size ≤ 1500 then (some (Go.Proofs.Ytkcdhphhacjkhaa.B.sealT a0 a1 a2 a3, true)) else none
theorem impl_SealText.calls (a0 : ByteArray) (a1 : ByteArray) (a2 : ByteArray) (a3 : ByteArray) (r1 : ByteArray) (r2 : Bool) (w : World) (h : impl_SealText.f a0 a1 a2 a3 = some (r1, r2)) :
    Calls Try.prog 21 #[.string a0, .string a1, .string a2, .string a3] w fun e w' => e = .returned (.tuple #[.string r1, .bool r2]) ∧ Below w.heap.size w w' := by
  unfold impl_SealText.f at h
  split at h
  · rename_i hc
    simp only [Option.some.injEq, Prod.mk.injEq] at h
    obtain ⟨rfl, rfl⟩ := h
    exact Go.Proofs.Ytkcdhphhacjkhaa.B.sealText_c w a0 a1 a2 a3 hc.1 hc.2.1 hc.2.2.1 hc.2.2.2
  · cases h

end Go.Proofs.Ytkcdhphhacjkhaa.PFnExactMintToken
