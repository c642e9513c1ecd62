-- Written by a program of this session (wip/xprint.py).
import Derived.Test.YthkmjfapljmmpaaPFnExactRaiseLimitx0
import Derived.Test.YthkmjfapljmmpaaPFnExactRaiseLimitx1
import Derived.Test.YthkmjfapljmmpaaPFnExactRaiseLimitx3
import Derived.Test.YthkmjfapljmmpaaPFnExactRaiseLimitx5
import Derived.Test.YthkmjfapljmmpaaPFnExactRaiseLimitx6
namespace Go.Proofs.Ythkmjfapljmmpaa.PFnExactRaiseLimit
open Go.RowKit Go.Proofs.YthkmjfapljmmpaaW.PrintWords Go.Proofs.YthkmjfapljmmpaaW.PrintLast Go.Proofs.YthkmjfapljmmpaaW.PrintMore
open Go.Proofs.Ythkmjfapljmmpaa.ShortK (bN bD bA sA sZ sS cz2 fz2 cz3 fz3 cz4 fz4 cz5 fz5 cz6 fz6 cz7 fz7 cz8 fz8 cz9 fz9 cz10 fz10 cz11 fz11 cz12 fz12)
attribute [local go_sem] Go.Proofs.Ythkmjfapljmmpaa.StoreK.isSome_setCell max2_int min2_int max_two min_two max_three min_three max_four min_four   -- for this text's walks alone
set_option linter.unusedVariables false
set_option linter.unusedSimpArgs false

/-! ### laws_FnExactRaiseLimit: function 7 -/
mutual
def laws_FnExactRaiseLimit.j0 : Nat → Int → Bool → Bool → Bool → Int → Int → Int → List (S218) → Int → Int → Int → List (S177) → Int → Int → Int → List (S177) → Int → Int → Int → List (S177) → Option (Bool)
 | 0, _, _, _, _, _, _, _, _, _, _, _, _, _, _, _, _, _, _, _, _ => none
 | k + 1, x1, x7, x10, x44, x199000, x199001, x199002, x199003, x214000, x214001, x214002, x214003, x221000, x221001, x221002, x221003, x229000, x229001, x229002, x229003 => if x44 = true then (some false) else ((laws_toInflow.f k x199000 x199001 x199002 x199003).bind fun bt230 => ((laws_eqInflow.f k x221000 x221001 x221002 x221003 bt230.1 bt230.2.1 bt230.2.2.1 bt230.2.2.2).bind fun t236 => (if t236 = true then ((laws_markInflow.f k x221000 x221001 x221002 x221003 1).bind fun bt237 => (if bt237.1 < 0 then (laws_FnExactRaiseLimit.j1 k x1 x7 true x199000 x199001 x199002 x199003 x214000 x214001 x214002 x214003 x229000 x229001 x229002 x229003) else ((laws_eqInflow.f k x229000 x229001 x229002 x229003 x214000 x214001 x214002 x214003).bind fun t239 => (if t239 = true then (laws_FnExactRaiseLimit.j1 k x1 x7 (x10 != x7) x199000 x199001 x199002 x199003 x214000 x214001 x214002 x214003 x229000 x229001 x229002 x229003) else (laws_FnExactRaiseLimit.j1 k x1 x7 true x199000 x199001 x199002 x199003 x214000 x214001 x214002 x214003 x229000 x229001 x229002 x229003))))) else (some false))))
def laws_FnExactRaiseLimit.j1 : Nat → Int → Bool → Bool → Int → Int → Int → List (S218) → Int → Int → Int → List (S177) → Int → Int → Int → List (S177) → Option (Bool)
 | 0, _, _, _, _, _, _, _, _, _, _, _, _, _, _, _ => none
 | k + 1, x1, x7, x65, x199000, x199001, x199002, x199003, x214000, x214001, x214002, x214003, x229000, x229001, x229002, x229003 => if x65 = true then (some false) else ((laws_markInflow.f k x229000 x229001 x229002 x229003 1).bind fun bt240 => ((laws_heldInflow.f k x229000 x229001 x229002 bt240.2 1).bind fun t242 => (if t242 < 0 then (some false) else (if t242 = bt240.1 then ((laws_toInflow.f k x199000 x199001 x199002 x199003).bind fun bt243 => ((impl_RaiseLimit.f k bt243.1 bt243.2.1 bt243.2.2.1 bt243.2.2.2 x1).bind fun bt249 => ((laws_eqInflow.f k bt249.1 bt249.2.1 bt249.2.2.1 bt249.2.2.2.1 x214000 x214001 x214002 x214003).bind fun t257 => (if t257 = true then (laws_FnExactRaiseLimit.j2 k bt240.1 (bt249.2.2.2.2 != x7) x229000 x229001 x229002 bt240.2) else (laws_FnExactRaiseLimit.j2 k bt240.1 true x229000 x229001 x229002 bt240.2))))) else (some false)))))
def laws_FnExactRaiseLimit.j2 : Nat → Int → Bool → Int → Int → Int → List (S177) → Option (Bool)
 | 0, _, _, _, _, _, _ => none
 | k + 1, x12, x92, x229000, x229001, x229002, x229003 => if x92 = true then (some false) else ((laws_heldInflow.f k x229000 x229001 x229002 x229003 1).bind fun t258 => (if t258 < 0 then (some false) else (if t258 = x12 then (some true) else (some false))))
end
def laws_FnExactRaiseLimit.f (k : Nat) (a0_0 : Int) (a0_1 : Int) (a0_2 : Int) (l0_3 : List (S218)) (a1 : Int) : Option (Bool) := (laws_szInflow.f k a0_0 a0_1 a0_2 l0_3 1048576).bind fun t199 => (if t199 < 0 then (some true) else ((laws_toInflow.f k a0_0 a0_1 a0_2 l0_3).bind fun bt200 => ((spec_RaiseLimit.f k bt200.1 bt200.2.1 bt200.2.2.1 bt200.2.2.2 a1).bind fun bt206 => ((laws_toInflow.f k a0_0 a0_1 a0_2 l0_3).bind fun bt214 => ((impl_RaiseLimit.f k bt214.1 bt214.2.1 bt214.2.2.1 bt214.2.2.2 a1).bind fun bt221 => ((laws_eqInflow.f k bt221.1 bt221.2.1 bt221.2.2.1 bt221.2.2.2.1 bt206.1 bt206.2.1 bt206.2.2.1 bt206.2.2.2.1).bind fun t229 => (if t229 = true then (laws_FnExactRaiseLimit.j0 k a1 bt206.2.2.2.2 bt221.2.2.2.2 (bt221.2.2.2.2 != bt206.2.2.2.2) a0_0 a0_1 a0_2 l0_3 bt206.1 bt206.2.1 bt206.2.2.1 bt206.2.2.2.1 bt214.1 bt214.2.1 bt214.2.2.1 bt214.2.2.2 bt221.1 bt221.2.1 bt221.2.2.1 bt221.2.2.2.1) else (laws_FnExactRaiseLimit.j0 k a1 bt206.2.2.2.2 bt221.2.2.2.2 true a0_0 a0_1 a0_2 l0_3 bt206.1 bt206.2.1 bt206.2.2.1 bt206.2.2.2.1 bt214.1 bt214.2.1 bt214.2.2.1 bt214.2.2.2 bt221.1 bt221.2.1 bt221.2.2.1 bt221.2.2.2.1))))))))
theorem laws_FnExactRaiseLimit.mono_l : ∀ k, (∀ y0 y1 y2 y3 y4 y5 y6 y7 y8 y9 y10 y11 y12 y13 y14 y15 y16 y17 y18 y19, LeO (laws_FnExactRaiseLimit.j0 k y0 y1 y2 y3 y4 y5 y6 y7 y8 y9 y10 y11 y12 y13 y14 y15 y16 y17 y18 y19) (laws_FnExactRaiseLimit.j0 (k + 1) y0 y1 y2 y3 y4 y5 y6 y7 y8 y9 y10 y11 y12 y13 y14 y15 y16 y17 y18 y19)) ∧ (∀ y0 y1 y2 y3 y4 y5 y6 y7 y8 y9 y10 y11 y12 y13 y14, LeO (laws_FnExactRaiseLimit.j1 k y0 y1 y2 y3 y4 y5 y6 y7 y8 y9 y10 y11 y12 y13 y14) (laws_FnExactRaiseLimit.j1 (k + 1) y0 y1 y2 y3 y4 y5 y6 y7 y8 y9 y10 y11 y12 y13 y14)) ∧ (∀ y0 y1 y2 y3 y4 y5, LeO (laws_FnExactRaiseLimit.j2 k y0 y1 y2 y3 y4 y5) (laws_FnExactRaiseLimit.j2 (k + 1) y0 y1 y2 y3 y4 y5))
 | 0 => ⟨fun _ _ _ _ _ _ _ _ _ _ _ _ _ _ _ _ _ _ _ _ r h => by simp [laws_FnExactRaiseLimit.j0] at h, fun _ _ _ _ _ _ _ _ _ _ _ _ _ _ _ r h => by simp [laws_FnExactRaiseLimit.j1] at h, fun _ _ _ _ _ _ r h => by simp [laws_FnExactRaiseLimit.j2] at h⟩
 | k + 1 => by
  obtain ⟨ih0, ih1, ih2⟩ := laws_FnExactRaiseLimit.mono_l k
  refine ⟨?_, ?_, ?_⟩
  ·intro y0 y1 y2 y3 y4 y5 y6 y7 y8 y9 y10 y11 y12 y13 y14 y15 y16 y17 y18 y19
   unfold laws_FnExactRaiseLimit.j0
   repeat' first
   | (with_reducible exact ih0 _ _ _ _ _ _ _ _ _ _ _ _ _ _ _ _ _ _ _ _)
   | (with_reducible exact ih1 _ _ _ _ _ _ _ _ _ _ _ _ _ _ _)
   | (with_reducible exact ih2 _ _ _ _ _ _)
   | (with_reducible exact impl_RaiseLimit.mono _ _ _ _ _ _)
   | (with_reducible exact laws_eqInflow.mono _ _ _ _ _ _ _ _ _)
   | (with_reducible exact laws_heldInflow.mono _ _ _ _ _ _)
   | (with_reducible exact laws_markInflow.mono _ _ _ _ _ _)
   | (with_reducible exact laws_szInflow.mono _ _ _ _ _ _)
   | (with_reducible exact laws_toInflow.mono _ _ _ _ _)
   | (with_reducible exact spec_RaiseLimit.mono _ _ _ _ _ _)
   | (with_reducible exact LeO.refl _)
   | (with_reducible exact LeO.none _)
   | (with_reducible refine LeO.ite ?_ ?_)
   | (with_reducible refine LeO.bind ?_ (fun _ => ?_))
   | exact ih0 _ _ _ _ _ _ _ _ _ _ _ _ _ _ _ _ _ _ _ _
   | exact ih1 _ _ _ _ _ _ _ _ _ _ _ _ _ _ _
   | exact ih2 _ _ _ _ _ _
   | exact impl_RaiseLimit.mono _ _ _ _ _ _
   | exact laws_eqInflow.mono _ _ _ _ _ _ _ _ _
   | exact laws_heldInflow.mono _ _ _ _ _ _
   | exact laws_markInflow.mono _ _ _ _ _ _
   | exact laws_szInflow.mono _ _ _ _ _ _
   | exact laws_toInflow.mono _ _ _ _ _
   | exact spec_RaiseLimit.mono _ _ _ _ _ _
   | exact LeO.none _
   | refine LeO.ite ?_ ?_
   | refine LeO.bind ?_ (fun _ => ?_)
  ·intro y0 y1 y2 y3 y4 y5 y6 y7 y8 y9 y10 y11 y12 y13 y14
   unfold laws_FnExactRaiseLimit.j1
   repeat' first
   | (with_reducible exact ih0 _ _ _ _ _ _ _ _ _ _ _ _ _ _ _ _ _ _ _ _)
   | (with_reducible exact ih1 _ _ _ _ _ _ _ _ _ _ _ _ _ _ _)
   | (with_reducible exact ih2 _ _ _ _ _ _)
   | (with_reducible exact impl_RaiseLimit.mono _ _ _ _ _ _)
   | (with_reducible exact laws_eqInflow.mono _ _ _ _ _ _ _ _ _)
   | (with_reducible exact laws_heldInflow.mono _ _ _ _ _ _)
   | (with_reducible exact laws_markInflow.mono _ _ _ _ _ _)
   | (with_reducible exact laws_szInflow.mono _ _ _ _ _ _)
   | (with_reducible exact laws_toInflow.mono _ _ _ _ _)
   | (with_reducible exact spec_RaiseLimit.mono _ _ _ _ _ _)
   | (with_reducible exact LeO.refl _)
   | (with_reducible exact LeO.none _)
   | (with_reducible refine LeO.ite ?_ ?_)
   | (with_reducible refine LeO.bind ?_ (fun _ => ?_))
   | exact ih0 _ _ _ _ _ _ _ _ _ _ _ _ _ _ _ _ _ _ _ _
   | exact ih1 _ _ _ _ _ _ _ _ _ _ _ _ _ _ _
   | exact ih2 _ _ _ _ _ _
   | exact impl_RaiseLimit.mono _ _ _ _ _ _
   | exact laws_eqInflow.mono _ _ _ _ _ _ _ _ _
   | exact laws_heldInflow.mono _ _ _ _ _ _
   | exact laws_markInflow.mono _ _ _ _ _ _
   | exact laws_szInflow.mono _ _ _ _ _ _
   | exact laws_toInflow.mono _ _ _ _ _
   | exact spec_RaiseLimit.mono _ _ _ _ _ _
   | exact LeO.none _
   | refine LeO.ite ?_ ?_
   | refine LeO.bind ?_ (fun _ => ?_)
  ·intro y0 y1 y2 y3 y4 y5
   unfold laws_FnExactRaiseLimit.j2
   repeat' first
   | (with_reducible exact ih0 _ _ _ _ _ _ _ _ _ _ _ _ _ _ _ _ _ _ _ _)
   | (with_reducible exact ih1 _ _ _ _ _ _ _ _ _ _ _ _ _ _ _)
   | (with_reducible exact ih2 _ _ _ _ _ _)
   | (with_reducible exact impl_RaiseLimit.mono _ _ _ _ _ _)
   | (with_reducible exact laws_eqInflow.mono _ _ _ _ _ _ _ _ _)
   | (with_reducible exact laws_heldInflow.mono _ _ _ _ _ _)
   | (with_reducible exact laws_markInflow.mono _ _ _ _ _ _)
   | (with_reducible exact laws_szInflow.mono _ _ _ _ _ _)
   | (with_reducible exact laws_toInflow.mono _ _ _ _ _)
   | (with_reducible exact spec_RaiseLimit.mono _ _ _ _ _ _)
   | (with_reducible exact LeO.refl _)
   | (with_reducible exact LeO.none _)
   | (with_reducible refine LeO.ite ?_ ?_)
   | (with_reducible refine LeO.bind ?_ (fun _ => ?_))
   | exact ih0 _ _ _ _ _ _ _ _ _ _ _ _ _ _ _ _ _ _ _ _
   | exact ih1 _ _ _ _ _ _ _ _ _ _ _ _ _ _ _
   | exact ih2 _ _ _ _ _ _
   | exact impl_RaiseLimit.mono _ _ _ _ _ _
   | exact laws_eqInflow.mono _ _ _ _ _ _ _ _ _
   | exact laws_heldInflow.mono _ _ _ _ _ _
   | exact laws_markInflow.mono _ _ _ _ _ _
   | exact laws_szInflow.mono _ _ _ _ _ _
   | exact laws_toInflow.mono _ _ _ _ _
   | exact spec_RaiseLimit.mono _ _ _ _ _ _
   | exact LeO.none _
   | refine LeO.ite ?_ ?_
   | refine LeO.bind ?_ (fun _ => ?_)
theorem laws_FnExactRaiseLimit.mono : ∀ a0 a1 a2 a3 a4 k, LeO (laws_FnExactRaiseLimit.f k a0 a1 a2 a3 a4) (laws_FnExactRaiseLimit.f (k + 1) a0 a1 a2 a3 a4) := by
 intro a0 a1 a2 a3 a4 k
 obtain ⟨ih0, ih1, ih2⟩ := laws_FnExactRaiseLimit.mono_l k
 unfold laws_FnExactRaiseLimit.f
 repeat' first
   | (with_reducible exact ih0 _ _ _ _ _ _ _ _ _ _ _ _ _ _ _ _ _ _ _ _)
   | (with_reducible exact ih1 _ _ _ _ _ _ _ _ _ _ _ _ _ _ _)
   | (with_reducible exact ih2 _ _ _ _ _ _)
   | (with_reducible exact impl_RaiseLimit.mono _ _ _ _ _ _)
   | (with_reducible exact laws_eqInflow.mono _ _ _ _ _ _ _ _ _)
   | (with_reducible exact laws_heldInflow.mono _ _ _ _ _ _)
   | (with_reducible exact laws_markInflow.mono _ _ _ _ _ _)
   | (with_reducible exact laws_szInflow.mono _ _ _ _ _ _)
   | (with_reducible exact laws_toInflow.mono _ _ _ _ _)
   | (with_reducible exact spec_RaiseLimit.mono _ _ _ _ _ _)
   | (with_reducible exact LeO.refl _)
   | (with_reducible exact LeO.none _)
   | (with_reducible refine LeO.ite ?_ ?_)
   | (with_reducible refine LeO.bind ?_ (fun _ => ?_))
   | exact ih0 _ _ _ _ _ _ _ _ _ _ _ _ _ _ _ _ _ _ _ _
   | exact ih1 _ _ _ _ _ _ _ _ _ _ _ _ _ _ _
   | exact ih2 _ _ _ _ _ _
   | exact impl_RaiseLimit.mono _ _ _ _ _ _
   | exact laws_eqInflow.mono _ _ _ _ _ _ _ _ _
   | exact laws_heldInflow.mono _ _ _ _ _ _
   | exact laws_markInflow.mono _ _ _ _ _ _
   | exact laws_szInflow.mono _ _ _ _ _ _
   | exact laws_toInflow.mono _ _ _ _ _
   | exact spec_RaiseLimit.mono _ _ _ _ _ _
   | exact LeO.none _
   | refine LeO.ite ?_ ?_
   | refine LeO.bind ?_ (fun _ => ?_)
set_option maxHeartbeats 8000000 in
set_option maxRecDepth 100000 in
theorem laws_FnExactRaiseLimit.calls (k : Nat) (a0_0 : Int) (a0_1 : Int) (a0_2 : Int) (A0_3 : Option Addr) (c0_3 : Nat) (l0_3 : List (S218)) (a1 : Int) (r : Bool) (w : World) (hr0_3 : Kd.C k218 w A0_3 l0_3.length l0_3) (hc0_3 : l0_3.length ≤ c0_3) (h : laws_FnExactRaiseLimit.f k a0_0 a0_1 a0_2 l0_3 a1 = some r) :
  Calls Try.prog 7 #[.agg #[.int .i64 a0_0, .int .i64 a0_1, .int .i64 a0_2, .slice A0_3 l0_3.length c0_3], .int .i64 a1] w fun e w' => e = .returned (.bool r) ∧ Below w.heap.size w w' := by
 have hu57 := Try.underlying57
 have hu61 := Try.underlying61
 have HR0_3 := Aside0.mk hr0_3
 have HC0_3 := Aside0.mk hc0_3
 clear hr0_3 hc0_3
 have HB := Aside0.mk (Below.refl w.heap.size w)
 have H : ((laws_szInflow.f k a0_0 a0_1 a0_2 l0_3 1048576).bind fun t199 => (if t199 < 0 then (some true) else ((laws_toInflow.f k a0_0 a0_1 a0_2 l0_3).bind fun bt200 => ((spec_RaiseLimit.f k bt200.1 bt200.2.1 bt200.2.2.1 bt200.2.2.2 a1).bind fun bt206 => ((laws_toInflow.f k a0_0 a0_1 a0_2 l0_3).bind fun bt214 => ((impl_RaiseLimit.f k bt214.1 bt214.2.1 bt214.2.2.1 bt214.2.2.2 a1).bind fun bt221 => ((laws_eqInflow.f k bt221.1 bt221.2.1 bt221.2.2.1 bt221.2.2.2.1 bt206.1 bt206.2.1 bt206.2.2.1 bt206.2.2.2.1).bind fun t229 => (if t229 = true then (laws_FnExactRaiseLimit.j0 k a1 bt206.2.2.2.2 bt221.2.2.2.2 (bt221.2.2.2.2 != bt206.2.2.2.2) a0_0 a0_1 a0_2 l0_3 bt206.1 bt206.2.1 bt206.2.2.1 bt206.2.2.2.1 bt214.1 bt214.2.1 bt214.2.2.1 bt214.2.2.2 bt221.1 bt221.2.1 bt221.2.2.1 bt221.2.2.2.1) else (laws_FnExactRaiseLimit.j0 k a1 bt206.2.2.2.2 bt221.2.2.2.2 true a0_0 a0_1 a0_2 l0_3 bt206.1 bt206.2.1 bt206.2.2.1 bt206.2.2.2.1 bt214.1 bt214.2.1 bt214.2.2.1 bt214.2.2.2 bt221.1 bt221.2.1 bt221.2.2.1 bt221.2.2.2.1))))))))) = some r := h
 clear h
 replace H := Option.bind_eq_some_iff.mp H
 obtain ⟨t199, A30, H⟩ := H
 replace H : (if t199 < 0 then (some true) else ((laws_toInflow.f k a0_0 a0_1 a0_2 l0_3).bind fun bt200 => ((spec_RaiseLimit.f k bt200.1 bt200.2.1 bt200.2.2.1 bt200.2.2.2 a1).bind fun bt206 => ((laws_toInflow.f k a0_0 a0_1 a0_2 l0_3).bind fun bt214 => ((impl_RaiseLimit.f k bt214.1 bt214.2.1 bt214.2.2.1 bt214.2.2.2 a1).bind fun bt221 => ((laws_eqInflow.f k bt221.1 bt221.2.1 bt221.2.2.1 bt221.2.2.2.1 bt206.1 bt206.2.1 bt206.2.2.1 bt206.2.2.2.1).bind fun t229 => (if t229 = true then (laws_FnExactRaiseLimit.j0 k a1 bt206.2.2.2.2 bt221.2.2.2.2 (bt221.2.2.2.2 != bt206.2.2.2.2) a0_0 a0_1 a0_2 l0_3 bt206.1 bt206.2.1 bt206.2.2.1 bt206.2.2.2.1 bt214.1 bt214.2.1 bt214.2.2.1 bt214.2.2.2 bt221.1 bt221.2.1 bt221.2.2.1 bt221.2.2.2.1) else (laws_FnExactRaiseLimit.j0 k a1 bt206.2.2.2.2 bt221.2.2.2.2 true a0_0 a0_1 a0_2 l0_3 bt206.1 bt206.2.1 bt206.2.2.1 bt206.2.2.2.1 bt214.1 bt214.2.1 bt214.2.2.1 bt214.2.2.2 bt221.1 bt221.2.1 bt221.2.2.1 bt221.2.2.2.1)))))))) = some r := H
 have A3 := Aside0.mk A30
 clear A30
 by_cases c4 : t199 < 0
 ·rw [if_pos c4] at H
  have c4b0 : decide (t199 < 0) = true := decide_eq_true c4
  clear c4
  obtain rfl := Option.some.inj H
  go_enter Try.func7, Try.ntmps7
  go_wp2_with (first | ((with_reducible refine gate_dst (N := 2) rfl ?_); refine box_event ?hg (N := 2) ?hd (cs := #[.int .i64 a0_0, .int .i64 a0_1, .int .i64 a0_2, .slice A0_3 l0_3.length c0_3]) (t := 57) ?hr ?_; (case hd => rfl); (case hg => rfl); (case hr => first | (go_simp; done) | (go_simp; rfl)); intro gb198 hg w5 hbox hb; have n0_ := Aside0.mk (below_step (by repeat (first | (with_reducible first | exact HB.out | apply below_alloc | apply pw_below_drewN | apply below_drew1) | exact HB.out)) hb); have n1_ := Aside0.mk (hbox); have n2_ := Aside0.mk ((by rw [hg]; exact (below_size (by repeat (first | (with_reducible first | exact HB.out | apply below_alloc | apply pw_below_drewN | apply below_drew1) | exact HB.out))) : w.heap.size ≤ gb198)); have n3_ := n2_; clear HB; have HB := n0_; have BK198 := n1_; have GW198 := n2_; have GE198 := n3_; clear n0_ n1_ n2_ n3_; clear hb hbox hg; obtain ⟨hcz6_0, hcz6_1, hcz6_2, hcz6_3⟩ := cz4 BK198; obtain ⟨hfz6_0, hfz6_1, hfz6_2, hfz6_3⟩ := fz4 BK198) | ((with_reducible refine gate_callee (f := 36) rfl ?_); refine goesL_ (some 18) rfl rfl Try.func36 (by kernel_rfl) rfl #[.agg #[.int .i64 a0_0, .int .i64 a0_1, .int .i64 a0_2, .slice A0_3 l0_3.length c0_3], .int .i64 1048576] rfl (by (try simp only [List.map_toArray, List.map_cons, List.map_nil]); first | done | rfl | (simp only [List.length_drop, List.length_take]; rfl)) ?_; (with_reducible refine (laws_szInflow.calls k a0_0 a0_1 a0_2 _ _ l0_3 1048576 t199 _ ?side1 ?side2 A3.out).mono ?_); (case side1 => repeat (first | exact (Kd.C_below HR0_3.out HB.out) | (with_reducible refine Kd.C_alloc ?_ _) | (with_reducible refine Kd.C_drewN ?_ _) | (with_reducible refine Kd.C_drew ?_))); (case side2 => exact HC0_3.out); rintro e w7 ⟨rfl, hb⟩; refine ⟨_, rfl, ?_⟩; have n0_ := Aside0.mk (blk_below (g := gb198) (o := .cells #[.int .i64 a0_0, .int .i64 a0_1, .int .i64 a0_2, .slice A0_3 l0_3.length c0_3] 57 (0, 0)) (by (with_reducible repeat (first | refine bN ?_ _ | refine bD ?_ | refine bA ?_ _)); exact BK198.out) hb); have n1_ := Aside0.mk (below_step (by repeat (first | (with_reducible first | exact HB.out | apply below_alloc | apply pw_below_drewN | apply below_drew1 | refine below_set ?_ GE198.out) | exact HB.out)) hb); clear BK198; clear HB; have BK198 := n0_; have HB := n1_; clear n0_ n1_; (try clear hb); (try clear hb2); (try clear hk); (try clear hi)))
  go_ret
  exact ⟨by first | rfl | (simp [errW_none, errW_some] <;> rfl) | (simp [*, errW_none, errW_some] <;> rfl), by repeat (first | (with_reducible first | exact HB.out | apply below_alloc | apply pw_below_drewN | apply below_drew1 | refine below_set ?_ GE198.out) | exact HB.out)⟩
 ·rw [if_neg c4] at H
  have c4b0 : decide (t199 < 0) = false := decide_eq_false c4
  clear c4
  replace H := Option.bind_eq_some_iff.mp H
  obtain ⟨⟨t200, t201, t202, t203⟩, A80, H⟩ := H
  replace H : ((spec_RaiseLimit.f k t200 t201 t202 t203 a1).bind fun bt206 => ((laws_toInflow.f k a0_0 a0_1 a0_2 l0_3).bind fun bt214 => ((impl_RaiseLimit.f k bt214.1 bt214.2.1 bt214.2.2.1 bt214.2.2.2 a1).bind fun bt221 => ((laws_eqInflow.f k bt221.1 bt221.2.1 bt221.2.2.1 bt221.2.2.2.1 bt206.1 bt206.2.1 bt206.2.2.1 bt206.2.2.2.1).bind fun t229 => (if t229 = true then (laws_FnExactRaiseLimit.j0 k a1 bt206.2.2.2.2 bt221.2.2.2.2 (bt221.2.2.2.2 != bt206.2.2.2.2) a0_0 a0_1 a0_2 l0_3 bt206.1 bt206.2.1 bt206.2.2.1 bt206.2.2.2.1 bt214.1 bt214.2.1 bt214.2.2.1 bt214.2.2.2 bt221.1 bt221.2.1 bt221.2.2.1 bt221.2.2.2.1) else (laws_FnExactRaiseLimit.j0 k a1 bt206.2.2.2.2 bt221.2.2.2.2 true a0_0 a0_1 a0_2 l0_3 bt206.1 bt206.2.1 bt206.2.2.1 bt206.2.2.2.1 bt214.1 bt214.2.1 bt214.2.2.1 bt214.2.2.2 bt221.1 bt221.2.1 bt221.2.2.1 bt221.2.2.2.1)))))) = some r := H
  have A8 := Aside0.mk A80
  clear A80
  replace H := Option.bind_eq_some_iff.mp H
  obtain ⟨⟨t206, t207, t208, t209, t212⟩, A90, H⟩ := H
  replace H : ((laws_toInflow.f k a0_0 a0_1 a0_2 l0_3).bind fun bt214 => ((impl_RaiseLimit.f k bt214.1 bt214.2.1 bt214.2.2.1 bt214.2.2.2 a1).bind fun bt221 => ((laws_eqInflow.f k bt221.1 bt221.2.1 bt221.2.2.1 bt221.2.2.2.1 t206 t207 t208 t209).bind fun t229 => (if t229 = true then (laws_FnExactRaiseLimit.j0 k a1 t212 bt221.2.2.2.2 (bt221.2.2.2.2 != t212) a0_0 a0_1 a0_2 l0_3 t206 t207 t208 t209 bt214.1 bt214.2.1 bt214.2.2.1 bt214.2.2.2 bt221.1 bt221.2.1 bt221.2.2.1 bt221.2.2.2.1) else (laws_FnExactRaiseLimit.j0 k a1 t212 bt221.2.2.2.2 true a0_0 a0_1 a0_2 l0_3 t206 t207 t208 t209 bt214.1 bt214.2.1 bt214.2.2.1 bt214.2.2.2 bt221.1 bt221.2.1 bt221.2.2.1 bt221.2.2.2.1))))) = some r := H
  have A9 := Aside0.mk A90
  clear A90
  replace H := Option.bind_eq_some_iff.mp H
  obtain ⟨⟨t214, t215, t216, t217⟩, A100, H⟩ := H
  replace H : ((impl_RaiseLimit.f k t214 t215 t216 t217 a1).bind fun bt221 => ((laws_eqInflow.f k bt221.1 bt221.2.1 bt221.2.2.1 bt221.2.2.2.1 t206 t207 t208 t209).bind fun t229 => (if t229 = true then (laws_FnExactRaiseLimit.j0 k a1 t212 bt221.2.2.2.2 (bt221.2.2.2.2 != t212) a0_0 a0_1 a0_2 l0_3 t206 t207 t208 t209 t214 t215 t216 t217 bt221.1 bt221.2.1 bt221.2.2.1 bt221.2.2.2.1) else (laws_FnExactRaiseLimit.j0 k a1 t212 bt221.2.2.2.2 true a0_0 a0_1 a0_2 l0_3 t206 t207 t208 t209 t214 t215 t216 t217 bt221.1 bt221.2.1 bt221.2.2.1 bt221.2.2.2.1)))) = some r := H
  have A10 := Aside0.mk A100
  clear A100
  replace H := Option.bind_eq_some_iff.mp H
  obtain ⟨⟨t221, t222, t223, t224, t227⟩, A110, H⟩ := H
  replace H : ((laws_eqInflow.f k t221 t222 t223 t224 t206 t207 t208 t209).bind fun t229 => (if t229 = true then (laws_FnExactRaiseLimit.j0 k a1 t212 t227 (t227 != t212) a0_0 a0_1 a0_2 l0_3 t206 t207 t208 t209 t214 t215 t216 t217 t221 t222 t223 t224) else (laws_FnExactRaiseLimit.j0 k a1 t212 t227 true a0_0 a0_1 a0_2 l0_3 t206 t207 t208 t209 t214 t215 t216 t217 t221 t222 t223 t224))) = some r := H
  have A11 := Aside0.mk A110
  clear A110
  have HC12 := Aside0.mk H
  clear H
  go_enter Try.func7, Try.ntmps7
  go_upto_region 8 with (first | ((with_reducible refine gate_dst (N := 2) rfl ?_); refine box_event ?hg (N := 2) ?hd (cs := #[.int .i64 a0_0, .int .i64 a0_1, .int .i64 a0_2, .slice A0_3 l0_3.length c0_3]) (t := 57) ?hr ?_; (case hd => rfl); (case hg => rfl); (case hr => first | (go_simp; done) | (go_simp; rfl)); intro gb198 hg w13 hbox hb; have n0_ := Aside0.mk (below_step (by repeat (first | (with_reducible first | exact HB.out | apply below_alloc | apply pw_below_drewN | apply below_drew1) | exact HB.out)) hb); have n1_ := Aside0.mk (hbox); have n2_ := Aside0.mk ((by rw [hg]; exact (below_size (by repeat (first | (with_reducible first | exact HB.out | apply below_alloc | apply pw_below_drewN | apply below_drew1) | exact HB.out))) : w.heap.size ≤ gb198)); have n3_ := n2_; clear HB; have HB := n0_; have BK198 := n1_; have GW198 := n2_; have GE198 := n3_; clear n0_ n1_ n2_ n3_; clear hb hbox hg; obtain ⟨hcz14_0, hcz14_1, hcz14_2, hcz14_3⟩ := cz4 BK198; obtain ⟨hfz14_0, hfz14_1, hfz14_2, hfz14_3⟩ := fz4 BK198) | ((with_reducible refine gate_callee (f := 36) rfl ?_); refine goesL_ (some 18) rfl rfl Try.func36 (by kernel_rfl) rfl #[.agg #[.int .i64 a0_0, .int .i64 a0_1, .int .i64 a0_2, .slice A0_3 l0_3.length c0_3], .int .i64 1048576] rfl (by (try simp only [List.map_toArray, List.map_cons, List.map_nil]); first | done | rfl | (simp only [List.length_drop, List.length_take]; rfl)) ?_; (with_reducible refine (laws_szInflow.calls k a0_0 a0_1 a0_2 _ _ l0_3 1048576 t199 _ ?side1 ?side2 A3.out).mono ?_); (case side1 => repeat (first | exact (Kd.C_below HR0_3.out HB.out) | (with_reducible refine Kd.C_alloc ?_ _) | (with_reducible refine Kd.C_drewN ?_ _) | (with_reducible refine Kd.C_drew ?_))); (case side2 => exact HC0_3.out); rintro e w15 ⟨rfl, hb⟩; refine ⟨_, rfl, ?_⟩; have n0_ := Aside0.mk (blk_below (g := gb198) (o := .cells #[.int .i64 a0_0, .int .i64 a0_1, .int .i64 a0_2, .slice A0_3 l0_3.length c0_3] 57 (0, 0)) (by (with_reducible repeat (first | refine bN ?_ _ | refine bD ?_ | refine bA ?_ _)); exact BK198.out) hb); have n1_ := Aside0.mk (below_step (by repeat (first | (with_reducible first | exact HB.out | apply below_alloc | apply pw_below_drewN | apply below_drew1 | refine below_set ?_ GE198.out) | exact HB.out)) hb); clear BK198; clear HB; have BK198 := n0_; have HB := n1_; clear n0_ n1_; (try clear hb); (try clear hb2); (try clear hk); (try clear hi); obtain ⟨hcz16_0, hcz16_1, hcz16_2, hcz16_3⟩ := cz4 BK198; obtain ⟨hfz16_0, hfz16_1, hfz16_2, hfz16_3⟩ := fz4 BK198) | ((with_reducible refine gate_callee (f := 38) rfl ?_); refine goesL_ (some 23) rfl rfl Try.func38 (by kernel_rfl) rfl #[.agg #[.int .i64 a0_0, .int .i64 a0_1, .int .i64 a0_2, .slice A0_3 l0_3.length c0_3]] rfl (by (try simp only [List.map_toArray, List.map_cons, List.map_nil]); first | done | rfl | (simp only [List.length_drop, List.length_take]; rfl)) ?_; (with_reducible refine (laws_toInflow.calls k a0_0 a0_1 a0_2 _ _ l0_3 t200 t201 t202 t203 _ ?side1 ?side2 A8.out).mono ?_); (case side1 => repeat (first | exact (Kd.C_below HR0_3.out HB.out) | (with_reducible refine Kd.C_alloc ?_ _) | (with_reducible refine Kd.C_drewN ?_ _) | (with_reducible refine Kd.C_drew ?_))); (case side2 => exact HC0_3.out); rintro e w17 ⟨v204, rfl, ho0, hb⟩; refine ⟨_, rfl, ?_⟩; have n0_ := Aside0.mk (Kd.R_lower ho0 (below_size (by repeat (first | (with_reducible first | exact HB.out | apply below_alloc | apply pw_below_drewN | apply below_drew1 | refine below_set ?_ GE198.out) | exact HB.out)))); have n1_ := Aside0.mk (blk_below (g := gb198) (o := .cells #[.int .i64 a0_0, .int .i64 a0_1, .int .i64 a0_2, .slice A0_3 l0_3.length c0_3] 57 (0, 0)) (by (with_reducible repeat (first | refine bN ?_ _ | refine bD ?_ | refine bA ?_ _)); exact BK198.out) hb); have n2_ := Aside0.mk (below_step (by repeat (first | (with_reducible first | exact HB.out | apply below_alloc | apply pw_below_drewN | apply below_drew1 | refine below_set ?_ GE198.out) | exact HB.out)) hb); clear BK198; clear HB; have HO205 := n0_; have BK198 := n1_; have HB := n2_; clear n0_ n1_ n2_; (try clear hb); (try clear hb2); (try clear hk); (try clear hi); (try clear ho0); obtain ⟨Ao18, co18, eo18⟩ := Kd.R_slice HO205.out; subst eo18) | ((with_reducible refine gate_callee (f := 37) rfl ?_); refine goesL_ (some 25) rfl rfl Try.func37 (by kernel_rfl) rfl #[.agg #[.int .i64 t200, .int .i64 t201, .int .i64 t202, .slice Ao18 t203.length co18], .int .i64 a1] rfl (by (try simp only [List.map_toArray, List.map_cons, List.map_nil]); first | done | rfl | (simp only [List.length_drop, List.length_take]; rfl)) ?_; (with_reducible refine (spec_RaiseLimit.calls k t200 t201 t202 _ _ t203 a1 t206 t207 t208 t209 t212 _ ?side1 ?side2 A9.out).mono ?_); (case side1 => repeat (first | exact (Kd.R_reads' HO205.out).2.2 | (with_reducible refine Kd.C_alloc ?_ _) | (with_reducible refine Kd.C_drewN ?_ _) | (with_reducible refine Kd.C_drew ?_))); (case side2 => exact (Kd.R_reads' HO205.out).2.1); rintro e w19 ⟨v210, rfl, ho0, hb⟩; refine ⟨_, rfl, ?_⟩; have n0_ := Aside0.mk (Kd.R_elder' (by (with_reducible repeat (first | apply Kd.R_alloc | apply Kd.R_drewN | apply Kd.R_drew)); exact HO205.out) (Kd.R_base ho0) hb); have n1_ := Aside0.mk (Kd.R_lower (Kd.R_new' ho0 (Kd.R_lt (by (with_reducible repeat (first | apply Kd.R_alloc | apply Kd.R_drewN | apply Kd.R_drew)); exact HO205.out))) (below_size (by repeat (first | (with_reducible first | exact HB.out | apply below_alloc | apply pw_below_drewN | apply below_drew1 | refine below_set ?_ GE198.out) | exact HB.out)))); have n2_ := Aside0.mk (blk_below (g := gb198) (o := .cells #[.int .i64 a0_0, .int .i64 a0_1, .int .i64 a0_2, .slice A0_3 l0_3.length c0_3] 57 (0, 0)) (by (with_reducible repeat (first | refine bN ?_ _ | refine bD ?_ | refine bA ?_ _)); exact BK198.out) hb); have n3_ := Aside0.mk (below_step (by repeat (first | (with_reducible first | exact HB.out | apply below_alloc | apply pw_below_drewN | apply below_drew1 | refine below_set ?_ GE198.out) | exact HB.out)) hb); clear HO205; clear BK198; clear HB; have HO205 := n0_; have HO211 := n1_; have BK198 := n2_; have HB := n3_; clear n0_ n1_ n2_ n3_; (try clear hb); (try clear hb2); (try clear hk); (try clear hi); (try clear ho0)) | ((with_reducible refine gate_dst (N := 6) rfl ?_); refine box_event ?hg (N := 6) ?hd (cs := #[.int .i64 0, .int .i64 0, .int .i64 0, .slice none 0 0]) (t := 61) ?hr ?_; (case hd => rfl); (case hg => rfl); (case hr => first | (go_simp; done) | (go_simp; rfl)); intro gb213 hg w20 hbox hb; have n0_ := Aside0.mk (Kd.R_below (by (with_reducible repeat (first | apply Kd.R_alloc | apply Kd.R_drewN | apply Kd.R_drew)); exact HO205.out) hb); have n1_ := Aside0.mk (Kd.R_below (by (with_reducible repeat (first | apply Kd.R_alloc | apply Kd.R_drewN | apply Kd.R_drew)); exact HO211.out) hb); have n2_ := Aside0.mk (blk_below (g := gb198) (o := .cells #[.int .i64 a0_0, .int .i64 a0_1, .int .i64 a0_2, .slice A0_3 l0_3.length c0_3] 57 (0, 0)) (by (with_reducible repeat (first | refine bN ?_ _ | refine bD ?_ | refine bA ?_ _)); exact BK198.out) hb); have n3_ := Aside0.mk (below_step (by repeat (first | (with_reducible first | exact HB.out | apply below_alloc | apply pw_below_drewN | apply below_drew1 | refine below_set ?_ GE198.out) | exact HB.out)) hb); have n4_ := Aside0.mk (hbox); have n5_ := Aside0.mk ((by rw [hg]; exact (below_size (by repeat (first | (with_reducible first | exact HB.out | apply below_alloc | apply pw_below_drewN | apply below_drew1 | refine below_set ?_ GE198.out) | exact HB.out))) : w.heap.size ≤ gb213)); have n6_ := n5_; have n7_ := Aside0.mk ((by rw [hg]; exact Nat.ne_of_lt (blk_lt (g := gb198) (o := .cells #[.int .i64 a0_0, .int .i64 a0_1, .int .i64 a0_2, .slice A0_3 l0_3.length c0_3] 57 (0, 0)) (by (with_reducible repeat (first | refine bN ?_ _ | refine bD ?_ | refine bA ?_ _)); exact BK198.out)) : gb198 ≠ gb213)); have n8_ := Aside0.mk (Ne.symm n7_.out); clear HO205; clear HO211; clear BK198; clear HB; have HO205 := n0_; have HO211 := n1_; have BK198 := n2_; have HB := n3_; have BK213 := n4_; have GW213 := n5_; have GE213 := n6_; have NB198_213 := n7_; have NB213_198 := n8_; clear n0_ n1_ n2_ n3_ n4_ n5_ n6_ n7_ n8_; clear hb hbox hg; have hnb21 := NB213_198.out; have hnc21 := NB198_213.out; obtain ⟨hcz22_0, hcz22_1, hcz22_2, hcz22_3⟩ := cz4 BK213; obtain ⟨hfz22_0, hfz22_1, hfz22_2, hfz22_3⟩ := fz4 BK213; obtain ⟨Ao23, co23, eo23⟩ := Kd.R_slice HO211.out; subst eo23; obtain ⟨hcz24_0, hcz24_1, hcz24_2, hcz24_3⟩ := cz4 BK198; obtain ⟨hfz24_0, hfz24_1, hfz24_2, hfz24_3⟩ := fz4 BK198) | ((with_reducible refine gate_callee (f := 38) rfl ?_); refine goesL_ (some 29) rfl rfl Try.func38 (by kernel_rfl) rfl #[.agg #[.int .i64 a0_0, .int .i64 a0_1, .int .i64 a0_2, .slice A0_3 l0_3.length c0_3]] rfl (by (try simp only [List.map_toArray, List.map_cons, List.map_nil]); first | done | rfl | (simp only [List.length_drop, List.length_take]; rfl)) ?_; (with_reducible refine (laws_toInflow.calls k a0_0 a0_1 a0_2 _ _ l0_3 t214 t215 t216 t217 _ ?side1 ?side2 A10.out).mono ?_); (case side1 => exact Kd.C_below HR0_3.out (by repeat (first | (with_reducible first | exact HB.out | apply below_alloc | apply pw_below_drewN | apply below_drew1 | refine below_set ?_ GE198.out | refine below_set ?_ GE213.out) | exact HB.out))); (case side2 => exact HC0_3.out); rintro e w25 ⟨v218, rfl, ho0, hb⟩; refine ⟨_, rfl, ?_⟩; have n0_ := Aside0.mk (Kd.R_elder' (by (with_reducible repeat (first | apply Kd.R_alloc | apply Kd.R_drewN | apply Kd.R_drew)); exact (Kd.R_mono (Kd.R_far (p := ⟨gb213, 3, none⟩) (Kd.R_far (p := ⟨gb213, 2, none⟩) (Kd.R_far (p := ⟨gb213, 1, none⟩) (Kd.R_far (p := ⟨gb213, 0, none⟩) (Kd.R_types HO205.out BK213.out (by decide)) (fun _ hk => hk.2) (.int .i64 t206)) (fun _ hk => hk.2) (.int .i64 t207)) (fun _ hk => hk.2) (.int .i64 t208)) (fun _ hk => hk.2) (.slice Ao23 t209.length co23)) (fun _ h_ => h_.1))) (Kd.R_base ho0) hb); have n1_ := Aside0.mk (Kd.R_elder' (by (with_reducible repeat (first | apply Kd.R_alloc | apply Kd.R_drewN | apply Kd.R_drew)); exact (Kd.R_mono (Kd.R_far (p := ⟨gb213, 3, none⟩) (Kd.R_far (p := ⟨gb213, 2, none⟩) (Kd.R_far (p := ⟨gb213, 1, none⟩) (Kd.R_far (p := ⟨gb213, 0, none⟩) (Kd.R_types HO211.out BK213.out (by decide)) (fun _ hk => hk.2) (.int .i64 t206)) (fun _ hk => hk.2) (.int .i64 t207)) (fun _ hk => hk.2) (.int .i64 t208)) (fun _ hk => hk.2) (.slice Ao23 t209.length co23)) (fun _ h_ => h_.1))) (Kd.R_base ho0) hb); have n2_ := Aside0.mk (Kd.R_lower (Kd.R_new' (Kd.R_new' ho0 (Kd.R_lt (by (with_reducible repeat (first | apply Kd.R_alloc | apply Kd.R_drewN | apply Kd.R_drew)); exact (Kd.R_mono (Kd.R_far (p := ⟨gb213, 3, none⟩) (Kd.R_far (p := ⟨gb213, 2, none⟩) (Kd.R_far (p := ⟨gb213, 1, none⟩) (Kd.R_far (p := ⟨gb213, 0, none⟩) (Kd.R_types HO205.out BK213.out (by decide)) (fun _ hk => hk.2) (.int .i64 t206)) (fun _ hk => hk.2) (.int .i64 t207)) (fun _ hk => hk.2) (.int .i64 t208)) (fun _ hk => hk.2) (.slice Ao23 t209.length co23)) (fun _ h_ => h_.1))))) (Kd.R_lt (by (with_reducible repeat (first | apply Kd.R_alloc | apply Kd.R_drewN | apply Kd.R_drew)); exact (Kd.R_mono (Kd.R_far (p := ⟨gb213, 3, none⟩) (Kd.R_far (p := ⟨gb213, 2, none⟩) (Kd.R_far (p := ⟨gb213, 1, none⟩) (Kd.R_far (p := ⟨gb213, 0, none⟩) (Kd.R_types HO211.out BK213.out (by decide)) (fun _ hk => hk.2) (.int .i64 t206)) (fun _ hk => hk.2) (.int .i64 t207)) (fun _ hk => hk.2) (.int .i64 t208)) (fun _ hk => hk.2) (.slice Ao23 t209.length co23)) (fun _ h_ => h_.1))))) (below_size (by repeat (first | (with_reducible first | exact HB.out | apply below_alloc | apply pw_below_drewN | apply below_drew1 | refine below_set ?_ GE198.out | refine below_set ?_ GE213.out) | exact HB.out)))); have n3_ := Aside0.mk (blk_below (g := gb198) (o := .cells #[.int .i64 a0_0, .int .i64 a0_1, .int .i64 a0_2, .slice A0_3 l0_3.length c0_3] 57 (0, 0)) (by (with_reducible repeat (first | refine bN ?_ _ | refine bD ?_ | refine bA ?_ _)); refine blk_far ?_ NB198_213.out _; (with_reducible repeat (first | refine bN ?_ _ | refine bD ?_ | refine bA ?_ _)); refine blk_far ?_ NB198_213.out _; (with_reducible repeat (first | refine bN ?_ _ | refine bD ?_ | refine bA ?_ _)); refine blk_far ?_ NB198_213.out _; (with_reducible repeat (first | refine bN ?_ _ | refine bD ?_ | refine bA ?_ _)); refine blk_far ?_ NB198_213.out _; (with_reducible repeat (first | refine bN ?_ _ | refine bD ?_ | refine bA ?_ _)); exact BK198.out) hb); have n4_ := Aside0.mk (blk_below (g := gb213) (o := .cells #[.int .i64 t206, .int .i64 t207, .int .i64 t208, .slice Ao23 t209.length co23] 61 (0, 0)) (by (with_reducible repeat (first | refine bN ?_ _ | refine bD ?_ | refine bA ?_ _)); refine blk_put (cs := #[.int .i64 t206, .int .i64 t207, .int .i64 t208, .slice none 0 0]) ?_ 3 _ rfl; (with_reducible repeat (first | refine bN ?_ _ | refine bD ?_ | refine bA ?_ _)); refine blk_put (cs := #[.int .i64 t206, .int .i64 t207, .int .i64 0, .slice none 0 0]) ?_ 2 _ rfl; (with_reducible repeat (first | refine bN ?_ _ | refine bD ?_ | refine bA ?_ _)); refine blk_put (cs := #[.int .i64 t206, .int .i64 0, .int .i64 0, .slice none 0 0]) ?_ 1 _ rfl; (with_reducible repeat (first | refine bN ?_ _ | refine bD ?_ | refine bA ?_ _)); refine blk_put (cs := #[.int .i64 0, .int .i64 0, .int .i64 0, .slice none 0 0]) ?_ 0 _ rfl; (with_reducible repeat (first | refine bN ?_ _ | refine bD ?_ | refine bA ?_ _)); exact BK213.out) hb); have n5_ := Aside0.mk (below_step (by repeat (first | (with_reducible first | exact HB.out | apply below_alloc | apply pw_below_drewN | apply below_drew1 | refine below_set ?_ GE198.out | refine below_set ?_ GE213.out) | exact HB.out)) hb); clear HO205; clear HO211; clear BK198; clear BK213; clear HB; have HO205 := n0_; have HO211 := n1_; have HO219 := n2_; have BK198 := n3_; have BK213 := n4_; have HB := n5_; clear n0_ n1_ n2_ n3_ n4_ n5_; (try clear hb); (try clear hb2); (try clear hk); (try clear hi); (try clear ho0)) | ((with_reducible refine gate_dst (N := 8) rfl ?_); refine box_event ?hg (N := 8) ?hd (cs := #[.int .i64 0, .int .i64 0, .int .i64 0, .slice none 0 0]) (t := 61) ?hr ?_; (case hd => rfl); (case hg => rfl); (case hr => first | (go_simp; done) | (go_simp; rfl)); intro gb220 hg w26 hbox hb; have n0_ := Aside0.mk (Kd.R_below (by (with_reducible repeat (first | apply Kd.R_alloc | apply Kd.R_drewN | apply Kd.R_drew)); exact HO205.out) hb); have n1_ := Aside0.mk (Kd.R_below (by (with_reducible repeat (first | apply Kd.R_alloc | apply Kd.R_drewN | apply Kd.R_drew)); exact HO211.out) hb); have n2_ := Aside0.mk (Kd.R_below (by (with_reducible repeat (first | apply Kd.R_alloc | apply Kd.R_drewN | apply Kd.R_drew)); exact HO219.out) hb); have n3_ := Aside0.mk (blk_below (g := gb198) (o := .cells #[.int .i64 a0_0, .int .i64 a0_1, .int .i64 a0_2, .slice A0_3 l0_3.length c0_3] 57 (0, 0)) (by (with_reducible repeat (first | refine bN ?_ _ | refine bD ?_ | refine bA ?_ _)); exact BK198.out) hb); have n4_ := Aside0.mk (blk_below (g := gb213) (o := .cells #[.int .i64 t206, .int .i64 t207, .int .i64 t208, .slice Ao23 t209.length co23] 61 (0, 0)) (by (with_reducible repeat (first | refine bN ?_ _ | refine bD ?_ | refine bA ?_ _)); exact BK213.out) hb); have n5_ := Aside0.mk (below_step (by repeat (first | (with_reducible first | exact HB.out | apply below_alloc | apply pw_below_drewN | apply below_drew1 | refine below_set ?_ GE198.out | refine below_set ?_ GE213.out) | exact HB.out)) hb); have n6_ := Aside0.mk (hbox); have n7_ := Aside0.mk ((by rw [hg]; exact (below_size (by repeat (first | (with_reducible first | exact HB.out | apply below_alloc | apply pw_below_drewN | apply below_drew1 | refine below_set ?_ GE198.out | refine below_set ?_ GE213.out) | exact HB.out))) : w.heap.size ≤ gb220)); have n8_ := n7_; have n9_ := Aside0.mk ((by rw [hg]; exact Nat.ne_of_lt (blk_lt (g := gb198) (o := .cells #[.int .i64 a0_0, .int .i64 a0_1, .int .i64 a0_2, .slice A0_3 l0_3.length c0_3] 57 (0, 0)) (by (with_reducible repeat (first | refine bN ?_ _ | refine bD ?_ | refine bA ?_ _)); exact BK198.out)) : gb198 ≠ gb220)); have n10_ := Aside0.mk (Ne.symm n9_.out); have n11_ := Aside0.mk ((by rw [hg]; exact Nat.ne_of_lt (blk_lt (g := gb213) (o := .cells #[.int .i64 t206, .int .i64 t207, .int .i64 t208, .slice Ao23 t209.length co23] 61 (0, 0)) (by (with_reducible repeat (first | refine bN ?_ _ | refine bD ?_ | refine bA ?_ _)); exact BK213.out)) : gb213 ≠ gb220)); have n12_ := Aside0.mk (Ne.symm n11_.out); clear HO205; clear HO211; clear HO219; clear BK198; clear BK213; clear HB; have HO205 := n0_; have HO211 := n1_; have HO219 := n2_; have BK198 := n3_; have BK213 := n4_; have HB := n5_; have BK220 := n6_; have GW220 := n7_; have GE220 := n8_; have NB198_220 := n9_; have NB220_198 := n10_; have NB213_220 := n11_; have NB220_213 := n12_; clear n0_ n1_ n2_ n3_ n4_ n5_ n6_ n7_ n8_ n9_ n10_ n11_ n12_; clear hb hbox hg; have hnb27 := NB220_198.out; have hnc27 := NB198_220.out; have hnb28 := NB220_213.out; have hnc28 := NB213_220.out; obtain ⟨hcz29_0, hcz29_1, hcz29_2, hcz29_3⟩ := cz4 BK220; obtain ⟨hfz29_0, hfz29_1, hfz29_2, hfz29_3⟩ := fz4 BK220; obtain ⟨Ao30, co30, eo30⟩ := Kd.R_slice HO219.out; subst eo30) | ((with_reducible refine gate_callee (f := 39) rfl ?_); refine goesL_ (some 33) rfl rfl Try.func39 (by kernel_rfl) rfl #[.agg #[.int .i64 t214, .int .i64 t215, .int .i64 t216, .slice Ao30 t217.length co30], .int .i64 a1] rfl (by (try simp only [List.map_toArray, List.map_cons, List.map_nil]); first | done | rfl | (simp only [List.length_drop, List.length_take]; rfl)) ?_; (with_reducible refine (impl_RaiseLimit.calls k t214 t215 t216 _ _ t217 a1 t221 t222 t223 t224 t227 _ ?side1 ?side2 A11.out).mono ?_); (case side1 => refine (Kd.R_reads' (e := 177) (base := w.heap.size) (ok := fun k_ => ((True ∧ some k_ ≠ (.slice Ao18 t203.length co18 : Value).ownBlock) ∧ some k_ ≠ (.slice Ao23 t209.length co23 : Value).ownBlock)) (n := t217.length) (c := co30) ?_).2.2; exact (by (with_reducible repeat (first | apply Kd.R_alloc | apply Kd.R_drewN | apply Kd.R_drew)); exact (Kd.R_mono (Kd.R_far (p := ⟨gb220, 3, none⟩) (Kd.R_far (p := ⟨gb220, 2, none⟩) (Kd.R_far (p := ⟨gb220, 1, none⟩) (Kd.R_far (p := ⟨gb220, 0, none⟩) (Kd.R_types HO219.out BK220.out (by decide)) (fun _ hk => hk.2) (.int .i64 t214)) (fun _ hk => hk.2) (.int .i64 t215)) (fun _ hk => hk.2) (.int .i64 t216)) (fun _ hk => hk.2) (.slice Ao30 t217.length co30)) (fun _ h_ => h_.1)))); (case side2 => exact (Kd.R_reads' HO219.out).2.1); rintro e w31 ⟨v225, rfl, ho0, hb⟩; refine ⟨_, rfl, ?_⟩; have n0_ := Aside0.mk (Kd.R_elder' (by (with_reducible repeat (first | apply Kd.R_alloc | apply Kd.R_drewN | apply Kd.R_drew)); exact (Kd.R_mono (Kd.R_far (p := ⟨gb220, 3, none⟩) (Kd.R_far (p := ⟨gb220, 2, none⟩) (Kd.R_far (p := ⟨gb220, 1, none⟩) (Kd.R_far (p := ⟨gb220, 0, none⟩) (Kd.R_types HO205.out BK220.out (by decide)) (fun _ hk => hk.2) (.int .i64 t214)) (fun _ hk => hk.2) (.int .i64 t215)) (fun _ hk => hk.2) (.int .i64 t216)) (fun _ hk => hk.2) (.slice Ao30 t217.length co30)) (fun _ h_ => h_.1))) (Kd.R_base ho0) hb); have n1_ := Aside0.mk (Kd.R_elder' (by (with_reducible repeat (first | apply Kd.R_alloc | apply Kd.R_drewN | apply Kd.R_drew)); exact (Kd.R_mono (Kd.R_far (p := ⟨gb220, 3, none⟩) (Kd.R_far (p := ⟨gb220, 2, none⟩) (Kd.R_far (p := ⟨gb220, 1, none⟩) (Kd.R_far (p := ⟨gb220, 0, none⟩) (Kd.R_types HO211.out BK220.out (by decide)) (fun _ hk => hk.2) (.int .i64 t214)) (fun _ hk => hk.2) (.int .i64 t215)) (fun _ hk => hk.2) (.int .i64 t216)) (fun _ hk => hk.2) (.slice Ao30 t217.length co30)) (fun _ h_ => h_.1))) (Kd.R_base ho0) hb); have n2_ := Aside0.mk (Kd.R_elder' (by (with_reducible repeat (first | apply Kd.R_alloc | apply Kd.R_drewN | apply Kd.R_drew)); exact (Kd.R_mono (Kd.R_far (p := ⟨gb220, 3, none⟩) (Kd.R_far (p := ⟨gb220, 2, none⟩) (Kd.R_far (p := ⟨gb220, 1, none⟩) (Kd.R_far (p := ⟨gb220, 0, none⟩) (Kd.R_types HO219.out BK220.out (by decide)) (fun _ hk => hk.2) (.int .i64 t214)) (fun _ hk => hk.2) (.int .i64 t215)) (fun _ hk => hk.2) (.int .i64 t216)) (fun _ hk => hk.2) (.slice Ao30 t217.length co30)) (fun _ h_ => h_.1))) (Kd.R_base ho0) hb); have n3_ := Aside0.mk (Kd.R_lower (Kd.R_new' (Kd.R_new' (Kd.R_new' ho0 (Kd.R_lt (by (with_reducible repeat (first | apply Kd.R_alloc | apply Kd.R_drewN | apply Kd.R_drew)); exact (Kd.R_mono (Kd.R_far (p := ⟨gb220, 3, none⟩) (Kd.R_far (p := ⟨gb220, 2, none⟩) (Kd.R_far (p := ⟨gb220, 1, none⟩) (Kd.R_far (p := ⟨gb220, 0, none⟩) (Kd.R_types HO205.out BK220.out (by decide)) (fun _ hk => hk.2) (.int .i64 t214)) (fun _ hk => hk.2) (.int .i64 t215)) (fun _ hk => hk.2) (.int .i64 t216)) (fun _ hk => hk.2) (.slice Ao30 t217.length co30)) (fun _ h_ => h_.1))))) (Kd.R_lt (by (with_reducible repeat (first | apply Kd.R_alloc | apply Kd.R_drewN | apply Kd.R_drew)); exact (Kd.R_mono (Kd.R_far (p := ⟨gb220, 3, none⟩) (Kd.R_far (p := ⟨gb220, 2, none⟩) (Kd.R_far (p := ⟨gb220, 1, none⟩) (Kd.R_far (p := ⟨gb220, 0, none⟩) (Kd.R_types HO211.out BK220.out (by decide)) (fun _ hk => hk.2) (.int .i64 t214)) (fun _ hk => hk.2) (.int .i64 t215)) (fun _ hk => hk.2) (.int .i64 t216)) (fun _ hk => hk.2) (.slice Ao30 t217.length co30)) (fun _ h_ => h_.1))))) (Kd.R_lt (by (with_reducible repeat (first | apply Kd.R_alloc | apply Kd.R_drewN | apply Kd.R_drew)); exact (Kd.R_mono (Kd.R_far (p := ⟨gb220, 3, none⟩) (Kd.R_far (p := ⟨gb220, 2, none⟩) (Kd.R_far (p := ⟨gb220, 1, none⟩) (Kd.R_far (p := ⟨gb220, 0, none⟩) (Kd.R_types HO219.out BK220.out (by decide)) (fun _ hk => hk.2) (.int .i64 t214)) (fun _ hk => hk.2) (.int .i64 t215)) (fun _ hk => hk.2) (.int .i64 t216)) (fun _ hk => hk.2) (.slice Ao30 t217.length co30)) (fun _ h_ => h_.1))))) (below_size (by repeat (first | (with_reducible first | exact HB.out | apply below_alloc | apply pw_below_drewN | apply below_drew1 | refine below_set ?_ GE198.out | refine below_set ?_ GE213.out | refine below_set ?_ GE220.out) | exact HB.out)))); have n4_ := Aside0.mk (blk_below (g := gb198) (o := .cells #[.int .i64 a0_0, .int .i64 a0_1, .int .i64 a0_2, .slice A0_3 l0_3.length c0_3] 57 (0, 0)) (by (with_reducible repeat (first | refine bN ?_ _ | refine bD ?_ | refine bA ?_ _)); refine blk_far ?_ NB198_220.out _; (with_reducible repeat (first | refine bN ?_ _ | refine bD ?_ | refine bA ?_ _)); refine blk_far ?_ NB198_220.out _; (with_reducible repeat (first | refine bN ?_ _ | refine bD ?_ | refine bA ?_ _)); refine blk_far ?_ NB198_220.out _; (with_reducible repeat (first | refine bN ?_ _ | refine bD ?_ | refine bA ?_ _)); refine blk_far ?_ NB198_220.out _; (with_reducible repeat (first | refine bN ?_ _ | refine bD ?_ | refine bA ?_ _)); exact BK198.out) hb); have n5_ := Aside0.mk (blk_below (g := gb213) (o := .cells #[.int .i64 t206, .int .i64 t207, .int .i64 t208, .slice Ao23 t209.length co23] 61 (0, 0)) (by (with_reducible repeat (first | refine bN ?_ _ | refine bD ?_ | refine bA ?_ _)); refine blk_far ?_ NB213_220.out _; (with_reducible repeat (first | refine bN ?_ _ | refine bD ?_ | refine bA ?_ _)); refine blk_far ?_ NB213_220.out _; (with_reducible repeat (first | refine bN ?_ _ | refine bD ?_ | refine bA ?_ _)); refine blk_far ?_ NB213_220.out _; (with_reducible repeat (first | refine bN ?_ _ | refine bD ?_ | refine bA ?_ _)); refine blk_far ?_ NB213_220.out _; (with_reducible repeat (first | refine bN ?_ _ | refine bD ?_ | refine bA ?_ _)); exact BK213.out) hb); have n6_ := Aside0.mk (blk_below (g := gb220) (o := .cells #[.int .i64 t214, .int .i64 t215, .int .i64 t216, .slice Ao30 t217.length co30] 61 (0, 0)) (by (with_reducible repeat (first | refine bN ?_ _ | refine bD ?_ | refine bA ?_ _)); refine blk_put (cs := #[.int .i64 t214, .int .i64 t215, .int .i64 t216, .slice none 0 0]) ?_ 3 _ rfl; (with_reducible repeat (first | refine bN ?_ _ | refine bD ?_ | refine bA ?_ _)); refine blk_put (cs := #[.int .i64 t214, .int .i64 t215, .int .i64 0, .slice none 0 0]) ?_ 2 _ rfl; (with_reducible repeat (first | refine bN ?_ _ | refine bD ?_ | refine bA ?_ _)); refine blk_put (cs := #[.int .i64 t214, .int .i64 0, .int .i64 0, .slice none 0 0]) ?_ 1 _ rfl; (with_reducible repeat (first | refine bN ?_ _ | refine bD ?_ | refine bA ?_ _)); refine blk_put (cs := #[.int .i64 0, .int .i64 0, .int .i64 0, .slice none 0 0]) ?_ 0 _ rfl; (with_reducible repeat (first | refine bN ?_ _ | refine bD ?_ | refine bA ?_ _)); exact BK220.out) hb); have n7_ := Aside0.mk (below_step (by repeat (first | (with_reducible first | exact HB.out | apply below_alloc | apply pw_below_drewN | apply below_drew1 | refine below_set ?_ GE198.out | refine below_set ?_ GE213.out | refine below_set ?_ GE220.out) | exact HB.out)) hb); clear HO205; clear HO211; clear HO219; clear BK198; clear BK213; clear BK220; clear HB; have HO205 := n0_; have HO211 := n1_; have HO219 := n2_; have HO226 := n3_; have BK198 := n4_; have BK213 := n5_; have BK220 := n6_; have HB := n7_; clear n0_ n1_ n2_ n3_ n4_ n5_ n6_ n7_; (try clear hb); (try clear hb2); (try clear hk); (try clear hi); (try clear ho0)) | ((with_reducible refine gate_dst (N := 9) rfl ?_); refine box_event ?hg (N := 9) ?hd (cs := #[.int .i64 0, .int .i64 0, .int .i64 0, .slice none 0 0]) (t := 61) ?hr ?_; (case hd => rfl); (case hg => rfl); (case hr => first | (go_simp; done) | (go_simp; rfl)); intro gb228 hg w32 hbox hb; have n0_ := Aside0.mk (Kd.R_below (by (with_reducible repeat (first | apply Kd.R_alloc | apply Kd.R_drewN | apply Kd.R_drew)); exact HO205.out) hb); have n1_ := Aside0.mk (Kd.R_below (by (with_reducible repeat (first | apply Kd.R_alloc | apply Kd.R_drewN | apply Kd.R_drew)); exact HO211.out) hb); have n2_ := Aside0.mk (Kd.R_below (by (with_reducible repeat (first | apply Kd.R_alloc | apply Kd.R_drewN | apply Kd.R_drew)); exact HO219.out) hb); have n3_ := Aside0.mk (Kd.R_below (by (with_reducible repeat (first | apply Kd.R_alloc | apply Kd.R_drewN | apply Kd.R_drew)); exact HO226.out) hb); have n4_ := Aside0.mk (blk_below (g := gb198) (o := .cells #[.int .i64 a0_0, .int .i64 a0_1, .int .i64 a0_2, .slice A0_3 l0_3.length c0_3] 57 (0, 0)) (by (with_reducible repeat (first | refine bN ?_ _ | refine bD ?_ | refine bA ?_ _)); exact BK198.out) hb); have n5_ := Aside0.mk (blk_below (g := gb213) (o := .cells #[.int .i64 t206, .int .i64 t207, .int .i64 t208, .slice Ao23 t209.length co23] 61 (0, 0)) (by (with_reducible repeat (first | refine bN ?_ _ | refine bD ?_ | refine bA ?_ _)); exact BK213.out) hb); have n6_ := Aside0.mk (blk_below (g := gb220) (o := .cells #[.int .i64 t214, .int .i64 t215, .int .i64 t216, .slice Ao30 t217.length co30] 61 (0, 0)) (by (with_reducible repeat (first | refine bN ?_ _ | refine bD ?_ | refine bA ?_ _)); exact BK220.out) hb); have n7_ := Aside0.mk (below_step (by repeat (first | (with_reducible first | exact HB.out | apply below_alloc | apply pw_below_drewN | apply below_drew1 | refine below_set ?_ GE198.out | refine below_set ?_ GE213.out | refine below_set ?_ GE220.out) | exact HB.out)) hb); have n8_ := Aside0.mk (hbox); have n9_ := Aside0.mk ((by rw [hg]; exact (below_size (by repeat (first | (with_reducible first | exact HB.out | apply below_alloc | apply pw_below_drewN | apply below_drew1 | refine below_set ?_ GE198.out | refine below_set ?_ GE213.out | refine below_set ?_ GE220.out) | exact HB.out))) : w.heap.size ≤ gb228)); have n10_ := n9_; have n11_ := Aside0.mk ((by rw [hg]; exact Nat.ne_of_lt (blk_lt (g := gb198) (o := .cells #[.int .i64 a0_0, .int .i64 a0_1, .int .i64 a0_2, .slice A0_3 l0_3.length c0_3] 57 (0, 0)) (by (with_reducible repeat (first | refine bN ?_ _ | refine bD ?_ | refine bA ?_ _)); exact BK198.out)) : gb198 ≠ gb228)); have n12_ := Aside0.mk (Ne.symm n11_.out); have n13_ := Aside0.mk ((by rw [hg]; exact Nat.ne_of_lt (blk_lt (g := gb213) (o := .cells #[.int .i64 t206, .int .i64 t207, .int .i64 t208, .slice Ao23 t209.length co23] 61 (0, 0)) (by (with_reducible repeat (first | refine bN ?_ _ | refine bD ?_ | refine bA ?_ _)); exact BK213.out)) : gb213 ≠ gb228)); have n14_ := Aside0.mk (Ne.symm n13_.out); have n15_ := Aside0.mk ((by rw [hg]; exact Nat.ne_of_lt (blk_lt (g := gb220) (o := .cells #[.int .i64 t214, .int .i64 t215, .int .i64 t216, .slice Ao30 t217.length co30] 61 (0, 0)) (by (with_reducible repeat (first | refine bN ?_ _ | refine bD ?_ | refine bA ?_ _)); exact BK220.out)) : gb220 ≠ gb228)); have n16_ := Aside0.mk (Ne.symm n15_.out); clear HO205; clear HO211; clear HO219; clear HO226; clear BK198; clear BK213; clear BK220; clear HB; have HO205 := n0_; have HO211 := n1_; have HO219 := n2_; have HO226 := n3_; have BK198 := n4_; have BK213 := n5_; have BK220 := n6_; have HB := n7_; have BK228 := n8_; have GW228 := n9_; have GE228 := n10_; have NB198_228 := n11_; have NB228_198 := n12_; have NB213_228 := n13_; have NB228_213 := n14_; have NB220_228 := n15_; have NB228_220 := n16_; clear n0_ n1_ n2_ n3_ n4_ n5_ n6_ n7_ n8_ n9_ n10_ n11_ n12_ n13_ n14_ n15_ n16_; clear hb hbox hg; have hnb33 := NB228_198.out; have hnc33 := NB198_228.out; have hnb34 := NB228_213.out; have hnc34 := NB213_228.out; have hnb35 := NB228_220.out; have hnc35 := NB220_228.out; obtain ⟨hcz36_0, hcz36_1, hcz36_2, hcz36_3⟩ := cz4 BK228; obtain ⟨hfz36_0, hfz36_1, hfz36_2, hfz36_3⟩ := fz4 BK228; obtain ⟨Ao37, co37, eo37⟩ := Kd.R_slice HO226.out; subst eo37))
  (try simp only [Act.put, sA, sZ, sS])
  go_cut [44] (fun v44 wc => ∃ (kq : Nat) (x44_11 : Bool), v44 = .bool x44_11 ∧ Aside0 (laws_FnExactRaiseLimit.j0 kq a1 t212 t227 x44_11 a0_0 a0_1 a0_2 l0_3 t206 t207 t208 t209 t214 t215 t216 t217 t221 t222 t223 t224 = some r) ∧ Aside0 (kq ≤ k) ∧ Aside0 (Kd.R k177 177 wc w.heap.size (fun k_ => some k_ ≠ ((.slice Ao30 t217.length co30) : Value).ownBlock ∧ some k_ ≠ ((.slice Ao37 t224.length co37) : Value).ownBlock) (.slice Ao23 t209.length co23) t209) ∧ Aside0 (Kd.R k177 177 wc w.heap.size (fun k_ => some k_ ≠ ((.slice Ao23 t209.length co23) : Value).ownBlock ∧ some k_ ≠ ((.slice Ao37 t224.length co37) : Value).ownBlock) (.slice Ao30 t217.length co30) t217) ∧ Aside0 (Kd.R k177 177 wc w.heap.size (fun k_ => some k_ ≠ ((.slice Ao23 t209.length co23) : Value).ownBlock ∧ some k_ ≠ ((.slice Ao30 t217.length co30) : Value).ownBlock) (.slice Ao37 t224.length co37) t224) ∧ Aside0 (wc.heap[gb198]? = some (.cells #[.int .i64 a0_0, .int .i64 a0_1, .int .i64 a0_2, (.slice A0_3 l0_3.length c0_3)] 57 (0, 0))) ∧ Aside0 (wc.heap[gb213]? = some (.cells #[.int .i64 t206, .int .i64 t207, .int .i64 t208, (.slice Ao23 t209.length co23)] 61 (0, 0))) ∧ Aside0 (wc.heap[gb220]? = some (.cells #[.int .i64 t214, .int .i64 t215, .int .i64 t216, (.slice Ao30 t217.length co30)] 61 (0, 0))) ∧ Aside0 (wc.heap[gb228]? = some (.cells #[.int .i64 t221, .int .i64 t222, .int .i64 t223, (.slice Ao37 t224.length co37)] 61 (0, 0))) ∧ Aside0 (Below w.heap.size w wc))
  case first =>
   have H := HC12.out
   clear HC12
   replace H := Option.bind_eq_some_iff.mp H
   obtain ⟨t229, A380, H⟩ := H
   replace H : (if t229 = true then (laws_FnExactRaiseLimit.j0 k a1 t212 t227 (t227 != t212) a0_0 a0_1 a0_2 l0_3 t206 t207 t208 t209 t214 t215 t216 t217 t221 t222 t223 t224) else (laws_FnExactRaiseLimit.j0 k a1 t212 t227 true a0_0 a0_1 a0_2 l0_3 t206 t207 t208 t209 t214 t215 t216 t217 t221 t222 t223 t224)) = some r := H
   have A38 := Aside0.mk A380
   clear A380
   by_cases c39 : t229 = true
   ·subst c39
    have H1 : (laws_FnExactRaiseLimit.j0 k a1 t212 t227 (t227 != t212) a0_0 a0_1 a0_2 l0_3 t206 t207 t208 t209 t214 t215 t216 t217 t221 t222 t223 t224) = some r := by rw [if_pos rfl] at H; exact H
    clear H
    have H := H1
    clear H1
    have H' := Aside0.mk H
    clear H
    have hnb40 := NB228_198.out
    have hnc40 := NB198_228.out
    have hnb41 := NB228_213.out
    have hnc41 := NB213_228.out
    have hnb42 := NB228_220.out
    have hnc42 := NB220_228.out
    obtain ⟨hcz43_0, hcz43_1, hcz43_2, hcz43_3⟩ := cz4 BK228
    obtain ⟨hfz43_0, hfz43_1, hfz43_2, hfz43_3⟩ := fz4 BK228
    have hnb44 := NB213_198.out
    have hnc44 := NB198_213.out
    have hnb45 := NB213_220.out
    have hnc45 := NB220_213.out
    obtain ⟨hcz46_0, hcz46_1, hcz46_2, hcz46_3⟩ := cz4 BK213
    obtain ⟨hfz46_0, hfz46_1, hfz46_2, hfz46_3⟩ := fz4 BK213
    go_wp2_with (first | ((with_reducible refine gate_callee (f := 40) rfl ?_); refine goesL_ (some 38) rfl rfl Try.func40 (by kernel_rfl) rfl #[.agg #[.int .i64 t221, .int .i64 t222, .int .i64 t223, .slice Ao37 t224.length co37], .agg #[.int .i64 t206, .int .i64 t207, .int .i64 t208, .slice Ao23 t209.length co23]] rfl (by (try simp only [List.map_toArray, List.map_cons, List.map_nil]); first | done | rfl | (simp only [List.length_drop, List.length_take]; rfl)) ?_; (with_reducible refine (laws_eqInflow.calls k t221 t222 t223 _ _ t224 t206 t207 t208 _ _ t209 true _ ?side1 ?side2 ?side3 ?side4 A38.out).mono ?_); (case side1 => refine (Kd.R_reads' (e := 177) (base := w.heap.size) (ok := fun k_ => (((True ∧ some k_ ≠ (.slice Ao18 t203.length co18 : Value).ownBlock) ∧ some k_ ≠ (.slice Ao23 t209.length co23 : Value).ownBlock) ∧ some k_ ≠ (.slice Ao30 t217.length co30 : Value).ownBlock)) (n := t224.length) (c := co37) ?_).2.2; exact (by (with_reducible repeat (first | apply Kd.R_alloc | apply Kd.R_drewN | apply Kd.R_drew)); exact (Kd.R_mono (Kd.R_far (p := ⟨gb228, 3, none⟩) (Kd.R_far (p := ⟨gb228, 2, none⟩) (Kd.R_far (p := ⟨gb228, 1, none⟩) (Kd.R_far (p := ⟨gb228, 0, none⟩) (Kd.R_types HO226.out BK228.out (by decide)) (fun _ hk => hk.2) (.int .i64 t221)) (fun _ hk => hk.2) (.int .i64 t222)) (fun _ hk => hk.2) (.int .i64 t223)) (fun _ hk => hk.2) (.slice Ao37 t224.length co37)) (fun _ h_ => h_.1)))); (case side2 => exact (Kd.R_reads' HO226.out).2.1); (case side3 => refine (Kd.R_reads' (e := 177) (base := w.heap.size) (ok := fun k_ => (((True ∧ some k_ ≠ (.slice Ao18 t203.length co18 : Value).ownBlock) ∧ some k_ ≠ (.slice Ao30 t217.length co30 : Value).ownBlock) ∧ some k_ ≠ (.slice Ao37 t224.length co37 : Value).ownBlock)) (n := t209.length) (c := co23) ?_).2.2; exact (by (with_reducible repeat (first | apply Kd.R_alloc | apply Kd.R_drewN | apply Kd.R_drew)); exact (Kd.R_mono (Kd.R_far (p := ⟨gb228, 3, none⟩) (Kd.R_far (p := ⟨gb228, 2, none⟩) (Kd.R_far (p := ⟨gb228, 1, none⟩) (Kd.R_far (p := ⟨gb228, 0, none⟩) (Kd.R_types HO211.out BK228.out (by decide)) (fun _ hk => hk.2) (.int .i64 t221)) (fun _ hk => hk.2) (.int .i64 t222)) (fun _ hk => hk.2) (.int .i64 t223)) (fun _ hk => hk.2) (.slice Ao37 t224.length co37)) (fun _ h_ => h_.1)))); (case side4 => exact (Kd.R_reads' HO211.out).2.1); rintro e w47 ⟨rfl, hb⟩; refine ⟨_, rfl, ?_⟩; have n0_ := Aside0.mk (Kd.R_below (by (with_reducible repeat (first | apply Kd.R_alloc | apply Kd.R_drewN | apply Kd.R_drew)); exact (Kd.R_mono (Kd.R_far (p := ⟨gb228, 3, none⟩) (Kd.R_far (p := ⟨gb228, 2, none⟩) (Kd.R_far (p := ⟨gb228, 1, none⟩) (Kd.R_far (p := ⟨gb228, 0, none⟩) (Kd.R_types HO205.out BK228.out (by decide)) (fun _ hk => hk.2) (.int .i64 t221)) (fun _ hk => hk.2) (.int .i64 t222)) (fun _ hk => hk.2) (.int .i64 t223)) (fun _ hk => hk.2) (.slice Ao37 t224.length co37)) (fun _ h_ => h_.1))) hb); have n1_ := Aside0.mk (Kd.R_below (by (with_reducible repeat (first | apply Kd.R_alloc | apply Kd.R_drewN | apply Kd.R_drew)); exact (Kd.R_mono (Kd.R_far (p := ⟨gb228, 3, none⟩) (Kd.R_far (p := ⟨gb228, 2, none⟩) (Kd.R_far (p := ⟨gb228, 1, none⟩) (Kd.R_far (p := ⟨gb228, 0, none⟩) (Kd.R_types HO211.out BK228.out (by decide)) (fun _ hk => hk.2) (.int .i64 t221)) (fun _ hk => hk.2) (.int .i64 t222)) (fun _ hk => hk.2) (.int .i64 t223)) (fun _ hk => hk.2) (.slice Ao37 t224.length co37)) (fun _ h_ => h_.1))) hb); have n2_ := Aside0.mk (Kd.R_below (by (with_reducible repeat (first | apply Kd.R_alloc | apply Kd.R_drewN | apply Kd.R_drew)); exact (Kd.R_mono (Kd.R_far (p := ⟨gb228, 3, none⟩) (Kd.R_far (p := ⟨gb228, 2, none⟩) (Kd.R_far (p := ⟨gb228, 1, none⟩) (Kd.R_far (p := ⟨gb228, 0, none⟩) (Kd.R_types HO219.out BK228.out (by decide)) (fun _ hk => hk.2) (.int .i64 t221)) (fun _ hk => hk.2) (.int .i64 t222)) (fun _ hk => hk.2) (.int .i64 t223)) (fun _ hk => hk.2) (.slice Ao37 t224.length co37)) (fun _ h_ => h_.1))) hb); have n3_ := Aside0.mk (Kd.R_below (by (with_reducible repeat (first | apply Kd.R_alloc | apply Kd.R_drewN | apply Kd.R_drew)); exact (Kd.R_mono (Kd.R_far (p := ⟨gb228, 3, none⟩) (Kd.R_far (p := ⟨gb228, 2, none⟩) (Kd.R_far (p := ⟨gb228, 1, none⟩) (Kd.R_far (p := ⟨gb228, 0, none⟩) (Kd.R_types HO226.out BK228.out (by decide)) (fun _ hk => hk.2) (.int .i64 t221)) (fun _ hk => hk.2) (.int .i64 t222)) (fun _ hk => hk.2) (.int .i64 t223)) (fun _ hk => hk.2) (.slice Ao37 t224.length co37)) (fun _ h_ => h_.1))) hb); have n4_ := Aside0.mk (blk_below (g := gb198) (o := .cells #[.int .i64 a0_0, .int .i64 a0_1, .int .i64 a0_2, .slice A0_3 l0_3.length c0_3] 57 (0, 0)) (by (with_reducible repeat (first | refine bN ?_ _ | refine bD ?_ | refine bA ?_ _)); refine blk_far ?_ NB198_228.out _; (with_reducible repeat (first | refine bN ?_ _ | refine bD ?_ | refine bA ?_ _)); refine blk_far ?_ NB198_228.out _; (with_reducible repeat (first | refine bN ?_ _ | refine bD ?_ | refine bA ?_ _)); refine blk_far ?_ NB198_228.out _; (with_reducible repeat (first | refine bN ?_ _ | refine bD ?_ | refine bA ?_ _)); refine blk_far ?_ NB198_228.out _; (with_reducible repeat (first | refine bN ?_ _ | refine bD ?_ | refine bA ?_ _)); exact BK198.out) hb); have n5_ := Aside0.mk (blk_below (g := gb213) (o := .cells #[.int .i64 t206, .int .i64 t207, .int .i64 t208, .slice Ao23 t209.length co23] 61 (0, 0)) (by (with_reducible repeat (first | refine bN ?_ _ | refine bD ?_ | refine bA ?_ _)); refine blk_far ?_ NB213_228.out _; (with_reducible repeat (first | refine bN ?_ _ | refine bD ?_ | refine bA ?_ _)); refine blk_far ?_ NB213_228.out _; (with_reducible repeat (first | refine bN ?_ _ | refine bD ?_ | refine bA ?_ _)); refine blk_far ?_ NB213_228.out _; (with_reducible repeat (first | refine bN ?_ _ | refine bD ?_ | refine bA ?_ _)); refine blk_far ?_ NB213_228.out _; (with_reducible repeat (first | refine bN ?_ _ | refine bD ?_ | refine bA ?_ _)); exact BK213.out) hb); have n6_ := Aside0.mk (blk_below (g := gb220) (o := .cells #[.int .i64 t214, .int .i64 t215, .int .i64 t216, .slice Ao30 t217.length co30] 61 (0, 0)) (by (with_reducible repeat (first | refine bN ?_ _ | refine bD ?_ | refine bA ?_ _)); refine blk_far ?_ NB220_228.out _; (with_reducible repeat (first | refine bN ?_ _ | refine bD ?_ | refine bA ?_ _)); refine blk_far ?_ NB220_228.out _; (with_reducible repeat (first | refine bN ?_ _ | refine bD ?_ | refine bA ?_ _)); refine blk_far ?_ NB220_228.out _; (with_reducible repeat (first | refine bN ?_ _ | refine bD ?_ | refine bA ?_ _)); refine blk_far ?_ NB220_228.out _; (with_reducible repeat (first | refine bN ?_ _ | refine bD ?_ | refine bA ?_ _)); exact BK220.out) hb); have n7_ := Aside0.mk (blk_below (g := gb228) (o := .cells #[.int .i64 t221, .int .i64 t222, .int .i64 t223, .slice Ao37 t224.length co37] 61 (0, 0)) (by (with_reducible repeat (first | refine bN ?_ _ | refine bD ?_ | refine bA ?_ _)); refine blk_put (cs := #[.int .i64 t221, .int .i64 t222, .int .i64 t223, .slice none 0 0]) ?_ 3 _ rfl; (with_reducible repeat (first | refine bN ?_ _ | refine bD ?_ | refine bA ?_ _)); refine blk_put (cs := #[.int .i64 t221, .int .i64 t222, .int .i64 0, .slice none 0 0]) ?_ 2 _ rfl; (with_reducible repeat (first | refine bN ?_ _ | refine bD ?_ | refine bA ?_ _)); refine blk_put (cs := #[.int .i64 t221, .int .i64 0, .int .i64 0, .slice none 0 0]) ?_ 1 _ rfl; (with_reducible repeat (first | refine bN ?_ _ | refine bD ?_ | refine bA ?_ _)); refine blk_put (cs := #[.int .i64 0, .int .i64 0, .int .i64 0, .slice none 0 0]) ?_ 0 _ rfl; (with_reducible repeat (first | refine bN ?_ _ | refine bD ?_ | refine bA ?_ _)); exact BK228.out) hb); have n8_ := Aside0.mk (below_step (by repeat (first | (with_reducible first | exact HB.out | apply below_alloc | apply pw_below_drewN | apply below_drew1 | refine below_set ?_ GE198.out | refine below_set ?_ GE213.out | refine below_set ?_ GE220.out | refine below_set ?_ GE228.out) | exact HB.out)) hb); clear HO205; clear HO211; clear HO219; clear HO226; clear BK198; clear BK213; clear BK220; clear BK228; clear HB; have HO205 := n0_; have HO211 := n1_; have HO219 := n2_; have HO226 := n3_; have BK198 := n4_; have BK213 := n5_; have BK220 := n6_; have BK228 := n7_; have HB := n8_; clear n0_ n1_ n2_ n3_ n4_ n5_ n6_ n7_ n8_; (try clear hb); (try clear hb2); (try clear hk); (try clear hi)))
    go_meet
    case rel => exact ⟨_, ((t227 != t212)), (by first | rfl | (simp; done) | (simp [*]; done)), H', ⟨by first | omega | exact Nat.le_refl _⟩, ⟨by (with_reducible repeat (first | apply Kd.R_alloc | apply Kd.R_drewN | apply Kd.R_drew)); exact Kd.R_mono HO211.out (fun _ hk => ⟨hk.1.2, hk.2⟩)⟩, ⟨by (with_reducible repeat (first | apply Kd.R_alloc | apply Kd.R_drewN | apply Kd.R_drew)); exact Kd.R_mono HO219.out (fun _ hk => ⟨hk.1.2, hk.2⟩)⟩, ⟨by (with_reducible repeat (first | apply Kd.R_alloc | apply Kd.R_drewN | apply Kd.R_drew)); exact Kd.R_mono HO226.out (fun _ hk => ⟨hk.1.2, hk.2⟩)⟩, ⟨by (with_reducible repeat (first | refine bN ?_ _ | refine bD ?_ | refine bA ?_ _)); exact BK198.out⟩, ⟨by (with_reducible repeat (first | refine bN ?_ _ | refine bD ?_ | refine bA ?_ _)); exact BK213.out⟩, ⟨by (with_reducible repeat (first | refine bN ?_ _ | refine bD ?_ | refine bA ?_ _)); exact BK220.out⟩, ⟨by (with_reducible repeat (first | refine bN ?_ _ | refine bD ?_ | refine bA ?_ _)); exact BK228.out⟩, ⟨by repeat (first | (with_reducible first | exact HB.out | apply below_alloc | apply pw_below_drewN | apply below_drew1 | refine below_set ?_ GE198.out | refine below_set ?_ GE213.out | refine below_set ?_ GE220.out | refine below_set ?_ GE228.out) | exact HB.out)⟩⟩
   ·replace c39 := Bool.eq_false_iff.mpr c39
    subst c39
    have H1 : (laws_FnExactRaiseLimit.j0 k a1 t212 t227 true a0_0 a0_1 a0_2 l0_3 t206 t207 t208 t209 t214 t215 t216 t217 t221 t222 t223 t224) = some r := by rw [if_neg (show ¬ (false = true) by decide)] at H; exact H
    clear H
    have H := H1
    clear H1
    have H' := Aside0.mk H
    clear H
    have hnb48 := NB228_198.out
    have hnc48 := NB198_228.out
    have hnb49 := NB228_213.out
    have hnc49 := NB213_228.out
    have hnb50 := NB228_220.out
    have hnc50 := NB220_228.out
    obtain ⟨hcz51_0, hcz51_1, hcz51_2, hcz51_3⟩ := cz4 BK228
    obtain ⟨hfz51_0, hfz51_1, hfz51_2, hfz51_3⟩ := fz4 BK228
    have hnb52 := NB213_198.out
    have hnc52 := NB198_213.out
    have hnb53 := NB213_220.out
    have hnc53 := NB220_213.out
    obtain ⟨hcz54_0, hcz54_1, hcz54_2, hcz54_3⟩ := cz4 BK213
    obtain ⟨hfz54_0, hfz54_1, hfz54_2, hfz54_3⟩ := fz4 BK213
    go_wp2_with (first | ((with_reducible refine gate_callee (f := 40) rfl ?_); refine goesL_ (some 38) rfl rfl Try.func40 (by kernel_rfl) rfl #[.agg #[.int .i64 t221, .int .i64 t222, .int .i64 t223, .slice Ao37 t224.length co37], .agg #[.int .i64 t206, .int .i64 t207, .int .i64 t208, .slice Ao23 t209.length co23]] rfl (by (try simp only [List.map_toArray, List.map_cons, List.map_nil]); first | done | rfl | (simp only [List.length_drop, List.length_take]; rfl)) ?_; (with_reducible refine (laws_eqInflow.calls k t221 t222 t223 _ _ t224 t206 t207 t208 _ _ t209 false _ ?side1 ?side2 ?side3 ?side4 A38.out).mono ?_); (case side1 => refine (Kd.R_reads' (e := 177) (base := w.heap.size) (ok := fun k_ => (((True ∧ some k_ ≠ (.slice Ao18 t203.length co18 : Value).ownBlock) ∧ some k_ ≠ (.slice Ao23 t209.length co23 : Value).ownBlock) ∧ some k_ ≠ (.slice Ao30 t217.length co30 : Value).ownBlock)) (n := t224.length) (c := co37) ?_).2.2; exact (by (with_reducible repeat (first | apply Kd.R_alloc | apply Kd.R_drewN | apply Kd.R_drew)); exact (Kd.R_mono (Kd.R_far (p := ⟨gb228, 3, none⟩) (Kd.R_far (p := ⟨gb228, 2, none⟩) (Kd.R_far (p := ⟨gb228, 1, none⟩) (Kd.R_far (p := ⟨gb228, 0, none⟩) (Kd.R_types HO226.out BK228.out (by decide)) (fun _ hk => hk.2) (.int .i64 t221)) (fun _ hk => hk.2) (.int .i64 t222)) (fun _ hk => hk.2) (.int .i64 t223)) (fun _ hk => hk.2) (.slice Ao37 t224.length co37)) (fun _ h_ => h_.1)))); (case side2 => exact (Kd.R_reads' HO226.out).2.1); (case side3 => refine (Kd.R_reads' (e := 177) (base := w.heap.size) (ok := fun k_ => (((True ∧ some k_ ≠ (.slice Ao18 t203.length co18 : Value).ownBlock) ∧ some k_ ≠ (.slice Ao30 t217.length co30 : Value).ownBlock) ∧ some k_ ≠ (.slice Ao37 t224.length co37 : Value).ownBlock)) (n := t209.length) (c := co23) ?_).2.2; exact (by (with_reducible repeat (first | apply Kd.R_alloc | apply Kd.R_drewN | apply Kd.R_drew)); exact (Kd.R_mono (Kd.R_far (p := ⟨gb228, 3, none⟩) (Kd.R_far (p := ⟨gb228, 2, none⟩) (Kd.R_far (p := ⟨gb228, 1, none⟩) (Kd.R_far (p := ⟨gb228, 0, none⟩) (Kd.R_types HO211.out BK228.out (by decide)) (fun _ hk => hk.2) (.int .i64 t221)) (fun _ hk => hk.2) (.int .i64 t222)) (fun _ hk => hk.2) (.int .i64 t223)) (fun _ hk => hk.2) (.slice Ao37 t224.length co37)) (fun _ h_ => h_.1)))); (case side4 => exact (Kd.R_reads' HO211.out).2.1); rintro e w55 ⟨rfl, hb⟩; refine ⟨_, rfl, ?_⟩; have n0_ := Aside0.mk (Kd.R_below (by (with_reducible repeat (first | apply Kd.R_alloc | apply Kd.R_drewN | apply Kd.R_drew)); exact (Kd.R_mono (Kd.R_far (p := ⟨gb228, 3, none⟩) (Kd.R_far (p := ⟨gb228, 2, none⟩) (Kd.R_far (p := ⟨gb228, 1, none⟩) (Kd.R_far (p := ⟨gb228, 0, none⟩) (Kd.R_types HO205.out BK228.out (by decide)) (fun _ hk => hk.2) (.int .i64 t221)) (fun _ hk => hk.2) (.int .i64 t222)) (fun _ hk => hk.2) (.int .i64 t223)) (fun _ hk => hk.2) (.slice Ao37 t224.length co37)) (fun _ h_ => h_.1))) hb); have n1_ := Aside0.mk (Kd.R_below (by (with_reducible repeat (first | apply Kd.R_alloc | apply Kd.R_drewN | apply Kd.R_drew)); exact (Kd.R_mono (Kd.R_far (p := ⟨gb228, 3, none⟩) (Kd.R_far (p := ⟨gb228, 2, none⟩) (Kd.R_far (p := ⟨gb228, 1, none⟩) (Kd.R_far (p := ⟨gb228, 0, none⟩) (Kd.R_types HO211.out BK228.out (by decide)) (fun _ hk => hk.2) (.int .i64 t221)) (fun _ hk => hk.2) (.int .i64 t222)) (fun _ hk => hk.2) (.int .i64 t223)) (fun _ hk => hk.2) (.slice Ao37 t224.length co37)) (fun _ h_ => h_.1))) hb); have n2_ := Aside0.mk (Kd.R_below (by (with_reducible repeat (first | apply Kd.R_alloc | apply Kd.R_drewN | apply Kd.R_drew)); exact (Kd.R_mono (Kd.R_far (p := ⟨gb228, 3, none⟩) (Kd.R_far (p := ⟨gb228, 2, none⟩) (Kd.R_far (p := ⟨gb228, 1, none⟩) (Kd.R_far (p := ⟨gb228, 0, none⟩) (Kd.R_types HO219.out BK228.out (by decide)) (fun _ hk => hk.2) (.int .i64 t221)) (fun _ hk => hk.2) (.int .i64 t222)) (fun _ hk => hk.2) (.int .i64 t223)) (fun _ hk => hk.2) (.slice Ao37 t224.length co37)) (fun _ h_ => h_.1))) hb); have n3_ := Aside0.mk (Kd.R_below (by (with_reducible repeat (first | apply Kd.R_alloc | apply Kd.R_drewN | apply Kd.R_drew)); exact (Kd.R_mono (Kd.R_far (p := ⟨gb228, 3, none⟩) (Kd.R_far (p := ⟨gb228, 2, none⟩) (Kd.R_far (p := ⟨gb228, 1, none⟩) (Kd.R_far (p := ⟨gb228, 0, none⟩) (Kd.R_types HO226.out BK228.out (by decide)) (fun _ hk => hk.2) (.int .i64 t221)) (fun _ hk => hk.2) (.int .i64 t222)) (fun _ hk => hk.2) (.int .i64 t223)) (fun _ hk => hk.2) (.slice Ao37 t224.length co37)) (fun _ h_ => h_.1))) hb); have n4_ := Aside0.mk (blk_below (g := gb198) (o := .cells #[.int .i64 a0_0, .int .i64 a0_1, .int .i64 a0_2, .slice A0_3 l0_3.length c0_3] 57 (0, 0)) (by (with_reducible repeat (first | refine bN ?_ _ | refine bD ?_ | refine bA ?_ _)); refine blk_far ?_ NB198_228.out _; (with_reducible repeat (first | refine bN ?_ _ | refine bD ?_ | refine bA ?_ _)); refine blk_far ?_ NB198_228.out _; (with_reducible repeat (first | refine bN ?_ _ | refine bD ?_ | refine bA ?_ _)); refine blk_far ?_ NB198_228.out _; (with_reducible repeat (first | refine bN ?_ _ | refine bD ?_ | refine bA ?_ _)); refine blk_far ?_ NB198_228.out _; (with_reducible repeat (first | refine bN ?_ _ | refine bD ?_ | refine bA ?_ _)); exact BK198.out) hb); have n5_ := Aside0.mk (blk_below (g := gb213) (o := .cells #[.int .i64 t206, .int .i64 t207, .int .i64 t208, .slice Ao23 t209.length co23] 61 (0, 0)) (by (with_reducible repeat (first | refine bN ?_ _ | refine bD ?_ | refine bA ?_ _)); refine blk_far ?_ NB213_228.out _; (with_reducible repeat (first | refine bN ?_ _ | refine bD ?_ | refine bA ?_ _)); refine blk_far ?_ NB213_228.out _; (with_reducible repeat (first | refine bN ?_ _ | refine bD ?_ | refine bA ?_ _)); refine blk_far ?_ NB213_228.out _; (with_reducible repeat (first | refine bN ?_ _ | refine bD ?_ | refine bA ?_ _)); refine blk_far ?_ NB213_228.out _; (with_reducible repeat (first | refine bN ?_ _ | refine bD ?_ | refine bA ?_ _)); exact BK213.out) hb); have n6_ := Aside0.mk (blk_below (g := gb220) (o := .cells #[.int .i64 t214, .int .i64 t215, .int .i64 t216, .slice Ao30 t217.length co30] 61 (0, 0)) (by (with_reducible repeat (first | refine bN ?_ _ | refine bD ?_ | refine bA ?_ _)); refine blk_far ?_ NB220_228.out _; (with_reducible repeat (first | refine bN ?_ _ | refine bD ?_ | refine bA ?_ _)); refine blk_far ?_ NB220_228.out _; (with_reducible repeat (first | refine bN ?_ _ | refine bD ?_ | refine bA ?_ _)); refine blk_far ?_ NB220_228.out _; (with_reducible repeat (first | refine bN ?_ _ | refine bD ?_ | refine bA ?_ _)); refine blk_far ?_ NB220_228.out _; (with_reducible repeat (first | refine bN ?_ _ | refine bD ?_ | refine bA ?_ _)); exact BK220.out) hb); have n7_ := Aside0.mk (blk_below (g := gb228) (o := .cells #[.int .i64 t221, .int .i64 t222, .int .i64 t223, .slice Ao37 t224.length co37] 61 (0, 0)) (by (with_reducible repeat (first | refine bN ?_ _ | refine bD ?_ | refine bA ?_ _)); refine blk_put (cs := #[.int .i64 t221, .int .i64 t222, .int .i64 t223, .slice none 0 0]) ?_ 3 _ rfl; (with_reducible repeat (first | refine bN ?_ _ | refine bD ?_ | refine bA ?_ _)); refine blk_put (cs := #[.int .i64 t221, .int .i64 t222, .int .i64 0, .slice none 0 0]) ?_ 2 _ rfl; (with_reducible repeat (first | refine bN ?_ _ | refine bD ?_ | refine bA ?_ _)); refine blk_put (cs := #[.int .i64 t221, .int .i64 0, .int .i64 0, .slice none 0 0]) ?_ 1 _ rfl; (with_reducible repeat (first | refine bN ?_ _ | refine bD ?_ | refine bA ?_ _)); refine blk_put (cs := #[.int .i64 0, .int .i64 0, .int .i64 0, .slice none 0 0]) ?_ 0 _ rfl; (with_reducible repeat (first | refine bN ?_ _ | refine bD ?_ | refine bA ?_ _)); exact BK228.out) hb); have n8_ := Aside0.mk (below_step (by repeat (first | (with_reducible first | exact HB.out | apply below_alloc | apply pw_below_drewN | apply below_drew1 | refine below_set ?_ GE198.out | refine below_set ?_ GE213.out | refine below_set ?_ GE220.out | refine below_set ?_ GE228.out) | exact HB.out)) hb); clear HO205; clear HO211; clear HO219; clear HO226; clear BK198; clear BK213; clear BK220; clear BK228; clear HB; have HO205 := n0_; have HO211 := n1_; have HO219 := n2_; have HO226 := n3_; have BK198 := n4_; have BK213 := n5_; have BK220 := n6_; have BK228 := n7_; have HB := n8_; clear n0_ n1_ n2_ n3_ n4_ n5_ n6_ n7_ n8_; (try clear hb); (try clear hb2); (try clear hk); (try clear hi)))
    go_meet
    case rel => exact ⟨_, (true), (by first | rfl | (simp; done) | (simp [*]; done)), H', ⟨by first | omega | exact Nat.le_refl _⟩, ⟨by (with_reducible repeat (first | apply Kd.R_alloc | apply Kd.R_drewN | apply Kd.R_drew)); exact Kd.R_mono HO211.out (fun _ hk => ⟨hk.1.2, hk.2⟩)⟩, ⟨by (with_reducible repeat (first | apply Kd.R_alloc | apply Kd.R_drewN | apply Kd.R_drew)); exact Kd.R_mono HO219.out (fun _ hk => ⟨hk.1.2, hk.2⟩)⟩, ⟨by (with_reducible repeat (first | apply Kd.R_alloc | apply Kd.R_drewN | apply Kd.R_drew)); exact Kd.R_mono HO226.out (fun _ hk => ⟨hk.1.2, hk.2⟩)⟩, ⟨by (with_reducible repeat (first | refine bN ?_ _ | refine bD ?_ | refine bA ?_ _)); exact BK198.out⟩, ⟨by (with_reducible repeat (first | refine bN ?_ _ | refine bD ?_ | refine bA ?_ _)); exact BK213.out⟩, ⟨by (with_reducible repeat (first | refine bN ?_ _ | refine bD ?_ | refine bA ?_ _)); exact BK220.out⟩, ⟨by (with_reducible repeat (first | refine bN ?_ _ | refine bD ?_ | refine bA ?_ _)); exact BK228.out⟩, ⟨by repeat (first | (with_reducible first | exact HB.out | apply below_alloc | apply pw_below_drewN | apply below_drew1 | refine below_set ?_ GE198.out | refine below_set ?_ GE213.out | refine below_set ?_ GE220.out | refine below_set ?_ GE228.out) | exact HB.out)⟩⟩
  case rest =>
   clear HC12
   try clear c2
   try clear p2
   try clear c3
   try clear c4
   try clear c4b0
   try clear c5
   try clear c7
   try clear c21
   try clear c27
   try clear c28
   try clear c33
   try clear c34
   try clear c35
   try clear c36
   try clear c37
   try clear c38
   try clear c39
   try clear c40
   try clear c41
   try clear c42
   try clear c44
   try clear c45
   try clear c48
   try clear c49
   try clear c50
   try clear c52
   try clear c53
   try clear hcz14_0
   try clear hcz14_1
   try clear hcz14_2
   try clear hcz14_3
   try clear hcz16_0
   try clear hcz16_1
   try clear hcz16_2
   try clear hcz16_3
   try clear hcz22_0
   try clear hcz22_1
   try clear hcz22_2
   try clear hcz22_3
   try clear hcz24_0
   try clear hcz24_1
   try clear hcz24_2
   try clear hcz24_3
   try clear hcz29_0
   try clear hcz29_1
   try clear hcz29_2
   try clear hcz29_3
   try clear hcz36_0
   try clear hcz36_1
   try clear hcz36_2
   try clear hcz36_3
   try clear hcz43_0
   try clear hcz43_1
   try clear hcz43_2
   try clear hcz43_3
   try clear hcz46_0
   try clear hcz46_1
   try clear hcz46_2
   try clear hcz46_3
   try clear hcz51_0
   try clear hcz51_1
   try clear hcz51_2
   try clear hcz51_3
   try clear hcz54_0
   try clear hcz54_1
   try clear hcz54_2
   try clear hcz54_3
   try clear hcz6_0
   try clear hcz6_1
   try clear hcz6_2
   try clear hcz6_3
   try clear hfz14_0
   try clear hfz14_1
   try clear hfz14_2
   try clear hfz14_3
   try clear hfz16_0
   try clear hfz16_1
   try clear hfz16_2
   try clear hfz16_3
   try clear hfz22_0
   try clear hfz22_1
   try clear hfz22_2
   try clear hfz22_3
   try clear hfz24_0
   try clear hfz24_1
   try clear hfz24_2
   try clear hfz24_3
   try clear hfz29_0
   try clear hfz29_1
   try clear hfz29_2
   try clear hfz29_3
   try clear hfz36_0
   try clear hfz36_1
   try clear hfz36_2
   try clear hfz36_3
   try clear hfz43_0
   try clear hfz43_1
   try clear hfz43_2
   try clear hfz43_3
   try clear hfz46_0
   try clear hfz46_1
   try clear hfz46_2
   try clear hfz46_3
   try clear hfz51_0
   try clear hfz51_1
   try clear hfz51_2
   try clear hfz51_3
   try clear hfz54_0
   try clear hfz54_1
   try clear hfz54_2
   try clear hfz54_3
   try clear hfz6_0
   try clear hfz6_1
   try clear hfz6_2
   try clear hfz6_3
   obtain ⟨kq, x44_11, rfl, HA, HJ11, HO_214003, HO_221003, HO_229003, BK198, BK213, BK220, BK228, HB⟩ := hcut
   cases kq with
   | zero => exact absurd HA.out (by simp [laws_FnExactRaiseLimit.j0])
   | succ kj11 =>
    have H := HA.out
    clear HA
    simp only [laws_FnExactRaiseLimit.j0] at H
    by_cases c56 : x44_11 = true
    ·subst c56
     have H1 : (some false) = some r := by rw [if_pos rfl] at H; exact H
     clear H
     have H := H1
     clear H1
     obtain rfl := Option.some.inj H
     go_wp2
     go_ret
     exact ⟨by first | rfl | (simp [errW_none, errW_some] <;> rfl) | (simp [*, errW_none, errW_some] <;> rfl), by repeat (first | (with_reducible first | exact HB.out | apply below_alloc | apply pw_below_drewN | apply below_drew1 | refine below_set ?_ GE198.out | refine below_set ?_ GE213.out | refine below_set ?_ GE220.out | refine below_set ?_ GE228.out) | exact HB.out)⟩
    ·replace c56 := Bool.eq_false_iff.mpr c56
     subst c56
     have H1 : ((laws_toInflow.f kj11 a0_0 a0_1 a0_2 l0_3).bind fun bt230 => ((laws_eqInflow.f kj11 t214 t215 t216 t217 bt230.1 bt230.2.1 bt230.2.2.1 bt230.2.2.2).bind fun t236 => (if t236 = true then ((laws_markInflow.f kj11 t214 t215 t216 t217 1).bind fun bt237 => (if bt237.1 < 0 then (laws_FnExactRaiseLimit.j1 kj11 a1 t212 true a0_0 a0_1 a0_2 l0_3 t206 t207 t208 t209 t221 t222 t223 t224) else ((laws_eqInflow.f kj11 t221 t222 t223 t224 t206 t207 t208 t209).bind fun t239 => (if t239 = true then (laws_FnExactRaiseLimit.j1 kj11 a1 t212 (t227 != t212) a0_0 a0_1 a0_2 l0_3 t206 t207 t208 t209 t221 t222 t223 t224) else (laws_FnExactRaiseLimit.j1 kj11 a1 t212 true a0_0 a0_1 a0_2 l0_3 t206 t207 t208 t209 t221 t222 t223 t224))))) else (some false)))) = some r := by rw [if_neg (show ¬ (false = true) by decide)] at H; exact H
     clear H
     have H := H1
     clear H1
     replace H := Option.bind_eq_some_iff.mp H
     obtain ⟨⟨t230, t231, t232, t233⟩, A570, H⟩ := H
     replace H : ((laws_eqInflow.f kj11 t214 t215 t216 t217 t230 t231 t232 t233).bind fun t236 => (if t236 = true then ((laws_markInflow.f kj11 t214 t215 t216 t217 1).bind fun bt237 => (if bt237.1 < 0 then (laws_FnExactRaiseLimit.j1 kj11 a1 t212 true a0_0 a0_1 a0_2 l0_3 t206 t207 t208 t209 t221 t222 t223 t224) else ((laws_eqInflow.f kj11 t221 t222 t223 t224 t206 t207 t208 t209).bind fun t239 => (if t239 = true then (laws_FnExactRaiseLimit.j1 kj11 a1 t212 (t227 != t212) a0_0 a0_1 a0_2 l0_3 t206 t207 t208 t209 t221 t222 t223 t224) else (laws_FnExactRaiseLimit.j1 kj11 a1 t212 true a0_0 a0_1 a0_2 l0_3 t206 t207 t208 t209 t221 t222 t223 t224))))) else (some false))) = some r := H
     have A57 := Aside0.mk A570
     clear A570
     replace H := Option.bind_eq_some_iff.mp H
     obtain ⟨t236, A580, H⟩ := H
     replace H : (if t236 = true then ((laws_markInflow.f kj11 t214 t215 t216 t217 1).bind fun bt237 => (if bt237.1 < 0 then (laws_FnExactRaiseLimit.j1 kj11 a1 t212 true a0_0 a0_1 a0_2 l0_3 t206 t207 t208 t209 t221 t222 t223 t224) else ((laws_eqInflow.f kj11 t221 t222 t223 t224 t206 t207 t208 t209).bind fun t239 => (if t239 = true then (laws_FnExactRaiseLimit.j1 kj11 a1 t212 (t227 != t212) a0_0 a0_1 a0_2 l0_3 t206 t207 t208 t209 t221 t222 t223 t224) else (laws_FnExactRaiseLimit.j1 kj11 a1 t212 true a0_0 a0_1 a0_2 l0_3 t206 t207 t208 t209 t221 t222 t223 t224))))) else (some false)) = some r := H
     have A58 := Aside0.mk A580
     clear A580
     by_cases c59 : t236 = true
     ·subst c59
      have H1 : ((laws_markInflow.f kj11 t214 t215 t216 t217 1).bind fun bt237 => (if bt237.1 < 0 then (laws_FnExactRaiseLimit.j1 kj11 a1 t212 true a0_0 a0_1 a0_2 l0_3 t206 t207 t208 t209 t221 t222 t223 t224) else ((laws_eqInflow.f kj11 t221 t222 t223 t224 t206 t207 t208 t209).bind fun t239 => (if t239 = true then (laws_FnExactRaiseLimit.j1 kj11 a1 t212 (t227 != t212) a0_0 a0_1 a0_2 l0_3 t206 t207 t208 t209 t221 t222 t223 t224) else (laws_FnExactRaiseLimit.j1 kj11 a1 t212 true a0_0 a0_1 a0_2 l0_3 t206 t207 t208 t209 t221 t222 t223 t224))))) = some r := by rw [if_pos rfl] at H; exact H
      clear H
      have H := H1
      clear H1
      replace H := Option.bind_eq_some_iff.mp H
      obtain ⟨⟨t237, t238⟩, A600, H⟩ := H
      replace H : (if t237 < 0 then (laws_FnExactRaiseLimit.j1 kj11 a1 t212 true a0_0 a0_1 a0_2 l0_3 t206 t207 t208 t209 t221 t222 t223 t224) else ((laws_eqInflow.f kj11 t221 t222 t223 t224 t206 t207 t208 t209).bind fun t239 => (if t239 = true then (laws_FnExactRaiseLimit.j1 kj11 a1 t212 (t227 != t212) a0_0 a0_1 a0_2 l0_3 t206 t207 t208 t209 t221 t222 t223 t224) else (laws_FnExactRaiseLimit.j1 kj11 a1 t212 true a0_0 a0_1 a0_2 l0_3 t206 t207 t208 t209 t221 t222 t223 t224)))) = some r := H
      have A60 := Aside0.mk A600
      clear A600
      have HC61 := Aside0.mk H
      clear H
      try go_wp2
      have n0_ := Aside0.mk (Kd.R_drew HO_214003.out)
      have n1_ := Aside0.mk (Kd.R_drew HO_221003.out)
      have n2_ := Aside0.mk (Kd.R_drew HO_229003.out)
      have n3_ := Aside0.mk (blk_drew BK198.out)
      have n4_ := Aside0.mk (blk_drew BK213.out)
      have n5_ := Aside0.mk (blk_drew BK220.out)
      have n6_ := Aside0.mk (blk_drew BK228.out)
      have n7_ := Aside0.mk (below_drew1 HB.out)
      clear HO_214003
      clear HO_221003
      clear HO_229003
      clear BK198
      clear BK213
      clear BK220
      clear BK228
      clear HB
      have HO_214003 := n0_
      have HO_221003 := n1_
      have HO_229003 := n2_
      have BK198 := n3_
      have BK213 := n4_
      have BK220 := n5_
      have BK228 := n6_
      have HB := n7_
      clear n0_ n1_ n2_ n3_ n4_ n5_ n6_ n7_
      refine start_ (n := 5) (S := fun w' => w'.cell? ⟨gb220, 0, none⟩ = some (.int .i64 t214) ∧ w'.cell? ⟨gb220, 1, none⟩ = some (.int .i64 t215) ∧ w'.cell? ⟨gb220, 2, none⟩ = some (.int .i64 t216) ∧ w'.cell? ⟨gb220, 3, none⟩ = some (.slice Ao30 t217.length co30) ∧ w'.cell? ⟨gb198, 0, none⟩ = some (.int .i64 a0_0) ∧ w'.cell? ⟨gb198, 1, none⟩ = some (.int .i64 a0_1) ∧ w'.cell? ⟨gb198, 2, none⟩ = some (.int .i64 a0_2) ∧ w'.cell? ⟨gb198, 3, none⟩ = some (.slice A0_3 l0_3.length c0_3)) (ds := []) #[false, false, false, false, false] (by kernel_rfl) rfl rfl ⟨(blk_cell BK220.out 0).trans rfl, (blk_cell BK220.out 1).trans rfl, (blk_cell BK220.out 2).trans rfl, (blk_cell BK220.out 3).trans rfl, (blk_cell BK198.out 0).trans rfl, (blk_cell BK198.out 1).trans rfl, (blk_cell BK198.out 2).trans rfl, (blk_cell BK198.out 3).trans rfl⟩ (fun hHeld => ?_)
      generalize wc.drew = w62 at HO_214003 HO_221003 HO_229003 BK198 BK213 BK220 BK228 HB hHeld ⊢
      refine take_ (i := 0) (N := some 45) (v := ?_) (a' := ?_) #[true, false, false, false, false] rfl rfl (by kernel_rfl) (fun _ _ _ h => h) (Or.inl ⟨by rfl, ?_⟩) hHeld ?_ ?_
      rotate_left
      ·rintro w' ⟨s0, s1, s2, s3, s4, s5, s6, s7⟩
       go_simp
       with_reducible rfl
      rotate_left
      ·simp only [Act.put, sA, sZ, sS, i64_w, i32_w]
       rfl
      refine take_ (i := 1) (N := some 46) (v := ?_) (a' := ?_) #[true, true, false, false, false] rfl rfl (by kernel_rfl) (fun _ _ _ h => h) (Or.inl ⟨by rfl, ?_⟩) hHeld ?_ ?_
      rotate_left
      ·rintro w' ⟨s0, s1, s2, s3, s4, s5, s6, s7⟩
       go_simp
       with_reducible rfl
      rotate_left
      ·simp only [Act.put, sA, sZ, sS, i64_w, i32_w]
       rfl
      refine one_ (i := 2) (N := some 47) #[true, true, true, false, false] rfl rfl (by kernel_rfl) (by decide) (fun K hK => ?_)
      refine goes_ Try.func38 (by kernel_rfl) rfl #[.agg #[.int .i64 a0_0, .int .i64 a0_1, .int .i64 a0_2, .slice A0_3 l0_3.length c0_3]] (by rfl) rfl rfl (by (try simp only [List.map_toArray, List.map_cons, List.map_nil]); first | done | rfl | (simp only [List.length_drop, List.length_take]; rfl)) ?_
      with_reducible refine (laws_toInflow.calls kj11 a0_0 a0_1 a0_2 _ _ l0_3 t230 t231 t232 t233 _ ?side1 ?side2 A57.out).mono ?_
      (case side1 => repeat (first | exact (Kd.C_below HR0_3.out HB.out) | (with_reducible refine Kd.C_alloc ?_ _) | (with_reducible refine Kd.C_drewN ?_ _) | (with_reducible refine Kd.C_drew ?_)))
      (case side2 => exact HC0_3.out)
      rintro e w63 ⟨v234, rfl, ho0, hb⟩
      refine ⟨_, rfl, ?_⟩
      have n0_ := Aside0.mk (Kd.R_elder' (by (with_reducible repeat (first | apply Kd.R_alloc | apply Kd.R_drewN | apply Kd.R_drew)); exact HO_214003.out) (Kd.R_base ho0) hb)
      have n1_ := Aside0.mk (Kd.R_elder' (by (with_reducible repeat (first | apply Kd.R_alloc | apply Kd.R_drewN | apply Kd.R_drew)); exact HO_221003.out) (Kd.R_base ho0) hb)
      have n2_ := Aside0.mk (Kd.R_elder' (by (with_reducible repeat (first | apply Kd.R_alloc | apply Kd.R_drewN | apply Kd.R_drew)); exact HO_229003.out) (Kd.R_base ho0) hb)
      have n3_ := Aside0.mk (Kd.R_lower (Kd.R_new' (Kd.R_new' (Kd.R_new' ho0 (Kd.R_lt (by (with_reducible repeat (first | apply Kd.R_alloc | apply Kd.R_drewN | apply Kd.R_drew)); exact HO_214003.out))) (Kd.R_lt (by (with_reducible repeat (first | apply Kd.R_alloc | apply Kd.R_drewN | apply Kd.R_drew)); exact HO_221003.out))) (Kd.R_lt (by (with_reducible repeat (first | apply Kd.R_alloc | apply Kd.R_drewN | apply Kd.R_drew)); exact HO_229003.out))) (below_size (by repeat (first | (with_reducible first | exact HB.out | apply below_alloc | apply pw_below_drewN | apply below_drew1 | refine below_set ?_ GE198.out | refine below_set ?_ GE213.out | refine below_set ?_ GE220.out | refine below_set ?_ GE228.out) | exact HB.out))))
      have n4_ := Aside0.mk (blk_below (g := gb198) (o := .cells #[.int .i64 a0_0, .int .i64 a0_1, .int .i64 a0_2, .slice A0_3 l0_3.length c0_3] 57 (0, 0)) (by (with_reducible repeat (first | refine bN ?_ _ | refine bD ?_ | refine bA ?_ _)); exact BK198.out) hb)
      have n5_ := Aside0.mk (blk_below (g := gb213) (o := .cells #[.int .i64 t206, .int .i64 t207, .int .i64 t208, .slice Ao23 t209.length co23] 61 (0, 0)) (by (with_reducible repeat (first | refine bN ?_ _ | refine bD ?_ | refine bA ?_ _)); exact BK213.out) hb)
      have n6_ := Aside0.mk (blk_below (g := gb220) (o := .cells #[.int .i64 t214, .int .i64 t215, .int .i64 t216, .slice Ao30 t217.length co30] 61 (0, 0)) (by (with_reducible repeat (first | refine bN ?_ _ | refine bD ?_ | refine bA ?_ _)); exact BK220.out) hb)
      have n7_ := Aside0.mk (blk_below (g := gb228) (o := .cells #[.int .i64 t221, .int .i64 t222, .int .i64 t223, .slice Ao37 t224.length co37] 61 (0, 0)) (by (with_reducible repeat (first | refine bN ?_ _ | refine bD ?_ | refine bA ?_ _)); exact BK228.out) hb)
      have n8_ := Aside0.mk (below_step (by repeat (first | (with_reducible first | exact HB.out | apply below_alloc | apply pw_below_drewN | apply below_drew1 | refine below_set ?_ GE198.out | refine below_set ?_ GE213.out | refine below_set ?_ GE220.out | refine below_set ?_ GE228.out) | exact HB.out)) hb)
      clear HO_214003
      clear HO_221003
      clear HO_229003
      clear BK198
      clear BK213
      clear BK220
      clear BK228
      clear HB
      have HO_214003 := n0_
      have HO_221003 := n1_
      have HO_229003 := n2_
      have HO235 := n3_
      have BK198 := n4_
      have BK213 := n5_
      have BK220 := n6_
      have BK228 := n7_
      have HB := n8_
      clear n0_ n1_ n2_ n3_ n4_ n5_ n6_ n7_ n8_
      (try clear hb)
      (try clear hb2)
      (try clear hk)
      (try clear hi)
      (try clear ho0)
      obtain ⟨Ao64, co64, eo64⟩ := Kd.R_slice HO235.out
      (first | subst eo64 | (injection eo64 with f1_ f2_ f3_; have f4_ := f1_.symm; have f5_ := f3_.symm; clear f1_ f2_ f3_; subst f4_; subst f5_))
      refine hK.out _ _ ⟨(blk_cell BK220.out 0).trans rfl, (blk_cell BK220.out 1).trans rfl, (blk_cell BK220.out 2).trans rfl, (blk_cell BK220.out 3).trans rfl, (blk_cell BK198.out 0).trans rfl, (blk_cell BK198.out 1).trans rfl, (blk_cell BK198.out 2).trans rfl, (blk_cell BK198.out 3).trans rfl⟩ (fun hHeld => ?_)
      clear hK K
      refine norm_ (a' := ?_) ?_ ?_
      rotate_left
      ·show Act.put _ (some 47) _ = _
       simp only [Act.put, sA, sZ, sS, i64_w, i32_w]
       rfl
      refine one_ (i := 3) (N := some 48) #[true, true, true, true, false] rfl rfl (by kernel_rfl) (by decide) (fun K hK => ?_)
      refine goes_ Try.func40 (by kernel_rfl) rfl #[.agg #[.int .i64 t214, .int .i64 t215, .int .i64 t216, .slice Ao30 t217.length co30], .agg #[.int .i64 t230, .int .i64 t231, .int .i64 t232, .slice Ao64 t233.length co64]] (by rfl) rfl rfl (by (try simp only [List.map_toArray, List.map_cons, List.map_nil]); first | done | rfl | (simp only [List.length_drop, List.length_take]; rfl)) ?_
      with_reducible refine (laws_eqInflow.calls kj11 t214 t215 t216 _ _ t217 t230 t231 t232 _ _ t233 true _ ?side1 ?side2 ?side3 ?side4 A58.out).mono ?_
      (case side1 => repeat (first | exact (Kd.R_reads' HO_221003.out).2.2 | (with_reducible refine Kd.C_alloc ?_ _) | (with_reducible refine Kd.C_drewN ?_ _) | (with_reducible refine Kd.C_drew ?_)))
      (case side2 => exact (Kd.R_reads' HO_221003.out).2.1)
      (case side3 => repeat (first | exact (Kd.R_reads' HO235.out).2.2 | (with_reducible refine Kd.C_alloc ?_ _) | (with_reducible refine Kd.C_drewN ?_ _) | (with_reducible refine Kd.C_drew ?_)))
      (case side4 => exact (Kd.R_reads' HO235.out).2.1)
      rintro e w65 ⟨rfl, hb⟩
      refine ⟨_, rfl, ?_⟩
      have n0_ := Aside0.mk (Kd.R_below (by (with_reducible repeat (first | apply Kd.R_alloc | apply Kd.R_drewN | apply Kd.R_drew)); exact HO_214003.out) hb)
      have n1_ := Aside0.mk (Kd.R_below (by (with_reducible repeat (first | apply Kd.R_alloc | apply Kd.R_drewN | apply Kd.R_drew)); exact HO_221003.out) hb)
      have n2_ := Aside0.mk (Kd.R_below (by (with_reducible repeat (first | apply Kd.R_alloc | apply Kd.R_drewN | apply Kd.R_drew)); exact HO_229003.out) hb)
      have n3_ := Aside0.mk (Kd.R_below (by (with_reducible repeat (first | apply Kd.R_alloc | apply Kd.R_drewN | apply Kd.R_drew)); exact HO235.out) hb)
      have n4_ := Aside0.mk (blk_below (g := gb198) (o := .cells #[.int .i64 a0_0, .int .i64 a0_1, .int .i64 a0_2, .slice A0_3 l0_3.length c0_3] 57 (0, 0)) (by (with_reducible repeat (first | refine bN ?_ _ | refine bD ?_ | refine bA ?_ _)); exact BK198.out) hb)
      have n5_ := Aside0.mk (blk_below (g := gb213) (o := .cells #[.int .i64 t206, .int .i64 t207, .int .i64 t208, .slice Ao23 t209.length co23] 61 (0, 0)) (by (with_reducible repeat (first | refine bN ?_ _ | refine bD ?_ | refine bA ?_ _)); exact BK213.out) hb)
      have n6_ := Aside0.mk (blk_below (g := gb220) (o := .cells #[.int .i64 t214, .int .i64 t215, .int .i64 t216, .slice Ao30 t217.length co30] 61 (0, 0)) (by (with_reducible repeat (first | refine bN ?_ _ | refine bD ?_ | refine bA ?_ _)); exact BK220.out) hb)
      have n7_ := Aside0.mk (blk_below (g := gb228) (o := .cells #[.int .i64 t221, .int .i64 t222, .int .i64 t223, .slice Ao37 t224.length co37] 61 (0, 0)) (by (with_reducible repeat (first | refine bN ?_ _ | refine bD ?_ | refine bA ?_ _)); exact BK228.out) hb)
      have n8_ := Aside0.mk (below_step (by repeat (first | (with_reducible first | exact HB.out | apply below_alloc | apply pw_below_drewN | apply below_drew1 | refine below_set ?_ GE198.out | refine below_set ?_ GE213.out | refine below_set ?_ GE220.out | refine below_set ?_ GE228.out) | exact HB.out)) hb)
      clear HO_214003
      clear HO_221003
      clear HO_229003
      clear HO235
      clear BK198
      clear BK213
      clear BK220
      clear BK228
      clear HB
      have HO_214003 := n0_
      have HO_221003 := n1_
      have HO_229003 := n2_
      have HO235 := n3_
      have BK198 := n4_
      have BK213 := n5_
      have BK220 := n6_
      have BK228 := n7_
      have HB := n8_
      clear n0_ n1_ n2_ n3_ n4_ n5_ n6_ n7_ n8_
      (try clear hb)
      (try clear hb2)
      (try clear hk)
      (try clear hi)
      refine hK.out _ _ ⟨(blk_cell BK220.out 0).trans rfl, (blk_cell BK220.out 1).trans rfl, (blk_cell BK220.out 2).trans rfl, (blk_cell BK220.out 3).trans rfl, (blk_cell BK198.out 0).trans rfl, (blk_cell BK198.out 1).trans rfl, (blk_cell BK198.out 2).trans rfl, (blk_cell BK198.out 3).trans rfl⟩ (fun hHeld => ?_)
      clear hK K
      refine norm_ (a' := ?_) ?_ ?_
      rotate_left
      ·show Act.put _ (some 48) _ = _
       simp only [Act.put, sA, sZ, sS, i64_w, i32_w]
       rfl
      refine pure_ (i := 4) (N := some 49) (v := ?_) (a' := ?_) #[true, true, true, true, true] rfl rfl (by kernel_rfl) (fun _ _ _ h => h) (Or.inl ⟨by rfl, ?_⟩) ?_ ?_
      rotate_left
      ·intro w'
       go_simp
       with_reducible rfl
      rotate_left
      ·simp only [Act.put, sA, sZ, sS, i64_w, i32_w]
       rfl
      refine done_ (by kernel_rfl) ?_
      have hnb66 := NB220_198.out
      have hnc66 := NB198_220.out
      have hnb67 := NB220_213.out
      have hnc67 := NB213_220.out
      have hnb68 := NB220_228.out
      have hnc68 := NB228_220.out
      obtain ⟨hcz69_0, hcz69_1, hcz69_2, hcz69_3⟩ := cz4 BK220
      obtain ⟨hfz69_0, hfz69_1, hfz69_2, hfz69_3⟩ := fz4 BK220
      go_upto_region 14 with (first | ((with_reducible refine gate_callee (f := 41) rfl ?_); refine goesL_ (some 52) rfl rfl Try.func41 (by kernel_rfl) rfl #[.agg #[.int .i64 t214, .int .i64 t215, .int .i64 t216, .slice Ao30 t217.length co30], .int .i64 1] rfl (by (try simp only [List.map_toArray, List.map_cons, List.map_nil]); first | done | rfl | (simp only [List.length_drop, List.length_take]; rfl)) ?_; (with_reducible refine (laws_markInflow.calls kj11 t214 t215 t216 (fun k_ => some k_ = (.slice Ao30 t217.length co30 : Value).ownBlock) (.slice Ao30 t217.length co30) t217 1 t237 t238 w _ ?side1 ?side2 A60.out).mono ?_); (case side1 => repeat (first | (with_reducible first | exact HB.out | apply below_alloc | apply pw_below_drewN | apply below_drew1 | refine below_set ?_ GE198.out | refine below_set ?_ GE213.out | refine below_set ?_ GE220.out | refine below_set ?_ GE228.out) | exact HB.out)); (case side2 => exact Kd.R_tight rfl HO_221003.out); rintro e w70 ⟨rfl, hy0, hb, hkp⟩; refine ⟨_, rfl, ?_⟩; have n0_ := Aside0.mk (Kd.R_mono (ok' := fun k_ => some k_ ≠ (.slice Ao30 t217.length co30 : Value).ownBlock ∧ some k_ ≠ (.slice Ao37 t224.length co37 : Value).ownBlock ∧ some k_ ≠ (.slice Ao64 t233.length co64 : Value).ownBlock) (Kd.R_keptB (HO_214003.out) hkp (fun k_ hk_ hs_ => (hk_.1.1) hs_)) (fun k_ hk_ => ⟨hk_.1.1.1, hk_.1.1.2, hk_.1.2⟩)); have n1_ := Aside0.mk (Kd.R_reok rfl hy0 (fun k_ e_ => HO_221003.out.1 k_ e_)); have n2_ := Aside0.mk (Kd.R_mono (ok' := fun k_ => some k_ ≠ (.slice Ao23 t209.length co23 : Value).ownBlock ∧ some k_ ≠ (.slice Ao30 t217.length co30 : Value).ownBlock ∧ some k_ ≠ (.slice Ao64 t233.length co64 : Value).ownBlock) (Kd.R_keptB (HO_229003.out) hkp (fun k_ hk_ hs_ => (hk_.1.2) hs_)) (fun k_ hk_ => ⟨hk_.1.1.1, hk_.1.1.2, hk_.1.2⟩)); have n3_ := Aside0.mk (blk_kept (by (with_reducible repeat (first | refine bN ?_ _ | refine bD ?_ | refine bA ?_ _)); exact BK198.out) hkp (fun hs_ => (fun e_ => (Kd.R_ne HO_221003.out BK198.out (by decide)) e_) hs_)); have n4_ := Aside0.mk (blk_kept (by (with_reducible repeat (first | refine bN ?_ _ | refine bD ?_ | refine bA ?_ _)); exact BK213.out) hkp (fun hs_ => (fun e_ => (Kd.R_ne HO_221003.out BK213.out (by decide)) e_) hs_)); have n5_ := Aside0.mk (blk_kept (by (with_reducible repeat (first | refine bN ?_ _ | refine bD ?_ | refine bA ?_ _)); exact BK220.out) hkp (fun hs_ => (fun e_ => (Kd.R_ne HO_221003.out BK220.out (by decide)) e_) hs_)); have n6_ := Aside0.mk (blk_kept (by (with_reducible repeat (first | refine bN ?_ _ | refine bD ?_ | refine bA ?_ _)); exact BK228.out) hkp (fun hs_ => (fun e_ => (Kd.R_ne HO_221003.out BK228.out (by decide)) e_) hs_)); have n7_ := Aside0.mk (Kd.R_mono (ok' := fun k_ => some k_ ≠ (.slice Ao23 t209.length co23 : Value).ownBlock ∧ some k_ ≠ (.slice Ao30 t217.length co30 : Value).ownBlock ∧ some k_ ≠ (.slice Ao37 t224.length co37 : Value).ownBlock) (Kd.R_keptB (HO235.out) hkp (fun k_ hk_ hs_ => (hk_.1.2) hs_)) (fun k_ hk_ => ⟨hk_.1.1.1.2, hk_.1.1.2, hk_.1.2⟩)); have n8_ := Aside0.mk (hb); clear HO_214003; clear HO_221003; clear HO_229003; clear BK198; clear BK213; clear BK220; clear BK228; clear HO235; clear HB; have HO_214003 := n0_; have HO_221003 := n1_; have HO_229003 := n2_; have BK198 := n3_; have BK213 := n4_; have BK220 := n5_; have BK228 := n6_; have HO235 := n7_; have HB := n8_; clear n0_ n1_ n2_ n3_ n4_ n5_ n6_ n7_ n8_; (try clear hb); (try clear hkp); (try clear hy0)))
      (try simp only [Act.put, sA, sZ, sS])
      go_cut [65] (fun v65 wc => ∃ (kq : Nat) (x65_60 : Bool), v65 = .bool x65_60 ∧ Aside0 (laws_FnExactRaiseLimit.j1 kq a1 t212 x65_60 a0_0 a0_1 a0_2 l0_3 t206 t207 t208 t209 t221 t222 t223 t224 = some r) ∧ Aside0 (kq ≤ kj11) ∧ Aside0 (Kd.R k177 177 wc w.heap.size (fun k_ => some k_ ≠ ((.slice Ao30 t217.length co30) : Value).ownBlock ∧ some k_ ≠ ((.slice Ao37 t224.length co37) : Value).ownBlock) (.slice Ao23 t209.length co23) t209) ∧ Aside0 (Kd.R k177 177 wc w.heap.size (fun k_ => some k_ ≠ ((.slice Ao23 t209.length co23) : Value).ownBlock ∧ some k_ ≠ ((.slice Ao37 t224.length co37) : Value).ownBlock) (.slice Ao30 t217.length co30) t238) ∧ Aside0 (Kd.R k177 177 wc w.heap.size (fun k_ => some k_ ≠ ((.slice Ao23 t209.length co23) : Value).ownBlock ∧ some k_ ≠ ((.slice Ao30 t217.length co30) : Value).ownBlock) (.slice Ao37 t224.length co37) t224) ∧ Aside0 (wc.heap[gb198]? = some (.cells #[.int .i64 a0_0, .int .i64 a0_1, .int .i64 a0_2, (.slice A0_3 l0_3.length c0_3)] 57 (0, 0))) ∧ Aside0 (wc.heap[gb213]? = some (.cells #[.int .i64 t206, .int .i64 t207, .int .i64 t208, (.slice Ao23 t209.length co23)] 61 (0, 0))) ∧ Aside0 (wc.heap[gb220]? = some (.cells #[.int .i64 t214, .int .i64 t215, .int .i64 t216, (.slice Ao30 t217.length co30)] 61 (0, 0))) ∧ Aside0 (wc.heap[gb228]? = some (.cells #[.int .i64 t221, .int .i64 t222, .int .i64 t223, (.slice Ao37 t224.length co37)] 61 (0, 0))) ∧ Aside0 (Below w.heap.size w wc))
      case first =>
       have H := HC61.out
       clear HC61
       by_cases c71 : t237 < 0
       ·rw [if_pos c71] at H
        have c71b0 : decide (t237 < 0) = true := decide_eq_true c71
        clear c71
        (first | rw [c71b0] | (simp only [i64_w, i32_w]; rw [c71b0]) | skip)
        have H' := Aside0.mk H
        clear H
        go_wp2
        go_meet
        case rel => exact ⟨_, (true), (by first | rfl | (simp; done) | (simp [*]; done)), H', ⟨by have := HJ11.out; first | omega | exact Nat.le_refl _⟩, ⟨by (with_reducible repeat (first | apply Kd.R_alloc | apply Kd.R_drewN | apply Kd.R_drew)); exact Kd.R_mono HO_214003.out (fun _ hk => ⟨hk.1, hk.2.1⟩)⟩, ⟨by (with_reducible repeat (first | apply Kd.R_alloc | apply Kd.R_drewN | apply Kd.R_drew)); exact Kd.R_mono HO_221003.out (fun _ hk => ⟨hk.1.1, hk.1.2⟩)⟩, ⟨by (with_reducible repeat (first | apply Kd.R_alloc | apply Kd.R_drewN | apply Kd.R_drew)); exact Kd.R_mono HO_229003.out (fun _ hk => ⟨hk.1, hk.2.1⟩)⟩, ⟨by (with_reducible repeat (first | refine bN ?_ _ | refine bD ?_ | refine bA ?_ _)); exact BK198.out⟩, ⟨by (with_reducible repeat (first | refine bN ?_ _ | refine bD ?_ | refine bA ?_ _)); exact BK213.out⟩, ⟨by (with_reducible repeat (first | refine bN ?_ _ | refine bD ?_ | refine bA ?_ _)); exact BK220.out⟩, ⟨by (with_reducible repeat (first | refine bN ?_ _ | refine bD ?_ | refine bA ?_ _)); exact BK228.out⟩, ⟨by repeat (first | (with_reducible first | exact HB.out | apply below_alloc | apply pw_below_drewN | apply below_drew1 | refine below_set ?_ GE198.out | refine below_set ?_ GE213.out | refine below_set ?_ GE220.out | refine below_set ?_ GE228.out) | exact HB.out)⟩⟩
       ·rw [if_neg c71] at H
        have c71b0 : decide (t237 < 0) = false := decide_eq_false c71
        clear c71
        (first | rw [c71b0] | (simp only [i64_w, i32_w]; rw [c71b0]) | skip)
        replace H := Option.bind_eq_some_iff.mp H
        obtain ⟨t239, A720, H⟩ := H
        replace H : (if t239 = true then (laws_FnExactRaiseLimit.j1 kj11 a1 t212 (t227 != t212) a0_0 a0_1 a0_2 l0_3 t206 t207 t208 t209 t221 t222 t223 t224) else (laws_FnExactRaiseLimit.j1 kj11 a1 t212 true a0_0 a0_1 a0_2 l0_3 t206 t207 t208 t209 t221 t222 t223 t224)) = some r := H
        have A72 := Aside0.mk A720
        clear A720
        by_cases c73 : t239 = true
        ·subst c73
         have H1 : (laws_FnExactRaiseLimit.j1 kj11 a1 t212 (t227 != t212) a0_0 a0_1 a0_2 l0_3 t206 t207 t208 t209 t221 t222 t223 t224) = some r := by rw [if_pos rfl] at H; exact H
         clear H
         have H := H1
         clear H1
         have H' := Aside0.mk H
         clear H
         have hnb74 := NB228_198.out
         have hnc74 := NB198_228.out
         have hnb75 := NB228_213.out
         have hnc75 := NB213_228.out
         have hnb76 := NB228_220.out
         have hnc76 := NB220_228.out
         obtain ⟨hcz77_0, hcz77_1, hcz77_2, hcz77_3⟩ := cz4 BK228
         obtain ⟨hfz77_0, hfz77_1, hfz77_2, hfz77_3⟩ := fz4 BK228
         have hnb78 := NB213_198.out
         have hnc78 := NB198_213.out
         have hnb79 := NB213_220.out
         have hnc79 := NB220_213.out
         obtain ⟨hcz80_0, hcz80_1, hcz80_2, hcz80_3⟩ := cz4 BK213
         obtain ⟨hfz80_0, hfz80_1, hfz80_2, hfz80_3⟩ := fz4 BK213
         go_wp2_with (first | (go_at_call 40; (with_reducible refine (laws_eqInflow.calls kj11 t221 t222 t223 _ _ t224 t206 t207 t208 _ _ t209 true _ ?side1 ?side2 ?side3 ?side4 A72.out).mono ?_); (case side1 => repeat (first | exact (Kd.R_reads' HO_229003.out).2.2 | (with_reducible refine Kd.C_alloc ?_ _) | (with_reducible refine Kd.C_drewN ?_ _) | (with_reducible refine Kd.C_drew ?_))); (case side2 => exact (Kd.R_reads' HO_229003.out).2.1); (case side3 => repeat (first | exact (Kd.R_reads' HO_214003.out).2.2 | (with_reducible refine Kd.C_alloc ?_ _) | (with_reducible refine Kd.C_drewN ?_ _) | (with_reducible refine Kd.C_drew ?_))); (case side4 => exact (Kd.R_reads' HO_214003.out).2.1); rintro e w81 ⟨rfl, hb⟩; have n0_ := Aside0.mk (Kd.R_below (by (with_reducible repeat (first | apply Kd.R_alloc | apply Kd.R_drewN | apply Kd.R_drew)); exact HO_214003.out) hb); have n1_ := Aside0.mk (Kd.R_below (by (with_reducible repeat (first | apply Kd.R_alloc | apply Kd.R_drewN | apply Kd.R_drew)); exact HO_221003.out) hb); have n2_ := Aside0.mk (Kd.R_below (by (with_reducible repeat (first | apply Kd.R_alloc | apply Kd.R_drewN | apply Kd.R_drew)); exact HO_229003.out) hb); have n3_ := Aside0.mk (Kd.R_below (by (with_reducible repeat (first | apply Kd.R_alloc | apply Kd.R_drewN | apply Kd.R_drew)); exact HO235.out) hb); have n4_ := Aside0.mk (blk_below (g := gb198) (o := .cells #[.int .i64 a0_0, .int .i64 a0_1, .int .i64 a0_2, .slice A0_3 l0_3.length c0_3] 57 (0, 0)) (by (with_reducible repeat (first | refine bN ?_ _ | refine bD ?_ | refine bA ?_ _)); exact BK198.out) hb); have n5_ := Aside0.mk (blk_below (g := gb213) (o := .cells #[.int .i64 t206, .int .i64 t207, .int .i64 t208, .slice Ao23 t209.length co23] 61 (0, 0)) (by (with_reducible repeat (first | refine bN ?_ _ | refine bD ?_ | refine bA ?_ _)); exact BK213.out) hb); have n6_ := Aside0.mk (blk_below (g := gb220) (o := .cells #[.int .i64 t214, .int .i64 t215, .int .i64 t216, .slice Ao30 t217.length co30] 61 (0, 0)) (by (with_reducible repeat (first | refine bN ?_ _ | refine bD ?_ | refine bA ?_ _)); exact BK220.out) hb); have n7_ := Aside0.mk (blk_below (g := gb228) (o := .cells #[.int .i64 t221, .int .i64 t222, .int .i64 t223, .slice Ao37 t224.length co37] 61 (0, 0)) (by (with_reducible repeat (first | refine bN ?_ _ | refine bD ?_ | refine bA ?_ _)); exact BK228.out) hb); have n8_ := Aside0.mk (below_step (by repeat (first | (with_reducible first | exact HB.out | apply below_alloc | apply pw_below_drewN | apply below_drew1 | refine below_set ?_ GE198.out | refine below_set ?_ GE213.out | refine below_set ?_ GE220.out | refine below_set ?_ GE228.out) | exact HB.out)) hb); clear HO_214003; clear HO_221003; clear HO_229003; clear HO235; clear BK198; clear BK213; clear BK220; clear BK228; clear HB; have HO_214003 := n0_; have HO_221003 := n1_; have HO_229003 := n2_; have HO235 := n3_; have BK198 := n4_; have BK213 := n5_; have BK220 := n6_; have BK228 := n7_; have HB := n8_; clear n0_ n1_ n2_ n3_ n4_ n5_ n6_ n7_ n8_; (try clear hb); (try clear hb2); (try clear hk); (try clear hi)))
         go_meet
         case rel => exact ⟨_, ((t227 != t212)), (by first | rfl | (simp; done) | (simp [*]; done)), H', ⟨by have := HJ11.out; first | omega | exact Nat.le_refl _⟩, ⟨by (with_reducible repeat (first | apply Kd.R_alloc | apply Kd.R_drewN | apply Kd.R_drew)); exact Kd.R_mono HO_214003.out (fun _ hk => ⟨hk.1, hk.2.1⟩)⟩, ⟨by (with_reducible repeat (first | apply Kd.R_alloc | apply Kd.R_drewN | apply Kd.R_drew)); exact Kd.R_mono HO_221003.out (fun _ hk => ⟨hk.1.1, hk.1.2⟩)⟩, ⟨by (with_reducible repeat (first | apply Kd.R_alloc | apply Kd.R_drewN | apply Kd.R_drew)); exact Kd.R_mono HO_229003.out (fun _ hk => ⟨hk.1, hk.2.1⟩)⟩, ⟨by (with_reducible repeat (first | refine bN ?_ _ | refine bD ?_ | refine bA ?_ _)); exact BK198.out⟩, ⟨by (with_reducible repeat (first | refine bN ?_ _ | refine bD ?_ | refine bA ?_ _)); exact BK213.out⟩, ⟨by (with_reducible repeat (first | refine bN ?_ _ | refine bD ?_ | refine bA ?_ _)); exact BK220.out⟩, ⟨by (with_reducible repeat (first | refine bN ?_ _ | refine bD ?_ | refine bA ?_ _)); exact BK228.out⟩, ⟨by repeat (first | (with_reducible first | exact HB.out | apply below_alloc | apply pw_below_drewN | apply below_drew1 | refine below_set ?_ GE198.out | refine below_set ?_ GE213.out | refine below_set ?_ GE220.out | refine below_set ?_ GE228.out) | exact HB.out)⟩⟩
        ·replace c73 := Bool.eq_false_iff.mpr c73
         subst c73
         have H1 : (laws_FnExactRaiseLimit.j1 kj11 a1 t212 true a0_0 a0_1 a0_2 l0_3 t206 t207 t208 t209 t221 t222 t223 t224) = some r := by rw [if_neg (show ¬ (false = true) by decide)] at H; exact H
         clear H
         have H := H1
         clear H1
         have H' := Aside0.mk H
         clear H
         have hnb82 := NB228_198.out
         have hnc82 := NB198_228.out
         have hnb83 := NB228_213.out
         have hnc83 := NB213_228.out
         have hnb84 := NB228_220.out
         have hnc84 := NB220_228.out
         obtain ⟨hcz85_0, hcz85_1, hcz85_2, hcz85_3⟩ := cz4 BK228
         obtain ⟨hfz85_0, hfz85_1, hfz85_2, hfz85_3⟩ := fz4 BK228
         have hnb86 := NB213_198.out
         have hnc86 := NB198_213.out
         have hnb87 := NB213_220.out
         have hnc87 := NB220_213.out
         obtain ⟨hcz88_0, hcz88_1, hcz88_2, hcz88_3⟩ := cz4 BK213
         obtain ⟨hfz88_0, hfz88_1, hfz88_2, hfz88_3⟩ := fz4 BK213
         go_wp2_with (first | (go_at_call 40; (with_reducible refine (laws_eqInflow.calls kj11 t221 t222 t223 _ _ t224 t206 t207 t208 _ _ t209 false _ ?side1 ?side2 ?side3 ?side4 A72.out).mono ?_); (case side1 => repeat (first | exact (Kd.R_reads' HO_229003.out).2.2 | (with_reducible refine Kd.C_alloc ?_ _) | (with_reducible refine Kd.C_drewN ?_ _) | (with_reducible refine Kd.C_drew ?_))); (case side2 => exact (Kd.R_reads' HO_229003.out).2.1); (case side3 => repeat (first | exact (Kd.R_reads' HO_214003.out).2.2 | (with_reducible refine Kd.C_alloc ?_ _) | (with_reducible refine Kd.C_drewN ?_ _) | (with_reducible refine Kd.C_drew ?_))); (case side4 => exact (Kd.R_reads' HO_214003.out).2.1); rintro e w89 ⟨rfl, hb⟩; have n0_ := Aside0.mk (Kd.R_below (by (with_reducible repeat (first | apply Kd.R_alloc | apply Kd.R_drewN | apply Kd.R_drew)); exact HO_214003.out) hb); have n1_ := Aside0.mk (Kd.R_below (by (with_reducible repeat (first | apply Kd.R_alloc | apply Kd.R_drewN | apply Kd.R_drew)); exact HO_221003.out) hb); have n2_ := Aside0.mk (Kd.R_below (by (with_reducible repeat (first | apply Kd.R_alloc | apply Kd.R_drewN | apply Kd.R_drew)); exact HO_229003.out) hb); have n3_ := Aside0.mk (Kd.R_below (by (with_reducible repeat (first | apply Kd.R_alloc | apply Kd.R_drewN | apply Kd.R_drew)); exact HO235.out) hb); have n4_ := Aside0.mk (blk_below (g := gb198) (o := .cells #[.int .i64 a0_0, .int .i64 a0_1, .int .i64 a0_2, .slice A0_3 l0_3.length c0_3] 57 (0, 0)) (by (with_reducible repeat (first | refine bN ?_ _ | refine bD ?_ | refine bA ?_ _)); exact BK198.out) hb); have n5_ := Aside0.mk (blk_below (g := gb213) (o := .cells #[.int .i64 t206, .int .i64 t207, .int .i64 t208, .slice Ao23 t209.length co23] 61 (0, 0)) (by (with_reducible repeat (first | refine bN ?_ _ | refine bD ?_ | refine bA ?_ _)); exact BK213.out) hb); have n6_ := Aside0.mk (blk_below (g := gb220) (o := .cells #[.int .i64 t214, .int .i64 t215, .int .i64 t216, .slice Ao30 t217.length co30] 61 (0, 0)) (by (with_reducible repeat (first | refine bN ?_ _ | refine bD ?_ | refine bA ?_ _)); exact BK220.out) hb); have n7_ := Aside0.mk (blk_below (g := gb228) (o := .cells #[.int .i64 t221, .int .i64 t222, .int .i64 t223, .slice Ao37 t224.length co37] 61 (0, 0)) (by (with_reducible repeat (first | refine bN ?_ _ | refine bD ?_ | refine bA ?_ _)); exact BK228.out) hb); have n8_ := Aside0.mk (below_step (by repeat (first | (with_reducible first | exact HB.out | apply below_alloc | apply pw_below_drewN | apply below_drew1 | refine below_set ?_ GE198.out | refine below_set ?_ GE213.out | refine below_set ?_ GE220.out | refine below_set ?_ GE228.out) | exact HB.out)) hb); clear HO_214003; clear HO_221003; clear HO_229003; clear HO235; clear BK198; clear BK213; clear BK220; clear BK228; clear HB; have HO_214003 := n0_; have HO_221003 := n1_; have HO_229003 := n2_; have HO235 := n3_; have BK198 := n4_; have BK213 := n5_; have BK220 := n6_; have BK228 := n7_; have HB := n8_; clear n0_ n1_ n2_ n3_ n4_ n5_ n6_ n7_ n8_; (try clear hb); (try clear hb2); (try clear hk); (try clear hi)))
         go_meet
         case rel => exact ⟨_, (true), (by first | rfl | (simp; done) | (simp [*]; done)), H', ⟨by have := HJ11.out; first | omega | exact Nat.le_refl _⟩, ⟨by (with_reducible repeat (first | apply Kd.R_alloc | apply Kd.R_drewN | apply Kd.R_drew)); exact Kd.R_mono HO_214003.out (fun _ hk => ⟨hk.1, hk.2.1⟩)⟩, ⟨by (with_reducible repeat (first | apply Kd.R_alloc | apply Kd.R_drewN | apply Kd.R_drew)); exact Kd.R_mono HO_221003.out (fun _ hk => ⟨hk.1.1, hk.1.2⟩)⟩, ⟨by (with_reducible repeat (first | apply Kd.R_alloc | apply Kd.R_drewN | apply Kd.R_drew)); exact Kd.R_mono HO_229003.out (fun _ hk => ⟨hk.1, hk.2.1⟩)⟩, ⟨by (with_reducible repeat (first | refine bN ?_ _ | refine bD ?_ | refine bA ?_ _)); exact BK198.out⟩, ⟨by (with_reducible repeat (first | refine bN ?_ _ | refine bD ?_ | refine bA ?_ _)); exact BK213.out⟩, ⟨by (with_reducible repeat (first | refine bN ?_ _ | refine bD ?_ | refine bA ?_ _)); exact BK220.out⟩, ⟨by (with_reducible repeat (first | refine bN ?_ _ | refine bD ?_ | refine bA ?_ _)); exact BK228.out⟩, ⟨by repeat (first | (with_reducible first | exact HB.out | apply below_alloc | apply pw_below_drewN | apply below_drew1 | refine below_set ?_ GE198.out | refine below_set ?_ GE213.out | refine below_set ?_ GE220.out | refine below_set ?_ GE228.out) | exact HB.out)⟩⟩
      case rest =>
       clear HC61
       try clear c2
       try clear p2
       try clear c3
       try clear c4
       try clear c4b0
       try clear c5
       try clear c6
       try clear c7
       try clear c8
       try clear c21
       try clear c27
       try clear c28
       try clear c33
       try clear c34
       try clear c35
       try clear c36
       try clear c37
       try clear c38
       try clear c39
       try clear c40
       try clear c41
       try clear c42
       try clear c44
       try clear c45
       try clear c48
       try clear c49
       try clear c50
       try clear c52
       try clear c53
       try clear c56
       try clear c59
       try clear c66
       try clear c67
       try clear c68
       try clear c71
       try clear c71b0
       try clear c73
       try clear c74
       try clear c75
       try clear c76
       try clear c78
       try clear c79
       try clear c82
       try clear c83
       try clear c84
       try clear c86
       try clear c87
       try clear hcz14_0
       try clear hcz14_1
       try clear hcz14_2
       try clear hcz14_3
       try clear hcz16_0
       try clear hcz16_1
       try clear hcz16_2
       try clear hcz16_3
       try clear hcz22_0
       try clear hcz22_1
       try clear hcz22_2
       try clear hcz22_3
       try clear hcz24_0
       try clear hcz24_1
       try clear hcz24_2
       try clear hcz24_3
       try clear hcz29_0
       try clear hcz29_1
       try clear hcz29_2
       try clear hcz29_3
       try clear hcz36_0
       try clear hcz36_1
       try clear hcz36_2
       try clear hcz36_3
       try clear hcz43_0
       try clear hcz43_1
       try clear hcz43_2
       try clear hcz43_3
       try clear hcz46_0
       try clear hcz46_1
       try clear hcz46_2
       try clear hcz46_3
       try clear hcz51_0
       try clear hcz51_1
       try clear hcz51_2
       try clear hcz51_3
       try clear hcz54_0
       try clear hcz54_1
       try clear hcz54_2
       try clear hcz54_3
       try clear hcz69_0
       try clear hcz69_1
       try clear hcz69_2
       try clear hcz69_3
       try clear hcz6_0
       try clear hcz6_1
       try clear hcz6_2
       try clear hcz6_3
       try clear hcz77_0
       try clear hcz77_1
       try clear hcz77_2
       try clear hcz77_3
       try clear hcz80_0
       try clear hcz80_1
       try clear hcz80_2
       try clear hcz80_3
       try clear hcz85_0
       try clear hcz85_1
       try clear hcz85_2
       try clear hcz85_3
       try clear hcz88_0
       try clear hcz88_1
       try clear hcz88_2
       try clear hcz88_3
       try clear hfz14_0
       try clear hfz14_1
       try clear hfz14_2
       try clear hfz14_3
       try clear hfz16_0
       try clear hfz16_1
       try clear hfz16_2
       try clear hfz16_3
       try clear hfz22_0
       try clear hfz22_1
       try clear hfz22_2
       try clear hfz22_3
       try clear hfz24_0
       try clear hfz24_1
       try clear hfz24_2
       try clear hfz24_3
       try clear hfz29_0
       try clear hfz29_1
       try clear hfz29_2
       try clear hfz29_3
       try clear hfz36_0
       try clear hfz36_1
       try clear hfz36_2
       try clear hfz36_3
       try clear hfz43_0
       try clear hfz43_1
       try clear hfz43_2
       try clear hfz43_3
       try clear hfz46_0
       try clear hfz46_1
       try clear hfz46_2
       try clear hfz46_3
       try clear hfz51_0
       try clear hfz51_1
       try clear hfz51_2
       try clear hfz51_3
       try clear hfz54_0
       try clear hfz54_1
       try clear hfz54_2
       try clear hfz54_3
       try clear hfz69_0
       try clear hfz69_1
       try clear hfz69_2
       try clear hfz69_3
       try clear hfz6_0
       try clear hfz6_1
       try clear hfz6_2
       try clear hfz6_3
       try clear hfz77_0
       try clear hfz77_1
       try clear hfz77_2
       try clear hfz77_3
       try clear hfz80_0
       try clear hfz80_1
       try clear hfz80_2
       try clear hfz80_3
       try clear hfz85_0
       try clear hfz85_1
       try clear hfz85_2
       try clear hfz85_3
       try clear hfz88_0
       try clear hfz88_1
       try clear hfz88_2
       try clear hfz88_3
       try clear p2
       obtain ⟨kq, x65_60, rfl, HA, HJ60, HO_214003, HO_221003, HO_229003, BK198, BK213, BK220, BK228, HB⟩ := hcut
       have hl221003_60 := (Kd.R_reads' HO_221003.out).1
       rw [hl221003_60] at HO_221003
       (try simp only [hl221003_60])
       (try simp only [hl221003_60] at BK198)
       (try simp only [hl221003_60] at BK213)
       (try simp only [hl221003_60] at BK220)
       (try simp only [hl221003_60] at BK228)
       (try simp only [hl221003_60] at HO_214003)
       (try simp only [hl221003_60] at HO_229003)
       cases kq with
       | zero => exact absurd HA.out (by simp [laws_FnExactRaiseLimit.j1])
       | succ kj60 =>
        have H := HA.out
        clear HA
        simp only [laws_FnExactRaiseLimit.j1] at H
        by_cases c90 : x65_60 = true
        ·subst c90
         have H1 : (some false) = some r := by rw [if_pos rfl] at H; exact H
         clear H
         have H := H1
         clear H1
         obtain rfl := Option.some.inj H
         go_wp2
         go_ret
         exact ⟨by first | rfl | (simp [errW_none, errW_some] <;> rfl) | (simp [*, errW_none, errW_some] <;> rfl), by repeat (first | (with_reducible first | exact HB.out | apply below_alloc | apply pw_below_drewN | apply below_drew1 | refine below_set ?_ GE198.out | refine below_set ?_ GE213.out | refine below_set ?_ GE220.out | refine below_set ?_ GE228.out) | exact HB.out)⟩
        ·replace c90 := Bool.eq_false_iff.mpr c90
         subst c90
         have H1 : ((laws_markInflow.f kj60 t221 t222 t223 t224 1).bind fun bt240 => ((laws_heldInflow.f kj60 t221 t222 t223 bt240.2 1).bind fun t242 => (if t242 < 0 then (some false) else (if t242 = bt240.1 then ((laws_toInflow.f kj60 a0_0 a0_1 a0_2 l0_3).bind fun bt243 => ((impl_RaiseLimit.f kj60 bt243.1 bt243.2.1 bt243.2.2.1 bt243.2.2.2 a1).bind fun bt249 => ((laws_eqInflow.f kj60 bt249.1 bt249.2.1 bt249.2.2.1 bt249.2.2.2.1 t206 t207 t208 t209).bind fun t257 => (if t257 = true then (laws_FnExactRaiseLimit.j2 kj60 bt240.1 (bt249.2.2.2.2 != t212) t221 t222 t223 bt240.2) else (laws_FnExactRaiseLimit.j2 kj60 bt240.1 true t221 t222 t223 bt240.2))))) else (some false))))) = some r := by rw [if_neg (show ¬ (false = true) by decide)] at H; exact H
         clear H
         have H := H1
         clear H1
         replace H := Option.bind_eq_some_iff.mp H
         obtain ⟨⟨t240, t241⟩, A910, H⟩ := H
         replace H : ((laws_heldInflow.f kj60 t221 t222 t223 t241 1).bind fun t242 => (if t242 < 0 then (some false) else (if t242 = t240 then ((laws_toInflow.f kj60 a0_0 a0_1 a0_2 l0_3).bind fun bt243 => ((impl_RaiseLimit.f kj60 bt243.1 bt243.2.1 bt243.2.2.1 bt243.2.2.2 a1).bind fun bt249 => ((laws_eqInflow.f kj60 bt249.1 bt249.2.1 bt249.2.2.1 bt249.2.2.2.1 t206 t207 t208 t209).bind fun t257 => (if t257 = true then (laws_FnExactRaiseLimit.j2 kj60 t240 (bt249.2.2.2.2 != t212) t221 t222 t223 t241) else (laws_FnExactRaiseLimit.j2 kj60 t240 true t221 t222 t223 t241))))) else (some false)))) = some r := H
         have A91 := Aside0.mk A910
         clear A910
         replace H := Option.bind_eq_some_iff.mp H
         obtain ⟨t242, A920, H⟩ := H
         replace H : (if t242 < 0 then (some false) else (if t242 = t240 then ((laws_toInflow.f kj60 a0_0 a0_1 a0_2 l0_3).bind fun bt243 => ((impl_RaiseLimit.f kj60 bt243.1 bt243.2.1 bt243.2.2.1 bt243.2.2.2 a1).bind fun bt249 => ((laws_eqInflow.f kj60 bt249.1 bt249.2.1 bt249.2.2.1 bt249.2.2.2.1 t206 t207 t208 t209).bind fun t257 => (if t257 = true then (laws_FnExactRaiseLimit.j2 kj60 t240 (bt249.2.2.2.2 != t212) t221 t222 t223 t241) else (laws_FnExactRaiseLimit.j2 kj60 t240 true t221 t222 t223 t241))))) else (some false))) = some r := H
         have A92 := Aside0.mk A920
         clear A920
         by_cases c93 : t242 < 0
         ·rw [if_pos c93] at H
          have c93b0 : decide (t242 < 0) = true := decide_eq_true c93
          clear c93
          obtain rfl := Option.some.inj H
          have hnb94 := NB228_198.out
          have hnc94 := NB198_228.out
          have hnb95 := NB228_213.out
          have hnc95 := NB213_228.out
          have hnb96 := NB228_220.out
          have hnc96 := NB220_228.out
          obtain ⟨hcz97_0, hcz97_1, hcz97_2, hcz97_3⟩ := cz4 BK228
          obtain ⟨hfz97_0, hfz97_1, hfz97_2, hfz97_3⟩ := fz4 BK228
          go_wp2_with (first | ((with_reducible refine gate_callee (f := 41) rfl ?_); refine goesL_ (some 68) rfl rfl Try.func41 (by kernel_rfl) rfl #[.agg #[.int .i64 t221, .int .i64 t222, .int .i64 t223, .slice Ao37 t224.length co37], .int .i64 1] rfl (by (try simp only [List.map_toArray, List.map_cons, List.map_nil]); first | done | rfl | (simp only [List.length_drop, List.length_take]; rfl)) ?_; (with_reducible refine (laws_markInflow.calls kj60 t221 t222 t223 (fun k_ => some k_ = (.slice Ao37 t224.length co37 : Value).ownBlock) (.slice Ao37 t224.length co37) t224 1 t240 t241 w _ ?side1 ?side2 A91.out).mono ?_); (case side1 => repeat (first | (with_reducible first | exact HB.out | apply below_alloc | apply pw_below_drewN | apply below_drew1 | refine below_set ?_ GE198.out | refine below_set ?_ GE213.out | refine below_set ?_ GE220.out | refine below_set ?_ GE228.out) | exact HB.out)); (case side2 => exact Kd.R_tight rfl HO_229003.out); rintro e w98 ⟨rfl, hy0, hb, hkp⟩; refine ⟨_, rfl, ?_⟩; have n0_ := Aside0.mk (Kd.R_mono (ok' := fun k_ => some k_ ≠ (.slice Ao30 t238.length co30 : Value).ownBlock ∧ some k_ ≠ (.slice Ao37 t224.length co37 : Value).ownBlock) (Kd.R_keptB (HO_214003.out) hkp (fun k_ hk_ hs_ => (hk_.2) hs_)) (fun k_ hk_ => ⟨hk_.1.1, hk_.1.2⟩)); have n1_ := Aside0.mk (Kd.R_mono (ok' := fun k_ => some k_ ≠ (.slice Ao23 t209.length co23 : Value).ownBlock ∧ some k_ ≠ (.slice Ao37 t224.length co37 : Value).ownBlock) (Kd.R_keptB (HO_221003.out) hkp (fun k_ hk_ hs_ => (hk_.2) hs_)) (fun k_ hk_ => ⟨hk_.1.1, hk_.1.2⟩)); have n2_ := Aside0.mk (Kd.R_reok rfl hy0 (fun k_ e_ => HO_229003.out.1 k_ e_)); have n3_ := Aside0.mk (blk_kept (by (with_reducible repeat (first | refine bN ?_ _ | refine bD ?_ | refine bA ?_ _)); exact BK198.out) hkp (fun hs_ => (fun e_ => (Kd.R_ne HO_229003.out BK198.out (by decide)) e_) hs_)); have n4_ := Aside0.mk (blk_kept (by (with_reducible repeat (first | refine bN ?_ _ | refine bD ?_ | refine bA ?_ _)); exact BK213.out) hkp (fun hs_ => (fun e_ => (Kd.R_ne HO_229003.out BK213.out (by decide)) e_) hs_)); have n5_ := Aside0.mk (blk_kept (by (with_reducible repeat (first | refine bN ?_ _ | refine bD ?_ | refine bA ?_ _)); exact BK220.out) hkp (fun hs_ => (fun e_ => (Kd.R_ne HO_229003.out BK220.out (by decide)) e_) hs_)); have n6_ := Aside0.mk (blk_kept (by (with_reducible repeat (first | refine bN ?_ _ | refine bD ?_ | refine bA ?_ _)); exact BK228.out) hkp (fun hs_ => (fun e_ => (Kd.R_ne HO_229003.out BK228.out (by decide)) e_) hs_)); have n7_ := Aside0.mk (hb); clear HO_214003; clear HO_221003; clear HO_229003; clear BK198; clear BK213; clear BK220; clear BK228; clear HB; have HO_214003 := n0_; have HO_221003 := n1_; have HO_229003 := n2_; have BK198 := n3_; have BK213 := n4_; have BK220 := n5_; have BK228 := n6_; have HB := n7_; clear n0_ n1_ n2_ n3_ n4_ n5_ n6_ n7_; (try clear hb); (try clear hkp); (try clear hy0); obtain ⟨hcz99_0, hcz99_1, hcz99_2, hcz99_3⟩ := cz4 BK228; obtain ⟨hfz99_0, hfz99_1, hfz99_2, hfz99_3⟩ := fz4 BK228) | ((with_reducible refine gate_callee (f := 42) rfl ?_); refine goesL_ (some 71) rfl rfl Try.func42 (by kernel_rfl) rfl #[.agg #[.int .i64 t221, .int .i64 t222, .int .i64 t223, .slice Ao37 t241.length co37], .int .i64 1] rfl (by (try simp only [List.map_toArray, List.map_cons, List.map_nil]); first | done | (rw [show t241.length = t224.length from (Kd.R_reads' HO_229003.out).1.symm] <;> rfl) | rfl | (simp only [List.length_drop, List.length_take]; rfl)) ?_; (with_reducible refine (laws_heldInflow.calls kj60 t221 t222 t223 _ _ t241 1 t242 _ ?side1 ?side2 A92.out).mono ?_); (case side1 => repeat (first | exact (Kd.R_reads' HO_229003.out).2.2 | (with_reducible refine Kd.C_alloc ?_ _) | (with_reducible refine Kd.C_drewN ?_ _) | (with_reducible refine Kd.C_drew ?_))); (case side2 => rw [show t241.length = t224.length from (Kd.R_reads' HO_229003.out).1.symm]; exact (Kd.R_reads' HO_229003.out).2.1); rintro e w100 ⟨rfl, hb⟩; refine ⟨_, rfl, ?_⟩; have n0_ := Aside0.mk (Kd.R_below (by (with_reducible repeat (first | apply Kd.R_alloc | apply Kd.R_drewN | apply Kd.R_drew)); exact HO_214003.out) hb); have n1_ := Aside0.mk (Kd.R_below (by (with_reducible repeat (first | apply Kd.R_alloc | apply Kd.R_drewN | apply Kd.R_drew)); exact HO_221003.out) hb); have n2_ := Aside0.mk (Kd.R_below (by (with_reducible repeat (first | apply Kd.R_alloc | apply Kd.R_drewN | apply Kd.R_drew)); exact HO_229003.out) hb); have n3_ := Aside0.mk (blk_below (g := gb198) (o := .cells #[.int .i64 a0_0, .int .i64 a0_1, .int .i64 a0_2, .slice A0_3 l0_3.length c0_3] 57 (0, 0)) (by (with_reducible repeat (first | refine bN ?_ _ | refine bD ?_ | refine bA ?_ _)); exact BK198.out) hb); have n4_ := Aside0.mk (blk_below (g := gb213) (o := .cells #[.int .i64 t206, .int .i64 t207, .int .i64 t208, .slice Ao23 t209.length co23] 61 (0, 0)) (by (with_reducible repeat (first | refine bN ?_ _ | refine bD ?_ | refine bA ?_ _)); exact BK213.out) hb); have n5_ := Aside0.mk (blk_below (g := gb220) (o := .cells #[.int .i64 t214, .int .i64 t215, .int .i64 t216, .slice Ao30 t238.length co30] 61 (0, 0)) (by (with_reducible repeat (first | refine bN ?_ _ | refine bD ?_ | refine bA ?_ _)); exact BK220.out) hb); have n6_ := Aside0.mk (blk_below (g := gb228) (o := .cells #[.int .i64 t221, .int .i64 t222, .int .i64 t223, .slice Ao37 t224.length co37] 61 (0, 0)) (by (with_reducible repeat (first | refine bN ?_ _ | refine bD ?_ | refine bA ?_ _)); exact BK228.out) hb); have n7_ := Aside0.mk (below_step (by repeat (first | (with_reducible first | exact HB.out | apply below_alloc | apply pw_below_drewN | apply below_drew1 | refine below_set ?_ GE198.out | refine below_set ?_ GE213.out | refine below_set ?_ GE220.out | refine below_set ?_ GE228.out) | exact HB.out)) hb); clear HO_214003; clear HO_221003; clear HO_229003; clear BK198; clear BK213; clear BK220; clear BK228; clear HB; have HO_214003 := n0_; have HO_221003 := n1_; have HO_229003 := n2_; have BK198 := n3_; have BK213 := n4_; have BK220 := n5_; have BK228 := n6_; have HB := n7_; clear n0_ n1_ n2_ n3_ n4_ n5_ n6_ n7_; (try clear hb); (try clear hb2); (try clear hk); (try clear hi)))
          go_ret
          exact ⟨by first | rfl | (simp [errW_none, errW_some] <;> rfl) | (simp [*, errW_none, errW_some] <;> rfl), by repeat (first | (with_reducible first | exact HB.out | apply below_alloc | apply pw_below_drewN | apply below_drew1 | refine below_set ?_ GE198.out | refine below_set ?_ GE213.out | refine below_set ?_ GE220.out | refine below_set ?_ GE228.out) | exact HB.out)⟩
         ·rw [if_neg c93] at H
          have c93b0 : decide (t242 < 0) = false := decide_eq_false c93
          clear c93
          by_cases c101 : t242 = t240
          ·rw [if_pos c101] at H
           have c101b0 : (t242 == t240) = true := beq_iff_eq.mpr c101
           have c101b1 : (t242 != t240) = false := bne_eq_false_iff_eq.mpr c101
           clear c101
           replace H := Option.bind_eq_some_iff.mp H
           obtain ⟨⟨t243, t244, t245, t246⟩, A1020, H⟩ := H
           replace H : ((impl_RaiseLimit.f kj60 t243 t244 t245 t246 a1).bind fun bt249 => ((laws_eqInflow.f kj60 bt249.1 bt249.2.1 bt249.2.2.1 bt249.2.2.2.1 t206 t207 t208 t209).bind fun t257 => (if t257 = true then (laws_FnExactRaiseLimit.j2 kj60 t240 (bt249.2.2.2.2 != t212) t221 t222 t223 t241) else (laws_FnExactRaiseLimit.j2 kj60 t240 true t221 t222 t223 t241)))) = some r := H
           have A102 := Aside0.mk A1020
           clear A1020
           replace H := Option.bind_eq_some_iff.mp H
           obtain ⟨⟨t249, t250, t251, t252, t255⟩, A1030, H⟩ := H
           replace H : ((laws_eqInflow.f kj60 t249 t250 t251 t252 t206 t207 t208 t209).bind fun t257 => (if t257 = true then (laws_FnExactRaiseLimit.j2 kj60 t240 (t255 != t212) t221 t222 t223 t241) else (laws_FnExactRaiseLimit.j2 kj60 t240 true t221 t222 t223 t241))) = some r := H
           have A103 := Aside0.mk A1030
           clear A1030
           have HC104 := Aside0.mk H
           clear H
           have hnb105 := NB228_198.out
           have hnc105 := NB198_228.out
           have hnb106 := NB228_213.out
           have hnc106 := NB213_228.out
           have hnb107 := NB228_220.out
           have hnc107 := NB220_228.out
           obtain ⟨hcz108_0, hcz108_1, hcz108_2, hcz108_3⟩ := cz4 BK228
           obtain ⟨hfz108_0, hfz108_1, hfz108_2, hfz108_3⟩ := fz4 BK228
           go_upto_region 25 with (first | ((with_reducible refine gate_callee (f := 41) rfl ?_); refine goesL_ (some 68) rfl rfl Try.func41 (by kernel_rfl) rfl #[.agg #[.int .i64 t221, .int .i64 t222, .int .i64 t223, .slice Ao37 t224.length co37], .int .i64 1] rfl (by (try simp only [List.map_toArray, List.map_cons, List.map_nil]); first | done | rfl | (simp only [List.length_drop, List.length_take]; rfl)) ?_; (with_reducible refine (laws_markInflow.calls kj60 t221 t222 t223 (fun k_ => some k_ = (.slice Ao37 t224.length co37 : Value).ownBlock) (.slice Ao37 t224.length co37) t224 1 t240 t241 w _ ?side1 ?side2 A91.out).mono ?_); (case side1 => repeat (first | (with_reducible first | exact HB.out | apply below_alloc | apply pw_below_drewN | apply below_drew1 | refine below_set ?_ GE198.out | refine below_set ?_ GE213.out | refine below_set ?_ GE220.out | refine below_set ?_ GE228.out) | exact HB.out)); (case side2 => exact Kd.R_tight rfl HO_229003.out); rintro e w109 ⟨rfl, hy0, hb, hkp⟩; refine ⟨_, rfl, ?_⟩; have n0_ := Aside0.mk (Kd.R_mono (ok' := fun k_ => some k_ ≠ (.slice Ao30 t238.length co30 : Value).ownBlock ∧ some k_ ≠ (.slice Ao37 t224.length co37 : Value).ownBlock) (Kd.R_keptB (HO_214003.out) hkp (fun k_ hk_ hs_ => (hk_.2) hs_)) (fun k_ hk_ => ⟨hk_.1.1, hk_.1.2⟩)); have n1_ := Aside0.mk (Kd.R_mono (ok' := fun k_ => some k_ ≠ (.slice Ao23 t209.length co23 : Value).ownBlock ∧ some k_ ≠ (.slice Ao37 t224.length co37 : Value).ownBlock) (Kd.R_keptB (HO_221003.out) hkp (fun k_ hk_ hs_ => (hk_.2) hs_)) (fun k_ hk_ => ⟨hk_.1.1, hk_.1.2⟩)); have n2_ := Aside0.mk (Kd.R_reok rfl hy0 (fun k_ e_ => HO_229003.out.1 k_ e_)); have n3_ := Aside0.mk (blk_kept (by (with_reducible repeat (first | refine bN ?_ _ | refine bD ?_ | refine bA ?_ _)); exact BK198.out) hkp (fun hs_ => (fun e_ => (Kd.R_ne HO_229003.out BK198.out (by decide)) e_) hs_)); have n4_ := Aside0.mk (blk_kept (by (with_reducible repeat (first | refine bN ?_ _ | refine bD ?_ | refine bA ?_ _)); exact BK213.out) hkp (fun hs_ => (fun e_ => (Kd.R_ne HO_229003.out BK213.out (by decide)) e_) hs_)); have n5_ := Aside0.mk (blk_kept (by (with_reducible repeat (first | refine bN ?_ _ | refine bD ?_ | refine bA ?_ _)); exact BK220.out) hkp (fun hs_ => (fun e_ => (Kd.R_ne HO_229003.out BK220.out (by decide)) e_) hs_)); have n6_ := Aside0.mk (blk_kept (by (with_reducible repeat (first | refine bN ?_ _ | refine bD ?_ | refine bA ?_ _)); exact BK228.out) hkp (fun hs_ => (fun e_ => (Kd.R_ne HO_229003.out BK228.out (by decide)) e_) hs_)); have n7_ := Aside0.mk (hb); clear HO_214003; clear HO_221003; clear HO_229003; clear BK198; clear BK213; clear BK220; clear BK228; clear HB; have HO_214003 := n0_; have HO_221003 := n1_; have HO_229003 := n2_; have BK198 := n3_; have BK213 := n4_; have BK220 := n5_; have BK228 := n6_; have HB := n7_; clear n0_ n1_ n2_ n3_ n4_ n5_ n6_ n7_; (try clear hb); (try clear hkp); (try clear hy0); obtain ⟨hcz110_0, hcz110_1, hcz110_2, hcz110_3⟩ := cz4 BK228; obtain ⟨hfz110_0, hfz110_1, hfz110_2, hfz110_3⟩ := fz4 BK228) | ((with_reducible refine gate_callee (f := 42) rfl ?_); refine goesL_ (some 71) rfl rfl Try.func42 (by kernel_rfl) rfl #[.agg #[.int .i64 t221, .int .i64 t222, .int .i64 t223, .slice Ao37 t241.length co37], .int .i64 1] rfl (by (try simp only [List.map_toArray, List.map_cons, List.map_nil]); first | done | (rw [show t241.length = t224.length from (Kd.R_reads' HO_229003.out).1.symm] <;> rfl) | rfl | (simp only [List.length_drop, List.length_take]; rfl)) ?_; (with_reducible refine (laws_heldInflow.calls kj60 t221 t222 t223 _ _ t241 1 t242 _ ?side1 ?side2 A92.out).mono ?_); (case side1 => repeat (first | exact (Kd.R_reads' HO_229003.out).2.2 | (with_reducible refine Kd.C_alloc ?_ _) | (with_reducible refine Kd.C_drewN ?_ _) | (with_reducible refine Kd.C_drew ?_))); (case side2 => rw [show t241.length = t224.length from (Kd.R_reads' HO_229003.out).1.symm]; exact (Kd.R_reads' HO_229003.out).2.1); rintro e w111 ⟨rfl, hb⟩; refine ⟨_, rfl, ?_⟩; have n0_ := Aside0.mk (Kd.R_below (by (with_reducible repeat (first | apply Kd.R_alloc | apply Kd.R_drewN | apply Kd.R_drew)); exact HO_214003.out) hb); have n1_ := Aside0.mk (Kd.R_below (by (with_reducible repeat (first | apply Kd.R_alloc | apply Kd.R_drewN | apply Kd.R_drew)); exact HO_221003.out) hb); have n2_ := Aside0.mk (Kd.R_below (by (with_reducible repeat (first | apply Kd.R_alloc | apply Kd.R_drewN | apply Kd.R_drew)); exact HO_229003.out) hb); have n3_ := Aside0.mk (blk_below (g := gb198) (o := .cells #[.int .i64 a0_0, .int .i64 a0_1, .int .i64 a0_2, .slice A0_3 l0_3.length c0_3] 57 (0, 0)) (by (with_reducible repeat (first | refine bN ?_ _ | refine bD ?_ | refine bA ?_ _)); exact BK198.out) hb); have n4_ := Aside0.mk (blk_below (g := gb213) (o := .cells #[.int .i64 t206, .int .i64 t207, .int .i64 t208, .slice Ao23 t209.length co23] 61 (0, 0)) (by (with_reducible repeat (first | refine bN ?_ _ | refine bD ?_ | refine bA ?_ _)); exact BK213.out) hb); have n5_ := Aside0.mk (blk_below (g := gb220) (o := .cells #[.int .i64 t214, .int .i64 t215, .int .i64 t216, .slice Ao30 t238.length co30] 61 (0, 0)) (by (with_reducible repeat (first | refine bN ?_ _ | refine bD ?_ | refine bA ?_ _)); exact BK220.out) hb); have n6_ := Aside0.mk (blk_below (g := gb228) (o := .cells #[.int .i64 t221, .int .i64 t222, .int .i64 t223, .slice Ao37 t224.length co37] 61 (0, 0)) (by (with_reducible repeat (first | refine bN ?_ _ | refine bD ?_ | refine bA ?_ _)); exact BK228.out) hb); have n7_ := Aside0.mk (below_step (by repeat (first | (with_reducible first | exact HB.out | apply below_alloc | apply pw_below_drewN | apply below_drew1 | refine below_set ?_ GE198.out | refine below_set ?_ GE213.out | refine below_set ?_ GE220.out | refine below_set ?_ GE228.out) | exact HB.out)) hb); clear HO_214003; clear HO_221003; clear HO_229003; clear BK198; clear BK213; clear BK220; clear BK228; clear HB; have HO_214003 := n0_; have HO_221003 := n1_; have HO_229003 := n2_; have BK198 := n3_; have BK213 := n4_; have BK220 := n5_; have BK228 := n6_; have HB := n7_; clear n0_ n1_ n2_ n3_ n4_ n5_ n6_ n7_; (try clear hb); (try clear hb2); (try clear hk); (try clear hi); have hnb112 := NB198_213.out; have hnc112 := NB213_198.out; have hnb113 := NB198_220.out; have hnc113 := NB220_198.out; obtain ⟨hcz114_0, hcz114_1, hcz114_2, hcz114_3⟩ := cz4 BK198; obtain ⟨hfz114_0, hfz114_1, hfz114_2, hfz114_3⟩ := fz4 BK198) | ((with_reducible refine gate_callee (f := 38) rfl ?_); refine goesL_ (some 79) rfl rfl Try.func38 (by kernel_rfl) rfl #[.agg #[.int .i64 a0_0, .int .i64 a0_1, .int .i64 a0_2, .slice A0_3 l0_3.length c0_3]] rfl (by (try simp only [List.map_toArray, List.map_cons, List.map_nil]); first | done | rfl | (simp only [List.length_drop, List.length_take]; rfl)) ?_; (with_reducible refine (laws_toInflow.calls kj60 a0_0 a0_1 a0_2 _ _ l0_3 t243 t244 t245 t246 _ ?side1 ?side2 A102.out).mono ?_); (case side1 => repeat (first | exact (Kd.C_below HR0_3.out HB.out) | (with_reducible refine Kd.C_alloc ?_ _) | (with_reducible refine Kd.C_drewN ?_ _) | (with_reducible refine Kd.C_drew ?_))); (case side2 => exact HC0_3.out); rintro e w115 ⟨v247, rfl, ho0, hb⟩; refine ⟨_, rfl, ?_⟩; have n0_ := Aside0.mk (Kd.R_elder' (by (with_reducible repeat (first | apply Kd.R_alloc | apply Kd.R_drewN | apply Kd.R_drew)); exact HO_214003.out) (Kd.R_base ho0) hb); have n1_ := Aside0.mk (Kd.R_elder' (by (with_reducible repeat (first | apply Kd.R_alloc | apply Kd.R_drewN | apply Kd.R_drew)); exact HO_221003.out) (Kd.R_base ho0) hb); have n2_ := Aside0.mk (Kd.R_elder' (by (with_reducible repeat (first | apply Kd.R_alloc | apply Kd.R_drewN | apply Kd.R_drew)); exact HO_229003.out) (Kd.R_base ho0) hb); have n3_ := Aside0.mk (Kd.R_lower (Kd.R_new' (Kd.R_new' (Kd.R_new' ho0 (Kd.R_lt (by (with_reducible repeat (first | apply Kd.R_alloc | apply Kd.R_drewN | apply Kd.R_drew)); exact HO_214003.out))) (Kd.R_lt (by (with_reducible repeat (first | apply Kd.R_alloc | apply Kd.R_drewN | apply Kd.R_drew)); exact HO_221003.out))) (Kd.R_lt (by (with_reducible repeat (first | apply Kd.R_alloc | apply Kd.R_drewN | apply Kd.R_drew)); exact HO_229003.out))) (below_size (by repeat (first | (with_reducible first | exact HB.out | apply below_alloc | apply pw_below_drewN | apply below_drew1 | refine below_set ?_ GE198.out | refine below_set ?_ GE213.out | refine below_set ?_ GE220.out | refine below_set ?_ GE228.out) | exact HB.out)))); have n4_ := Aside0.mk (blk_below (g := gb198) (o := .cells #[.int .i64 a0_0, .int .i64 a0_1, .int .i64 a0_2, .slice A0_3 l0_3.length c0_3] 57 (0, 0)) (by (with_reducible repeat (first | refine bN ?_ _ | refine bD ?_ | refine bA ?_ _)); exact BK198.out) hb); have n5_ := Aside0.mk (blk_below (g := gb213) (o := .cells #[.int .i64 t206, .int .i64 t207, .int .i64 t208, .slice Ao23 t209.length co23] 61 (0, 0)) (by (with_reducible repeat (first | refine bN ?_ _ | refine bD ?_ | refine bA ?_ _)); exact BK213.out) hb); have n6_ := Aside0.mk (blk_below (g := gb220) (o := .cells #[.int .i64 t214, .int .i64 t215, .int .i64 t216, .slice Ao30 t238.length co30] 61 (0, 0)) (by (with_reducible repeat (first | refine bN ?_ _ | refine bD ?_ | refine bA ?_ _)); exact BK220.out) hb); have n7_ := Aside0.mk (blk_below (g := gb228) (o := .cells #[.int .i64 t221, .int .i64 t222, .int .i64 t223, .slice Ao37 t224.length co37] 61 (0, 0)) (by (with_reducible repeat (first | refine bN ?_ _ | refine bD ?_ | refine bA ?_ _)); exact BK228.out) hb); have n8_ := Aside0.mk (below_step (by repeat (first | (with_reducible first | exact HB.out | apply below_alloc | apply pw_below_drewN | apply below_drew1 | refine below_set ?_ GE198.out | refine below_set ?_ GE213.out | refine below_set ?_ GE220.out | refine below_set ?_ GE228.out) | exact HB.out)) hb); clear HO_214003; clear HO_221003; clear HO_229003; clear BK198; clear BK213; clear BK220; clear BK228; clear HB; have HO_214003 := n0_; have HO_221003 := n1_; have HO_229003 := n2_; have HO248 := n3_; have BK198 := n4_; have BK213 := n5_; have BK220 := n6_; have BK228 := n7_; have HB := n8_; clear n0_ n1_ n2_ n3_ n4_ n5_ n6_ n7_ n8_; (try clear hb); (try clear hb2); (try clear hk); (try clear hi); (try clear ho0); obtain ⟨Ao116, co116, eo116⟩ := Kd.R_slice HO248.out; subst eo116) | ((with_reducible refine gate_callee (f := 39) rfl ?_); refine goesL_ (some 81) rfl rfl Try.func39 (by kernel_rfl) rfl #[.agg #[.int .i64 t243, .int .i64 t244, .int .i64 t245, .slice Ao116 t246.length co116], .int .i64 a1] rfl (by (try simp only [List.map_toArray, List.map_cons, List.map_nil]); first | done | rfl | (simp only [List.length_drop, List.length_take]; rfl)) ?_; (with_reducible refine (impl_RaiseLimit.calls kj60 t243 t244 t245 _ _ t246 a1 t249 t250 t251 t252 t255 _ ?side1 ?side2 A103.out).mono ?_); (case side1 => repeat (first | exact (Kd.R_reads' HO248.out).2.2 | (with_reducible refine Kd.C_alloc ?_ _) | (with_reducible refine Kd.C_drewN ?_ _) | (with_reducible refine Kd.C_drew ?_))); (case side2 => exact (Kd.R_reads' HO248.out).2.1); rintro e w117 ⟨v253, rfl, ho0, hb⟩; refine ⟨_, rfl, ?_⟩; have n0_ := Aside0.mk (Kd.R_elder' (by (with_reducible repeat (first | apply Kd.R_alloc | apply Kd.R_drewN | apply Kd.R_drew)); exact HO_214003.out) (Kd.R_base ho0) hb); have n1_ := Aside0.mk (Kd.R_elder' (by (with_reducible repeat (first | apply Kd.R_alloc | apply Kd.R_drewN | apply Kd.R_drew)); exact HO_221003.out) (Kd.R_base ho0) hb); have n2_ := Aside0.mk (Kd.R_elder' (by (with_reducible repeat (first | apply Kd.R_alloc | apply Kd.R_drewN | apply Kd.R_drew)); exact HO_229003.out) (Kd.R_base ho0) hb); have n3_ := Aside0.mk (Kd.R_elder' (by (with_reducible repeat (first | apply Kd.R_alloc | apply Kd.R_drewN | apply Kd.R_drew)); exact HO248.out) (Kd.R_base ho0) hb); have n4_ := Aside0.mk (Kd.R_lower (Kd.R_new' (Kd.R_new' (Kd.R_new' (Kd.R_new' ho0 (Kd.R_lt (by (with_reducible repeat (first | apply Kd.R_alloc | apply Kd.R_drewN | apply Kd.R_drew)); exact HO_214003.out))) (Kd.R_lt (by (with_reducible repeat (first | apply Kd.R_alloc | apply Kd.R_drewN | apply Kd.R_drew)); exact HO_221003.out))) (Kd.R_lt (by (with_reducible repeat (first | apply Kd.R_alloc | apply Kd.R_drewN | apply Kd.R_drew)); exact HO_229003.out))) (Kd.R_lt (by (with_reducible repeat (first | apply Kd.R_alloc | apply Kd.R_drewN | apply Kd.R_drew)); exact HO248.out))) (below_size (by repeat (first | (with_reducible first | exact HB.out | apply below_alloc | apply pw_below_drewN | apply below_drew1 | refine below_set ?_ GE198.out | refine below_set ?_ GE213.out | refine below_set ?_ GE220.out | refine below_set ?_ GE228.out) | exact HB.out)))); have n5_ := Aside0.mk (blk_below (g := gb198) (o := .cells #[.int .i64 a0_0, .int .i64 a0_1, .int .i64 a0_2, .slice A0_3 l0_3.length c0_3] 57 (0, 0)) (by (with_reducible repeat (first | refine bN ?_ _ | refine bD ?_ | refine bA ?_ _)); exact BK198.out) hb); have n6_ := Aside0.mk (blk_below (g := gb213) (o := .cells #[.int .i64 t206, .int .i64 t207, .int .i64 t208, .slice Ao23 t209.length co23] 61 (0, 0)) (by (with_reducible repeat (first | refine bN ?_ _ | refine bD ?_ | refine bA ?_ _)); exact BK213.out) hb); have n7_ := Aside0.mk (blk_below (g := gb220) (o := .cells #[.int .i64 t214, .int .i64 t215, .int .i64 t216, .slice Ao30 t238.length co30] 61 (0, 0)) (by (with_reducible repeat (first | refine bN ?_ _ | refine bD ?_ | refine bA ?_ _)); exact BK220.out) hb); have n8_ := Aside0.mk (blk_below (g := gb228) (o := .cells #[.int .i64 t221, .int .i64 t222, .int .i64 t223, .slice Ao37 t224.length co37] 61 (0, 0)) (by (with_reducible repeat (first | refine bN ?_ _ | refine bD ?_ | refine bA ?_ _)); exact BK228.out) hb); have n9_ := Aside0.mk (below_step (by repeat (first | (with_reducible first | exact HB.out | apply below_alloc | apply pw_below_drewN | apply below_drew1 | refine below_set ?_ GE198.out | refine below_set ?_ GE213.out | refine below_set ?_ GE220.out | refine below_set ?_ GE228.out) | exact HB.out)) hb); clear HO_214003; clear HO_221003; clear HO_229003; clear HO248; clear BK198; clear BK213; clear BK220; clear BK228; clear HB; have HO_214003 := n0_; have HO_221003 := n1_; have HO_229003 := n2_; have HO248 := n3_; have HO254 := n4_; have BK198 := n5_; have BK213 := n6_; have BK220 := n7_; have BK228 := n8_; have HB := n9_; clear n0_ n1_ n2_ n3_ n4_ n5_ n6_ n7_ n8_ n9_; (try clear hb); (try clear hb2); (try clear hk); (try clear hi); (try clear ho0)) | ((with_reducible refine gate_dst (N := 14) rfl ?_); refine box_event ?hg (N := 14) ?hd (cs := #[.int .i64 0, .int .i64 0, .int .i64 0, .slice none 0 0]) (t := 61) ?hr ?_; (case hd => rfl); (case hg => rfl); (case hr => first | (go_simp; done) | (go_simp; rfl)); intro gb256 hg w118 hbox hb; have n0_ := Aside0.mk (Kd.R_below (by (with_reducible repeat (first | apply Kd.R_alloc | apply Kd.R_drewN | apply Kd.R_drew)); exact HO_214003.out) hb); have n1_ := Aside0.mk (Kd.R_below (by (with_reducible repeat (first | apply Kd.R_alloc | apply Kd.R_drewN | apply Kd.R_drew)); exact HO_221003.out) hb); have n2_ := Aside0.mk (Kd.R_below (by (with_reducible repeat (first | apply Kd.R_alloc | apply Kd.R_drewN | apply Kd.R_drew)); exact HO_229003.out) hb); have n3_ := Aside0.mk (Kd.R_below (by (with_reducible repeat (first | apply Kd.R_alloc | apply Kd.R_drewN | apply Kd.R_drew)); exact HO248.out) hb); have n4_ := Aside0.mk (Kd.R_below (by (with_reducible repeat (first | apply Kd.R_alloc | apply Kd.R_drewN | apply Kd.R_drew)); exact HO254.out) hb); have n5_ := Aside0.mk (blk_below (g := gb198) (o := .cells #[.int .i64 a0_0, .int .i64 a0_1, .int .i64 a0_2, .slice A0_3 l0_3.length c0_3] 57 (0, 0)) (by (with_reducible repeat (first | refine bN ?_ _ | refine bD ?_ | refine bA ?_ _)); exact BK198.out) hb); have n6_ := Aside0.mk (blk_below (g := gb213) (o := .cells #[.int .i64 t206, .int .i64 t207, .int .i64 t208, .slice Ao23 t209.length co23] 61 (0, 0)) (by (with_reducible repeat (first | refine bN ?_ _ | refine bD ?_ | refine bA ?_ _)); exact BK213.out) hb); have n7_ := Aside0.mk (blk_below (g := gb220) (o := .cells #[.int .i64 t214, .int .i64 t215, .int .i64 t216, .slice Ao30 t238.length co30] 61 (0, 0)) (by (with_reducible repeat (first | refine bN ?_ _ | refine bD ?_ | refine bA ?_ _)); exact BK220.out) hb); have n8_ := Aside0.mk (blk_below (g := gb228) (o := .cells #[.int .i64 t221, .int .i64 t222, .int .i64 t223, .slice Ao37 t224.length co37] 61 (0, 0)) (by (with_reducible repeat (first | refine bN ?_ _ | refine bD ?_ | refine bA ?_ _)); exact BK228.out) hb); have n9_ := Aside0.mk (below_step (by repeat (first | (with_reducible first | exact HB.out | apply below_alloc | apply pw_below_drewN | apply below_drew1 | refine below_set ?_ GE198.out | refine below_set ?_ GE213.out | refine below_set ?_ GE220.out | refine below_set ?_ GE228.out) | exact HB.out)) hb); have n10_ := Aside0.mk (hbox); have n11_ := Aside0.mk ((by rw [hg]; exact (below_size (by repeat (first | (with_reducible first | exact HB.out | apply below_alloc | apply pw_below_drewN | apply below_drew1 | refine below_set ?_ GE198.out | refine below_set ?_ GE213.out | refine below_set ?_ GE220.out | refine below_set ?_ GE228.out) | exact HB.out))) : w.heap.size ≤ gb256)); have n12_ := n11_; have n13_ := Aside0.mk ((by rw [hg]; exact Nat.ne_of_lt (blk_lt (g := gb198) (o := .cells #[.int .i64 a0_0, .int .i64 a0_1, .int .i64 a0_2, .slice A0_3 l0_3.length c0_3] 57 (0, 0)) (by (with_reducible repeat (first | refine bN ?_ _ | refine bD ?_ | refine bA ?_ _)); exact BK198.out)) : gb198 ≠ gb256)); have n14_ := Aside0.mk (Ne.symm n13_.out); have n15_ := Aside0.mk ((by rw [hg]; exact Nat.ne_of_lt (blk_lt (g := gb213) (o := .cells #[.int .i64 t206, .int .i64 t207, .int .i64 t208, .slice Ao23 t209.length co23] 61 (0, 0)) (by (with_reducible repeat (first | refine bN ?_ _ | refine bD ?_ | refine bA ?_ _)); exact BK213.out)) : gb213 ≠ gb256)); have n16_ := Aside0.mk (Ne.symm n15_.out); have n17_ := Aside0.mk ((by rw [hg]; exact Nat.ne_of_lt (blk_lt (g := gb220) (o := .cells #[.int .i64 t214, .int .i64 t215, .int .i64 t216, .slice Ao30 t238.length co30] 61 (0, 0)) (by (with_reducible repeat (first | refine bN ?_ _ | refine bD ?_ | refine bA ?_ _)); exact BK220.out)) : gb220 ≠ gb256)); have n18_ := Aside0.mk (Ne.symm n17_.out); have n19_ := Aside0.mk ((by rw [hg]; exact Nat.ne_of_lt (blk_lt (g := gb228) (o := .cells #[.int .i64 t221, .int .i64 t222, .int .i64 t223, .slice Ao37 t224.length co37] 61 (0, 0)) (by (with_reducible repeat (first | refine bN ?_ _ | refine bD ?_ | refine bA ?_ _)); exact BK228.out)) : gb228 ≠ gb256)); have n20_ := Aside0.mk (Ne.symm n19_.out); clear HO_214003; clear HO_221003; clear HO_229003; clear HO248; clear HO254; clear BK198; clear BK213; clear BK220; clear BK228; clear HB; have HO_214003 := n0_; have HO_221003 := n1_; have HO_229003 := n2_; have HO248 := n3_; have HO254 := n4_; have BK198 := n5_; have BK213 := n6_; have BK220 := n7_; have BK228 := n8_; have HB := n9_; have BK256 := n10_; have GW256 := n11_; have GE256 := n12_; have NB198_256 := n13_; have NB256_198 := n14_; have NB213_256 := n15_; have NB256_213 := n16_; have NB220_256 := n17_; have NB256_220 := n18_; have NB228_256 := n19_; have NB256_228 := n20_; clear n0_ n1_ n2_ n3_ n4_ n5_ n6_ n7_ n8_ n9_ n10_ n11_ n12_ n13_ n14_ n15_ n16_ n17_ n18_ n19_ n20_; clear hb hbox hg; have hnb119 := NB256_198.out; have hnc119 := NB198_256.out; have hnb120 := NB256_213.out; have hnc120 := NB213_256.out; have hnb121 := NB256_220.out; have hnc121 := NB220_256.out; have hnb122 := NB256_228.out; have hnc122 := NB228_256.out; obtain ⟨hcz123_0, hcz123_1, hcz123_2, hcz123_3⟩ := cz4 BK256; obtain ⟨hfz123_0, hfz123_1, hfz123_2, hfz123_3⟩ := fz4 BK256; obtain ⟨Ao124, co124, eo124⟩ := Kd.R_slice HO254.out; subst eo124))
           (try simp only [Act.put, sA, sZ, sS])
           go_cut [92] (fun v92 wc => ∃ (kq : Nat) (x92_103 : Bool), v92 = .bool x92_103 ∧ Aside0 (laws_FnExactRaiseLimit.j2 kq t240 x92_103 t221 t222 t223 t241 = some r) ∧ Aside0 (kq ≤ kj60) ∧ Aside0 (Kd.R k177 177 wc w.heap.size (fun k_ => some k_ ≠ ((.slice Ao30 t238.length co30) : Value).ownBlock ∧ some k_ ≠ ((.slice Ao37 t224.length co37) : Value).ownBlock ∧ some k_ ≠ ((.slice Ao124 t252.length co124) : Value).ownBlock) (.slice Ao23 t209.length co23) t209) ∧ Aside0 (Kd.R k177 177 wc w.heap.size (fun k_ => some k_ ≠ ((.slice Ao23 t209.length co23) : Value).ownBlock ∧ some k_ ≠ ((.slice Ao37 t224.length co37) : Value).ownBlock ∧ some k_ ≠ ((.slice Ao124 t252.length co124) : Value).ownBlock) (.slice Ao30 t238.length co30) t238) ∧ Aside0 (Kd.R k177 177 wc w.heap.size (fun k_ => some k_ ≠ ((.slice Ao23 t209.length co23) : Value).ownBlock ∧ some k_ ≠ ((.slice Ao30 t238.length co30) : Value).ownBlock ∧ some k_ ≠ ((.slice Ao124 t252.length co124) : Value).ownBlock) (.slice Ao37 t224.length co37) t241) ∧ Aside0 (Kd.R k177 177 wc w.heap.size (fun k_ => some k_ ≠ ((.slice Ao23 t209.length co23) : Value).ownBlock ∧ some k_ ≠ ((.slice Ao30 t238.length co30) : Value).ownBlock ∧ some k_ ≠ ((.slice Ao37 t224.length co37) : Value).ownBlock) (.slice Ao124 t252.length co124) t252) ∧ Aside0 (wc.heap[gb198]? = some (.cells #[.int .i64 a0_0, .int .i64 a0_1, .int .i64 a0_2, (.slice A0_3 l0_3.length c0_3)] 57 (0, 0))) ∧ Aside0 (wc.heap[gb213]? = some (.cells #[.int .i64 t206, .int .i64 t207, .int .i64 t208, (.slice Ao23 t209.length co23)] 61 (0, 0))) ∧ Aside0 (wc.heap[gb220]? = some (.cells #[.int .i64 t214, .int .i64 t215, .int .i64 t216, (.slice Ao30 t238.length co30)] 61 (0, 0))) ∧ Aside0 (wc.heap[gb228]? = some (.cells #[.int .i64 t221, .int .i64 t222, .int .i64 t223, (.slice Ao37 t224.length co37)] 61 (0, 0))) ∧ Aside0 (wc.heap[gb256]? = some (.cells #[.int .i64 t249, .int .i64 t250, .int .i64 t251, (.slice Ao124 t252.length co124)] 61 (0, 0))) ∧ Aside0 (Below w.heap.size w wc))
           case first =>
            have H := HC104.out
            clear HC104
            replace H := Option.bind_eq_some_iff.mp H
            obtain ⟨t257, A1250, H⟩ := H
            replace H : (if t257 = true then (laws_FnExactRaiseLimit.j2 kj60 t240 (t255 != t212) t221 t222 t223 t241) else (laws_FnExactRaiseLimit.j2 kj60 t240 true t221 t222 t223 t241)) = some r := H
            have A125 := Aside0.mk A1250
            clear A1250
            by_cases c126 : t257 = true
            ·subst c126
             have H1 : (laws_FnExactRaiseLimit.j2 kj60 t240 (t255 != t212) t221 t222 t223 t241) = some r := by rw [if_pos rfl] at H; exact H
             clear H
             have H := H1
             clear H1
             have H' := Aside0.mk H
             clear H
             have hnb127 := NB256_198.out
             have hnc127 := NB198_256.out
             have hnb128 := NB256_213.out
             have hnc128 := NB213_256.out
             have hnb129 := NB256_220.out
             have hnc129 := NB220_256.out
             have hnb130 := NB256_228.out
             have hnc130 := NB228_256.out
             obtain ⟨hcz131_0, hcz131_1, hcz131_2, hcz131_3⟩ := cz4 BK256
             obtain ⟨hfz131_0, hfz131_1, hfz131_2, hfz131_3⟩ := fz4 BK256
             have hnb132 := NB213_198.out
             have hnc132 := NB198_213.out
             have hnb133 := NB213_220.out
             have hnc133 := NB220_213.out
             have hnb134 := NB213_228.out
             have hnc134 := NB228_213.out
             obtain ⟨hcz135_0, hcz135_1, hcz135_2, hcz135_3⟩ := cz4 BK213
             obtain ⟨hfz135_0, hfz135_1, hfz135_2, hfz135_3⟩ := fz4 BK213
             go_wp2_with (first | ((with_reducible refine gate_callee (f := 40) rfl ?_); refine goesL_ (some 86) rfl rfl Try.func40 (by kernel_rfl) rfl #[.agg #[.int .i64 t249, .int .i64 t250, .int .i64 t251, .slice Ao124 t252.length co124], .agg #[.int .i64 t206, .int .i64 t207, .int .i64 t208, .slice Ao23 t209.length co23]] rfl (by (try simp only [List.map_toArray, List.map_cons, List.map_nil]); first | done | rfl | (simp only [List.length_drop, List.length_take]; rfl)) ?_; (with_reducible refine (laws_eqInflow.calls kj60 t249 t250 t251 _ _ t252 t206 t207 t208 _ _ t209 true _ ?side1 ?side2 ?side3 ?side4 A125.out).mono ?_); (case side1 => refine (Kd.R_reads' (e := 177) (base := w.heap.size) (ok := fun k_ => ((((True ∧ some k_ ≠ (.slice Ao23 t209.length co23 : Value).ownBlock) ∧ some k_ ≠ (.slice Ao30 t238.length co30 : Value).ownBlock) ∧ some k_ ≠ (.slice Ao37 t224.length co37 : Value).ownBlock) ∧ some k_ ≠ (.slice Ao116 t246.length co116 : Value).ownBlock)) (n := t252.length) (c := co124) ?_).2.2; exact (by (with_reducible repeat (first | apply Kd.R_alloc | apply Kd.R_drewN | apply Kd.R_drew)); exact (Kd.R_mono (Kd.R_far (p := ⟨gb256, 3, none⟩) (Kd.R_far (p := ⟨gb256, 2, none⟩) (Kd.R_far (p := ⟨gb256, 1, none⟩) (Kd.R_far (p := ⟨gb256, 0, none⟩) (Kd.R_types HO254.out BK256.out (by decide)) (fun _ hk => hk.2) (.int .i64 t249)) (fun _ hk => hk.2) (.int .i64 t250)) (fun _ hk => hk.2) (.int .i64 t251)) (fun _ hk => hk.2) (.slice Ao124 t252.length co124)) (fun _ h_ => h_.1)))); (case side2 => exact (Kd.R_reads' HO254.out).2.1); (case side3 => refine (Kd.R_reads' (e := 177) (base := w.heap.size) (ok := fun k_ => (((some k_ ≠ (.slice Ao30 t238.length co30 : Value).ownBlock ∧ some k_ ≠ (.slice Ao37 t224.length co37 : Value).ownBlock) ∧ some k_ ≠ (.slice Ao116 t246.length co116 : Value).ownBlock) ∧ some k_ ≠ (.slice Ao124 t252.length co124 : Value).ownBlock)) (n := t209.length) (c := co23) ?_).2.2; exact (by (with_reducible repeat (first | apply Kd.R_alloc | apply Kd.R_drewN | apply Kd.R_drew)); exact (Kd.R_mono (Kd.R_far (p := ⟨gb256, 3, none⟩) (Kd.R_far (p := ⟨gb256, 2, none⟩) (Kd.R_far (p := ⟨gb256, 1, none⟩) (Kd.R_far (p := ⟨gb256, 0, none⟩) (Kd.R_types HO_214003.out BK256.out (by decide)) (fun _ hk => hk.2) (.int .i64 t249)) (fun _ hk => hk.2) (.int .i64 t250)) (fun _ hk => hk.2) (.int .i64 t251)) (fun _ hk => hk.2) (.slice Ao124 t252.length co124)) (fun _ h_ => h_.1)))); (case side4 => exact (Kd.R_reads' HO_214003.out).2.1); rintro e w136 ⟨rfl, hb⟩; refine ⟨_, rfl, ?_⟩; have n0_ := Aside0.mk (Kd.R_below (by (with_reducible repeat (first | apply Kd.R_alloc | apply Kd.R_drewN | apply Kd.R_drew)); exact (Kd.R_mono (Kd.R_far (p := ⟨gb256, 3, none⟩) (Kd.R_far (p := ⟨gb256, 2, none⟩) (Kd.R_far (p := ⟨gb256, 1, none⟩) (Kd.R_far (p := ⟨gb256, 0, none⟩) (Kd.R_types HO_214003.out BK256.out (by decide)) (fun _ hk => hk.2) (.int .i64 t249)) (fun _ hk => hk.2) (.int .i64 t250)) (fun _ hk => hk.2) (.int .i64 t251)) (fun _ hk => hk.2) (.slice Ao124 t252.length co124)) (fun _ h_ => h_.1))) hb); have n1_ := Aside0.mk (Kd.R_below (by (with_reducible repeat (first | apply Kd.R_alloc | apply Kd.R_drewN | apply Kd.R_drew)); exact (Kd.R_mono (Kd.R_far (p := ⟨gb256, 3, none⟩) (Kd.R_far (p := ⟨gb256, 2, none⟩) (Kd.R_far (p := ⟨gb256, 1, none⟩) (Kd.R_far (p := ⟨gb256, 0, none⟩) (Kd.R_types HO_221003.out BK256.out (by decide)) (fun _ hk => hk.2) (.int .i64 t249)) (fun _ hk => hk.2) (.int .i64 t250)) (fun _ hk => hk.2) (.int .i64 t251)) (fun _ hk => hk.2) (.slice Ao124 t252.length co124)) (fun _ h_ => h_.1))) hb); have n2_ := Aside0.mk (Kd.R_below (by (with_reducible repeat (first | apply Kd.R_alloc | apply Kd.R_drewN | apply Kd.R_drew)); exact (Kd.R_mono (Kd.R_far (p := ⟨gb256, 3, none⟩) (Kd.R_far (p := ⟨gb256, 2, none⟩) (Kd.R_far (p := ⟨gb256, 1, none⟩) (Kd.R_far (p := ⟨gb256, 0, none⟩) (Kd.R_types HO_229003.out BK256.out (by decide)) (fun _ hk => hk.2) (.int .i64 t249)) (fun _ hk => hk.2) (.int .i64 t250)) (fun _ hk => hk.2) (.int .i64 t251)) (fun _ hk => hk.2) (.slice Ao124 t252.length co124)) (fun _ h_ => h_.1))) hb); have n3_ := Aside0.mk (Kd.R_below (by (with_reducible repeat (first | apply Kd.R_alloc | apply Kd.R_drewN | apply Kd.R_drew)); exact (Kd.R_mono (Kd.R_far (p := ⟨gb256, 3, none⟩) (Kd.R_far (p := ⟨gb256, 2, none⟩) (Kd.R_far (p := ⟨gb256, 1, none⟩) (Kd.R_far (p := ⟨gb256, 0, none⟩) (Kd.R_types HO248.out BK256.out (by decide)) (fun _ hk => hk.2) (.int .i64 t249)) (fun _ hk => hk.2) (.int .i64 t250)) (fun _ hk => hk.2) (.int .i64 t251)) (fun _ hk => hk.2) (.slice Ao124 t252.length co124)) (fun _ h_ => h_.1))) hb); have n4_ := Aside0.mk (Kd.R_below (by (with_reducible repeat (first | apply Kd.R_alloc | apply Kd.R_drewN | apply Kd.R_drew)); exact (Kd.R_mono (Kd.R_far (p := ⟨gb256, 3, none⟩) (Kd.R_far (p := ⟨gb256, 2, none⟩) (Kd.R_far (p := ⟨gb256, 1, none⟩) (Kd.R_far (p := ⟨gb256, 0, none⟩) (Kd.R_types HO254.out BK256.out (by decide)) (fun _ hk => hk.2) (.int .i64 t249)) (fun _ hk => hk.2) (.int .i64 t250)) (fun _ hk => hk.2) (.int .i64 t251)) (fun _ hk => hk.2) (.slice Ao124 t252.length co124)) (fun _ h_ => h_.1))) hb); have n5_ := Aside0.mk (blk_below (g := gb198) (o := .cells #[.int .i64 a0_0, .int .i64 a0_1, .int .i64 a0_2, .slice A0_3 l0_3.length c0_3] 57 (0, 0)) (by (with_reducible repeat (first | refine bN ?_ _ | refine bD ?_ | refine bA ?_ _)); refine blk_far ?_ NB198_256.out _; (with_reducible repeat (first | refine bN ?_ _ | refine bD ?_ | refine bA ?_ _)); refine blk_far ?_ NB198_256.out _; (with_reducible repeat (first | refine bN ?_ _ | refine bD ?_ | refine bA ?_ _)); refine blk_far ?_ NB198_256.out _; (with_reducible repeat (first | refine bN ?_ _ | refine bD ?_ | refine bA ?_ _)); refine blk_far ?_ NB198_256.out _; (with_reducible repeat (first | refine bN ?_ _ | refine bD ?_ | refine bA ?_ _)); exact BK198.out) hb); have n6_ := Aside0.mk (blk_below (g := gb213) (o := .cells #[.int .i64 t206, .int .i64 t207, .int .i64 t208, .slice Ao23 t209.length co23] 61 (0, 0)) (by (with_reducible repeat (first | refine bN ?_ _ | refine bD ?_ | refine bA ?_ _)); refine blk_far ?_ NB213_256.out _; (with_reducible repeat (first | refine bN ?_ _ | refine bD ?_ | refine bA ?_ _)); refine blk_far ?_ NB213_256.out _; (with_reducible repeat (first | refine bN ?_ _ | refine bD ?_ | refine bA ?_ _)); refine blk_far ?_ NB213_256.out _; (with_reducible repeat (first | refine bN ?_ _ | refine bD ?_ | refine bA ?_ _)); refine blk_far ?_ NB213_256.out _; (with_reducible repeat (first | refine bN ?_ _ | refine bD ?_ | refine bA ?_ _)); exact BK213.out) hb); have n7_ := Aside0.mk (blk_below (g := gb220) (o := .cells #[.int .i64 t214, .int .i64 t215, .int .i64 t216, .slice Ao30 t238.length co30] 61 (0, 0)) (by (with_reducible repeat (first | refine bN ?_ _ | refine bD ?_ | refine bA ?_ _)); refine blk_far ?_ NB220_256.out _; (with_reducible repeat (first | refine bN ?_ _ | refine bD ?_ | refine bA ?_ _)); refine blk_far ?_ NB220_256.out _; (with_reducible repeat (first | refine bN ?_ _ | refine bD ?_ | refine bA ?_ _)); refine blk_far ?_ NB220_256.out _; (with_reducible repeat (first | refine bN ?_ _ | refine bD ?_ | refine bA ?_ _)); refine blk_far ?_ NB220_256.out _; (with_reducible repeat (first | refine bN ?_ _ | refine bD ?_ | refine bA ?_ _)); exact BK220.out) hb); have n8_ := Aside0.mk (blk_below (g := gb228) (o := .cells #[.int .i64 t221, .int .i64 t222, .int .i64 t223, .slice Ao37 t224.length co37] 61 (0, 0)) (by (with_reducible repeat (first | refine bN ?_ _ | refine bD ?_ | refine bA ?_ _)); refine blk_far ?_ NB228_256.out _; (with_reducible repeat (first | refine bN ?_ _ | refine bD ?_ | refine bA ?_ _)); refine blk_far ?_ NB228_256.out _; (with_reducible repeat (first | refine bN ?_ _ | refine bD ?_ | refine bA ?_ _)); refine blk_far ?_ NB228_256.out _; (with_reducible repeat (first | refine bN ?_ _ | refine bD ?_ | refine bA ?_ _)); refine blk_far ?_ NB228_256.out _; (with_reducible repeat (first | refine bN ?_ _ | refine bD ?_ | refine bA ?_ _)); exact BK228.out) hb); have n9_ := Aside0.mk (blk_below (g := gb256) (o := .cells #[.int .i64 t249, .int .i64 t250, .int .i64 t251, .slice Ao124 t252.length co124] 61 (0, 0)) (by (with_reducible repeat (first | refine bN ?_ _ | refine bD ?_ | refine bA ?_ _)); refine blk_put (cs := #[.int .i64 t249, .int .i64 t250, .int .i64 t251, .slice none 0 0]) ?_ 3 _ rfl; (with_reducible repeat (first | refine bN ?_ _ | refine bD ?_ | refine bA ?_ _)); refine blk_put (cs := #[.int .i64 t249, .int .i64 t250, .int .i64 0, .slice none 0 0]) ?_ 2 _ rfl; (with_reducible repeat (first | refine bN ?_ _ | refine bD ?_ | refine bA ?_ _)); refine blk_put (cs := #[.int .i64 t249, .int .i64 0, .int .i64 0, .slice none 0 0]) ?_ 1 _ rfl; (with_reducible repeat (first | refine bN ?_ _ | refine bD ?_ | refine bA ?_ _)); refine blk_put (cs := #[.int .i64 0, .int .i64 0, .int .i64 0, .slice none 0 0]) ?_ 0 _ rfl; (with_reducible repeat (first | refine bN ?_ _ | refine bD ?_ | refine bA ?_ _)); exact BK256.out) hb); have n10_ := Aside0.mk (below_step (by repeat (first | (with_reducible first | exact HB.out | apply below_alloc | apply pw_below_drewN | apply below_drew1 | refine below_set ?_ GE198.out | refine below_set ?_ GE213.out | refine below_set ?_ GE220.out | refine below_set ?_ GE228.out | refine below_set ?_ GE256.out) | exact HB.out)) hb); clear HO_214003; clear HO_221003; clear HO_229003; clear HO248; clear HO254; clear BK198; clear BK213; clear BK220; clear BK228; clear BK256; clear HB; have HO_214003 := n0_; have HO_221003 := n1_; have HO_229003 := n2_; have HO248 := n3_; have HO254 := n4_; have BK198 := n5_; have BK213 := n6_; have BK220 := n7_; have BK228 := n8_; have BK256 := n9_; have HB := n10_; clear n0_ n1_ n2_ n3_ n4_ n5_ n6_ n7_ n8_ n9_ n10_; (try clear hb); (try clear hb2); (try clear hk); (try clear hi)))
             go_meet
             case rel => exact ⟨_, ((t255 != t212)), (by first | rfl | (simp; done) | (simp [*]; done)), H', ⟨by have := HJ11.out; have := HJ60.out; first | omega | exact Nat.le_refl _⟩, ⟨by (try simp only [hl221003_60]); (with_reducible repeat (first | apply Kd.R_alloc | apply Kd.R_drewN | apply Kd.R_drew)); exact Kd.R_mono HO_214003.out (fun _ hk => ⟨hk.1.1.1, ⟨hk.1.1.2, hk.2⟩⟩)⟩, ⟨by (try simp only [hl221003_60]); (with_reducible repeat (first | apply Kd.R_alloc | apply Kd.R_drewN | apply Kd.R_drew)); exact Kd.R_mono HO_221003.out (fun _ hk => ⟨hk.1.1.1, ⟨hk.1.1.2, hk.2⟩⟩)⟩, ⟨by (try simp only [hl221003_60]); (with_reducible repeat (first | apply Kd.R_alloc | apply Kd.R_drewN | apply Kd.R_drew)); exact Kd.R_mono HO_229003.out (fun _ hk => ⟨hk.1.1.1, ⟨hk.1.1.2, hk.2⟩⟩)⟩, ⟨by (try simp only [hl221003_60]); (with_reducible repeat (first | apply Kd.R_alloc | apply Kd.R_drewN | apply Kd.R_drew)); exact Kd.R_mono HO254.out (fun _ hk => ⟨hk.1.1.1.2, ⟨hk.1.1.2, hk.1.2⟩⟩)⟩, ⟨by (try simp only [hl221003_60]); (with_reducible repeat (first | refine bN ?_ _ | refine bD ?_ | refine bA ?_ _)); exact BK198.out⟩, ⟨by (try simp only [hl221003_60]); (with_reducible repeat (first | refine bN ?_ _ | refine bD ?_ | refine bA ?_ _)); exact BK213.out⟩, ⟨by (try simp only [hl221003_60]); (with_reducible repeat (first | refine bN ?_ _ | refine bD ?_ | refine bA ?_ _)); exact BK220.out⟩, ⟨by (try simp only [hl221003_60]); (with_reducible repeat (first | refine bN ?_ _ | refine bD ?_ | refine bA ?_ _)); exact BK228.out⟩, ⟨by (try simp only [hl221003_60]); (with_reducible repeat (first | refine bN ?_ _ | refine bD ?_ | refine bA ?_ _)); exact BK256.out⟩, ⟨by repeat (first | (with_reducible first | exact HB.out | apply below_alloc | apply pw_below_drewN | apply below_drew1 | refine below_set ?_ GE198.out | refine below_set ?_ GE213.out | refine below_set ?_ GE220.out | refine below_set ?_ GE228.out | refine below_set ?_ GE256.out) | exact HB.out)⟩⟩
            ·replace c126 := Bool.eq_false_iff.mpr c126
             subst c126
             have H1 : (laws_FnExactRaiseLimit.j2 kj60 t240 true t221 t222 t223 t241) = some r := by rw [if_neg (show ¬ (false = true) by decide)] at H; exact H
             clear H
             have H := H1
             clear H1
             have H' := Aside0.mk H
             clear H
             have hnb137 := NB256_198.out
             have hnc137 := NB198_256.out
             have hnb138 := NB256_213.out
             have hnc138 := NB213_256.out
             have hnb139 := NB256_220.out
             have hnc139 := NB220_256.out
             have hnb140 := NB256_228.out
             have hnc140 := NB228_256.out
             obtain ⟨hcz141_0, hcz141_1, hcz141_2, hcz141_3⟩ := cz4 BK256
             obtain ⟨hfz141_0, hfz141_1, hfz141_2, hfz141_3⟩ := fz4 BK256
             have hnb142 := NB213_198.out
             have hnc142 := NB198_213.out
             have hnb143 := NB213_220.out
             have hnc143 := NB220_213.out
             have hnb144 := NB213_228.out
             have hnc144 := NB228_213.out
             obtain ⟨hcz145_0, hcz145_1, hcz145_2, hcz145_3⟩ := cz4 BK213
             obtain ⟨hfz145_0, hfz145_1, hfz145_2, hfz145_3⟩ := fz4 BK213
             go_wp2_with (first | ((with_reducible refine gate_callee (f := 40) rfl ?_); refine goesL_ (some 86) rfl rfl Try.func40 (by kernel_rfl) rfl #[.agg #[.int .i64 t249, .int .i64 t250, .int .i64 t251, .slice Ao124 t252.length co124], .agg #[.int .i64 t206, .int .i64 t207, .int .i64 t208, .slice Ao23 t209.length co23]] rfl (by (try simp only [List.map_toArray, List.map_cons, List.map_nil]); first | done | rfl | (simp only [List.length_drop, List.length_take]; rfl)) ?_; (with_reducible refine (laws_eqInflow.calls kj60 t249 t250 t251 _ _ t252 t206 t207 t208 _ _ t209 false _ ?side1 ?side2 ?side3 ?side4 A125.out).mono ?_); (case side1 => refine (Kd.R_reads' (e := 177) (base := w.heap.size) (ok := fun k_ => ((((True ∧ some k_ ≠ (.slice Ao23 t209.length co23 : Value).ownBlock) ∧ some k_ ≠ (.slice Ao30 t238.length co30 : Value).ownBlock) ∧ some k_ ≠ (.slice Ao37 t224.length co37 : Value).ownBlock) ∧ some k_ ≠ (.slice Ao116 t246.length co116 : Value).ownBlock)) (n := t252.length) (c := co124) ?_).2.2; exact (by (with_reducible repeat (first | apply Kd.R_alloc | apply Kd.R_drewN | apply Kd.R_drew)); exact (Kd.R_mono (Kd.R_far (p := ⟨gb256, 3, none⟩) (Kd.R_far (p := ⟨gb256, 2, none⟩) (Kd.R_far (p := ⟨gb256, 1, none⟩) (Kd.R_far (p := ⟨gb256, 0, none⟩) (Kd.R_types HO254.out BK256.out (by decide)) (fun _ hk => hk.2) (.int .i64 t249)) (fun _ hk => hk.2) (.int .i64 t250)) (fun _ hk => hk.2) (.int .i64 t251)) (fun _ hk => hk.2) (.slice Ao124 t252.length co124)) (fun _ h_ => h_.1)))); (case side2 => exact (Kd.R_reads' HO254.out).2.1); (case side3 => refine (Kd.R_reads' (e := 177) (base := w.heap.size) (ok := fun k_ => (((some k_ ≠ (.slice Ao30 t238.length co30 : Value).ownBlock ∧ some k_ ≠ (.slice Ao37 t224.length co37 : Value).ownBlock) ∧ some k_ ≠ (.slice Ao116 t246.length co116 : Value).ownBlock) ∧ some k_ ≠ (.slice Ao124 t252.length co124 : Value).ownBlock)) (n := t209.length) (c := co23) ?_).2.2; exact (by (with_reducible repeat (first | apply Kd.R_alloc | apply Kd.R_drewN | apply Kd.R_drew)); exact (Kd.R_mono (Kd.R_far (p := ⟨gb256, 3, none⟩) (Kd.R_far (p := ⟨gb256, 2, none⟩) (Kd.R_far (p := ⟨gb256, 1, none⟩) (Kd.R_far (p := ⟨gb256, 0, none⟩) (Kd.R_types HO_214003.out BK256.out (by decide)) (fun _ hk => hk.2) (.int .i64 t249)) (fun _ hk => hk.2) (.int .i64 t250)) (fun _ hk => hk.2) (.int .i64 t251)) (fun _ hk => hk.2) (.slice Ao124 t252.length co124)) (fun _ h_ => h_.1)))); (case side4 => exact (Kd.R_reads' HO_214003.out).2.1); rintro e w146 ⟨rfl, hb⟩; refine ⟨_, rfl, ?_⟩; have n0_ := Aside0.mk (Kd.R_below (by (with_reducible repeat (first | apply Kd.R_alloc | apply Kd.R_drewN | apply Kd.R_drew)); exact (Kd.R_mono (Kd.R_far (p := ⟨gb256, 3, none⟩) (Kd.R_far (p := ⟨gb256, 2, none⟩) (Kd.R_far (p := ⟨gb256, 1, none⟩) (Kd.R_far (p := ⟨gb256, 0, none⟩) (Kd.R_types HO_214003.out BK256.out (by decide)) (fun _ hk => hk.2) (.int .i64 t249)) (fun _ hk => hk.2) (.int .i64 t250)) (fun _ hk => hk.2) (.int .i64 t251)) (fun _ hk => hk.2) (.slice Ao124 t252.length co124)) (fun _ h_ => h_.1))) hb); have n1_ := Aside0.mk (Kd.R_below (by (with_reducible repeat (first | apply Kd.R_alloc | apply Kd.R_drewN | apply Kd.R_drew)); exact (Kd.R_mono (Kd.R_far (p := ⟨gb256, 3, none⟩) (Kd.R_far (p := ⟨gb256, 2, none⟩) (Kd.R_far (p := ⟨gb256, 1, none⟩) (Kd.R_far (p := ⟨gb256, 0, none⟩) (Kd.R_types HO_221003.out BK256.out (by decide)) (fun _ hk => hk.2) (.int .i64 t249)) (fun _ hk => hk.2) (.int .i64 t250)) (fun _ hk => hk.2) (.int .i64 t251)) (fun _ hk => hk.2) (.slice Ao124 t252.length co124)) (fun _ h_ => h_.1))) hb); have n2_ := Aside0.mk (Kd.R_below (by (with_reducible repeat (first | apply Kd.R_alloc | apply Kd.R_drewN | apply Kd.R_drew)); exact (Kd.R_mono (Kd.R_far (p := ⟨gb256, 3, none⟩) (Kd.R_far (p := ⟨gb256, 2, none⟩) (Kd.R_far (p := ⟨gb256, 1, none⟩) (Kd.R_far (p := ⟨gb256, 0, none⟩) (Kd.R_types HO_229003.out BK256.out (by decide)) (fun _ hk => hk.2) (.int .i64 t249)) (fun _ hk => hk.2) (.int .i64 t250)) (fun _ hk => hk.2) (.int .i64 t251)) (fun _ hk => hk.2) (.slice Ao124 t252.length co124)) (fun _ h_ => h_.1))) hb); have n3_ := Aside0.mk (Kd.R_below (by (with_reducible repeat (first | apply Kd.R_alloc | apply Kd.R_drewN | apply Kd.R_drew)); exact (Kd.R_mono (Kd.R_far (p := ⟨gb256, 3, none⟩) (Kd.R_far (p := ⟨gb256, 2, none⟩) (Kd.R_far (p := ⟨gb256, 1, none⟩) (Kd.R_far (p := ⟨gb256, 0, none⟩) (Kd.R_types HO248.out BK256.out (by decide)) (fun _ hk => hk.2) (.int .i64 t249)) (fun _ hk => hk.2) (.int .i64 t250)) (fun _ hk => hk.2) (.int .i64 t251)) (fun _ hk => hk.2) (.slice Ao124 t252.length co124)) (fun _ h_ => h_.1))) hb); have n4_ := Aside0.mk (Kd.R_below (by (with_reducible repeat (first | apply Kd.R_alloc | apply Kd.R_drewN | apply Kd.R_drew)); exact (Kd.R_mono (Kd.R_far (p := ⟨gb256, 3, none⟩) (Kd.R_far (p := ⟨gb256, 2, none⟩) (Kd.R_far (p := ⟨gb256, 1, none⟩) (Kd.R_far (p := ⟨gb256, 0, none⟩) (Kd.R_types HO254.out BK256.out (by decide)) (fun _ hk => hk.2) (.int .i64 t249)) (fun _ hk => hk.2) (.int .i64 t250)) (fun _ hk => hk.2) (.int .i64 t251)) (fun _ hk => hk.2) (.slice Ao124 t252.length co124)) (fun _ h_ => h_.1))) hb); have n5_ := Aside0.mk (blk_below (g := gb198) (o := .cells #[.int .i64 a0_0, .int .i64 a0_1, .int .i64 a0_2, .slice A0_3 l0_3.length c0_3] 57 (0, 0)) (by (with_reducible repeat (first | refine bN ?_ _ | refine bD ?_ | refine bA ?_ _)); refine blk_far ?_ NB198_256.out _; (with_reducible repeat (first | refine bN ?_ _ | refine bD ?_ | refine bA ?_ _)); refine blk_far ?_ NB198_256.out _; (with_reducible repeat (first | refine bN ?_ _ | refine bD ?_ | refine bA ?_ _)); refine blk_far ?_ NB198_256.out _; (with_reducible repeat (first | refine bN ?_ _ | refine bD ?_ | refine bA ?_ _)); refine blk_far ?_ NB198_256.out _; (with_reducible repeat (first | refine bN ?_ _ | refine bD ?_ | refine bA ?_ _)); exact BK198.out) hb); have n6_ := Aside0.mk (blk_below (g := gb213) (o := .cells #[.int .i64 t206, .int .i64 t207, .int .i64 t208, .slice Ao23 t209.length co23] 61 (0, 0)) (by (with_reducible repeat (first | refine bN ?_ _ | refine bD ?_ | refine bA ?_ _)); refine blk_far ?_ NB213_256.out _; (with_reducible repeat (first | refine bN ?_ _ | refine bD ?_ | refine bA ?_ _)); refine blk_far ?_ NB213_256.out _; (with_reducible repeat (first | refine bN ?_ _ | refine bD ?_ | refine bA ?_ _)); refine blk_far ?_ NB213_256.out _; (with_reducible repeat (first | refine bN ?_ _ | refine bD ?_ | refine bA ?_ _)); refine blk_far ?_ NB213_256.out _; (with_reducible repeat (first | refine bN ?_ _ | refine bD ?_ | refine bA ?_ _)); exact BK213.out) hb); have n7_ := Aside0.mk (blk_below (g := gb220) (o := .cells #[.int .i64 t214, .int .i64 t215, .int .i64 t216, .slice Ao30 t238.length co30] 61 (0, 0)) (by (with_reducible repeat (first | refine bN ?_ _ | refine bD ?_ | refine bA ?_ _)); refine blk_far ?_ NB220_256.out _; (with_reducible repeat (first | refine bN ?_ _ | refine bD ?_ | refine bA ?_ _)); refine blk_far ?_ NB220_256.out _; (with_reducible repeat (first | refine bN ?_ _ | refine bD ?_ | refine bA ?_ _)); refine blk_far ?_ NB220_256.out _; (with_reducible repeat (first | refine bN ?_ _ | refine bD ?_ | refine bA ?_ _)); refine blk_far ?_ NB220_256.out _; (with_reducible repeat (first | refine bN ?_ _ | refine bD ?_ | refine bA ?_ _)); exact BK220.out) hb); have n8_ := Aside0.mk (blk_below (g := gb228) (o := .cells #[.int .i64 t221, .int .i64 t222, .int .i64 t223, .slice Ao37 t224.length co37] 61 (0, 0)) (by (with_reducible repeat (first | refine bN ?_ _ | refine bD ?_ | refine bA ?_ _)); refine blk_far ?_ NB228_256.out _; (with_reducible repeat (first | refine bN ?_ _ | refine bD ?_ | refine bA ?_ _)); refine blk_far ?_ NB228_256.out _; (with_reducible repeat (first | refine bN ?_ _ | refine bD ?_ | refine bA ?_ _)); refine blk_far ?_ NB228_256.out _; (with_reducible repeat (first | refine bN ?_ _ | refine bD ?_ | refine bA ?_ _)); refine blk_far ?_ NB228_256.out _; (with_reducible repeat (first | refine bN ?_ _ | refine bD ?_ | refine bA ?_ _)); exact BK228.out) hb); have n9_ := Aside0.mk (blk_below (g := gb256) (o := .cells #[.int .i64 t249, .int .i64 t250, .int .i64 t251, .slice Ao124 t252.length co124] 61 (0, 0)) (by (with_reducible repeat (first | refine bN ?_ _ | refine bD ?_ | refine bA ?_ _)); refine blk_put (cs := #[.int .i64 t249, .int .i64 t250, .int .i64 t251, .slice none 0 0]) ?_ 3 _ rfl; (with_reducible repeat (first | refine bN ?_ _ | refine bD ?_ | refine bA ?_ _)); refine blk_put (cs := #[.int .i64 t249, .int .i64 t250, .int .i64 0, .slice none 0 0]) ?_ 2 _ rfl; (with_reducible repeat (first | refine bN ?_ _ | refine bD ?_ | refine bA ?_ _)); refine blk_put (cs := #[.int .i64 t249, .int .i64 0, .int .i64 0, .slice none 0 0]) ?_ 1 _ rfl; (with_reducible repeat (first | refine bN ?_ _ | refine bD ?_ | refine bA ?_ _)); refine blk_put (cs := #[.int .i64 0, .int .i64 0, .int .i64 0, .slice none 0 0]) ?_ 0 _ rfl; (with_reducible repeat (first | refine bN ?_ _ | refine bD ?_ | refine bA ?_ _)); exact BK256.out) hb); have n10_ := Aside0.mk (below_step (by repeat (first | (with_reducible first | exact HB.out | apply below_alloc | apply pw_below_drewN | apply below_drew1 | refine below_set ?_ GE198.out | refine below_set ?_ GE213.out | refine below_set ?_ GE220.out | refine below_set ?_ GE228.out | refine below_set ?_ GE256.out) | exact HB.out)) hb); clear HO_214003; clear HO_221003; clear HO_229003; clear HO248; clear HO254; clear BK198; clear BK213; clear BK220; clear BK228; clear BK256; clear HB; have HO_214003 := n0_; have HO_221003 := n1_; have HO_229003 := n2_; have HO248 := n3_; have HO254 := n4_; have BK198 := n5_; have BK213 := n6_; have BK220 := n7_; have BK228 := n8_; have BK256 := n9_; have HB := n10_; clear n0_ n1_ n2_ n3_ n4_ n5_ n6_ n7_ n8_ n9_ n10_; (try clear hb); (try clear hb2); (try clear hk); (try clear hi)))
             go_meet
             case rel => exact ⟨_, (true), (by first | rfl | (simp; done) | (simp [*]; done)), H', ⟨by have := HJ11.out; have := HJ60.out; first | omega | exact Nat.le_refl _⟩, ⟨by (try simp only [hl221003_60]); (with_reducible repeat (first | apply Kd.R_alloc | apply Kd.R_drewN | apply Kd.R_drew)); exact Kd.R_mono HO_214003.out (fun _ hk => ⟨hk.1.1.1, ⟨hk.1.1.2, hk.2⟩⟩)⟩, ⟨by (try simp only [hl221003_60]); (with_reducible repeat (first | apply Kd.R_alloc | apply Kd.R_drewN | apply Kd.R_drew)); exact Kd.R_mono HO_221003.out (fun _ hk => ⟨hk.1.1.1, ⟨hk.1.1.2, hk.2⟩⟩)⟩, ⟨by (try simp only [hl221003_60]); (with_reducible repeat (first | apply Kd.R_alloc | apply Kd.R_drewN | apply Kd.R_drew)); exact Kd.R_mono HO_229003.out (fun _ hk => ⟨hk.1.1.1, ⟨hk.1.1.2, hk.2⟩⟩)⟩, ⟨by (try simp only [hl221003_60]); (with_reducible repeat (first | apply Kd.R_alloc | apply Kd.R_drewN | apply Kd.R_drew)); exact Kd.R_mono HO254.out (fun _ hk => ⟨hk.1.1.1.2, ⟨hk.1.1.2, hk.1.2⟩⟩)⟩, ⟨by (try simp only [hl221003_60]); (with_reducible repeat (first | refine bN ?_ _ | refine bD ?_ | refine bA ?_ _)); exact BK198.out⟩, ⟨by (try simp only [hl221003_60]); (with_reducible repeat (first | refine bN ?_ _ | refine bD ?_ | refine bA ?_ _)); exact BK213.out⟩, ⟨by (try simp only [hl221003_60]); (with_reducible repeat (first | refine bN ?_ _ | refine bD ?_ | refine bA ?_ _)); exact BK220.out⟩, ⟨by (try simp only [hl221003_60]); (with_reducible repeat (first | refine bN ?_ _ | refine bD ?_ | refine bA ?_ _)); exact BK228.out⟩, ⟨by (try simp only [hl221003_60]); (with_reducible repeat (first | refine bN ?_ _ | refine bD ?_ | refine bA ?_ _)); exact BK256.out⟩, ⟨by repeat (first | (with_reducible first | exact HB.out | apply below_alloc | apply pw_below_drewN | apply below_drew1 | refine below_set ?_ GE198.out | refine below_set ?_ GE213.out | refine below_set ?_ GE220.out | refine below_set ?_ GE228.out | refine below_set ?_ GE256.out) | exact HB.out)⟩⟩
           case rest =>
            clear HC104
            try clear c1
            try clear c2
            try clear p2
            try clear c3
            try clear c4
            try clear c4b0
            try clear c5
            try clear c6
            try clear c7
            try clear c8
            try clear c9
            try clear c10
            try clear c11
            try clear c12
            try clear c13
            try clear c14
            try clear c21
            try clear c27
            try clear c28
            try clear c33
            try clear c34
            try clear c35
            try clear c36
            try clear c37
            try clear c38
            try clear c39
            try clear c40
            try clear c41
            try clear c42
            try clear c44
            try clear c45
            try clear c48
            try clear c49
            try clear c50
            try clear c52
            try clear c53
            try clear c56
            try clear c59
            try clear c66
            try clear c67
            try clear c68
            try clear c71
            try clear c71b0
            try clear c73
            try clear c74
            try clear c75
            try clear c76
            try clear c78
            try clear c79
            try clear c82
            try clear c83
            try clear c84
            try clear c86
            try clear c87
            try clear c90
            try clear c93
            try clear c93b0
            try clear c94
            try clear c95
            try clear c96
            try clear c101
            try clear c101b0
            try clear c101b1
            try clear c105
            try clear c106
            try clear c107
            try clear c112
            try clear c113
            try clear c119
            try clear c120
            try clear c121
            try clear c122
            try clear c126
            try clear c127
            try clear c128
            try clear c129
            try clear c130
            try clear c132
            try clear c133
            try clear c134
            try clear c137
            try clear c138
            try clear c139
            try clear c140
            try clear c142
            try clear c143
            try clear c144
            try clear hcz108_0
            try clear hcz108_1
            try clear hcz108_2
            try clear hcz108_3
            try clear hcz110_0
            try clear hcz110_1
            try clear hcz110_2
            try clear hcz110_3
            try clear hcz114_0
            try clear hcz114_1
            try clear hcz114_2
            try clear hcz114_3
            try clear hcz123_0
            try clear hcz123_1
            try clear hcz123_2
            try clear hcz123_3
            try clear hcz131_0
            try clear hcz131_1
            try clear hcz131_2
            try clear hcz131_3
            try clear hcz135_0
            try clear hcz135_1
            try clear hcz135_2
            try clear hcz135_3
            try clear hcz141_0
            try clear hcz141_1
            try clear hcz141_2
            try clear hcz141_3
            try clear hcz145_0
            try clear hcz145_1
            try clear hcz145_2
            try clear hcz145_3
            try clear hcz14_0
            try clear hcz14_1
            try clear hcz14_2
            try clear hcz14_3
            try clear hcz16_0
            try clear hcz16_1
            try clear hcz16_2
            try clear hcz16_3
            try clear hcz22_0
            try clear hcz22_1
            try clear hcz22_2
            try clear hcz22_3
            try clear hcz24_0
            try clear hcz24_1
            try clear hcz24_2
            try clear hcz24_3
            try clear hcz29_0
            try clear hcz29_1
            try clear hcz29_2
            try clear hcz29_3
            try clear hcz36_0
            try clear hcz36_1
            try clear hcz36_2
            try clear hcz36_3
            try clear hcz43_0
            try clear hcz43_1
            try clear hcz43_2
            try clear hcz43_3
            try clear hcz46_0
            try clear hcz46_1
            try clear hcz46_2
            try clear hcz46_3
            try clear hcz51_0
            try clear hcz51_1
            try clear hcz51_2
            try clear hcz51_3
            try clear hcz54_0
            try clear hcz54_1
            try clear hcz54_2
            try clear hcz54_3
            try clear hcz69_0
            try clear hcz69_1
            try clear hcz69_2
            try clear hcz69_3
            try clear hcz6_0
            try clear hcz6_1
            try clear hcz6_2
            try clear hcz6_3
            try clear hcz77_0
            try clear hcz77_1
            try clear hcz77_2
            try clear hcz77_3
            try clear hcz80_0
            try clear hcz80_1
            try clear hcz80_2
            try clear hcz80_3
            try clear hcz85_0
            try clear hcz85_1
            try clear hcz85_2
            try clear hcz85_3
            try clear hcz88_0
            try clear hcz88_1
            try clear hcz88_2
            try clear hcz88_3
            try clear hcz97_0
            try clear hcz97_1
            try clear hcz97_2
            try clear hcz97_3
            try clear hcz99_0
            try clear hcz99_1
            try clear hcz99_2
            try clear hcz99_3
            try clear hfz108_0
            try clear hfz108_1
            try clear hfz108_2
            try clear hfz108_3
            try clear hfz110_0
            try clear hfz110_1
            try clear hfz110_2
            try clear hfz110_3
            try clear hfz114_0
            try clear hfz114_1
            try clear hfz114_2
            try clear hfz114_3
            try clear hfz123_0
            try clear hfz123_1
            try clear hfz123_2
            try clear hfz123_3
            try clear hfz131_0
            try clear hfz131_1
            try clear hfz131_2
            try clear hfz131_3
            try clear hfz135_0
            try clear hfz135_1
            try clear hfz135_2
            try clear hfz135_3
            try clear hfz141_0
            try clear hfz141_1
            try clear hfz141_2
            try clear hfz141_3
            try clear hfz145_0
            try clear hfz145_1
            try clear hfz145_2
            try clear hfz145_3
            try clear hfz14_0
            try clear hfz14_1
            try clear hfz14_2
            try clear hfz14_3
            try clear hfz16_0
            try clear hfz16_1
            try clear hfz16_2
            try clear hfz16_3
            try clear hfz22_0
            try clear hfz22_1
            try clear hfz22_2
            try clear hfz22_3
            try clear hfz24_0
            try clear hfz24_1
            try clear hfz24_2
            try clear hfz24_3
            try clear hfz29_0
            try clear hfz29_1
            try clear hfz29_2
            try clear hfz29_3
            try clear hfz36_0
            try clear hfz36_1
            try clear hfz36_2
            try clear hfz36_3
            try clear hfz43_0
            try clear hfz43_1
            try clear hfz43_2
            try clear hfz43_3
            try clear hfz46_0
            try clear hfz46_1
            try clear hfz46_2
            try clear hfz46_3
            try clear hfz51_0
            try clear hfz51_1
            try clear hfz51_2
            try clear hfz51_3
            try clear hfz54_0
            try clear hfz54_1
            try clear hfz54_2
            try clear hfz54_3
            try clear hfz69_0
            try clear hfz69_1
            try clear hfz69_2
            try clear hfz69_3
            try clear hfz6_0
            try clear hfz6_1
            try clear hfz6_2
            try clear hfz6_3
            try clear hfz77_0
            try clear hfz77_1
            try clear hfz77_2
            try clear hfz77_3
            try clear hfz80_0
            try clear hfz80_1
            try clear hfz80_2
            try clear hfz80_3
            try clear hfz85_0
            try clear hfz85_1
            try clear hfz85_2
            try clear hfz85_3
            try clear hfz88_0
            try clear hfz88_1
            try clear hfz88_2
            try clear hfz88_3
            try clear hfz97_0
            try clear hfz97_1
            try clear hfz97_2
            try clear hfz97_3
            try clear hfz99_0
            try clear hfz99_1
            try clear hfz99_2
            try clear hfz99_3
            try clear p2
            obtain ⟨kq, x92_103, rfl, HA, HJ103, HO_214003, HO_221003, HO_229003, HO_257003, BK198, BK213, BK220, BK228, BK256, HB⟩ := hcut
            have hl229003_103 := (Kd.R_reads' HO_229003.out).1
            rw [hl229003_103] at HO_229003
            (try simp only [hl229003_103])
            (try simp only [hl229003_103] at BK198)
            (try simp only [hl229003_103] at BK213)
            (try simp only [hl229003_103] at BK220)
            (try simp only [hl229003_103] at BK228)
            (try simp only [hl229003_103] at BK256)
            (try simp only [hl229003_103] at HO_214003)
            (try simp only [hl229003_103] at HO_221003)
            (try simp only [hl229003_103] at HO_257003)
            cases kq with
            | zero => exact absurd HA.out (by simp [laws_FnExactRaiseLimit.j2])
            | succ kj103 =>
             have H := HA.out
             clear HA
             simp only [laws_FnExactRaiseLimit.j2] at H
             by_cases c147 : x92_103 = true
             ·subst c147
              have H1 : (some false) = some r := by rw [if_pos rfl] at H; exact H
              clear H
              have H := H1
              clear H1
              obtain rfl := Option.some.inj H
              go_wp2
              go_ret
              exact ⟨by first | rfl | (simp [errW_none, errW_some] <;> rfl) | (simp [*, errW_none, errW_some] <;> rfl), by repeat (first | (with_reducible first | exact HB.out | apply below_alloc | apply pw_below_drewN | apply below_drew1 | refine below_set ?_ GE198.out | refine below_set ?_ GE213.out | refine below_set ?_ GE220.out | refine below_set ?_ GE228.out | refine below_set ?_ GE256.out) | exact HB.out)⟩
             ·replace c147 := Bool.eq_false_iff.mpr c147
              subst c147
              have H1 : ((laws_heldInflow.f kj103 t221 t222 t223 t241 1).bind fun t258 => (if t258 < 0 then (some false) else (if t258 = t240 then (some true) else (some false)))) = some r := by rw [if_neg (show ¬ (false = true) by decide)] at H; exact H
              clear H
              have H := H1
              clear H1
              replace H := Option.bind_eq_some_iff.mp H
              obtain ⟨t258, A1480, H⟩ := H
              replace H : (if t258 < 0 then (some false) else (if t258 = t240 then (some true) else (some false))) = some r := H
              have A148 := Aside0.mk A1480
              clear A1480
              by_cases c149 : t258 < 0
              ·rw [if_pos c149] at H
               have c149b0 : decide (t258 < 0) = true := decide_eq_true c149
               clear c149
               obtain rfl := Option.some.inj H
               have hnb150 := NB228_198.out
               have hnc150 := NB198_228.out
               have hnb151 := NB228_213.out
               have hnc151 := NB213_228.out
               have hnb152 := NB228_220.out
               have hnc152 := NB220_228.out
               have hnb153 := NB228_256.out
               have hnc153 := NB256_228.out
               obtain ⟨hcz154_0, hcz154_1, hcz154_2, hcz154_3⟩ := cz4 BK228
               obtain ⟨hfz154_0, hfz154_1, hfz154_2, hfz154_3⟩ := fz4 BK228
               go_wp2_with (first | ((with_reducible refine gate_callee (f := 42) rfl ?_); refine goesL_ (some 95) rfl rfl Try.func42 (by kernel_rfl) rfl #[.agg #[.int .i64 t221, .int .i64 t222, .int .i64 t223, .slice Ao37 t241.length co37], .int .i64 1] rfl (by (try simp only [List.map_toArray, List.map_cons, List.map_nil]); first | done | rfl | (simp only [List.length_drop, List.length_take]; rfl)) ?_; (with_reducible refine (laws_heldInflow.calls kj103 t221 t222 t223 _ _ t241 1 t258 _ ?side1 ?side2 A148.out).mono ?_); (case side1 => repeat (first | exact (Kd.R_reads' HO_229003.out).2.2 | (with_reducible refine Kd.C_alloc ?_ _) | (with_reducible refine Kd.C_drewN ?_ _) | (with_reducible refine Kd.C_drew ?_))); (case side2 => exact (Kd.R_reads' HO_229003.out).2.1); rintro e w155 ⟨rfl, hb⟩; refine ⟨_, rfl, ?_⟩; have n0_ := Aside0.mk (Kd.R_below (by (with_reducible repeat (first | apply Kd.R_alloc | apply Kd.R_drewN | apply Kd.R_drew)); exact HO_214003.out) hb); have n1_ := Aside0.mk (Kd.R_below (by (with_reducible repeat (first | apply Kd.R_alloc | apply Kd.R_drewN | apply Kd.R_drew)); exact HO_221003.out) hb); have n2_ := Aside0.mk (Kd.R_below (by (with_reducible repeat (first | apply Kd.R_alloc | apply Kd.R_drewN | apply Kd.R_drew)); exact HO_229003.out) hb); have n3_ := Aside0.mk (Kd.R_below (by (with_reducible repeat (first | apply Kd.R_alloc | apply Kd.R_drewN | apply Kd.R_drew)); exact HO_257003.out) hb); have n4_ := Aside0.mk (blk_below (g := gb198) (o := .cells #[.int .i64 a0_0, .int .i64 a0_1, .int .i64 a0_2, .slice A0_3 l0_3.length c0_3] 57 (0, 0)) (by (with_reducible repeat (first | refine bN ?_ _ | refine bD ?_ | refine bA ?_ _)); exact BK198.out) hb); have n5_ := Aside0.mk (blk_below (g := gb213) (o := .cells #[.int .i64 t206, .int .i64 t207, .int .i64 t208, .slice Ao23 t209.length co23] 61 (0, 0)) (by (with_reducible repeat (first | refine bN ?_ _ | refine bD ?_ | refine bA ?_ _)); exact BK213.out) hb); have n6_ := Aside0.mk (blk_below (g := gb220) (o := .cells #[.int .i64 t214, .int .i64 t215, .int .i64 t216, .slice Ao30 t238.length co30] 61 (0, 0)) (by (with_reducible repeat (first | refine bN ?_ _ | refine bD ?_ | refine bA ?_ _)); exact BK220.out) hb); have n7_ := Aside0.mk (blk_below (g := gb228) (o := .cells #[.int .i64 t221, .int .i64 t222, .int .i64 t223, .slice Ao37 t241.length co37] 61 (0, 0)) (by (with_reducible repeat (first | refine bN ?_ _ | refine bD ?_ | refine bA ?_ _)); exact BK228.out) hb); have n8_ := Aside0.mk (blk_below (g := gb256) (o := .cells #[.int .i64 t249, .int .i64 t250, .int .i64 t251, .slice Ao124 t252.length co124] 61 (0, 0)) (by (with_reducible repeat (first | refine bN ?_ _ | refine bD ?_ | refine bA ?_ _)); exact BK256.out) hb); have n9_ := Aside0.mk (below_step (by repeat (first | (with_reducible first | exact HB.out | apply below_alloc | apply pw_below_drewN | apply below_drew1 | refine below_set ?_ GE198.out | refine below_set ?_ GE213.out | refine below_set ?_ GE220.out | refine below_set ?_ GE228.out | refine below_set ?_ GE256.out) | exact HB.out)) hb); clear HO_214003; clear HO_221003; clear HO_229003; clear HO_257003; clear BK198; clear BK213; clear BK220; clear BK228; clear BK256; clear HB; have HO_214003 := n0_; have HO_221003 := n1_; have HO_229003 := n2_; have HO_257003 := n3_; have BK198 := n4_; have BK213 := n5_; have BK220 := n6_; have BK228 := n7_; have BK256 := n8_; have HB := n9_; clear n0_ n1_ n2_ n3_ n4_ n5_ n6_ n7_ n8_ n9_; (try clear hb); (try clear hb2); (try clear hk); (try clear hi)))
               go_ret
               exact ⟨by first | rfl | (simp [errW_none, errW_some] <;> rfl) | (simp [*, errW_none, errW_some] <;> rfl), by repeat (first | (with_reducible first | exact HB.out | apply below_alloc | apply pw_below_drewN | apply below_drew1 | refine below_set ?_ GE198.out | refine below_set ?_ GE213.out | refine below_set ?_ GE220.out | refine below_set ?_ GE228.out | refine below_set ?_ GE256.out) | exact HB.out)⟩
              ·rw [if_neg c149] at H
               have c149b0 : decide (t258 < 0) = false := decide_eq_false c149
               clear c149
               by_cases c156 : t258 = t240
               ·rw [if_pos c156] at H
                have c156b0 : (t258 == t240) = true := beq_iff_eq.mpr c156
                have c156b1 : (t258 != t240) = false := bne_eq_false_iff_eq.mpr c156
                clear c156
                obtain rfl := Option.some.inj H
                have hnb157 := NB228_198.out
                have hnc157 := NB198_228.out
                have hnb158 := NB228_213.out
                have hnc158 := NB213_228.out
                have hnb159 := NB228_220.out
                have hnc159 := NB220_228.out
                have hnb160 := NB228_256.out
                have hnc160 := NB256_228.out
                obtain ⟨hcz161_0, hcz161_1, hcz161_2, hcz161_3⟩ := cz4 BK228
                obtain ⟨hfz161_0, hfz161_1, hfz161_2, hfz161_3⟩ := fz4 BK228
                go_wp2_with (first | ((with_reducible refine gate_callee (f := 42) rfl ?_); refine goesL_ (some 95) rfl rfl Try.func42 (by kernel_rfl) rfl #[.agg #[.int .i64 t221, .int .i64 t222, .int .i64 t223, .slice Ao37 t241.length co37], .int .i64 1] rfl (by (try simp only [List.map_toArray, List.map_cons, List.map_nil]); first | done | rfl | (simp only [List.length_drop, List.length_take]; rfl)) ?_; (with_reducible refine (laws_heldInflow.calls kj103 t221 t222 t223 _ _ t241 1 t258 _ ?side1 ?side2 A148.out).mono ?_); (case side1 => repeat (first | exact (Kd.R_reads' HO_229003.out).2.2 | (with_reducible refine Kd.C_alloc ?_ _) | (with_reducible refine Kd.C_drewN ?_ _) | (with_reducible refine Kd.C_drew ?_))); (case side2 => exact (Kd.R_reads' HO_229003.out).2.1); rintro e w162 ⟨rfl, hb⟩; refine ⟨_, rfl, ?_⟩; have n0_ := Aside0.mk (Kd.R_below (by (with_reducible repeat (first | apply Kd.R_alloc | apply Kd.R_drewN | apply Kd.R_drew)); exact HO_214003.out) hb); have n1_ := Aside0.mk (Kd.R_below (by (with_reducible repeat (first | apply Kd.R_alloc | apply Kd.R_drewN | apply Kd.R_drew)); exact HO_221003.out) hb); have n2_ := Aside0.mk (Kd.R_below (by (with_reducible repeat (first | apply Kd.R_alloc | apply Kd.R_drewN | apply Kd.R_drew)); exact HO_229003.out) hb); have n3_ := Aside0.mk (Kd.R_below (by (with_reducible repeat (first | apply Kd.R_alloc | apply Kd.R_drewN | apply Kd.R_drew)); exact HO_257003.out) hb); have n4_ := Aside0.mk (blk_below (g := gb198) (o := .cells #[.int .i64 a0_0, .int .i64 a0_1, .int .i64 a0_2, .slice A0_3 l0_3.length c0_3] 57 (0, 0)) (by (with_reducible repeat (first | refine bN ?_ _ | refine bD ?_ | refine bA ?_ _)); exact BK198.out) hb); have n5_ := Aside0.mk (blk_below (g := gb213) (o := .cells #[.int .i64 t206, .int .i64 t207, .int .i64 t208, .slice Ao23 t209.length co23] 61 (0, 0)) (by (with_reducible repeat (first | refine bN ?_ _ | refine bD ?_ | refine bA ?_ _)); exact BK213.out) hb); have n6_ := Aside0.mk (blk_below (g := gb220) (o := .cells #[.int .i64 t214, .int .i64 t215, .int .i64 t216, .slice Ao30 t238.length co30] 61 (0, 0)) (by (with_reducible repeat (first | refine bN ?_ _ | refine bD ?_ | refine bA ?_ _)); exact BK220.out) hb); have n7_ := Aside0.mk (blk_below (g := gb228) (o := .cells #[.int .i64 t221, .int .i64 t222, .int .i64 t223, .slice Ao37 t241.length co37] 61 (0, 0)) (by (with_reducible repeat (first | refine bN ?_ _ | refine bD ?_ | refine bA ?_ _)); exact BK228.out) hb); have n8_ := Aside0.mk (blk_below (g := gb256) (o := .cells #[.int .i64 t249, .int .i64 t250, .int .i64 t251, .slice Ao124 t252.length co124] 61 (0, 0)) (by (with_reducible repeat (first | refine bN ?_ _ | refine bD ?_ | refine bA ?_ _)); exact BK256.out) hb); have n9_ := Aside0.mk (below_step (by repeat (first | (with_reducible first | exact HB.out | apply below_alloc | apply pw_below_drewN | apply below_drew1 | refine below_set ?_ GE198.out | refine below_set ?_ GE213.out | refine below_set ?_ GE220.out | refine below_set ?_ GE228.out | refine below_set ?_ GE256.out) | exact HB.out)) hb); clear HO_214003; clear HO_221003; clear HO_229003; clear HO_257003; clear BK198; clear BK213; clear BK220; clear BK228; clear BK256; clear HB; have HO_214003 := n0_; have HO_221003 := n1_; have HO_229003 := n2_; have HO_257003 := n3_; have BK198 := n4_; have BK213 := n5_; have BK220 := n6_; have BK228 := n7_; have BK256 := n8_; have HB := n9_; clear n0_ n1_ n2_ n3_ n4_ n5_ n6_ n7_ n8_ n9_; (try clear hb); (try clear hb2); (try clear hk); (try clear hi)))
                go_ret
                exact ⟨by first | rfl | (simp [errW_none, errW_some] <;> rfl) | (simp [*, errW_none, errW_some] <;> rfl), by repeat (first | (with_reducible first | exact HB.out | apply below_alloc | apply pw_below_drewN | apply below_drew1 | refine below_set ?_ GE198.out | refine below_set ?_ GE213.out | refine below_set ?_ GE220.out | refine below_set ?_ GE228.out | refine below_set ?_ GE256.out) | exact HB.out)⟩
               ·rw [if_neg c156] at H
                have c156b0 : (t258 == t240) = false := beq_eq_false_iff_ne.mpr c156
                have c156b1 : (t258 != t240) = true := bne_iff_ne.mpr c156
                obtain rfl := Option.some.inj H
                have hnb163 := NB228_198.out
                have hnc163 := NB198_228.out
                have hnb164 := NB228_213.out
                have hnc164 := NB213_228.out
                have hnb165 := NB228_220.out
                have hnc165 := NB220_228.out
                have hnb166 := NB228_256.out
                have hnc166 := NB256_228.out
                obtain ⟨hcz167_0, hcz167_1, hcz167_2, hcz167_3⟩ := cz4 BK228
                obtain ⟨hfz167_0, hfz167_1, hfz167_2, hfz167_3⟩ := fz4 BK228
                go_wp2_with (first | ((with_reducible refine gate_callee (f := 42) rfl ?_); refine goesL_ (some 95) rfl rfl Try.func42 (by kernel_rfl) rfl #[.agg #[.int .i64 t221, .int .i64 t222, .int .i64 t223, .slice Ao37 t241.length co37], .int .i64 1] rfl (by (try simp only [List.map_toArray, List.map_cons, List.map_nil]); first | done | rfl | (simp only [List.length_drop, List.length_take]; rfl)) ?_; (with_reducible refine (laws_heldInflow.calls kj103 t221 t222 t223 _ _ t241 1 t258 _ ?side1 ?side2 A148.out).mono ?_); (case side1 => repeat (first | exact (Kd.R_reads' HO_229003.out).2.2 | (with_reducible refine Kd.C_alloc ?_ _) | (with_reducible refine Kd.C_drewN ?_ _) | (with_reducible refine Kd.C_drew ?_))); (case side2 => exact (Kd.R_reads' HO_229003.out).2.1); rintro e w168 ⟨rfl, hb⟩; refine ⟨_, rfl, ?_⟩; have n0_ := Aside0.mk (Kd.R_below (by (with_reducible repeat (first | apply Kd.R_alloc | apply Kd.R_drewN | apply Kd.R_drew)); exact HO_214003.out) hb); have n1_ := Aside0.mk (Kd.R_below (by (with_reducible repeat (first | apply Kd.R_alloc | apply Kd.R_drewN | apply Kd.R_drew)); exact HO_221003.out) hb); have n2_ := Aside0.mk (Kd.R_below (by (with_reducible repeat (first | apply Kd.R_alloc | apply Kd.R_drewN | apply Kd.R_drew)); exact HO_229003.out) hb); have n3_ := Aside0.mk (Kd.R_below (by (with_reducible repeat (first | apply Kd.R_alloc | apply Kd.R_drewN | apply Kd.R_drew)); exact HO_257003.out) hb); have n4_ := Aside0.mk (blk_below (g := gb198) (o := .cells #[.int .i64 a0_0, .int .i64 a0_1, .int .i64 a0_2, .slice A0_3 l0_3.length c0_3] 57 (0, 0)) (by (with_reducible repeat (first | refine bN ?_ _ | refine bD ?_ | refine bA ?_ _)); exact BK198.out) hb); have n5_ := Aside0.mk (blk_below (g := gb213) (o := .cells #[.int .i64 t206, .int .i64 t207, .int .i64 t208, .slice Ao23 t209.length co23] 61 (0, 0)) (by (with_reducible repeat (first | refine bN ?_ _ | refine bD ?_ | refine bA ?_ _)); exact BK213.out) hb); have n6_ := Aside0.mk (blk_below (g := gb220) (o := .cells #[.int .i64 t214, .int .i64 t215, .int .i64 t216, .slice Ao30 t238.length co30] 61 (0, 0)) (by (with_reducible repeat (first | refine bN ?_ _ | refine bD ?_ | refine bA ?_ _)); exact BK220.out) hb); have n7_ := Aside0.mk (blk_below (g := gb228) (o := .cells #[.int .i64 t221, .int .i64 t222, .int .i64 t223, .slice Ao37 t241.length co37] 61 (0, 0)) (by (with_reducible repeat (first | refine bN ?_ _ | refine bD ?_ | refine bA ?_ _)); exact BK228.out) hb); have n8_ := Aside0.mk (blk_below (g := gb256) (o := .cells #[.int .i64 t249, .int .i64 t250, .int .i64 t251, .slice Ao124 t252.length co124] 61 (0, 0)) (by (with_reducible repeat (first | refine bN ?_ _ | refine bD ?_ | refine bA ?_ _)); exact BK256.out) hb); have n9_ := Aside0.mk (below_step (by repeat (first | (with_reducible first | exact HB.out | apply below_alloc | apply pw_below_drewN | apply below_drew1 | refine below_set ?_ GE198.out | refine below_set ?_ GE213.out | refine below_set ?_ GE220.out | refine below_set ?_ GE228.out | refine below_set ?_ GE256.out) | exact HB.out)) hb); clear HO_214003; clear HO_221003; clear HO_229003; clear HO_257003; clear BK198; clear BK213; clear BK220; clear BK228; clear BK256; clear HB; have HO_214003 := n0_; have HO_221003 := n1_; have HO_229003 := n2_; have HO_257003 := n3_; have BK198 := n4_; have BK213 := n5_; have BK220 := n6_; have BK228 := n7_; have BK256 := n8_; have HB := n9_; clear n0_ n1_ n2_ n3_ n4_ n5_ n6_ n7_ n8_ n9_; (try clear hb); (try clear hb2); (try clear hk); (try clear hi)))
                go_ret
                exact ⟨by first | rfl | (simp [errW_none, errW_some] <;> rfl) | (simp [*, errW_none, errW_some] <;> rfl), by repeat (first | (with_reducible first | exact HB.out | apply below_alloc | apply pw_below_drewN | apply below_drew1 | refine below_set ?_ GE198.out | refine below_set ?_ GE213.out | refine below_set ?_ GE220.out | refine below_set ?_ GE228.out | refine below_set ?_ GE256.out) | exact HB.out)⟩
          ·rw [if_neg c101] at H
           have c101b0 : (t242 == t240) = false := beq_eq_false_iff_ne.mpr c101
           have c101b1 : (t242 != t240) = true := bne_iff_ne.mpr c101
           obtain rfl := Option.some.inj H
           have hnb169 := NB228_198.out
           have hnc169 := NB198_228.out
           have hnb170 := NB228_213.out
           have hnc170 := NB213_228.out
           have hnb171 := NB228_220.out
           have hnc171 := NB220_228.out
           obtain ⟨hcz172_0, hcz172_1, hcz172_2, hcz172_3⟩ := cz4 BK228
           obtain ⟨hfz172_0, hfz172_1, hfz172_2, hfz172_3⟩ := fz4 BK228
           go_wp2_with (first | ((with_reducible refine gate_callee (f := 41) rfl ?_); refine goesL_ (some 68) rfl rfl Try.func41 (by kernel_rfl) rfl #[.agg #[.int .i64 t221, .int .i64 t222, .int .i64 t223, .slice Ao37 t224.length co37], .int .i64 1] rfl (by (try simp only [List.map_toArray, List.map_cons, List.map_nil]); first | done | rfl | (simp only [List.length_drop, List.length_take]; rfl)) ?_; (with_reducible refine (laws_markInflow.calls kj60 t221 t222 t223 (fun k_ => some k_ = (.slice Ao37 t224.length co37 : Value).ownBlock) (.slice Ao37 t224.length co37) t224 1 t240 t241 w _ ?side1 ?side2 A91.out).mono ?_); (case side1 => repeat (first | (with_reducible first | exact HB.out | apply below_alloc | apply pw_below_drewN | apply below_drew1 | refine below_set ?_ GE198.out | refine below_set ?_ GE213.out | refine below_set ?_ GE220.out | refine below_set ?_ GE228.out) | exact HB.out)); (case side2 => exact Kd.R_tight rfl HO_229003.out); rintro e w173 ⟨rfl, hy0, hb, hkp⟩; refine ⟨_, rfl, ?_⟩; have n0_ := Aside0.mk (Kd.R_mono (ok' := fun k_ => some k_ ≠ (.slice Ao30 t238.length co30 : Value).ownBlock ∧ some k_ ≠ (.slice Ao37 t224.length co37 : Value).ownBlock) (Kd.R_keptB (HO_214003.out) hkp (fun k_ hk_ hs_ => (hk_.2) hs_)) (fun k_ hk_ => ⟨hk_.1.1, hk_.1.2⟩)); have n1_ := Aside0.mk (Kd.R_mono (ok' := fun k_ => some k_ ≠ (.slice Ao23 t209.length co23 : Value).ownBlock ∧ some k_ ≠ (.slice Ao37 t224.length co37 : Value).ownBlock) (Kd.R_keptB (HO_221003.out) hkp (fun k_ hk_ hs_ => (hk_.2) hs_)) (fun k_ hk_ => ⟨hk_.1.1, hk_.1.2⟩)); have n2_ := Aside0.mk (Kd.R_reok rfl hy0 (fun k_ e_ => HO_229003.out.1 k_ e_)); have n3_ := Aside0.mk (blk_kept (by (with_reducible repeat (first | refine bN ?_ _ | refine bD ?_ | refine bA ?_ _)); exact BK198.out) hkp (fun hs_ => (fun e_ => (Kd.R_ne HO_229003.out BK198.out (by decide)) e_) hs_)); have n4_ := Aside0.mk (blk_kept (by (with_reducible repeat (first | refine bN ?_ _ | refine bD ?_ | refine bA ?_ _)); exact BK213.out) hkp (fun hs_ => (fun e_ => (Kd.R_ne HO_229003.out BK213.out (by decide)) e_) hs_)); have n5_ := Aside0.mk (blk_kept (by (with_reducible repeat (first | refine bN ?_ _ | refine bD ?_ | refine bA ?_ _)); exact BK220.out) hkp (fun hs_ => (fun e_ => (Kd.R_ne HO_229003.out BK220.out (by decide)) e_) hs_)); have n6_ := Aside0.mk (blk_kept (by (with_reducible repeat (first | refine bN ?_ _ | refine bD ?_ | refine bA ?_ _)); exact BK228.out) hkp (fun hs_ => (fun e_ => (Kd.R_ne HO_229003.out BK228.out (by decide)) e_) hs_)); have n7_ := Aside0.mk (hb); clear HO_214003; clear HO_221003; clear HO_229003; clear BK198; clear BK213; clear BK220; clear BK228; clear HB; have HO_214003 := n0_; have HO_221003 := n1_; have HO_229003 := n2_; have BK198 := n3_; have BK213 := n4_; have BK220 := n5_; have BK228 := n6_; have HB := n7_; clear n0_ n1_ n2_ n3_ n4_ n5_ n6_ n7_; (try clear hb); (try clear hkp); (try clear hy0); obtain ⟨hcz174_0, hcz174_1, hcz174_2, hcz174_3⟩ := cz4 BK228; obtain ⟨hfz174_0, hfz174_1, hfz174_2, hfz174_3⟩ := fz4 BK228) | ((with_reducible refine gate_callee (f := 42) rfl ?_); refine goesL_ (some 71) rfl rfl Try.func42 (by kernel_rfl) rfl #[.agg #[.int .i64 t221, .int .i64 t222, .int .i64 t223, .slice Ao37 t241.length co37], .int .i64 1] rfl (by (try simp only [List.map_toArray, List.map_cons, List.map_nil]); first | done | (rw [show t241.length = t224.length from (Kd.R_reads' HO_229003.out).1.symm] <;> rfl) | rfl | (simp only [List.length_drop, List.length_take]; rfl)) ?_; (with_reducible refine (laws_heldInflow.calls kj60 t221 t222 t223 _ _ t241 1 t242 _ ?side1 ?side2 A92.out).mono ?_); (case side1 => repeat (first | exact (Kd.R_reads' HO_229003.out).2.2 | (with_reducible refine Kd.C_alloc ?_ _) | (with_reducible refine Kd.C_drewN ?_ _) | (with_reducible refine Kd.C_drew ?_))); (case side2 => rw [show t241.length = t224.length from (Kd.R_reads' HO_229003.out).1.symm]; exact (Kd.R_reads' HO_229003.out).2.1); rintro e w175 ⟨rfl, hb⟩; refine ⟨_, rfl, ?_⟩; have n0_ := Aside0.mk (Kd.R_below (by (with_reducible repeat (first | apply Kd.R_alloc | apply Kd.R_drewN | apply Kd.R_drew)); exact HO_214003.out) hb); have n1_ := Aside0.mk (Kd.R_below (by (with_reducible repeat (first | apply Kd.R_alloc | apply Kd.R_drewN | apply Kd.R_drew)); exact HO_221003.out) hb); have n2_ := Aside0.mk (Kd.R_below (by (with_reducible repeat (first | apply Kd.R_alloc | apply Kd.R_drewN | apply Kd.R_drew)); exact HO_229003.out) hb); have n3_ := Aside0.mk (blk_below (g := gb198) (o := .cells #[.int .i64 a0_0, .int .i64 a0_1, .int .i64 a0_2, .slice A0_3 l0_3.length c0_3] 57 (0, 0)) (by (with_reducible repeat (first | refine bN ?_ _ | refine bD ?_ | refine bA ?_ _)); exact BK198.out) hb); have n4_ := Aside0.mk (blk_below (g := gb213) (o := .cells #[.int .i64 t206, .int .i64 t207, .int .i64 t208, .slice Ao23 t209.length co23] 61 (0, 0)) (by (with_reducible repeat (first | refine bN ?_ _ | refine bD ?_ | refine bA ?_ _)); exact BK213.out) hb); have n5_ := Aside0.mk (blk_below (g := gb220) (o := .cells #[.int .i64 t214, .int .i64 t215, .int .i64 t216, .slice Ao30 t238.length co30] 61 (0, 0)) (by (with_reducible repeat (first | refine bN ?_ _ | refine bD ?_ | refine bA ?_ _)); exact BK220.out) hb); have n6_ := Aside0.mk (blk_below (g := gb228) (o := .cells #[.int .i64 t221, .int .i64 t222, .int .i64 t223, .slice Ao37 t224.length co37] 61 (0, 0)) (by (with_reducible repeat (first | refine bN ?_ _ | refine bD ?_ | refine bA ?_ _)); exact BK228.out) hb); have n7_ := Aside0.mk (below_step (by repeat (first | (with_reducible first | exact HB.out | apply below_alloc | apply pw_below_drewN | apply below_drew1 | refine below_set ?_ GE198.out | refine below_set ?_ GE213.out | refine below_set ?_ GE220.out | refine below_set ?_ GE228.out) | exact HB.out)) hb); clear HO_214003; clear HO_221003; clear HO_229003; clear BK198; clear BK213; clear BK220; clear BK228; clear HB; have HO_214003 := n0_; have HO_221003 := n1_; have HO_229003 := n2_; have BK198 := n3_; have BK213 := n4_; have BK220 := n5_; have BK228 := n6_; have HB := n7_; clear n0_ n1_ n2_ n3_ n4_ n5_ n6_ n7_; (try clear hb); (try clear hb2); (try clear hk); (try clear hi)))
           go_ret
           exact ⟨by first | rfl | (simp [errW_none, errW_some] <;> rfl) | (simp [*, errW_none, errW_some] <;> rfl), by repeat (first | (with_reducible first | exact HB.out | apply below_alloc | apply pw_below_drewN | apply below_drew1 | refine below_set ?_ GE198.out | refine below_set ?_ GE213.out | refine below_set ?_ GE220.out | refine below_set ?_ GE228.out) | exact HB.out)⟩
     ·replace c59 := Bool.eq_false_iff.mpr c59
      subst c59
      have H1 : (some false) = some r := by rw [if_neg (show ¬ (false = true) by decide)] at H; exact H
      clear H
      have H := H1
      clear H1
      obtain rfl := Option.some.inj H
      try go_wp2
      have n0_ := Aside0.mk (Kd.R_drew HO_214003.out)
      have n1_ := Aside0.mk (Kd.R_drew HO_221003.out)
      have n2_ := Aside0.mk (Kd.R_drew HO_229003.out)
      have n3_ := Aside0.mk (blk_drew BK198.out)
      have n4_ := Aside0.mk (blk_drew BK213.out)
      have n5_ := Aside0.mk (blk_drew BK220.out)
      have n6_ := Aside0.mk (blk_drew BK228.out)
      have n7_ := Aside0.mk (below_drew1 HB.out)
      clear HO_214003
      clear HO_221003
      clear HO_229003
      clear BK198
      clear BK213
      clear BK220
      clear BK228
      clear HB
      have HO_214003 := n0_
      have HO_221003 := n1_
      have HO_229003 := n2_
      have BK198 := n3_
      have BK213 := n4_
      have BK220 := n5_
      have BK228 := n6_
      have HB := n7_
      clear n0_ n1_ n2_ n3_ n4_ n5_ n6_ n7_
      refine start_ (n := 5) (S := fun w' => w'.cell? ⟨gb220, 0, none⟩ = some (.int .i64 t214) ∧ w'.cell? ⟨gb220, 1, none⟩ = some (.int .i64 t215) ∧ w'.cell? ⟨gb220, 2, none⟩ = some (.int .i64 t216) ∧ w'.cell? ⟨gb220, 3, none⟩ = some (.slice Ao30 t217.length co30) ∧ w'.cell? ⟨gb198, 0, none⟩ = some (.int .i64 a0_0) ∧ w'.cell? ⟨gb198, 1, none⟩ = some (.int .i64 a0_1) ∧ w'.cell? ⟨gb198, 2, none⟩ = some (.int .i64 a0_2) ∧ w'.cell? ⟨gb198, 3, none⟩ = some (.slice A0_3 l0_3.length c0_3)) (ds := []) #[false, false, false, false, false] (by kernel_rfl) rfl rfl ⟨(blk_cell BK220.out 0).trans rfl, (blk_cell BK220.out 1).trans rfl, (blk_cell BK220.out 2).trans rfl, (blk_cell BK220.out 3).trans rfl, (blk_cell BK198.out 0).trans rfl, (blk_cell BK198.out 1).trans rfl, (blk_cell BK198.out 2).trans rfl, (blk_cell BK198.out 3).trans rfl⟩ (fun hHeld => ?_)
      generalize wc.drew = w176 at HO_214003 HO_221003 HO_229003 BK198 BK213 BK220 BK228 HB hHeld ⊢
      refine take_ (i := 0) (N := some 45) (v := ?_) (a' := ?_) #[true, false, false, false, false] rfl rfl (by kernel_rfl) (fun _ _ _ h => h) (Or.inl ⟨by rfl, ?_⟩) hHeld ?_ ?_
      rotate_left
      ·rintro w' ⟨s0, s1, s2, s3, s4, s5, s6, s7⟩
       go_simp
       with_reducible rfl
      rotate_left
      ·simp only [Act.put, sA, sZ, sS, i64_w, i32_w]
       rfl
      refine take_ (i := 1) (N := some 46) (v := ?_) (a' := ?_) #[true, true, false, false, false] rfl rfl (by kernel_rfl) (fun _ _ _ h => h) (Or.inl ⟨by rfl, ?_⟩) hHeld ?_ ?_
      rotate_left
      ·rintro w' ⟨s0, s1, s2, s3, s4, s5, s6, s7⟩
       go_simp
       with_reducible rfl
      rotate_left
      ·simp only [Act.put, sA, sZ, sS, i64_w, i32_w]
       rfl
      refine one_ (i := 2) (N := some 47) #[true, true, true, false, false] rfl rfl (by kernel_rfl) (by decide) (fun K hK => ?_)
      refine goes_ Try.func38 (by kernel_rfl) rfl #[.agg #[.int .i64 a0_0, .int .i64 a0_1, .int .i64 a0_2, .slice A0_3 l0_3.length c0_3]] (by rfl) rfl rfl (by (try simp only [List.map_toArray, List.map_cons, List.map_nil]); first | done | rfl | (simp only [List.length_drop, List.length_take]; rfl)) ?_
      with_reducible refine (laws_toInflow.calls kj11 a0_0 a0_1 a0_2 _ _ l0_3 t230 t231 t232 t233 _ ?side1 ?side2 A57.out).mono ?_
      (case side1 => repeat (first | exact (Kd.C_below HR0_3.out HB.out) | (with_reducible refine Kd.C_alloc ?_ _) | (with_reducible refine Kd.C_drewN ?_ _) | (with_reducible refine Kd.C_drew ?_)))
      (case side2 => exact HC0_3.out)
      rintro e w177 ⟨v234, rfl, ho0, hb⟩
      refine ⟨_, rfl, ?_⟩
      have n0_ := Aside0.mk (Kd.R_elder' (by (with_reducible repeat (first | apply Kd.R_alloc | apply Kd.R_drewN | apply Kd.R_drew)); exact HO_214003.out) (Kd.R_base ho0) hb)
      have n1_ := Aside0.mk (Kd.R_elder' (by (with_reducible repeat (first | apply Kd.R_alloc | apply Kd.R_drewN | apply Kd.R_drew)); exact HO_221003.out) (Kd.R_base ho0) hb)
      have n2_ := Aside0.mk (Kd.R_elder' (by (with_reducible repeat (first | apply Kd.R_alloc | apply Kd.R_drewN | apply Kd.R_drew)); exact HO_229003.out) (Kd.R_base ho0) hb)
      have n3_ := Aside0.mk (Kd.R_lower (Kd.R_new' (Kd.R_new' (Kd.R_new' ho0 (Kd.R_lt (by (with_reducible repeat (first | apply Kd.R_alloc | apply Kd.R_drewN | apply Kd.R_drew)); exact HO_214003.out))) (Kd.R_lt (by (with_reducible repeat (first | apply Kd.R_alloc | apply Kd.R_drewN | apply Kd.R_drew)); exact HO_221003.out))) (Kd.R_lt (by (with_reducible repeat (first | apply Kd.R_alloc | apply Kd.R_drewN | apply Kd.R_drew)); exact HO_229003.out))) (below_size (by repeat (first | (with_reducible first | exact HB.out | apply below_alloc | apply pw_below_drewN | apply below_drew1 | refine below_set ?_ GE198.out | refine below_set ?_ GE213.out | refine below_set ?_ GE220.out | refine below_set ?_ GE228.out) | exact HB.out))))
      have n4_ := Aside0.mk (blk_below (g := gb198) (o := .cells #[.int .i64 a0_0, .int .i64 a0_1, .int .i64 a0_2, .slice A0_3 l0_3.length c0_3] 57 (0, 0)) (by (with_reducible repeat (first | refine bN ?_ _ | refine bD ?_ | refine bA ?_ _)); exact BK198.out) hb)
      have n5_ := Aside0.mk (blk_below (g := gb213) (o := .cells #[.int .i64 t206, .int .i64 t207, .int .i64 t208, .slice Ao23 t209.length co23] 61 (0, 0)) (by (with_reducible repeat (first | refine bN ?_ _ | refine bD ?_ | refine bA ?_ _)); exact BK213.out) hb)
      have n6_ := Aside0.mk (blk_below (g := gb220) (o := .cells #[.int .i64 t214, .int .i64 t215, .int .i64 t216, .slice Ao30 t217.length co30] 61 (0, 0)) (by (with_reducible repeat (first | refine bN ?_ _ | refine bD ?_ | refine bA ?_ _)); exact BK220.out) hb)
      have n7_ := Aside0.mk (blk_below (g := gb228) (o := .cells #[.int .i64 t221, .int .i64 t222, .int .i64 t223, .slice Ao37 t224.length co37] 61 (0, 0)) (by (with_reducible repeat (first | refine bN ?_ _ | refine bD ?_ | refine bA ?_ _)); exact BK228.out) hb)
      have n8_ := Aside0.mk (below_step (by repeat (first | (with_reducible first | exact HB.out | apply below_alloc | apply pw_below_drewN | apply below_drew1 | refine below_set ?_ GE198.out | refine below_set ?_ GE213.out | refine below_set ?_ GE220.out | refine below_set ?_ GE228.out) | exact HB.out)) hb)
      clear HO_214003
      clear HO_221003
      clear HO_229003
      clear BK198
      clear BK213
      clear BK220
      clear BK228
      clear HB
      have HO_214003 := n0_
      have HO_221003 := n1_
      have HO_229003 := n2_
      have HO235 := n3_
      have BK198 := n4_
      have BK213 := n5_
      have BK220 := n6_
      have BK228 := n7_
      have HB := n8_
      clear n0_ n1_ n2_ n3_ n4_ n5_ n6_ n7_ n8_
      (try clear hb)
      (try clear hb2)
      (try clear hk)
      (try clear hi)
      (try clear ho0)
      obtain ⟨Ao178, co178, eo178⟩ := Kd.R_slice HO235.out
      (first | subst eo178 | (injection eo178 with f1_ f2_ f3_; have f4_ := f1_.symm; have f5_ := f3_.symm; clear f1_ f2_ f3_; subst f4_; subst f5_))
      refine hK.out _ _ ⟨(blk_cell BK220.out 0).trans rfl, (blk_cell BK220.out 1).trans rfl, (blk_cell BK220.out 2).trans rfl, (blk_cell BK220.out 3).trans rfl, (blk_cell BK198.out 0).trans rfl, (blk_cell BK198.out 1).trans rfl, (blk_cell BK198.out 2).trans rfl, (blk_cell BK198.out 3).trans rfl⟩ (fun hHeld => ?_)
      clear hK K
      refine norm_ (a' := ?_) ?_ ?_
      rotate_left
      ·show Act.put _ (some 47) _ = _
       simp only [Act.put, sA, sZ, sS, i64_w, i32_w]
       rfl
      refine one_ (i := 3) (N := some 48) #[true, true, true, true, false] rfl rfl (by kernel_rfl) (by decide) (fun K hK => ?_)
      refine goes_ Try.func40 (by kernel_rfl) rfl #[.agg #[.int .i64 t214, .int .i64 t215, .int .i64 t216, .slice Ao30 t217.length co30], .agg #[.int .i64 t230, .int .i64 t231, .int .i64 t232, .slice Ao178 t233.length co178]] (by rfl) rfl rfl (by (try simp only [List.map_toArray, List.map_cons, List.map_nil]); first | done | rfl | (simp only [List.length_drop, List.length_take]; rfl)) ?_
      with_reducible refine (laws_eqInflow.calls kj11 t214 t215 t216 _ _ t217 t230 t231 t232 _ _ t233 false _ ?side1 ?side2 ?side3 ?side4 A58.out).mono ?_
      (case side1 => repeat (first | exact (Kd.R_reads' HO_221003.out).2.2 | (with_reducible refine Kd.C_alloc ?_ _) | (with_reducible refine Kd.C_drewN ?_ _) | (with_reducible refine Kd.C_drew ?_)))
      (case side2 => exact (Kd.R_reads' HO_221003.out).2.1)
      (case side3 => repeat (first | exact (Kd.R_reads' HO235.out).2.2 | (with_reducible refine Kd.C_alloc ?_ _) | (with_reducible refine Kd.C_drewN ?_ _) | (with_reducible refine Kd.C_drew ?_)))
      (case side4 => exact (Kd.R_reads' HO235.out).2.1)
      rintro e w179 ⟨rfl, hb⟩
      refine ⟨_, rfl, ?_⟩
      have n0_ := Aside0.mk (Kd.R_below (by (with_reducible repeat (first | apply Kd.R_alloc | apply Kd.R_drewN | apply Kd.R_drew)); exact HO_214003.out) hb)
      have n1_ := Aside0.mk (Kd.R_below (by (with_reducible repeat (first | apply Kd.R_alloc | apply Kd.R_drewN | apply Kd.R_drew)); exact HO_221003.out) hb)
      have n2_ := Aside0.mk (Kd.R_below (by (with_reducible repeat (first | apply Kd.R_alloc | apply Kd.R_drewN | apply Kd.R_drew)); exact HO_229003.out) hb)
      have n3_ := Aside0.mk (Kd.R_below (by (with_reducible repeat (first | apply Kd.R_alloc | apply Kd.R_drewN | apply Kd.R_drew)); exact HO235.out) hb)
      have n4_ := Aside0.mk (blk_below (g := gb198) (o := .cells #[.int .i64 a0_0, .int .i64 a0_1, .int .i64 a0_2, .slice A0_3 l0_3.length c0_3] 57 (0, 0)) (by (with_reducible repeat (first | refine bN ?_ _ | refine bD ?_ | refine bA ?_ _)); exact BK198.out) hb)
      have n5_ := Aside0.mk (blk_below (g := gb213) (o := .cells #[.int .i64 t206, .int .i64 t207, .int .i64 t208, .slice Ao23 t209.length co23] 61 (0, 0)) (by (with_reducible repeat (first | refine bN ?_ _ | refine bD ?_ | refine bA ?_ _)); exact BK213.out) hb)
      have n6_ := Aside0.mk (blk_below (g := gb220) (o := .cells #[.int .i64 t214, .int .i64 t215, .int .i64 t216, .slice Ao30 t217.length co30] 61 (0, 0)) (by (with_reducible repeat (first | refine bN ?_ _ | refine bD ?_ | refine bA ?_ _)); exact BK220.out) hb)
      have n7_ := Aside0.mk (blk_below (g := gb228) (o := .cells #[.int .i64 t221, .int .i64 t222, .int .i64 t223, .slice Ao37 t224.length co37] 61 (0, 0)) (by (with_reducible repeat (first | refine bN ?_ _ | refine bD ?_ | refine bA ?_ _)); exact BK228.out) hb)
      have n8_ := Aside0.mk (below_step (by repeat (first | (with_reducible first | exact HB.out | apply below_alloc | apply pw_below_drewN | apply below_drew1 | refine below_set ?_ GE198.out | refine below_set ?_ GE213.out | refine below_set ?_ GE220.out | refine below_set ?_ GE228.out) | exact HB.out)) hb)
      clear HO_214003
      clear HO_221003
      clear HO_229003
      clear HO235
      clear BK198
      clear BK213
      clear BK220
      clear BK228
      clear HB
      have HO_214003 := n0_
      have HO_221003 := n1_
      have HO_229003 := n2_
      have HO235 := n3_
      have BK198 := n4_
      have BK213 := n5_
      have BK220 := n6_
      have BK228 := n7_
      have HB := n8_
      clear n0_ n1_ n2_ n3_ n4_ n5_ n6_ n7_ n8_
      (try clear hb)
      (try clear hb2)
      (try clear hk)
      (try clear hi)
      refine hK.out _ _ ⟨(blk_cell BK220.out 0).trans rfl, (blk_cell BK220.out 1).trans rfl, (blk_cell BK220.out 2).trans rfl, (blk_cell BK220.out 3).trans rfl, (blk_cell BK198.out 0).trans rfl, (blk_cell BK198.out 1).trans rfl, (blk_cell BK198.out 2).trans rfl, (blk_cell BK198.out 3).trans rfl⟩ (fun hHeld => ?_)
      clear hK K
      refine norm_ (a' := ?_) ?_ ?_
      rotate_left
      ·show Act.put _ (some 48) _ = _
       simp only [Act.put, sA, sZ, sS, i64_w, i32_w]
       rfl
      refine pure_ (i := 4) (N := some 49) (v := ?_) (a' := ?_) #[true, true, true, true, true] rfl rfl (by kernel_rfl) (fun _ _ _ h => h) (Or.inl ⟨by rfl, ?_⟩) ?_ ?_
      rotate_left
      ·intro w'
       go_simp
       with_reducible rfl
      rotate_left
      ·simp only [Act.put, sA, sZ, sS, i64_w, i32_w]
       rfl
      refine done_ (by kernel_rfl) ?_
      try go_wp2
      go_ret
      exact ⟨by first | rfl | (simp [errW_none, errW_some] <;> rfl) | (simp [*, errW_none, errW_some] <;> rfl), by repeat (first | (with_reducible first | exact HB.out | apply below_alloc | apply pw_below_drewN | apply below_drew1 | refine below_set ?_ GE198.out | refine below_set ?_ GE213.out | refine below_set ?_ GE220.out | refine below_set ?_ GE228.out) | exact HB.out)⟩

end Go.Proofs.Ythkmjfapljmmpaa.PFnExactRaiseLimit
