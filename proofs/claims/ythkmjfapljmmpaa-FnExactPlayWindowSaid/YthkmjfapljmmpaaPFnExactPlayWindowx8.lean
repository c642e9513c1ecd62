-- Written by a program of this session (wip/xprint.py).
import Derived.Test.YthkmjfapljmmpaaPFnExactPlayWindowx0
import Derived.Test.YthkmjfapljmmpaaPFnExactPlayWindowx1
import Derived.Test.YthkmjfapljmmpaaPFnExactPlayWindowx3
import Derived.Test.YthkmjfapljmmpaaPFnExactPlayWindowx5
import Derived.Test.YthkmjfapljmmpaaPFnExactPlayWindowx6
import Derived.Test.YthkmjfapljmmpaaPFnExactPlayWindowx7
namespace Go.Proofs.Ythkmjfapljmmpaa.PFnExactPlayWindow
open Go.RowKit Go.Proofs.YthkmjfapljmmpaaW.PrintWords Go.Proofs.YthkmjfapljmmpaaW.PrintLast Go.Proofs.YthkmjfapljmmpaaW.PrintMore
attribute [local go_sem] Go.Proofs.Ythkmjfapljmmpaa.StoreK.isSome_setCell max2_int min2_int max_two min_two max_three min_three max_four min_four   -- for this text's walks alone
set_option linter.unusedVariables false
set_option linter.unusedSimpArgs false

/-! ### laws_FnExactPlayWindow: function 12 -/
mutual
def laws_FnExactPlayWindow.j0 : Nat → List (S194) → List Int → Bool → List (S190) → List Int → Bool → Bool → Int → Int → Int → Int → Int → Int → Int → Int → Option (Bool)
 | 0, _, _, _, _, _, _, _, _, _, _, _, _, _, _, _ => none
 | k + 1, x0, x5, x6, x7, x9, x10, x51, x282000, x282001, x282002, x282003, x294000, x294001, x294002, x294003 => if x51 = true then (some false) else ((laws_toGrowS.f k x0).bind fun t296 => ((laws_eqGrowS.f k x7 t296).bind fun t299 => (if t299 = true then ((laws_markGrowS.f k x7 1).bind fun bt300 => (if bt300.1 < 0 then (laws_FnExactPlayWindow.j1 k x0 x5 x6 x9 true x282000 x282001 x282002 x282003) else ((laws_eqWindow.f x294000 x294001 x294002 x294003 x282000 x282001 x282002 x282003).bind fun t302 => (if t302 = true then ((laws_eqIntS.f k x9 x5).bind fun t303 => (if t303 = true then (laws_FnExactPlayWindow.j1 k x0 x5 x6 x9 (x10 != x6) x282000 x282001 x282002 x282003) else (laws_FnExactPlayWindow.j1 k x0 x5 x6 x9 true x282000 x282001 x282002 x282003))) else (laws_FnExactPlayWindow.j1 k x0 x5 x6 x9 true x282000 x282001 x282002 x282003))))) else (some false))))
def laws_FnExactPlayWindow.j1 : Nat → List (S194) → List Int → Bool → List Int → Bool → Int → Int → Int → Int → Option (Bool)
 | 0, _, _, _, _, _, _, _, _, _ => none
 | k + 1, x0, x5, x6, x9, x78, x282000, x282001, x282002, x282003 => if x78 = true then (some false) else ((laws_markIntS.f k x9 1).bind fun bt304 => ((laws_heldIntS.f k bt304.2 1).bind fun t306 => (if t306 < 0 then (some false) else (if t306 = bt304.1 then ((laws_toGrowS.f k x0).bind fun t307 => ((impl_PlayWindow.f k t307).bind fun bt310 => ((laws_eqWindow.f bt310.1 bt310.2.1 bt310.2.2.1 bt310.2.2.2.1 x282000 x282001 x282002 x282003).bind fun t319 => (if t319 = true then ((laws_eqIntS.f k bt310.2.2.2.2.1 x5).bind fun t320 => (if t320 = true then (laws_FnExactPlayWindow.j2 k bt304.2 bt304.1 (bt310.2.2.2.2.2 != x6)) else (laws_FnExactPlayWindow.j2 k bt304.2 bt304.1 true))) else (laws_FnExactPlayWindow.j2 k bt304.2 bt304.1 true))))) else (some false)))))
def laws_FnExactPlayWindow.j2 : Nat → List Int → Int → Bool → Option (Bool)
 | 0, _, _, _ => none
 | k + 1, x9, x12, x111 => if x111 = true then (some false) else ((laws_heldIntS.f k x9 1).bind fun t321 => (if t321 < 0 then (some false) else (if t321 = x12 then (some true) else (some false))))
end
def laws_FnExactPlayWindow.f (k : Nat) (l0 : List (S194)) : Option (Bool) := (laws_szGrowS.f l0 1048576).bind fun t269 => (if t269 < 0 then (some true) else ((laws_toGrowS.f k l0).bind fun t270 => ((spec_PlayWindow.f k t270).bind fun bt273 => ((laws_toGrowS.f k l0).bind fun t282 => ((impl_PlayWindow.f k t282).bind fun bt285 => ((laws_eqWindow.f bt285.1 bt285.2.1 bt285.2.2.1 bt285.2.2.2.1 bt273.1 bt273.2.1 bt273.2.2.1 bt273.2.2.2.1).bind fun t294 => (if t294 = true then ((laws_eqIntS.f k bt285.2.2.2.2.1 bt273.2.2.2.2.1).bind fun t295 => (if t295 = true then (laws_FnExactPlayWindow.j0 k l0 bt273.2.2.2.2.1 bt273.2.2.2.2.2 t282 bt285.2.2.2.2.1 bt285.2.2.2.2.2 (bt285.2.2.2.2.2 != bt273.2.2.2.2.2) bt273.1 bt273.2.1 bt273.2.2.1 bt273.2.2.2.1 bt285.1 bt285.2.1 bt285.2.2.1 bt285.2.2.2.1) else (laws_FnExactPlayWindow.j0 k l0 bt273.2.2.2.2.1 bt273.2.2.2.2.2 t282 bt285.2.2.2.2.1 bt285.2.2.2.2.2 true bt273.1 bt273.2.1 bt273.2.2.1 bt273.2.2.2.1 bt285.1 bt285.2.1 bt285.2.2.1 bt285.2.2.2.1))) else (laws_FnExactPlayWindow.j0 k l0 bt273.2.2.2.2.1 bt273.2.2.2.2.2 t282 bt285.2.2.2.2.1 bt285.2.2.2.2.2 true bt273.1 bt273.2.1 bt273.2.2.1 bt273.2.2.2.1 bt285.1 bt285.2.1 bt285.2.2.1 bt285.2.2.2.1))))))))
theorem laws_FnExactPlayWindow.mono_l : ∀ k, (∀ y0 y1 y2 y3 y4 y5 y6 y7 y8 y9 y10 y11 y12 y13 y14, LeO (laws_FnExactPlayWindow.j0 k y0 y1 y2 y3 y4 y5 y6 y7 y8 y9 y10 y11 y12 y13 y14) (laws_FnExactPlayWindow.j0 (k + 1) y0 y1 y2 y3 y4 y5 y6 y7 y8 y9 y10 y11 y12 y13 y14)) ∧ (∀ y0 y1 y2 y3 y4 y5 y6 y7 y8, LeO (laws_FnExactPlayWindow.j1 k y0 y1 y2 y3 y4 y5 y6 y7 y8) (laws_FnExactPlayWindow.j1 (k + 1) y0 y1 y2 y3 y4 y5 y6 y7 y8)) ∧ (∀ y0 y1 y2, LeO (laws_FnExactPlayWindow.j2 k y0 y1 y2) (laws_FnExactPlayWindow.j2 (k + 1) y0 y1 y2))
 | 0 => ⟨fun _ _ _ _ _ _ _ _ _ _ _ _ _ _ _ r h => by simp [laws_FnExactPlayWindow.j0] at h, fun _ _ _ _ _ _ _ _ _ r h => by simp [laws_FnExactPlayWindow.j1] at h, fun _ _ _ r h => by simp [laws_FnExactPlayWindow.j2] at h⟩
 | k + 1 => by
  obtain ⟨ih0, ih1, ih2⟩ := laws_FnExactPlayWindow.mono_l k
  refine ⟨?_, ?_, ?_⟩
  ·intro y0 y1 y2 y3 y4 y5 y6 y7 y8 y9 y10 y11 y12 y13 y14
   unfold laws_FnExactPlayWindow.j0
   repeat' first
   | (with_reducible exact ih0 _ _ _ _ _ _ _ _ _ _ _ _ _ _ _)
   | (with_reducible exact ih1 _ _ _ _ _ _ _ _ _)
   | (with_reducible exact ih2 _ _ _)
   | (with_reducible exact impl_PlayWindow.mono _ _)
   | (with_reducible exact laws_eqGrowS.mono _ _ _)
   | (with_reducible exact laws_eqIntS.mono _ _ _)
   | (with_reducible exact laws_heldIntS.mono _ _ _)
   | (with_reducible exact laws_markGrowS.mono _ _ _)
   | (with_reducible exact laws_markIntS.mono _ _ _)
   | (with_reducible exact laws_toGrowS.mono _ _)
   | (with_reducible exact spec_PlayWindow.mono _ _)
   | (with_reducible exact LeO.refl _)
   | (with_reducible exact LeO.none _)
   | (with_reducible refine LeO.ite ?_ ?_)
   | (with_reducible refine LeO.bind ?_ (fun _ => ?_))
   | exact ih0 _ _ _ _ _ _ _ _ _ _ _ _ _ _ _
   | exact ih1 _ _ _ _ _ _ _ _ _
   | exact ih2 _ _ _
   | exact impl_PlayWindow.mono _ _
   | exact laws_eqGrowS.mono _ _ _
   | exact laws_eqIntS.mono _ _ _
   | exact laws_heldIntS.mono _ _ _
   | exact laws_markGrowS.mono _ _ _
   | exact laws_markIntS.mono _ _ _
   | exact laws_toGrowS.mono _ _
   | exact spec_PlayWindow.mono _ _
   | exact LeO.none _
   | refine LeO.ite ?_ ?_
   | refine LeO.bind ?_ (fun _ => ?_)
  ·intro y0 y1 y2 y3 y4 y5 y6 y7 y8
   unfold laws_FnExactPlayWindow.j1
   repeat' first
   | (with_reducible exact ih0 _ _ _ _ _ _ _ _ _ _ _ _ _ _ _)
   | (with_reducible exact ih1 _ _ _ _ _ _ _ _ _)
   | (with_reducible exact ih2 _ _ _)
   | (with_reducible exact impl_PlayWindow.mono _ _)
   | (with_reducible exact laws_eqGrowS.mono _ _ _)
   | (with_reducible exact laws_eqIntS.mono _ _ _)
   | (with_reducible exact laws_heldIntS.mono _ _ _)
   | (with_reducible exact laws_markGrowS.mono _ _ _)
   | (with_reducible exact laws_markIntS.mono _ _ _)
   | (with_reducible exact laws_toGrowS.mono _ _)
   | (with_reducible exact spec_PlayWindow.mono _ _)
   | (with_reducible exact LeO.refl _)
   | (with_reducible exact LeO.none _)
   | (with_reducible refine LeO.ite ?_ ?_)
   | (with_reducible refine LeO.bind ?_ (fun _ => ?_))
   | exact ih0 _ _ _ _ _ _ _ _ _ _ _ _ _ _ _
   | exact ih1 _ _ _ _ _ _ _ _ _
   | exact ih2 _ _ _
   | exact impl_PlayWindow.mono _ _
   | exact laws_eqGrowS.mono _ _ _
   | exact laws_eqIntS.mono _ _ _
   | exact laws_heldIntS.mono _ _ _
   | exact laws_markGrowS.mono _ _ _
   | exact laws_markIntS.mono _ _ _
   | exact laws_toGrowS.mono _ _
   | exact spec_PlayWindow.mono _ _
   | exact LeO.none _
   | refine LeO.ite ?_ ?_
   | refine LeO.bind ?_ (fun _ => ?_)
  ·intro y0 y1 y2
   unfold laws_FnExactPlayWindow.j2
   repeat' first
   | (with_reducible exact ih0 _ _ _ _ _ _ _ _ _ _ _ _ _ _ _)
   | (with_reducible exact ih1 _ _ _ _ _ _ _ _ _)
   | (with_reducible exact ih2 _ _ _)
   | (with_reducible exact impl_PlayWindow.mono _ _)
   | (with_reducible exact laws_eqGrowS.mono _ _ _)
   | (with_reducible exact laws_eqIntS.mono _ _ _)
   | (with_reducible exact laws_heldIntS.mono _ _ _)
   | (with_reducible exact laws_markGrowS.mono _ _ _)
   | (with_reducible exact laws_markIntS.mono _ _ _)
   | (with_reducible exact laws_toGrowS.mono _ _)
   | (with_reducible exact spec_PlayWindow.mono _ _)
   | (with_reducible exact LeO.refl _)
   | (with_reducible exact LeO.none _)
   | (with_reducible refine LeO.ite ?_ ?_)
   | (with_reducible refine LeO.bind ?_ (fun _ => ?_))
   | exact ih0 _ _ _ _ _ _ _ _ _ _ _ _ _ _ _
   | exact ih1 _ _ _ _ _ _ _ _ _
   | exact ih2 _ _ _
   | exact impl_PlayWindow.mono _ _
   | exact laws_eqGrowS.mono _ _ _
   | exact laws_eqIntS.mono _ _ _
   | exact laws_heldIntS.mono _ _ _
   | exact laws_markGrowS.mono _ _ _
   | exact laws_markIntS.mono _ _ _
   | exact laws_toGrowS.mono _ _
   | exact spec_PlayWindow.mono _ _
   | exact LeO.none _
   | refine LeO.ite ?_ ?_
   | refine LeO.bind ?_ (fun _ => ?_)
theorem laws_FnExactPlayWindow.mono : ∀ a0 k, LeO (laws_FnExactPlayWindow.f k a0) (laws_FnExactPlayWindow.f (k + 1) a0) := by
 intro a0 k
 obtain ⟨ih0, ih1, ih2⟩ := laws_FnExactPlayWindow.mono_l k
 unfold laws_FnExactPlayWindow.f
 repeat' first
   | (with_reducible exact ih0 _ _ _ _ _ _ _ _ _ _ _ _ _ _ _)
   | (with_reducible exact ih1 _ _ _ _ _ _ _ _ _)
   | (with_reducible exact ih2 _ _ _)
   | (with_reducible exact impl_PlayWindow.mono _ _)
   | (with_reducible exact laws_eqGrowS.mono _ _ _)
   | (with_reducible exact laws_eqIntS.mono _ _ _)
   | (with_reducible exact laws_heldIntS.mono _ _ _)
   | (with_reducible exact laws_markGrowS.mono _ _ _)
   | (with_reducible exact laws_markIntS.mono _ _ _)
   | (with_reducible exact laws_toGrowS.mono _ _)
   | (with_reducible exact spec_PlayWindow.mono _ _)
   | (with_reducible exact LeO.refl _)
   | (with_reducible exact LeO.none _)
   | (with_reducible refine LeO.ite ?_ ?_)
   | (with_reducible refine LeO.bind ?_ (fun _ => ?_))
   | exact ih0 _ _ _ _ _ _ _ _ _ _ _ _ _ _ _
   | exact ih1 _ _ _ _ _ _ _ _ _
   | exact ih2 _ _ _
   | exact impl_PlayWindow.mono _ _
   | exact laws_eqGrowS.mono _ _ _
   | exact laws_eqIntS.mono _ _ _
   | exact laws_heldIntS.mono _ _ _
   | exact laws_markGrowS.mono _ _ _
   | exact laws_markIntS.mono _ _ _
   | exact laws_toGrowS.mono _ _
   | exact spec_PlayWindow.mono _ _
   | exact LeO.none _
   | refine LeO.ite ?_ ?_
   | refine LeO.bind ?_ (fun _ => ?_)
set_option maxHeartbeats 8000000 in
set_option maxRecDepth 100000 in
theorem laws_FnExactPlayWindow.calls (k : Nat) (A0 : Option Addr) (c0 : Nat) (l0 : List (S194)) (r : Bool) (w : World) (hr0 : Kd.C k194 w A0 l0.length l0) (hc0 : l0.length ≤ c0) (h : laws_FnExactPlayWindow.f k l0 = some r) :
  Calls Try.prog 12 #[.slice A0 l0.length c0] w fun e w' => e = .returned (.bool r) ∧ Below w.heap.size w w' := by
 have hu113 := Try.underlying113
 have HR0 := Aside0.mk hr0
 have HC0 := Aside0.mk hc0
 clear hr0 hc0
 have HB := Aside0.mk (Below.refl w.heap.size w)
 have H : ((laws_szGrowS.f l0 1048576).bind fun t269 => (if t269 < 0 then (some true) else ((laws_toGrowS.f k l0).bind fun t270 => ((spec_PlayWindow.f k t270).bind fun bt273 => ((laws_toGrowS.f k l0).bind fun t282 => ((impl_PlayWindow.f k t282).bind fun bt285 => ((laws_eqWindow.f bt285.1 bt285.2.1 bt285.2.2.1 bt285.2.2.2.1 bt273.1 bt273.2.1 bt273.2.2.1 bt273.2.2.2.1).bind fun t294 => (if t294 = true then ((laws_eqIntS.f k bt285.2.2.2.2.1 bt273.2.2.2.2.1).bind fun t295 => (if t295 = true then (laws_FnExactPlayWindow.j0 k l0 bt273.2.2.2.2.1 bt273.2.2.2.2.2 t282 bt285.2.2.2.2.1 bt285.2.2.2.2.2 (bt285.2.2.2.2.2 != bt273.2.2.2.2.2) bt273.1 bt273.2.1 bt273.2.2.1 bt273.2.2.2.1 bt285.1 bt285.2.1 bt285.2.2.1 bt285.2.2.2.1) else (laws_FnExactPlayWindow.j0 k l0 bt273.2.2.2.2.1 bt273.2.2.2.2.2 t282 bt285.2.2.2.2.1 bt285.2.2.2.2.2 true bt273.1 bt273.2.1 bt273.2.2.1 bt273.2.2.2.1 bt285.1 bt285.2.1 bt285.2.2.1 bt285.2.2.2.1))) else (laws_FnExactPlayWindow.j0 k l0 bt273.2.2.2.2.1 bt273.2.2.2.2.2 t282 bt285.2.2.2.2.1 bt285.2.2.2.2.2 true bt273.1 bt273.2.1 bt273.2.2.1 bt273.2.2.2.1 bt285.1 bt285.2.1 bt285.2.2.1 bt285.2.2.2.1))))))))) = some r := h
 clear h
 replace H := Option.bind_eq_some_iff.mp H
 obtain ⟨t269, A20, H⟩ := H
 replace H : (if t269 < 0 then (some true) else ((laws_toGrowS.f k l0).bind fun t270 => ((spec_PlayWindow.f k t270).bind fun bt273 => ((laws_toGrowS.f k l0).bind fun t282 => ((impl_PlayWindow.f k t282).bind fun bt285 => ((laws_eqWindow.f bt285.1 bt285.2.1 bt285.2.2.1 bt285.2.2.2.1 bt273.1 bt273.2.1 bt273.2.2.1 bt273.2.2.2.1).bind fun t294 => (if t294 = true then ((laws_eqIntS.f k bt285.2.2.2.2.1 bt273.2.2.2.2.1).bind fun t295 => (if t295 = true then (laws_FnExactPlayWindow.j0 k l0 bt273.2.2.2.2.1 bt273.2.2.2.2.2 t282 bt285.2.2.2.2.1 bt285.2.2.2.2.2 (bt285.2.2.2.2.2 != bt273.2.2.2.2.2) bt273.1 bt273.2.1 bt273.2.2.1 bt273.2.2.2.1 bt285.1 bt285.2.1 bt285.2.2.1 bt285.2.2.2.1) else (laws_FnExactPlayWindow.j0 k l0 bt273.2.2.2.2.1 bt273.2.2.2.2.2 t282 bt285.2.2.2.2.1 bt285.2.2.2.2.2 true bt273.1 bt273.2.1 bt273.2.2.1 bt273.2.2.2.1 bt285.1 bt285.2.1 bt285.2.2.1 bt285.2.2.2.1))) else (laws_FnExactPlayWindow.j0 k l0 bt273.2.2.2.2.1 bt273.2.2.2.2.2 t282 bt285.2.2.2.2.1 bt285.2.2.2.2.2 true bt273.1 bt273.2.1 bt273.2.2.1 bt273.2.2.2.1 bt285.1 bt285.2.1 bt285.2.2.1 bt285.2.2.2.1)))))))) = some r := H
 have A2 := Aside0.mk A20
 clear A20
 by_cases c3 : t269 < 0
 ·rw [if_pos c3] at H
  have c3b0 : decide (t269 < 0) = true := decide_eq_true c3
  clear c3
  obtain rfl := Option.some.inj H
  go_enter Try.func12, Try.ntmps12
  go_wp2_with (first | ((with_reducible refine gate_callee (f := 63) rfl ?_); refine goesL_ (some 19) rfl rfl Try.func63 (by kernel_rfl) rfl #[.slice A0 l0.length c0, .int .i64 1048576] rfl (by (try simp only [List.map_toArray, List.map_cons, List.map_nil]); first | done | rfl | (simp only [List.length_drop, List.length_take]; rfl)) ?_; (with_reducible refine (laws_szGrowS.calls _ _ l0 1048576 t269 _ ?side1 ?side2 A2.out).mono ?_); (case side1 => repeat (first | exact HR0.out | (with_reducible refine Kd.C_alloc ?_ _) | (with_reducible refine Kd.C_drewN ?_ _) | (with_reducible refine Kd.C_drew ?_))); (case side2 => exact HC0.out); rintro e w' ⟨rfl, ⟨nd, rfl⟩⟩; refine ⟨_, rfl, ?_⟩))
  go_ret
  exact ⟨by first | rfl | (simp [errW_none, errW_some] <;> rfl) | (simp [*, errW_none, errW_some] <;> rfl), by repeat (first | (with_reducible first | exact HB.out | apply below_alloc | apply pw_below_drewN | apply below_drew1) | exact HB.out)⟩
 ·rw [if_neg c3] at H
  have c3b0 : decide (t269 < 0) = false := decide_eq_false c3
  clear c3
  replace H := Option.bind_eq_some_iff.mp H
  obtain ⟨t270, A40, H⟩ := H
  replace H : ((spec_PlayWindow.f k t270).bind fun bt273 => ((laws_toGrowS.f k l0).bind fun t282 => ((impl_PlayWindow.f k t282).bind fun bt285 => ((laws_eqWindow.f bt285.1 bt285.2.1 bt285.2.2.1 bt285.2.2.2.1 bt273.1 bt273.2.1 bt273.2.2.1 bt273.2.2.2.1).bind fun t294 => (if t294 = true then ((laws_eqIntS.f k bt285.2.2.2.2.1 bt273.2.2.2.2.1).bind fun t295 => (if t295 = true then (laws_FnExactPlayWindow.j0 k l0 bt273.2.2.2.2.1 bt273.2.2.2.2.2 t282 bt285.2.2.2.2.1 bt285.2.2.2.2.2 (bt285.2.2.2.2.2 != bt273.2.2.2.2.2) bt273.1 bt273.2.1 bt273.2.2.1 bt273.2.2.2.1 bt285.1 bt285.2.1 bt285.2.2.1 bt285.2.2.2.1) else (laws_FnExactPlayWindow.j0 k l0 bt273.2.2.2.2.1 bt273.2.2.2.2.2 t282 bt285.2.2.2.2.1 bt285.2.2.2.2.2 true bt273.1 bt273.2.1 bt273.2.2.1 bt273.2.2.2.1 bt285.1 bt285.2.1 bt285.2.2.1 bt285.2.2.2.1))) else (laws_FnExactPlayWindow.j0 k l0 bt273.2.2.2.2.1 bt273.2.2.2.2.2 t282 bt285.2.2.2.2.1 bt285.2.2.2.2.2 true bt273.1 bt273.2.1 bt273.2.2.1 bt273.2.2.2.1 bt285.1 bt285.2.1 bt285.2.2.1 bt285.2.2.2.1)))))) = some r := H
  have A4 := Aside0.mk A40
  clear A40
  replace H := Option.bind_eq_some_iff.mp H
  obtain ⟨⟨t273, t274, t275, t276, t277, t280⟩, A50, H⟩ := H
  replace H : ((laws_toGrowS.f k l0).bind fun t282 => ((impl_PlayWindow.f k t282).bind fun bt285 => ((laws_eqWindow.f bt285.1 bt285.2.1 bt285.2.2.1 bt285.2.2.2.1 t273 t274 t275 t276).bind fun t294 => (if t294 = true then ((laws_eqIntS.f k bt285.2.2.2.2.1 t277).bind fun t295 => (if t295 = true then (laws_FnExactPlayWindow.j0 k l0 t277 t280 t282 bt285.2.2.2.2.1 bt285.2.2.2.2.2 (bt285.2.2.2.2.2 != t280) t273 t274 t275 t276 bt285.1 bt285.2.1 bt285.2.2.1 bt285.2.2.2.1) else (laws_FnExactPlayWindow.j0 k l0 t277 t280 t282 bt285.2.2.2.2.1 bt285.2.2.2.2.2 true t273 t274 t275 t276 bt285.1 bt285.2.1 bt285.2.2.1 bt285.2.2.2.1))) else (laws_FnExactPlayWindow.j0 k l0 t277 t280 t282 bt285.2.2.2.2.1 bt285.2.2.2.2.2 true t273 t274 t275 t276 bt285.1 bt285.2.1 bt285.2.2.1 bt285.2.2.2.1))))) = some r := H
  have A5 := Aside0.mk A50
  clear A50
  replace H := Option.bind_eq_some_iff.mp H
  obtain ⟨t282, A60, H⟩ := H
  replace H : ((impl_PlayWindow.f k t282).bind fun bt285 => ((laws_eqWindow.f bt285.1 bt285.2.1 bt285.2.2.1 bt285.2.2.2.1 t273 t274 t275 t276).bind fun t294 => (if t294 = true then ((laws_eqIntS.f k bt285.2.2.2.2.1 t277).bind fun t295 => (if t295 = true then (laws_FnExactPlayWindow.j0 k l0 t277 t280 t282 bt285.2.2.2.2.1 bt285.2.2.2.2.2 (bt285.2.2.2.2.2 != t280) t273 t274 t275 t276 bt285.1 bt285.2.1 bt285.2.2.1 bt285.2.2.2.1) else (laws_FnExactPlayWindow.j0 k l0 t277 t280 t282 bt285.2.2.2.2.1 bt285.2.2.2.2.2 true t273 t274 t275 t276 bt285.1 bt285.2.1 bt285.2.2.1 bt285.2.2.2.1))) else (laws_FnExactPlayWindow.j0 k l0 t277 t280 t282 bt285.2.2.2.2.1 bt285.2.2.2.2.2 true t273 t274 t275 t276 bt285.1 bt285.2.1 bt285.2.2.1 bt285.2.2.2.1)))) = some r := H
  have A6 := Aside0.mk A60
  clear A60
  replace H := Option.bind_eq_some_iff.mp H
  obtain ⟨⟨t285, t286, t287, t288, t289, t292⟩, A70, H⟩ := H
  replace H : ((laws_eqWindow.f t285 t286 t287 t288 t273 t274 t275 t276).bind fun t294 => (if t294 = true then ((laws_eqIntS.f k t289 t277).bind fun t295 => (if t295 = true then (laws_FnExactPlayWindow.j0 k l0 t277 t280 t282 t289 t292 (t292 != t280) t273 t274 t275 t276 t285 t286 t287 t288) else (laws_FnExactPlayWindow.j0 k l0 t277 t280 t282 t289 t292 true t273 t274 t275 t276 t285 t286 t287 t288))) else (laws_FnExactPlayWindow.j0 k l0 t277 t280 t282 t289 t292 true t273 t274 t275 t276 t285 t286 t287 t288))) = some r := H
  have A7 := Aside0.mk A70
  clear A70
  have HC8 := Aside0.mk H
  clear H
  go_enter Try.func12, Try.ntmps12
  go_upto_region 8 with (first | ((with_reducible refine gate_callee (f := 63) rfl ?_); refine goesL_ (some 19) rfl rfl Try.func63 (by kernel_rfl) rfl #[.slice A0 l0.length c0, .int .i64 1048576] rfl (by (try simp only [List.map_toArray, List.map_cons, List.map_nil]); first | done | rfl | (simp only [List.length_drop, List.length_take]; rfl)) ?_; (with_reducible refine (laws_szGrowS.calls _ _ l0 1048576 t269 _ ?side1 ?side2 A2.out).mono ?_); (case side1 => repeat (first | exact HR0.out | (with_reducible refine Kd.C_alloc ?_ _) | (with_reducible refine Kd.C_drewN ?_ _) | (with_reducible refine Kd.C_drew ?_))); (case side2 => exact HC0.out); rintro e w' ⟨rfl, ⟨nd, rfl⟩⟩; refine ⟨_, rfl, ?_⟩) | ((with_reducible refine gate_callee (f := 65) rfl ?_); refine goesL_ (some 24) rfl rfl Try.func65 (by kernel_rfl) rfl #[.slice A0 l0.length c0] rfl (by (try simp only [List.map_toArray, List.map_cons, List.map_nil]); first | done | rfl | (simp only [List.length_drop, List.length_take]; rfl)) ?_; (with_reducible refine (laws_toGrowS.calls k _ _ l0 t270 _ ?side1 ?side2 A4.out).mono ?_); (case side1 => repeat (first | exact HR0.out | (with_reducible refine Kd.C_alloc ?_ _) | (with_reducible refine Kd.C_drewN ?_ _) | (with_reducible refine Kd.C_drew ?_))); (case side2 => exact HC0.out); rintro e w9 ⟨v271, rfl, ho0, hb⟩; refine ⟨_, rfl, ?_⟩; have n0_ := Aside0.mk (Kd.R_lower ho0 (below_size (by repeat (first | (with_reducible first | exact HB.out | apply below_alloc | apply pw_below_drewN | apply below_drew1) | exact HB.out)))); have n1_ := Aside0.mk (below_step (by repeat (first | (with_reducible first | exact HB.out | apply below_alloc | apply pw_below_drewN | apply below_drew1) | exact HB.out)) hb); clear HB; have HO272 := n0_; have HB := n1_; clear n0_ n1_; (try clear hb); (try clear hb2); (try clear hk); (try clear hi); (try clear ho0); obtain ⟨Ao10, co10, eo10⟩ := Kd.R_slice HO272.out; subst eo10) | ((with_reducible refine gate_callee (f := 64) rfl ?_); refine goesL_ (some 25) rfl rfl Try.func64 (by kernel_rfl) rfl #[.slice Ao10 t270.length co10] rfl (by (try simp only [List.map_toArray, List.map_cons, List.map_nil]); first | done | rfl | (simp only [List.length_drop, List.length_take]; rfl)) ?_; (with_reducible refine (spec_PlayWindow.calls k _ _ t270 t273 t274 t275 t276 t277 t280 _ ?side1 ?side2 A5.out).mono ?_); (case side1 => repeat (first | exact (Kd.R_reads' HO272.out).2.2 | (with_reducible refine Kd.C_alloc ?_ _) | (with_reducible refine Kd.C_drewN ?_ _) | (with_reducible refine Kd.C_drew ?_))); (case side2 => exact (Kd.R_reads' HO272.out).2.1); rintro e w11 ⟨v278, rfl, ho0, hb⟩; refine ⟨_, rfl, ?_⟩; have n0_ := Aside0.mk (Kd.R_below (by (with_reducible repeat (first | apply Kd.R_alloc | apply Kd.R_drewN | apply Kd.R_drew)); exact HO272.out) hb); have n1_ := Aside0.mk (Kd.R_lower ho0 (below_size (by repeat (first | (with_reducible first | exact HB.out | apply below_alloc | apply pw_below_drewN | apply below_drew1) | exact HB.out)))); have n2_ := Aside0.mk (below_step (by repeat (first | (with_reducible first | exact HB.out | apply below_alloc | apply pw_below_drewN | apply below_drew1) | exact HB.out)) hb); clear HO272; clear HB; have HO272 := n0_; have HO279 := n1_; have HB := n2_; clear n0_ n1_ n2_; (try clear hb); (try clear hb2); (try clear hk); (try clear hi); (try clear ho0)) | ((with_reducible refine gate_dst (N := 4) rfl ?_); refine box_event ?hg (N := 4) ?hd (cs := #[.int .i64 0, .int .i64 0, .int .i64 0, .int .i64 0]) (t := 113) ?hr ?_; (case hd => rfl); (case hg => rfl); (case hr => first | (go_simp; done) | (go_simp; rfl)); intro gb281 hg w12 hbox hb; have n0_ := Aside0.mk (Kd.R_below (by (with_reducible repeat (first | apply Kd.R_alloc | apply Kd.R_drewN | apply Kd.R_drew)); exact HO272.out) hb); have n1_ := Aside0.mk (Kd.R_below (by (with_reducible repeat (first | apply Kd.R_alloc | apply Kd.R_drewN | apply Kd.R_drew)); exact HO279.out) hb); have n2_ := Aside0.mk (below_step (by repeat (first | (with_reducible first | exact HB.out | apply below_alloc | apply pw_below_drewN | apply below_drew1) | exact HB.out)) hb); have n3_ := Aside0.mk (hbox); have n4_ := Aside0.mk ((by rw [hg]; exact (below_size (by repeat (first | (with_reducible first | exact HB.out | apply below_alloc | apply pw_below_drewN | apply below_drew1) | exact HB.out))) : w.heap.size ≤ gb281)); have n5_ := n4_; clear HO272; clear HO279; clear HB; have HO272 := n0_; have HO279 := n1_; have HB := n2_; have BK281 := n3_; have GW281 := n4_; have GE281 := n5_; clear n0_ n1_ n2_ n3_ n4_ n5_; clear hb hbox hg; have hcz13_0 : w12.cell? ⟨gb281, 0, none⟩ = some (.int .i64 0) := (blk_cell BK281.out 0).trans rfl; have hcz13_1 : w12.cell? ⟨gb281, 1, none⟩ = some (.int .i64 0) := (blk_cell BK281.out 1).trans rfl; have hcz13_2 : w12.cell? ⟨gb281, 2, none⟩ = some (.int .i64 0) := (blk_cell BK281.out 2).trans rfl; have hcz13_3 : w12.cell? ⟨gb281, 3, none⟩ = some (.int .i64 0) := (blk_cell BK281.out 3).trans rfl; have hfz13_0 := blk_frozen BK281.out 0; have hfz13_1 := blk_frozen BK281.out 1; have hfz13_2 := blk_frozen BK281.out 2; have hfz13_3 := blk_frozen BK281.out 3) | ((with_reducible refine gate_callee (f := 65) rfl ?_); refine goesL_ (some 30) rfl rfl Try.func65 (by kernel_rfl) rfl #[.slice A0 l0.length c0] rfl (by (try simp only [List.map_toArray, List.map_cons, List.map_nil]); first | done | rfl | (simp only [List.length_drop, List.length_take]; rfl)) ?_; (with_reducible refine (laws_toGrowS.calls k _ _ l0 t282 _ ?side1 ?side2 A6.out).mono ?_); (case side1 => exact Kd.C_below HR0.out (by repeat (first | (with_reducible first | exact HB.out | apply below_alloc | apply pw_below_drewN | apply below_drew1 | refine below_set ?_ GE281.out) | exact HB.out))); (case side2 => exact HC0.out); rintro e w14 ⟨v283, rfl, ho0, hb⟩; refine ⟨_, rfl, ?_⟩; have n0_ := Aside0.mk (Kd.R_elder' (by (with_reducible repeat (first | apply Kd.R_alloc | apply Kd.R_drewN | apply Kd.R_drew)); exact (Kd.R_mono (Kd.R_far (p := ⟨gb281, 3, none⟩) (Kd.R_far (p := ⟨gb281, 2, none⟩) (Kd.R_far (p := ⟨gb281, 1, none⟩) (Kd.R_far (p := ⟨gb281, 0, none⟩) (Kd.R_types HO272.out BK281.out (by decide)) (fun _ hk => hk.2) (.int .i64 t273)) (fun _ hk => hk.2) (.int .i64 t274)) (fun _ hk => hk.2) (.int .i64 t275)) (fun _ hk => hk.2) (.int .i64 t276)) (fun _ h_ => h_.1))) (Kd.R_base ho0) hb); have n1_ := Aside0.mk (Kd.R_below (by (with_reducible repeat (first | apply Kd.R_alloc | apply Kd.R_drewN | apply Kd.R_drew)); exact (Kd.R_mono (Kd.R_far (p := ⟨gb281, 3, none⟩) (Kd.R_far (p := ⟨gb281, 2, none⟩) (Kd.R_far (p := ⟨gb281, 1, none⟩) (Kd.R_far (p := ⟨gb281, 0, none⟩) (Kd.R_types HO279.out BK281.out (by decide)) (fun _ hk => hk.2) (.int .i64 t273)) (fun _ hk => hk.2) (.int .i64 t274)) (fun _ hk => hk.2) (.int .i64 t275)) (fun _ hk => hk.2) (.int .i64 t276)) (fun _ h_ => h_.1))) hb); have n2_ := Aside0.mk (Kd.R_lower (Kd.R_new' ho0 (Kd.R_lt (by (with_reducible repeat (first | apply Kd.R_alloc | apply Kd.R_drewN | apply Kd.R_drew)); exact (Kd.R_mono (Kd.R_far (p := ⟨gb281, 3, none⟩) (Kd.R_far (p := ⟨gb281, 2, none⟩) (Kd.R_far (p := ⟨gb281, 1, none⟩) (Kd.R_far (p := ⟨gb281, 0, none⟩) (Kd.R_types HO272.out BK281.out (by decide)) (fun _ hk => hk.2) (.int .i64 t273)) (fun _ hk => hk.2) (.int .i64 t274)) (fun _ hk => hk.2) (.int .i64 t275)) (fun _ hk => hk.2) (.int .i64 t276)) (fun _ h_ => h_.1))))) (below_size (by repeat (first | (with_reducible first | exact HB.out | apply below_alloc | apply pw_below_drewN | apply below_drew1 | refine below_set ?_ GE281.out) | exact HB.out)))); have n3_ := Aside0.mk (blk_below (g := gb281) (o := .cells #[.int .i64 t273, .int .i64 t274, .int .i64 t275, .int .i64 t276] 113 (0, 0)) (by (with_reducible repeat (first | refine blk_drewN ?_ _ | refine blk_drew ?_ | refine blk_alloc ?_ _)); refine blk_put (cs := #[.int .i64 t273, .int .i64 t274, .int .i64 t275, .int .i64 0]) ?_ 3 _ rfl; (with_reducible repeat (first | refine blk_drewN ?_ _ | refine blk_drew ?_ | refine blk_alloc ?_ _)); refine blk_put (cs := #[.int .i64 t273, .int .i64 t274, .int .i64 0, .int .i64 0]) ?_ 2 _ rfl; (with_reducible repeat (first | refine blk_drewN ?_ _ | refine blk_drew ?_ | refine blk_alloc ?_ _)); refine blk_put (cs := #[.int .i64 t273, .int .i64 0, .int .i64 0, .int .i64 0]) ?_ 1 _ rfl; (with_reducible repeat (first | refine blk_drewN ?_ _ | refine blk_drew ?_ | refine blk_alloc ?_ _)); refine blk_put (cs := #[.int .i64 0, .int .i64 0, .int .i64 0, .int .i64 0]) ?_ 0 _ rfl; (with_reducible repeat (first | refine blk_drewN ?_ _ | refine blk_drew ?_ | refine blk_alloc ?_ _)); exact BK281.out) hb); have n4_ := Aside0.mk (below_step (by repeat (first | (with_reducible first | exact HB.out | apply below_alloc | apply pw_below_drewN | apply below_drew1 | refine below_set ?_ GE281.out) | exact HB.out)) hb); clear HO272; clear HO279; clear BK281; clear HB; have HO272 := n0_; have HO279 := n1_; have HO284 := n2_; have BK281 := n3_; have HB := n4_; clear n0_ n1_ n2_ n3_ n4_; (try clear hb); (try clear hb2); (try clear hk); (try clear hi); (try clear ho0); obtain ⟨Ao15, co15, eo15⟩ := Kd.R_slice HO284.out; subst eo15) | ((with_reducible refine gate_callee (f := 66) rfl ?_); refine goesL_ (some 33) rfl rfl Try.func66 (by kernel_rfl) rfl #[.slice Ao15 t282.length co15] rfl (by (try simp only [List.map_toArray, List.map_cons, List.map_nil]); first | done | rfl | (simp only [List.length_drop, List.length_take]; rfl)) ?_; (with_reducible refine (impl_PlayWindow.calls k _ _ t282 t285 t286 t287 t288 t289 t292 _ ?side1 ?side2 A7.out).mono ?_); (case side1 => repeat (first | exact (Kd.R_reads' HO284.out).2.2 | (with_reducible refine Kd.C_alloc ?_ _) | (with_reducible refine Kd.C_drewN ?_ _) | (with_reducible refine Kd.C_drew ?_))); (case side2 => exact (Kd.R_reads' HO284.out).2.1); rintro e w16 ⟨v290, rfl, ho0, hb⟩; refine ⟨_, rfl, ?_⟩; have n0_ := Aside0.mk (Kd.R_below (by (with_reducible repeat (first | apply Kd.R_alloc | apply Kd.R_drewN | apply Kd.R_drew)); exact HO272.out) hb); have n1_ := Aside0.mk (Kd.R_elder' (by (with_reducible repeat (first | apply Kd.R_alloc | apply Kd.R_drewN | apply Kd.R_drew)); exact HO279.out) (Kd.R_base ho0) hb); have n2_ := Aside0.mk (Kd.R_below (by (with_reducible repeat (first | apply Kd.R_alloc | apply Kd.R_drewN | apply Kd.R_drew)); exact HO284.out) hb); have n3_ := Aside0.mk (Kd.R_lower (Kd.R_new' ho0 (Kd.R_lt (by (with_reducible repeat (first | apply Kd.R_alloc | apply Kd.R_drewN | apply Kd.R_drew)); exact HO279.out))) (below_size (by repeat (first | (with_reducible first | exact HB.out | apply below_alloc | apply pw_below_drewN | apply below_drew1 | refine below_set ?_ GE281.out) | exact HB.out)))); have n4_ := Aside0.mk (blk_below (g := gb281) (o := .cells #[.int .i64 t273, .int .i64 t274, .int .i64 t275, .int .i64 t276] 113 (0, 0)) (by (with_reducible repeat (first | refine blk_drewN ?_ _ | refine blk_drew ?_ | refine blk_alloc ?_ _)); exact BK281.out) hb); have n5_ := Aside0.mk (below_step (by repeat (first | (with_reducible first | exact HB.out | apply below_alloc | apply pw_below_drewN | apply below_drew1 | refine below_set ?_ GE281.out) | exact HB.out)) hb); clear HO272; clear HO279; clear HO284; clear BK281; clear HB; have HO272 := n0_; have HO279 := n1_; have HO284 := n2_; have HO291 := n3_; have BK281 := n4_; have HB := n5_; clear n0_ n1_ n2_ n3_ n4_ n5_; (try clear hb); (try clear hb2); (try clear hk); (try clear hi); (try clear ho0)) | ((with_reducible refine gate_dst (N := 8) rfl ?_); refine box_event ?hg (N := 8) ?hd (cs := #[.int .i64 0, .int .i64 0, .int .i64 0, .int .i64 0]) (t := 113) ?hr ?_; (case hd => rfl); (case hg => rfl); (case hr => first | (go_simp; done) | (go_simp; rfl)); intro gb293 hg w17 hbox hb; have n0_ := Aside0.mk (Kd.R_below (by (with_reducible repeat (first | apply Kd.R_alloc | apply Kd.R_drewN | apply Kd.R_drew)); exact HO272.out) hb); have n1_ := Aside0.mk (Kd.R_below (by (with_reducible repeat (first | apply Kd.R_alloc | apply Kd.R_drewN | apply Kd.R_drew)); exact HO279.out) hb); have n2_ := Aside0.mk (Kd.R_below (by (with_reducible repeat (first | apply Kd.R_alloc | apply Kd.R_drewN | apply Kd.R_drew)); exact HO284.out) hb); have n3_ := Aside0.mk (Kd.R_below (by (with_reducible repeat (first | apply Kd.R_alloc | apply Kd.R_drewN | apply Kd.R_drew)); exact HO291.out) hb); have n4_ := Aside0.mk (blk_below (g := gb281) (o := .cells #[.int .i64 t273, .int .i64 t274, .int .i64 t275, .int .i64 t276] 113 (0, 0)) (by (with_reducible repeat (first | refine blk_drewN ?_ _ | refine blk_drew ?_ | refine blk_alloc ?_ _)); exact BK281.out) hb); have n5_ := Aside0.mk (below_step (by repeat (first | (with_reducible first | exact HB.out | apply below_alloc | apply pw_below_drewN | apply below_drew1 | refine below_set ?_ GE281.out) | exact HB.out)) hb); have n6_ := Aside0.mk (hbox); have n7_ := Aside0.mk ((by rw [hg]; exact (below_size (by repeat (first | (with_reducible first | exact HB.out | apply below_alloc | apply pw_below_drewN | apply below_drew1 | refine below_set ?_ GE281.out) | exact HB.out))) : w.heap.size ≤ gb293)); have n8_ := n7_; have n9_ := Aside0.mk ((by rw [hg]; exact Nat.ne_of_lt (blk_lt (g := gb281) (o := .cells #[.int .i64 t273, .int .i64 t274, .int .i64 t275, .int .i64 t276] 113 (0, 0)) (by (with_reducible repeat (first | refine blk_drewN ?_ _ | refine blk_drew ?_ | refine blk_alloc ?_ _)); exact BK281.out)) : gb281 ≠ gb293)); have n10_ := Aside0.mk (Ne.symm n9_.out); clear HO272; clear HO279; clear HO284; clear HO291; clear BK281; clear HB; have HO272 := n0_; have HO279 := n1_; have HO284 := n2_; have HO291 := n3_; have BK281 := n4_; have HB := n5_; have BK293 := n6_; have GW293 := n7_; have GE293 := n8_; have NB281_293 := n9_; have NB293_281 := n10_; clear n0_ n1_ n2_ n3_ n4_ n5_ n6_ n7_ n8_ n9_ n10_; clear hb hbox hg; have hnb18 := NB293_281.out; have hnc18 := NB281_293.out; have hcz19_0 : w17.cell? ⟨gb293, 0, none⟩ = some (.int .i64 0) := (blk_cell BK293.out 0).trans rfl; have hcz19_1 : w17.cell? ⟨gb293, 1, none⟩ = some (.int .i64 0) := (blk_cell BK293.out 1).trans rfl; have hcz19_2 : w17.cell? ⟨gb293, 2, none⟩ = some (.int .i64 0) := (blk_cell BK293.out 2).trans rfl; have hcz19_3 : w17.cell? ⟨gb293, 3, none⟩ = some (.int .i64 0) := (blk_cell BK293.out 3).trans rfl; have hfz19_0 := blk_frozen BK293.out 0; have hfz19_1 := blk_frozen BK293.out 1; have hfz19_2 := blk_frozen BK293.out 2; have hfz19_3 := blk_frozen BK293.out 3))
  (try simp only [Act.put, List.setIfInBounds_toArray, List.set_cons_zero, List.set_cons_succ])
  go_cut [51] (fun v51 wc => ∃ (kq : Nat) (x51_7 : Bool), v51 = .bool x51_7 ∧ Aside0 (laws_FnExactPlayWindow.j0 kq l0 t277 t280 t282 t289 t292 x51_7 t273 t274 t275 t276 t285 t286 t287 t288 = some r) ∧ Aside0 (kq ≤ k) ∧ Aside0 (Kd.R (Kd.int .i64) 3 wc w.heap.size (fun k_ => some k_ ≠ (v290 : Value).ownBlock) v278 t277) ∧ Aside0 (Kd.R k190 190 wc w.heap.size (fun _ => True) (.slice Ao15 t282.length co15) t282) ∧ Aside0 (Kd.R (Kd.int .i64) 3 wc w.heap.size (fun k_ => some k_ ≠ (v278 : Value).ownBlock) v290 t289) ∧ Aside0 (wc.heap[gb281]? = some (.cells #[.int .i64 t273, .int .i64 t274, .int .i64 t275, .int .i64 t276] 113 (0, 0))) ∧ Aside0 (wc.heap[gb293]? = some (.cells #[.int .i64 t285, .int .i64 t286, .int .i64 t287, .int .i64 t288] 113 (0, 0))) ∧ Aside0 (Below w.heap.size w wc))
  case first =>
   have H := HC8.out
   clear HC8
   replace H := Option.bind_eq_some_iff.mp H
   obtain ⟨t294, A200, H⟩ := H
   replace H : (if t294 = true then ((laws_eqIntS.f k t289 t277).bind fun t295 => (if t295 = true then (laws_FnExactPlayWindow.j0 k l0 t277 t280 t282 t289 t292 (t292 != t280) t273 t274 t275 t276 t285 t286 t287 t288) else (laws_FnExactPlayWindow.j0 k l0 t277 t280 t282 t289 t292 true t273 t274 t275 t276 t285 t286 t287 t288))) else (laws_FnExactPlayWindow.j0 k l0 t277 t280 t282 t289 t292 true t273 t274 t275 t276 t285 t286 t287 t288)) = some r := H
   have A20 := Aside0.mk A200
   clear A200
   by_cases c21 : t294 = true
   ·subst c21
    have H1 : ((laws_eqIntS.f k t289 t277).bind fun t295 => (if t295 = true then (laws_FnExactPlayWindow.j0 k l0 t277 t280 t282 t289 t292 (t292 != t280) t273 t274 t275 t276 t285 t286 t287 t288) else (laws_FnExactPlayWindow.j0 k l0 t277 t280 t282 t289 t292 true t273 t274 t275 t276 t285 t286 t287 t288))) = some r := by rw [if_pos rfl] at H; exact H
    clear H
    have H := H1
    clear H1
    replace H := Option.bind_eq_some_iff.mp H
    obtain ⟨t295, A220, H⟩ := H
    replace H : (if t295 = true then (laws_FnExactPlayWindow.j0 k l0 t277 t280 t282 t289 t292 (t292 != t280) t273 t274 t275 t276 t285 t286 t287 t288) else (laws_FnExactPlayWindow.j0 k l0 t277 t280 t282 t289 t292 true t273 t274 t275 t276 t285 t286 t287 t288)) = some r := H
    have A22 := Aside0.mk A220
    clear A220
    by_cases c23 : t295 = true
    ·subst c23
     have H1 : (laws_FnExactPlayWindow.j0 k l0 t277 t280 t282 t289 t292 (t292 != t280) t273 t274 t275 t276 t285 t286 t287 t288) = some r := by rw [if_pos rfl] at H; exact H
     clear H
     have H := H1
     clear H1
     have H' := Aside0.mk H
     clear H
     have hnb24 := NB293_281.out
     have hnc24 := NB281_293.out
     have hcz25_0 : w17.cell? ⟨gb293, 0, none⟩ = some (.int .i64 0) := (blk_cell BK293.out 0).trans rfl
     have hcz25_1 : w17.cell? ⟨gb293, 1, none⟩ = some (.int .i64 0) := (blk_cell BK293.out 1).trans rfl
     have hcz25_2 : w17.cell? ⟨gb293, 2, none⟩ = some (.int .i64 0) := (blk_cell BK293.out 2).trans rfl
     have hcz25_3 : w17.cell? ⟨gb293, 3, none⟩ = some (.int .i64 0) := (blk_cell BK293.out 3).trans rfl
     have hfz25_0 := blk_frozen BK293.out 0
     have hfz25_1 := blk_frozen BK293.out 1
     have hfz25_2 := blk_frozen BK293.out 2
     have hfz25_3 := blk_frozen BK293.out 3
     have hcz26_0 : w17.cell? ⟨gb281, 0, none⟩ = some (.int .i64 t273) := (blk_cell BK281.out 0).trans rfl
     have hcz26_1 : w17.cell? ⟨gb281, 1, none⟩ = some (.int .i64 t274) := (blk_cell BK281.out 1).trans rfl
     have hcz26_2 : w17.cell? ⟨gb281, 2, none⟩ = some (.int .i64 t275) := (blk_cell BK281.out 2).trans rfl
     have hcz26_3 : w17.cell? ⟨gb281, 3, none⟩ = some (.int .i64 t276) := (blk_cell BK281.out 3).trans rfl
     have hfz26_0 := blk_frozen BK281.out 0
     have hfz26_1 := blk_frozen BK281.out 1
     have hfz26_2 := blk_frozen BK281.out 2
     have hfz26_3 := blk_frozen BK281.out 3
     go_wp2_with (first | ((with_reducible refine gate_callee (f := 67) rfl ?_); refine goesL_ (some 39) rfl rfl Try.func67 (by kernel_rfl) rfl #[.agg #[.int .i64 t285, .int .i64 t286, .int .i64 t287, .int .i64 t288], .agg #[.int .i64 t273, .int .i64 t274, .int .i64 t275, .int .i64 t276]] rfl (by (try simp only [List.map_toArray, List.map_cons, List.map_nil]); first | done | rfl | (simp only [List.length_drop, List.length_take]; rfl)) ?_; (with_reducible refine (laws_eqWindow.calls t285 t286 t287 t288 t273 t274 t275 t276 true _ A20.out).mono ?_); rintro e w27 ⟨rfl, hb⟩; refine ⟨_, rfl, ?_⟩; have n0_ := Aside0.mk (Kd.R_below (by (with_reducible repeat (first | apply Kd.R_alloc | apply Kd.R_drewN | apply Kd.R_drew)); exact (Kd.R_mono (Kd.R_far (p := ⟨gb293, 3, none⟩) (Kd.R_far (p := ⟨gb293, 2, none⟩) (Kd.R_far (p := ⟨gb293, 1, none⟩) (Kd.R_far (p := ⟨gb293, 0, none⟩) (Kd.R_types HO272.out BK293.out (by decide)) (fun _ hk => hk.2) (.int .i64 t285)) (fun _ hk => hk.2) (.int .i64 t286)) (fun _ hk => hk.2) (.int .i64 t287)) (fun _ hk => hk.2) (.int .i64 t288)) (fun _ h_ => h_.1))) hb); have n1_ := Aside0.mk (Kd.R_below (by (with_reducible repeat (first | apply Kd.R_alloc | apply Kd.R_drewN | apply Kd.R_drew)); exact (Kd.R_mono (Kd.R_far (p := ⟨gb293, 3, none⟩) (Kd.R_far (p := ⟨gb293, 2, none⟩) (Kd.R_far (p := ⟨gb293, 1, none⟩) (Kd.R_far (p := ⟨gb293, 0, none⟩) (Kd.R_types HO279.out BK293.out (by decide)) (fun _ hk => hk.2) (.int .i64 t285)) (fun _ hk => hk.2) (.int .i64 t286)) (fun _ hk => hk.2) (.int .i64 t287)) (fun _ hk => hk.2) (.int .i64 t288)) (fun _ h_ => h_.1))) hb); have n2_ := Aside0.mk (Kd.R_below (by (with_reducible repeat (first | apply Kd.R_alloc | apply Kd.R_drewN | apply Kd.R_drew)); exact (Kd.R_mono (Kd.R_far (p := ⟨gb293, 3, none⟩) (Kd.R_far (p := ⟨gb293, 2, none⟩) (Kd.R_far (p := ⟨gb293, 1, none⟩) (Kd.R_far (p := ⟨gb293, 0, none⟩) (Kd.R_types HO284.out BK293.out (by decide)) (fun _ hk => hk.2) (.int .i64 t285)) (fun _ hk => hk.2) (.int .i64 t286)) (fun _ hk => hk.2) (.int .i64 t287)) (fun _ hk => hk.2) (.int .i64 t288)) (fun _ h_ => h_.1))) hb); have n3_ := Aside0.mk (Kd.R_below (by (with_reducible repeat (first | apply Kd.R_alloc | apply Kd.R_drewN | apply Kd.R_drew)); exact (Kd.R_mono (Kd.R_far (p := ⟨gb293, 3, none⟩) (Kd.R_far (p := ⟨gb293, 2, none⟩) (Kd.R_far (p := ⟨gb293, 1, none⟩) (Kd.R_far (p := ⟨gb293, 0, none⟩) (Kd.R_types HO291.out BK293.out (by decide)) (fun _ hk => hk.2) (.int .i64 t285)) (fun _ hk => hk.2) (.int .i64 t286)) (fun _ hk => hk.2) (.int .i64 t287)) (fun _ hk => hk.2) (.int .i64 t288)) (fun _ h_ => h_.1))) hb); have n4_ := Aside0.mk (blk_below (g := gb281) (o := .cells #[.int .i64 t273, .int .i64 t274, .int .i64 t275, .int .i64 t276] 113 (0, 0)) (by (with_reducible repeat (first | refine blk_drewN ?_ _ | refine blk_drew ?_ | refine blk_alloc ?_ _)); refine blk_far ?_ NB281_293.out _; (with_reducible repeat (first | refine blk_drewN ?_ _ | refine blk_drew ?_ | refine blk_alloc ?_ _)); refine blk_far ?_ NB281_293.out _; (with_reducible repeat (first | refine blk_drewN ?_ _ | refine blk_drew ?_ | refine blk_alloc ?_ _)); refine blk_far ?_ NB281_293.out _; (with_reducible repeat (first | refine blk_drewN ?_ _ | refine blk_drew ?_ | refine blk_alloc ?_ _)); refine blk_far ?_ NB281_293.out _; (with_reducible repeat (first | refine blk_drewN ?_ _ | refine blk_drew ?_ | refine blk_alloc ?_ _)); exact BK281.out) hb); have n5_ := Aside0.mk (blk_below (g := gb293) (o := .cells #[.int .i64 t285, .int .i64 t286, .int .i64 t287, .int .i64 t288] 113 (0, 0)) (by (with_reducible repeat (first | refine blk_drewN ?_ _ | refine blk_drew ?_ | refine blk_alloc ?_ _)); refine blk_put (cs := #[.int .i64 t285, .int .i64 t286, .int .i64 t287, .int .i64 0]) ?_ 3 _ rfl; (with_reducible repeat (first | refine blk_drewN ?_ _ | refine blk_drew ?_ | refine blk_alloc ?_ _)); refine blk_put (cs := #[.int .i64 t285, .int .i64 t286, .int .i64 0, .int .i64 0]) ?_ 2 _ rfl; (with_reducible repeat (first | refine blk_drewN ?_ _ | refine blk_drew ?_ | refine blk_alloc ?_ _)); refine blk_put (cs := #[.int .i64 t285, .int .i64 0, .int .i64 0, .int .i64 0]) ?_ 1 _ rfl; (with_reducible repeat (first | refine blk_drewN ?_ _ | refine blk_drew ?_ | refine blk_alloc ?_ _)); refine blk_put (cs := #[.int .i64 0, .int .i64 0, .int .i64 0, .int .i64 0]) ?_ 0 _ rfl; (with_reducible repeat (first | refine blk_drewN ?_ _ | refine blk_drew ?_ | refine blk_alloc ?_ _)); exact BK293.out) hb); have n6_ := Aside0.mk (below_step (by repeat (first | (with_reducible first | exact HB.out | apply below_alloc | apply pw_below_drewN | apply below_drew1 | refine below_set ?_ GE281.out | refine below_set ?_ GE293.out) | exact HB.out)) hb); clear HO272; clear HO279; clear HO284; clear HO291; clear BK281; clear BK293; clear HB; have HO272 := n0_; have HO279 := n1_; have HO284 := n2_; have HO291 := n3_; have BK281 := n4_; have BK293 := n5_; have HB := n6_; clear n0_ n1_ n2_ n3_ n4_ n5_ n6_; (try clear hb); (try clear hb2); (try clear hk); (try clear hi); obtain ⟨Ao28, co28, eo28⟩ := Kd.R_slice HO291.out; subst eo28; obtain ⟨Ao29, co29, eo29⟩ := Kd.R_slice HO279.out; subst eo29) | (go_at_call 68; (with_reducible refine (laws_eqIntS.calls k _ _ t289 _ _ t277 true _ ?side1 ?side2 ?side3 ?side4 A22.out).mono ?_); (case side1 => repeat (first | exact (Kd.R_reads' HO291.out).2.2 | (with_reducible refine Kd.C_alloc ?_ _) | (with_reducible refine Kd.C_drewN ?_ _) | (with_reducible refine Kd.C_drew ?_))); (case side2 => exact (Kd.R_reads' HO291.out).2.1); (case side3 => repeat (first | exact (Kd.R_reads' HO279.out).2.2 | (with_reducible refine Kd.C_alloc ?_ _) | (with_reducible refine Kd.C_drewN ?_ _) | (with_reducible refine Kd.C_drew ?_))); (case side4 => exact (Kd.R_reads' HO279.out).2.1); rintro e w' ⟨rfl, ⟨nd, rfl⟩⟩))
     go_meet
     case rel => exact ⟨_, ((t292 != t280)), (by first | rfl | (simp; done) | (simp [*]; done)), H', ⟨by first | omega | exact Nat.le_refl _⟩, ⟨by (with_reducible repeat (first | apply Kd.R_alloc | apply Kd.R_drewN | apply Kd.R_drew)); exact Kd.R_mono HO279.out (fun _ hk => hk.2)⟩, ⟨by (with_reducible repeat (first | apply Kd.R_alloc | apply Kd.R_drewN | apply Kd.R_drew)); exact Kd.R_mono HO284.out (fun _ hk => trivial)⟩, ⟨by (with_reducible repeat (first | apply Kd.R_alloc | apply Kd.R_drewN | apply Kd.R_drew)); exact Kd.R_mono HO291.out (fun _ hk => hk.2)⟩, ⟨by (with_reducible repeat (first | refine blk_drewN ?_ _ | refine blk_drew ?_ | refine blk_alloc ?_ _)); exact BK281.out⟩, ⟨by (with_reducible repeat (first | refine blk_drewN ?_ _ | refine blk_drew ?_ | refine blk_alloc ?_ _)); exact BK293.out⟩, ⟨by repeat (first | (with_reducible first | exact HB.out | apply below_alloc | apply pw_below_drewN | apply below_drew1 | refine below_set ?_ GE281.out | refine below_set ?_ GE293.out) | exact HB.out)⟩⟩
    ·replace c23 := Bool.eq_false_iff.mpr c23
     subst c23
     have H1 : (laws_FnExactPlayWindow.j0 k l0 t277 t280 t282 t289 t292 true t273 t274 t275 t276 t285 t286 t287 t288) = some r := by rw [if_neg (show ¬ (false = true) by decide)] at H; exact H
     clear H
     have H := H1
     clear H1
     have H' := Aside0.mk H
     clear H
     have hnb30 := NB293_281.out
     have hnc30 := NB281_293.out
     have hcz31_0 : w17.cell? ⟨gb293, 0, none⟩ = some (.int .i64 0) := (blk_cell BK293.out 0).trans rfl
     have hcz31_1 : w17.cell? ⟨gb293, 1, none⟩ = some (.int .i64 0) := (blk_cell BK293.out 1).trans rfl
     have hcz31_2 : w17.cell? ⟨gb293, 2, none⟩ = some (.int .i64 0) := (blk_cell BK293.out 2).trans rfl
     have hcz31_3 : w17.cell? ⟨gb293, 3, none⟩ = some (.int .i64 0) := (blk_cell BK293.out 3).trans rfl
     have hfz31_0 := blk_frozen BK293.out 0
     have hfz31_1 := blk_frozen BK293.out 1
     have hfz31_2 := blk_frozen BK293.out 2
     have hfz31_3 := blk_frozen BK293.out 3
     have hcz32_0 : w17.cell? ⟨gb281, 0, none⟩ = some (.int .i64 t273) := (blk_cell BK281.out 0).trans rfl
     have hcz32_1 : w17.cell? ⟨gb281, 1, none⟩ = some (.int .i64 t274) := (blk_cell BK281.out 1).trans rfl
     have hcz32_2 : w17.cell? ⟨gb281, 2, none⟩ = some (.int .i64 t275) := (blk_cell BK281.out 2).trans rfl
     have hcz32_3 : w17.cell? ⟨gb281, 3, none⟩ = some (.int .i64 t276) := (blk_cell BK281.out 3).trans rfl
     have hfz32_0 := blk_frozen BK281.out 0
     have hfz32_1 := blk_frozen BK281.out 1
     have hfz32_2 := blk_frozen BK281.out 2
     have hfz32_3 := blk_frozen BK281.out 3
     go_wp2_with (first | ((with_reducible refine gate_callee (f := 67) rfl ?_); refine goesL_ (some 39) rfl rfl Try.func67 (by kernel_rfl) rfl #[.agg #[.int .i64 t285, .int .i64 t286, .int .i64 t287, .int .i64 t288], .agg #[.int .i64 t273, .int .i64 t274, .int .i64 t275, .int .i64 t276]] rfl (by (try simp only [List.map_toArray, List.map_cons, List.map_nil]); first | done | rfl | (simp only [List.length_drop, List.length_take]; rfl)) ?_; (with_reducible refine (laws_eqWindow.calls t285 t286 t287 t288 t273 t274 t275 t276 true _ A20.out).mono ?_); rintro e w33 ⟨rfl, hb⟩; refine ⟨_, rfl, ?_⟩; have n0_ := Aside0.mk (Kd.R_below (by (with_reducible repeat (first | apply Kd.R_alloc | apply Kd.R_drewN | apply Kd.R_drew)); exact (Kd.R_mono (Kd.R_far (p := ⟨gb293, 3, none⟩) (Kd.R_far (p := ⟨gb293, 2, none⟩) (Kd.R_far (p := ⟨gb293, 1, none⟩) (Kd.R_far (p := ⟨gb293, 0, none⟩) (Kd.R_types HO272.out BK293.out (by decide)) (fun _ hk => hk.2) (.int .i64 t285)) (fun _ hk => hk.2) (.int .i64 t286)) (fun _ hk => hk.2) (.int .i64 t287)) (fun _ hk => hk.2) (.int .i64 t288)) (fun _ h_ => h_.1))) hb); have n1_ := Aside0.mk (Kd.R_below (by (with_reducible repeat (first | apply Kd.R_alloc | apply Kd.R_drewN | apply Kd.R_drew)); exact (Kd.R_mono (Kd.R_far (p := ⟨gb293, 3, none⟩) (Kd.R_far (p := ⟨gb293, 2, none⟩) (Kd.R_far (p := ⟨gb293, 1, none⟩) (Kd.R_far (p := ⟨gb293, 0, none⟩) (Kd.R_types HO279.out BK293.out (by decide)) (fun _ hk => hk.2) (.int .i64 t285)) (fun _ hk => hk.2) (.int .i64 t286)) (fun _ hk => hk.2) (.int .i64 t287)) (fun _ hk => hk.2) (.int .i64 t288)) (fun _ h_ => h_.1))) hb); have n2_ := Aside0.mk (Kd.R_below (by (with_reducible repeat (first | apply Kd.R_alloc | apply Kd.R_drewN | apply Kd.R_drew)); exact (Kd.R_mono (Kd.R_far (p := ⟨gb293, 3, none⟩) (Kd.R_far (p := ⟨gb293, 2, none⟩) (Kd.R_far (p := ⟨gb293, 1, none⟩) (Kd.R_far (p := ⟨gb293, 0, none⟩) (Kd.R_types HO284.out BK293.out (by decide)) (fun _ hk => hk.2) (.int .i64 t285)) (fun _ hk => hk.2) (.int .i64 t286)) (fun _ hk => hk.2) (.int .i64 t287)) (fun _ hk => hk.2) (.int .i64 t288)) (fun _ h_ => h_.1))) hb); have n3_ := Aside0.mk (Kd.R_below (by (with_reducible repeat (first | apply Kd.R_alloc | apply Kd.R_drewN | apply Kd.R_drew)); exact (Kd.R_mono (Kd.R_far (p := ⟨gb293, 3, none⟩) (Kd.R_far (p := ⟨gb293, 2, none⟩) (Kd.R_far (p := ⟨gb293, 1, none⟩) (Kd.R_far (p := ⟨gb293, 0, none⟩) (Kd.R_types HO291.out BK293.out (by decide)) (fun _ hk => hk.2) (.int .i64 t285)) (fun _ hk => hk.2) (.int .i64 t286)) (fun _ hk => hk.2) (.int .i64 t287)) (fun _ hk => hk.2) (.int .i64 t288)) (fun _ h_ => h_.1))) hb); have n4_ := Aside0.mk (blk_below (g := gb281) (o := .cells #[.int .i64 t273, .int .i64 t274, .int .i64 t275, .int .i64 t276] 113 (0, 0)) (by (with_reducible repeat (first | refine blk_drewN ?_ _ | refine blk_drew ?_ | refine blk_alloc ?_ _)); refine blk_far ?_ NB281_293.out _; (with_reducible repeat (first | refine blk_drewN ?_ _ | refine blk_drew ?_ | refine blk_alloc ?_ _)); refine blk_far ?_ NB281_293.out _; (with_reducible repeat (first | refine blk_drewN ?_ _ | refine blk_drew ?_ | refine blk_alloc ?_ _)); refine blk_far ?_ NB281_293.out _; (with_reducible repeat (first | refine blk_drewN ?_ _ | refine blk_drew ?_ | refine blk_alloc ?_ _)); refine blk_far ?_ NB281_293.out _; (with_reducible repeat (first | refine blk_drewN ?_ _ | refine blk_drew ?_ | refine blk_alloc ?_ _)); exact BK281.out) hb); have n5_ := Aside0.mk (blk_below (g := gb293) (o := .cells #[.int .i64 t285, .int .i64 t286, .int .i64 t287, .int .i64 t288] 113 (0, 0)) (by (with_reducible repeat (first | refine blk_drewN ?_ _ | refine blk_drew ?_ | refine blk_alloc ?_ _)); refine blk_put (cs := #[.int .i64 t285, .int .i64 t286, .int .i64 t287, .int .i64 0]) ?_ 3 _ rfl; (with_reducible repeat (first | refine blk_drewN ?_ _ | refine blk_drew ?_ | refine blk_alloc ?_ _)); refine blk_put (cs := #[.int .i64 t285, .int .i64 t286, .int .i64 0, .int .i64 0]) ?_ 2 _ rfl; (with_reducible repeat (first | refine blk_drewN ?_ _ | refine blk_drew ?_ | refine blk_alloc ?_ _)); refine blk_put (cs := #[.int .i64 t285, .int .i64 0, .int .i64 0, .int .i64 0]) ?_ 1 _ rfl; (with_reducible repeat (first | refine blk_drewN ?_ _ | refine blk_drew ?_ | refine blk_alloc ?_ _)); refine blk_put (cs := #[.int .i64 0, .int .i64 0, .int .i64 0, .int .i64 0]) ?_ 0 _ rfl; (with_reducible repeat (first | refine blk_drewN ?_ _ | refine blk_drew ?_ | refine blk_alloc ?_ _)); exact BK293.out) hb); have n6_ := Aside0.mk (below_step (by repeat (first | (with_reducible first | exact HB.out | apply below_alloc | apply pw_below_drewN | apply below_drew1 | refine below_set ?_ GE281.out | refine below_set ?_ GE293.out) | exact HB.out)) hb); clear HO272; clear HO279; clear HO284; clear HO291; clear BK281; clear BK293; clear HB; have HO272 := n0_; have HO279 := n1_; have HO284 := n2_; have HO291 := n3_; have BK281 := n4_; have BK293 := n5_; have HB := n6_; clear n0_ n1_ n2_ n3_ n4_ n5_ n6_; (try clear hb); (try clear hb2); (try clear hk); (try clear hi); obtain ⟨Ao34, co34, eo34⟩ := Kd.R_slice HO291.out; subst eo34; obtain ⟨Ao35, co35, eo35⟩ := Kd.R_slice HO279.out; subst eo35) | (go_at_call 68; (with_reducible refine (laws_eqIntS.calls k _ _ t289 _ _ t277 false _ ?side1 ?side2 ?side3 ?side4 A22.out).mono ?_); (case side1 => repeat (first | exact (Kd.R_reads' HO291.out).2.2 | (with_reducible refine Kd.C_alloc ?_ _) | (with_reducible refine Kd.C_drewN ?_ _) | (with_reducible refine Kd.C_drew ?_))); (case side2 => exact (Kd.R_reads' HO291.out).2.1); (case side3 => repeat (first | exact (Kd.R_reads' HO279.out).2.2 | (with_reducible refine Kd.C_alloc ?_ _) | (with_reducible refine Kd.C_drewN ?_ _) | (with_reducible refine Kd.C_drew ?_))); (case side4 => exact (Kd.R_reads' HO279.out).2.1); rintro e w' ⟨rfl, ⟨nd, rfl⟩⟩))
     go_meet
     case rel => exact ⟨_, (true), (by first | rfl | (simp; done) | (simp [*]; done)), H', ⟨by first | omega | exact Nat.le_refl _⟩, ⟨by (with_reducible repeat (first | apply Kd.R_alloc | apply Kd.R_drewN | apply Kd.R_drew)); exact Kd.R_mono HO279.out (fun _ hk => hk.2)⟩, ⟨by (with_reducible repeat (first | apply Kd.R_alloc | apply Kd.R_drewN | apply Kd.R_drew)); exact Kd.R_mono HO284.out (fun _ hk => trivial)⟩, ⟨by (with_reducible repeat (first | apply Kd.R_alloc | apply Kd.R_drewN | apply Kd.R_drew)); exact Kd.R_mono HO291.out (fun _ hk => hk.2)⟩, ⟨by (with_reducible repeat (first | refine blk_drewN ?_ _ | refine blk_drew ?_ | refine blk_alloc ?_ _)); exact BK281.out⟩, ⟨by (with_reducible repeat (first | refine blk_drewN ?_ _ | refine blk_drew ?_ | refine blk_alloc ?_ _)); exact BK293.out⟩, ⟨by repeat (first | (with_reducible first | exact HB.out | apply below_alloc | apply pw_below_drewN | apply below_drew1 | refine below_set ?_ GE281.out | refine below_set ?_ GE293.out) | exact HB.out)⟩⟩
   ·replace c21 := Bool.eq_false_iff.mpr c21
    subst c21
    have H1 : (laws_FnExactPlayWindow.j0 k l0 t277 t280 t282 t289 t292 true t273 t274 t275 t276 t285 t286 t287 t288) = some r := by rw [if_neg (show ¬ (false = true) by decide)] at H; exact H
    clear H
    have H := H1
    clear H1
    have H' := Aside0.mk H
    clear H
    have hnb36 := NB293_281.out
    have hnc36 := NB281_293.out
    have hcz37_0 : w17.cell? ⟨gb293, 0, none⟩ = some (.int .i64 0) := (blk_cell BK293.out 0).trans rfl
    have hcz37_1 : w17.cell? ⟨gb293, 1, none⟩ = some (.int .i64 0) := (blk_cell BK293.out 1).trans rfl
    have hcz37_2 : w17.cell? ⟨gb293, 2, none⟩ = some (.int .i64 0) := (blk_cell BK293.out 2).trans rfl
    have hcz37_3 : w17.cell? ⟨gb293, 3, none⟩ = some (.int .i64 0) := (blk_cell BK293.out 3).trans rfl
    have hfz37_0 := blk_frozen BK293.out 0
    have hfz37_1 := blk_frozen BK293.out 1
    have hfz37_2 := blk_frozen BK293.out 2
    have hfz37_3 := blk_frozen BK293.out 3
    have hcz38_0 : w17.cell? ⟨gb281, 0, none⟩ = some (.int .i64 t273) := (blk_cell BK281.out 0).trans rfl
    have hcz38_1 : w17.cell? ⟨gb281, 1, none⟩ = some (.int .i64 t274) := (blk_cell BK281.out 1).trans rfl
    have hcz38_2 : w17.cell? ⟨gb281, 2, none⟩ = some (.int .i64 t275) := (blk_cell BK281.out 2).trans rfl
    have hcz38_3 : w17.cell? ⟨gb281, 3, none⟩ = some (.int .i64 t276) := (blk_cell BK281.out 3).trans rfl
    have hfz38_0 := blk_frozen BK281.out 0
    have hfz38_1 := blk_frozen BK281.out 1
    have hfz38_2 := blk_frozen BK281.out 2
    have hfz38_3 := blk_frozen BK281.out 3
    go_wp2_with (first | ((with_reducible refine gate_callee (f := 67) rfl ?_); refine goesL_ (some 39) rfl rfl Try.func67 (by kernel_rfl) rfl #[.agg #[.int .i64 t285, .int .i64 t286, .int .i64 t287, .int .i64 t288], .agg #[.int .i64 t273, .int .i64 t274, .int .i64 t275, .int .i64 t276]] rfl (by (try simp only [List.map_toArray, List.map_cons, List.map_nil]); first | done | rfl | (simp only [List.length_drop, List.length_take]; rfl)) ?_; (with_reducible refine (laws_eqWindow.calls t285 t286 t287 t288 t273 t274 t275 t276 false _ A20.out).mono ?_); rintro e w39 ⟨rfl, hb⟩; refine ⟨_, rfl, ?_⟩; have n0_ := Aside0.mk (Kd.R_below (by (with_reducible repeat (first | apply Kd.R_alloc | apply Kd.R_drewN | apply Kd.R_drew)); exact (Kd.R_mono (Kd.R_far (p := ⟨gb293, 3, none⟩) (Kd.R_far (p := ⟨gb293, 2, none⟩) (Kd.R_far (p := ⟨gb293, 1, none⟩) (Kd.R_far (p := ⟨gb293, 0, none⟩) (Kd.R_types HO272.out BK293.out (by decide)) (fun _ hk => hk.2) (.int .i64 t285)) (fun _ hk => hk.2) (.int .i64 t286)) (fun _ hk => hk.2) (.int .i64 t287)) (fun _ hk => hk.2) (.int .i64 t288)) (fun _ h_ => h_.1))) hb); have n1_ := Aside0.mk (Kd.R_below (by (with_reducible repeat (first | apply Kd.R_alloc | apply Kd.R_drewN | apply Kd.R_drew)); exact (Kd.R_mono (Kd.R_far (p := ⟨gb293, 3, none⟩) (Kd.R_far (p := ⟨gb293, 2, none⟩) (Kd.R_far (p := ⟨gb293, 1, none⟩) (Kd.R_far (p := ⟨gb293, 0, none⟩) (Kd.R_types HO279.out BK293.out (by decide)) (fun _ hk => hk.2) (.int .i64 t285)) (fun _ hk => hk.2) (.int .i64 t286)) (fun _ hk => hk.2) (.int .i64 t287)) (fun _ hk => hk.2) (.int .i64 t288)) (fun _ h_ => h_.1))) hb); have n2_ := Aside0.mk (Kd.R_below (by (with_reducible repeat (first | apply Kd.R_alloc | apply Kd.R_drewN | apply Kd.R_drew)); exact (Kd.R_mono (Kd.R_far (p := ⟨gb293, 3, none⟩) (Kd.R_far (p := ⟨gb293, 2, none⟩) (Kd.R_far (p := ⟨gb293, 1, none⟩) (Kd.R_far (p := ⟨gb293, 0, none⟩) (Kd.R_types HO284.out BK293.out (by decide)) (fun _ hk => hk.2) (.int .i64 t285)) (fun _ hk => hk.2) (.int .i64 t286)) (fun _ hk => hk.2) (.int .i64 t287)) (fun _ hk => hk.2) (.int .i64 t288)) (fun _ h_ => h_.1))) hb); have n3_ := Aside0.mk (Kd.R_below (by (with_reducible repeat (first | apply Kd.R_alloc | apply Kd.R_drewN | apply Kd.R_drew)); exact (Kd.R_mono (Kd.R_far (p := ⟨gb293, 3, none⟩) (Kd.R_far (p := ⟨gb293, 2, none⟩) (Kd.R_far (p := ⟨gb293, 1, none⟩) (Kd.R_far (p := ⟨gb293, 0, none⟩) (Kd.R_types HO291.out BK293.out (by decide)) (fun _ hk => hk.2) (.int .i64 t285)) (fun _ hk => hk.2) (.int .i64 t286)) (fun _ hk => hk.2) (.int .i64 t287)) (fun _ hk => hk.2) (.int .i64 t288)) (fun _ h_ => h_.1))) hb); have n4_ := Aside0.mk (blk_below (g := gb281) (o := .cells #[.int .i64 t273, .int .i64 t274, .int .i64 t275, .int .i64 t276] 113 (0, 0)) (by (with_reducible repeat (first | refine blk_drewN ?_ _ | refine blk_drew ?_ | refine blk_alloc ?_ _)); refine blk_far ?_ NB281_293.out _; (with_reducible repeat (first | refine blk_drewN ?_ _ | refine blk_drew ?_ | refine blk_alloc ?_ _)); refine blk_far ?_ NB281_293.out _; (with_reducible repeat (first | refine blk_drewN ?_ _ | refine blk_drew ?_ | refine blk_alloc ?_ _)); refine blk_far ?_ NB281_293.out _; (with_reducible repeat (first | refine blk_drewN ?_ _ | refine blk_drew ?_ | refine blk_alloc ?_ _)); refine blk_far ?_ NB281_293.out _; (with_reducible repeat (first | refine blk_drewN ?_ _ | refine blk_drew ?_ | refine blk_alloc ?_ _)); exact BK281.out) hb); have n5_ := Aside0.mk (blk_below (g := gb293) (o := .cells #[.int .i64 t285, .int .i64 t286, .int .i64 t287, .int .i64 t288] 113 (0, 0)) (by (with_reducible repeat (first | refine blk_drewN ?_ _ | refine blk_drew ?_ | refine blk_alloc ?_ _)); refine blk_put (cs := #[.int .i64 t285, .int .i64 t286, .int .i64 t287, .int .i64 0]) ?_ 3 _ rfl; (with_reducible repeat (first | refine blk_drewN ?_ _ | refine blk_drew ?_ | refine blk_alloc ?_ _)); refine blk_put (cs := #[.int .i64 t285, .int .i64 t286, .int .i64 0, .int .i64 0]) ?_ 2 _ rfl; (with_reducible repeat (first | refine blk_drewN ?_ _ | refine blk_drew ?_ | refine blk_alloc ?_ _)); refine blk_put (cs := #[.int .i64 t285, .int .i64 0, .int .i64 0, .int .i64 0]) ?_ 1 _ rfl; (with_reducible repeat (first | refine blk_drewN ?_ _ | refine blk_drew ?_ | refine blk_alloc ?_ _)); refine blk_put (cs := #[.int .i64 0, .int .i64 0, .int .i64 0, .int .i64 0]) ?_ 0 _ rfl; (with_reducible repeat (first | refine blk_drewN ?_ _ | refine blk_drew ?_ | refine blk_alloc ?_ _)); exact BK293.out) hb); have n6_ := Aside0.mk (below_step (by repeat (first | (with_reducible first | exact HB.out | apply below_alloc | apply pw_below_drewN | apply below_drew1 | refine below_set ?_ GE281.out | refine below_set ?_ GE293.out) | exact HB.out)) hb); clear HO272; clear HO279; clear HO284; clear HO291; clear BK281; clear BK293; clear HB; have HO272 := n0_; have HO279 := n1_; have HO284 := n2_; have HO291 := n3_; have BK281 := n4_; have BK293 := n5_; have HB := n6_; clear n0_ n1_ n2_ n3_ n4_ n5_ n6_; (try clear hb); (try clear hb2); (try clear hk); (try clear hi)))
    go_meet
    case rel => exact ⟨_, (true), (by first | rfl | (simp; done) | (simp [*]; done)), H', ⟨by first | omega | exact Nat.le_refl _⟩, ⟨by (with_reducible repeat (first | apply Kd.R_alloc | apply Kd.R_drewN | apply Kd.R_drew)); exact Kd.R_mono HO279.out (fun _ hk => hk.2)⟩, ⟨by (with_reducible repeat (first | apply Kd.R_alloc | apply Kd.R_drewN | apply Kd.R_drew)); exact Kd.R_mono HO284.out (fun _ hk => trivial)⟩, ⟨by (with_reducible repeat (first | apply Kd.R_alloc | apply Kd.R_drewN | apply Kd.R_drew)); exact Kd.R_mono HO291.out (fun _ hk => hk.2)⟩, ⟨by (with_reducible repeat (first | refine blk_drewN ?_ _ | refine blk_drew ?_ | refine blk_alloc ?_ _)); exact BK281.out⟩, ⟨by (with_reducible repeat (first | refine blk_drewN ?_ _ | refine blk_drew ?_ | refine blk_alloc ?_ _)); exact BK293.out⟩, ⟨by repeat (first | (with_reducible first | exact HB.out | apply below_alloc | apply pw_below_drewN | apply below_drew1 | refine below_set ?_ GE281.out | refine below_set ?_ GE293.out) | exact HB.out)⟩⟩
  case rest =>
   clear HC8
   try clear c1
   try clear c2
   try clear p2
   try clear c3
   try clear c3b0
   try clear c6
   try clear c12
   try clear c18
   try clear c21
   try clear c23
   try clear c24
   try clear c30
   try clear c36
   try clear hcz13_0
   try clear hcz13_1
   try clear hcz13_2
   try clear hcz13_3
   try clear hcz19_0
   try clear hcz19_1
   try clear hcz19_2
   try clear hcz19_3
   try clear hcz25_0
   try clear hcz25_1
   try clear hcz25_2
   try clear hcz25_3
   try clear hcz26_0
   try clear hcz26_1
   try clear hcz26_2
   try clear hcz26_3
   try clear hcz31_0
   try clear hcz31_1
   try clear hcz31_2
   try clear hcz31_3
   try clear hcz32_0
   try clear hcz32_1
   try clear hcz32_2
   try clear hcz32_3
   try clear hcz37_0
   try clear hcz37_1
   try clear hcz37_2
   try clear hcz37_3
   try clear hcz38_0
   try clear hcz38_1
   try clear hcz38_2
   try clear hcz38_3
   try clear hfz13_0
   try clear hfz13_1
   try clear hfz13_2
   try clear hfz13_3
   try clear hfz19_0
   try clear hfz19_1
   try clear hfz19_2
   try clear hfz19_3
   try clear hfz25_0
   try clear hfz25_1
   try clear hfz25_2
   try clear hfz25_3
   try clear hfz26_0
   try clear hfz26_1
   try clear hfz26_2
   try clear hfz26_3
   try clear hfz31_0
   try clear hfz31_1
   try clear hfz31_2
   try clear hfz31_3
   try clear hfz32_0
   try clear hfz32_1
   try clear hfz32_2
   try clear hfz32_3
   try clear hfz37_0
   try clear hfz37_1
   try clear hfz37_2
   try clear hfz37_3
   try clear hfz38_0
   try clear hfz38_1
   try clear hfz38_2
   try clear hfz38_3
   obtain ⟨kq, x51_7, rfl, HA, HJ7, HO_5, HO_7, HO_9, BK281, BK293, HB⟩ := hcut
   cases kq with
   | zero => exact absurd HA.out (by simp [laws_FnExactPlayWindow.j0])
   | succ kj7 =>
    have H := HA.out
    clear HA
    simp only [laws_FnExactPlayWindow.j0] at H
    by_cases c40 : x51_7 = true
    ·subst c40
     have H1 : (some false) = some r := by rw [if_pos rfl] at H; exact H
     clear H
     have H := H1
     clear H1
     obtain rfl := Option.some.inj H
     go_wp2
     go_ret
     exact ⟨by first | rfl | (simp [errW_none, errW_some] <;> rfl) | (simp [*, errW_none, errW_some] <;> rfl), by repeat (first | (with_reducible first | exact HB.out | apply below_alloc | apply pw_below_drewN | apply below_drew1 | refine below_set ?_ GE281.out | refine below_set ?_ GE293.out) | exact HB.out)⟩
    ·replace c40 := Bool.eq_false_iff.mpr c40
     subst c40
     have H1 : ((laws_toGrowS.f kj7 l0).bind fun t296 => ((laws_eqGrowS.f kj7 t282 t296).bind fun t299 => (if t299 = true then ((laws_markGrowS.f kj7 t282 1).bind fun bt300 => (if bt300.1 < 0 then (laws_FnExactPlayWindow.j1 kj7 l0 t277 t280 t289 true t273 t274 t275 t276) else ((laws_eqWindow.f t285 t286 t287 t288 t273 t274 t275 t276).bind fun t302 => (if t302 = true then ((laws_eqIntS.f kj7 t289 t277).bind fun t303 => (if t303 = true then (laws_FnExactPlayWindow.j1 kj7 l0 t277 t280 t289 (t292 != t280) t273 t274 t275 t276) else (laws_FnExactPlayWindow.j1 kj7 l0 t277 t280 t289 true t273 t274 t275 t276))) else (laws_FnExactPlayWindow.j1 kj7 l0 t277 t280 t289 true t273 t274 t275 t276))))) else (some false)))) = some r := by rw [if_neg (show ¬ (false = true) by decide)] at H; exact H
     clear H
     have H := H1
     clear H1
     replace H := Option.bind_eq_some_iff.mp H
     obtain ⟨t296, A410, H⟩ := H
     replace H : ((laws_eqGrowS.f kj7 t282 t296).bind fun t299 => (if t299 = true then ((laws_markGrowS.f kj7 t282 1).bind fun bt300 => (if bt300.1 < 0 then (laws_FnExactPlayWindow.j1 kj7 l0 t277 t280 t289 true t273 t274 t275 t276) else ((laws_eqWindow.f t285 t286 t287 t288 t273 t274 t275 t276).bind fun t302 => (if t302 = true then ((laws_eqIntS.f kj7 t289 t277).bind fun t303 => (if t303 = true then (laws_FnExactPlayWindow.j1 kj7 l0 t277 t280 t289 (t292 != t280) t273 t274 t275 t276) else (laws_FnExactPlayWindow.j1 kj7 l0 t277 t280 t289 true t273 t274 t275 t276))) else (laws_FnExactPlayWindow.j1 kj7 l0 t277 t280 t289 true t273 t274 t275 t276))))) else (some false))) = some r := H
     have A41 := Aside0.mk A410
     clear A410
     replace H := Option.bind_eq_some_iff.mp H
     obtain ⟨t299, A420, H⟩ := H
     replace H : (if t299 = true then ((laws_markGrowS.f kj7 t282 1).bind fun bt300 => (if bt300.1 < 0 then (laws_FnExactPlayWindow.j1 kj7 l0 t277 t280 t289 true t273 t274 t275 t276) else ((laws_eqWindow.f t285 t286 t287 t288 t273 t274 t275 t276).bind fun t302 => (if t302 = true then ((laws_eqIntS.f kj7 t289 t277).bind fun t303 => (if t303 = true then (laws_FnExactPlayWindow.j1 kj7 l0 t277 t280 t289 (t292 != t280) t273 t274 t275 t276) else (laws_FnExactPlayWindow.j1 kj7 l0 t277 t280 t289 true t273 t274 t275 t276))) else (laws_FnExactPlayWindow.j1 kj7 l0 t277 t280 t289 true t273 t274 t275 t276))))) else (some false)) = some r := H
     have A42 := Aside0.mk A420
     clear A420
     by_cases c43 : t299 = true
     ·subst c43
      have H1 : ((laws_markGrowS.f kj7 t282 1).bind fun bt300 => (if bt300.1 < 0 then (laws_FnExactPlayWindow.j1 kj7 l0 t277 t280 t289 true t273 t274 t275 t276) else ((laws_eqWindow.f t285 t286 t287 t288 t273 t274 t275 t276).bind fun t302 => (if t302 = true then ((laws_eqIntS.f kj7 t289 t277).bind fun t303 => (if t303 = true then (laws_FnExactPlayWindow.j1 kj7 l0 t277 t280 t289 (t292 != t280) t273 t274 t275 t276) else (laws_FnExactPlayWindow.j1 kj7 l0 t277 t280 t289 true t273 t274 t275 t276))) else (laws_FnExactPlayWindow.j1 kj7 l0 t277 t280 t289 true t273 t274 t275 t276))))) = some r := by rw [if_pos rfl] at H; exact H
      clear H
      have H := H1
      clear H1
      replace H := Option.bind_eq_some_iff.mp H
      obtain ⟨⟨t300, t301⟩, A440, H⟩ := H
      replace H : (if t300 < 0 then (laws_FnExactPlayWindow.j1 kj7 l0 t277 t280 t289 true t273 t274 t275 t276) else ((laws_eqWindow.f t285 t286 t287 t288 t273 t274 t275 t276).bind fun t302 => (if t302 = true then ((laws_eqIntS.f kj7 t289 t277).bind fun t303 => (if t303 = true then (laws_FnExactPlayWindow.j1 kj7 l0 t277 t280 t289 (t292 != t280) t273 t274 t275 t276) else (laws_FnExactPlayWindow.j1 kj7 l0 t277 t280 t289 true t273 t274 t275 t276))) else (laws_FnExactPlayWindow.j1 kj7 l0 t277 t280 t289 true t273 t274 t275 t276)))) = some r := H
      have A44 := Aside0.mk A440
      clear A440
      have HC45 := Aside0.mk H
      clear H
      go_upto_region 14 with (first | ((with_reducible refine gate_callee (f := 65) rfl ?_); refine goesL_ (some 54) rfl rfl Try.func65 (by kernel_rfl) rfl #[.slice A0 l0.length c0] rfl (by (try simp only [List.map_toArray, List.map_cons, List.map_nil]); first | done | rfl | (simp only [List.length_drop, List.length_take]; rfl)) ?_; (with_reducible refine (laws_toGrowS.calls kj7 _ _ l0 t296 _ ?side1 ?side2 A41.out).mono ?_); (case side1 => repeat (first | exact (Kd.C_below HR0.out HB.out) | (with_reducible refine Kd.C_alloc ?_ _) | (with_reducible refine Kd.C_drewN ?_ _) | (with_reducible refine Kd.C_drew ?_))); (case side2 => exact HC0.out); rintro e w46 ⟨v297, rfl, ho0, hb⟩; refine ⟨_, rfl, ?_⟩; have n0_ := Aside0.mk (Kd.R_below (by (with_reducible repeat (first | apply Kd.R_alloc | apply Kd.R_drewN | apply Kd.R_drew)); exact HO_5.out) hb); have n1_ := Aside0.mk (Kd.R_elder' (by (with_reducible repeat (first | apply Kd.R_alloc | apply Kd.R_drewN | apply Kd.R_drew)); exact HO_7.out) (Kd.R_base ho0) hb); have n2_ := Aside0.mk (Kd.R_below (by (with_reducible repeat (first | apply Kd.R_alloc | apply Kd.R_drewN | apply Kd.R_drew)); exact HO_9.out) hb); have n3_ := Aside0.mk (Kd.R_lower (Kd.R_new' ho0 (Kd.R_lt (by (with_reducible repeat (first | apply Kd.R_alloc | apply Kd.R_drewN | apply Kd.R_drew)); exact HO_7.out))) (below_size (by repeat (first | (with_reducible first | exact HB.out | apply below_alloc | apply pw_below_drewN | apply below_drew1 | refine below_set ?_ GE281.out | refine below_set ?_ GE293.out) | exact HB.out)))); have n4_ := Aside0.mk (blk_below (g := gb281) (o := .cells #[.int .i64 t273, .int .i64 t274, .int .i64 t275, .int .i64 t276] 113 (0, 0)) (by (with_reducible repeat (first | refine blk_drewN ?_ _ | refine blk_drew ?_ | refine blk_alloc ?_ _)); exact BK281.out) hb); have n5_ := Aside0.mk (blk_below (g := gb293) (o := .cells #[.int .i64 t285, .int .i64 t286, .int .i64 t287, .int .i64 t288] 113 (0, 0)) (by (with_reducible repeat (first | refine blk_drewN ?_ _ | refine blk_drew ?_ | refine blk_alloc ?_ _)); exact BK293.out) hb); have n6_ := Aside0.mk (below_step (by repeat (first | (with_reducible first | exact HB.out | apply below_alloc | apply pw_below_drewN | apply below_drew1 | refine below_set ?_ GE281.out | refine below_set ?_ GE293.out) | exact HB.out)) hb); clear HO_5; clear HO_7; clear HO_9; clear BK281; clear BK293; clear HB; have HO_5 := n0_; have HO_7 := n1_; have HO_9 := n2_; have HO298 := n3_; have BK281 := n4_; have BK293 := n5_; have HB := n6_; clear n0_ n1_ n2_ n3_ n4_ n5_ n6_; (try clear hb); (try clear hb2); (try clear hk); (try clear hi); (try clear ho0); obtain ⟨Ao47, co47, eo47⟩ := Kd.R_slice HO298.out; subst eo47) | ((with_reducible refine gate_callee (f := 69) rfl ?_); refine goesL_ (some 55) rfl rfl Try.func69 (by kernel_rfl) rfl #[.slice Ao15 t282.length co15, .slice Ao47 t296.length co47] rfl (by (try simp only [List.map_toArray, List.map_cons, List.map_nil]); first | done | rfl | (simp only [List.length_drop, List.length_take]; rfl)) ?_; (with_reducible refine (laws_eqGrowS.calls kj7 _ _ t282 _ _ t296 true _ ?side1 ?side2 ?side3 ?side4 A42.out).mono ?_); (case side1 => repeat (first | exact (Kd.R_reads' HO_7.out).2.2 | (with_reducible refine Kd.C_alloc ?_ _) | (with_reducible refine Kd.C_drewN ?_ _) | (with_reducible refine Kd.C_drew ?_))); (case side2 => exact (Kd.R_reads' HO_7.out).2.1); (case side3 => repeat (first | exact (Kd.R_reads' HO298.out).2.2 | (with_reducible refine Kd.C_alloc ?_ _) | (with_reducible refine Kd.C_drewN ?_ _) | (with_reducible refine Kd.C_drew ?_))); (case side4 => exact (Kd.R_reads' HO298.out).2.1); rintro e w48 ⟨rfl, hb⟩; refine ⟨_, rfl, ?_⟩; have n0_ := Aside0.mk (Kd.R_below (by (with_reducible repeat (first | apply Kd.R_alloc | apply Kd.R_drewN | apply Kd.R_drew)); exact HO_5.out) hb); have n1_ := Aside0.mk (Kd.R_below (by (with_reducible repeat (first | apply Kd.R_alloc | apply Kd.R_drewN | apply Kd.R_drew)); exact HO_7.out) hb); have n2_ := Aside0.mk (Kd.R_below (by (with_reducible repeat (first | apply Kd.R_alloc | apply Kd.R_drewN | apply Kd.R_drew)); exact HO_9.out) hb); have n3_ := Aside0.mk (Kd.R_below (by (with_reducible repeat (first | apply Kd.R_alloc | apply Kd.R_drewN | apply Kd.R_drew)); exact HO298.out) hb); have n4_ := Aside0.mk (blk_below (g := gb281) (o := .cells #[.int .i64 t273, .int .i64 t274, .int .i64 t275, .int .i64 t276] 113 (0, 0)) (by (with_reducible repeat (first | refine blk_drewN ?_ _ | refine blk_drew ?_ | refine blk_alloc ?_ _)); exact BK281.out) hb); have n5_ := Aside0.mk (blk_below (g := gb293) (o := .cells #[.int .i64 t285, .int .i64 t286, .int .i64 t287, .int .i64 t288] 113 (0, 0)) (by (with_reducible repeat (first | refine blk_drewN ?_ _ | refine blk_drew ?_ | refine blk_alloc ?_ _)); exact BK293.out) hb); have n6_ := Aside0.mk (below_step (by repeat (first | (with_reducible first | exact HB.out | apply below_alloc | apply pw_below_drewN | apply below_drew1 | refine below_set ?_ GE281.out | refine below_set ?_ GE293.out) | exact HB.out)) hb); clear HO_5; clear HO_7; clear HO_9; clear HO298; clear BK281; clear BK293; clear HB; have HO_5 := n0_; have HO_7 := n1_; have HO_9 := n2_; have HO298 := n3_; have BK281 := n4_; have BK293 := n5_; have HB := n6_; clear n0_ n1_ n2_ n3_ n4_ n5_ n6_; (try clear hb); (try clear hb2); (try clear hk); (try clear hi)) | ((with_reducible refine gate_callee (f := 70) rfl ?_); refine goesL_ (some 59) rfl rfl Try.func70 (by kernel_rfl) rfl #[.slice Ao15 t282.length co15, .int .i64 1] rfl (by (try simp only [List.map_toArray, List.map_cons, List.map_nil]); first | done | rfl | (simp only [List.length_drop, List.length_take]; rfl)) ?_; (with_reducible refine (laws_markGrowS.calls kj7 (fun k_ => some k_ = (.slice Ao15 t282.length co15 : Value).ownBlock) (.slice Ao15 t282.length co15) t282 1 t300 t301 w _ ?side1 ?side2 A44.out).mono ?_); (case side1 => repeat (first | (with_reducible first | exact HB.out | apply below_alloc | apply pw_below_drewN | apply below_drew1 | refine below_set ?_ GE281.out | refine below_set ?_ GE293.out) | exact HB.out)); (case side2 => exact Kd.R_tight rfl HO_7.out); rintro e w49 ⟨rfl, hy0, hb, hkp⟩; refine ⟨_, rfl, ?_⟩; have n0_ := Aside0.mk (Kd.R_mono (ok' := fun k_ => some k_ ≠ (v290 : Value).ownBlock) (Kd.R_keptB ((Kd.R_apart' HO_5.out (Kd.R_typed HO_7.out) (by decide))) hkp (fun k_ hk_ hs_ => (hk_.2) hs_)) (fun k_ hk_ => hk_.1.1)); have n1_ := Aside0.mk (Kd.R_reok rfl hy0 (fun k_ e_ => HO_7.out.1 k_ e_)); have n2_ := Aside0.mk (Kd.R_mono (ok' := fun k_ => some k_ ≠ (v278 : Value).ownBlock) (Kd.R_keptB ((Kd.R_apart' HO_9.out (Kd.R_typed HO_7.out) (by decide))) hkp (fun k_ hk_ hs_ => (hk_.2) hs_)) (fun k_ hk_ => hk_.1.1)); have n3_ := Aside0.mk (blk_kept (by (with_reducible repeat (first | refine blk_drewN ?_ _ | refine blk_drew ?_ | refine blk_alloc ?_ _)); exact BK281.out) hkp (fun hs_ => (fun e_ => (Kd.R_ne HO_7.out BK281.out (by decide)) e_) hs_)); have n4_ := Aside0.mk (blk_kept (by (with_reducible repeat (first | refine blk_drewN ?_ _ | refine blk_drew ?_ | refine blk_alloc ?_ _)); exact BK293.out) hkp (fun hs_ => (fun e_ => (Kd.R_ne HO_7.out BK293.out (by decide)) e_) hs_)); have n5_ := Aside0.mk (Kd.R_mono (ok' := fun k_ => some k_ ≠ (.slice Ao15 t282.length co15 : Value).ownBlock) (Kd.R_keptB (HO298.out) hkp (fun k_ hk_ hs_ => (hk_.2) hs_)) (fun k_ hk_ => hk_.1.2)); have n6_ := Aside0.mk (hb); clear HO_5; clear HO_7; clear HO_9; clear BK281; clear BK293; clear HO298; clear HB; have HO_5 := n0_; have HO_7 := n1_; have HO_9 := n2_; have BK281 := n3_; have BK293 := n4_; have HO298 := n5_; have HB := n6_; clear n0_ n1_ n2_ n3_ n4_ n5_ n6_; (try clear hb); (try clear hkp); (try clear hy0)))
      (try simp only [Act.put, List.setIfInBounds_toArray, List.set_cons_zero, List.set_cons_succ])
      go_cut [78] (fun v78 wc => ∃ (kq : Nat) (x78_44 : Bool), v78 = .bool x78_44 ∧ Aside0 (laws_FnExactPlayWindow.j1 kq l0 t277 t280 t289 x78_44 t273 t274 t275 t276 = some r) ∧ Aside0 (kq ≤ kj7) ∧ Aside0 (Kd.R (Kd.int .i64) 3 wc w.heap.size (fun k_ => some k_ ≠ (v290 : Value).ownBlock) v278 t277) ∧ Aside0 (Kd.R (Kd.int .i64) 3 wc w.heap.size (fun k_ => some k_ ≠ (v278 : Value).ownBlock) v290 t289) ∧ Aside0 (wc.heap[gb281]? = some (.cells #[.int .i64 t273, .int .i64 t274, .int .i64 t275, .int .i64 t276] 113 (0, 0))) ∧ Aside0 (wc.heap[gb293]? = some (.cells #[.int .i64 t285, .int .i64 t286, .int .i64 t287, .int .i64 t288] 113 (0, 0))) ∧ Aside0 (Below w.heap.size w wc))
      case first =>
       have H := HC45.out
       clear HC45
       by_cases c50 : t300 < 0
       ·rw [if_pos c50] at H
        have c50b0 : decide (t300 < 0) = true := decide_eq_true c50
        clear c50
        (first | rw [c50b0] | (simp only [i64_w, i32_w]; rw [c50b0]) | skip)
        have H' := Aside0.mk H
        clear H
        go_wp2
        go_meet
        case rel => exact ⟨_, (true), (by first | rfl | (simp; done) | (simp [*]; done)), H', ⟨by have := HJ7.out; first | omega | exact Nat.le_refl _⟩, ⟨by (with_reducible repeat (first | apply Kd.R_alloc | apply Kd.R_drewN | apply Kd.R_drew)); exact HO_5.out⟩, ⟨by (with_reducible repeat (first | apply Kd.R_alloc | apply Kd.R_drewN | apply Kd.R_drew)); exact HO_9.out⟩, ⟨by (with_reducible repeat (first | refine blk_drewN ?_ _ | refine blk_drew ?_ | refine blk_alloc ?_ _)); exact BK281.out⟩, ⟨by (with_reducible repeat (first | refine blk_drewN ?_ _ | refine blk_drew ?_ | refine blk_alloc ?_ _)); exact BK293.out⟩, ⟨by repeat (first | (with_reducible first | exact HB.out | apply below_alloc | apply pw_below_drewN | apply below_drew1 | refine below_set ?_ GE281.out | refine below_set ?_ GE293.out) | exact HB.out)⟩⟩
       ·rw [if_neg c50] at H
        have c50b0 : decide (t300 < 0) = false := decide_eq_false c50
        clear c50
        (first | rw [c50b0] | (simp only [i64_w, i32_w]; rw [c50b0]) | skip)
        replace H := Option.bind_eq_some_iff.mp H
        obtain ⟨t302, A510, H⟩ := H
        replace H : (if t302 = true then ((laws_eqIntS.f kj7 t289 t277).bind fun t303 => (if t303 = true then (laws_FnExactPlayWindow.j1 kj7 l0 t277 t280 t289 (t292 != t280) t273 t274 t275 t276) else (laws_FnExactPlayWindow.j1 kj7 l0 t277 t280 t289 true t273 t274 t275 t276))) else (laws_FnExactPlayWindow.j1 kj7 l0 t277 t280 t289 true t273 t274 t275 t276)) = some r := H
        have A51 := Aside0.mk A510
        clear A510
        by_cases c52 : t302 = true
        ·subst c52
         have H1 : ((laws_eqIntS.f kj7 t289 t277).bind fun t303 => (if t303 = true then (laws_FnExactPlayWindow.j1 kj7 l0 t277 t280 t289 (t292 != t280) t273 t274 t275 t276) else (laws_FnExactPlayWindow.j1 kj7 l0 t277 t280 t289 true t273 t274 t275 t276))) = some r := by rw [if_pos rfl] at H; exact H
         clear H
         have H := H1
         clear H1
         replace H := Option.bind_eq_some_iff.mp H
         obtain ⟨t303, A530, H⟩ := H
         replace H : (if t303 = true then (laws_FnExactPlayWindow.j1 kj7 l0 t277 t280 t289 (t292 != t280) t273 t274 t275 t276) else (laws_FnExactPlayWindow.j1 kj7 l0 t277 t280 t289 true t273 t274 t275 t276)) = some r := H
         have A53 := Aside0.mk A530
         clear A530
         by_cases c54 : t303 = true
         ·subst c54
          have H1 : (laws_FnExactPlayWindow.j1 kj7 l0 t277 t280 t289 (t292 != t280) t273 t274 t275 t276) = some r := by rw [if_pos rfl] at H; exact H
          clear H
          have H := H1
          clear H1
          have H' := Aside0.mk H
          clear H
          have hnb55 := NB293_281.out
          have hnc55 := NB281_293.out
          have hcz56_0 : w49.cell? ⟨gb293, 0, none⟩ = some (.int .i64 t285) := (blk_cell BK293.out 0).trans rfl
          have hcz56_1 : w49.cell? ⟨gb293, 1, none⟩ = some (.int .i64 t286) := (blk_cell BK293.out 1).trans rfl
          have hcz56_2 : w49.cell? ⟨gb293, 2, none⟩ = some (.int .i64 t287) := (blk_cell BK293.out 2).trans rfl
          have hcz56_3 : w49.cell? ⟨gb293, 3, none⟩ = some (.int .i64 t288) := (blk_cell BK293.out 3).trans rfl
          have hfz56_0 := blk_frozen BK293.out 0
          have hfz56_1 := blk_frozen BK293.out 1
          have hfz56_2 := blk_frozen BK293.out 2
          have hfz56_3 := blk_frozen BK293.out 3
          have hcz57_0 : w49.cell? ⟨gb281, 0, none⟩ = some (.int .i64 t273) := (blk_cell BK281.out 0).trans rfl
          have hcz57_1 : w49.cell? ⟨gb281, 1, none⟩ = some (.int .i64 t274) := (blk_cell BK281.out 1).trans rfl
          have hcz57_2 : w49.cell? ⟨gb281, 2, none⟩ = some (.int .i64 t275) := (blk_cell BK281.out 2).trans rfl
          have hcz57_3 : w49.cell? ⟨gb281, 3, none⟩ = some (.int .i64 t276) := (blk_cell BK281.out 3).trans rfl
          have hfz57_0 := blk_frozen BK281.out 0
          have hfz57_1 := blk_frozen BK281.out 1
          have hfz57_2 := blk_frozen BK281.out 2
          have hfz57_3 := blk_frozen BK281.out 3
          go_wp2_with (first | (go_at_call 67; (with_reducible refine (laws_eqWindow.calls t285 t286 t287 t288 t273 t274 t275 t276 true _ A51.out).mono ?_); rintro e w58 ⟨rfl, hb⟩; have n0_ := Aside0.mk (Kd.R_below (by (with_reducible repeat (first | apply Kd.R_alloc | apply Kd.R_drewN | apply Kd.R_drew)); exact HO_5.out) hb); have n1_ := Aside0.mk (Kd.R_below (by (with_reducible repeat (first | apply Kd.R_alloc | apply Kd.R_drewN | apply Kd.R_drew)); exact HO_7.out) hb); have n2_ := Aside0.mk (Kd.R_below (by (with_reducible repeat (first | apply Kd.R_alloc | apply Kd.R_drewN | apply Kd.R_drew)); exact HO_9.out) hb); have n3_ := Aside0.mk (Kd.R_below (by (with_reducible repeat (first | apply Kd.R_alloc | apply Kd.R_drewN | apply Kd.R_drew)); exact HO298.out) hb); have n4_ := Aside0.mk (blk_below (g := gb281) (o := .cells #[.int .i64 t273, .int .i64 t274, .int .i64 t275, .int .i64 t276] 113 (0, 0)) (by (with_reducible repeat (first | refine blk_drewN ?_ _ | refine blk_drew ?_ | refine blk_alloc ?_ _)); exact BK281.out) hb); have n5_ := Aside0.mk (blk_below (g := gb293) (o := .cells #[.int .i64 t285, .int .i64 t286, .int .i64 t287, .int .i64 t288] 113 (0, 0)) (by (with_reducible repeat (first | refine blk_drewN ?_ _ | refine blk_drew ?_ | refine blk_alloc ?_ _)); exact BK293.out) hb); have n6_ := Aside0.mk (below_step (by repeat (first | (with_reducible first | exact HB.out | apply below_alloc | apply pw_below_drewN | apply below_drew1 | refine below_set ?_ GE281.out | refine below_set ?_ GE293.out) | exact HB.out)) hb); clear HO_5; clear HO_7; clear HO_9; clear HO298; clear BK281; clear BK293; clear HB; have HO_5 := n0_; have HO_7 := n1_; have HO_9 := n2_; have HO298 := n3_; have BK281 := n4_; have BK293 := n5_; have HB := n6_; clear n0_ n1_ n2_ n3_ n4_ n5_ n6_; (try clear hb); (try clear hb2); (try clear hk); (try clear hi); obtain ⟨Ao59, co59, eo59⟩ := Kd.R_slice HO_9.out; subst eo59; obtain ⟨Ao60, co60, eo60⟩ := Kd.R_slice HO_5.out; subst eo60) | (go_at_call 68; (with_reducible refine (laws_eqIntS.calls kj7 _ _ t289 _ _ t277 true _ ?side1 ?side2 ?side3 ?side4 A53.out).mono ?_); (case side1 => repeat (first | exact (Kd.R_reads' HO_9.out).2.2 | (with_reducible refine Kd.C_alloc ?_ _) | (with_reducible refine Kd.C_drewN ?_ _) | (with_reducible refine Kd.C_drew ?_))); (case side2 => exact (Kd.R_reads' HO_9.out).2.1); (case side3 => repeat (first | exact (Kd.R_reads' HO_5.out).2.2 | (with_reducible refine Kd.C_alloc ?_ _) | (with_reducible refine Kd.C_drewN ?_ _) | (with_reducible refine Kd.C_drew ?_))); (case side4 => exact (Kd.R_reads' HO_5.out).2.1); rintro e w' ⟨rfl, ⟨nd, rfl⟩⟩))
          go_meet
          case rel => exact ⟨_, ((t292 != t280)), (by first | rfl | (simp; done) | (simp [*]; done)), H', ⟨by have := HJ7.out; first | omega | exact Nat.le_refl _⟩, ⟨by (with_reducible repeat (first | apply Kd.R_alloc | apply Kd.R_drewN | apply Kd.R_drew)); exact HO_5.out⟩, ⟨by (with_reducible repeat (first | apply Kd.R_alloc | apply Kd.R_drewN | apply Kd.R_drew)); exact HO_9.out⟩, ⟨by (with_reducible repeat (first | refine blk_drewN ?_ _ | refine blk_drew ?_ | refine blk_alloc ?_ _)); exact BK281.out⟩, ⟨by (with_reducible repeat (first | refine blk_drewN ?_ _ | refine blk_drew ?_ | refine blk_alloc ?_ _)); exact BK293.out⟩, ⟨by repeat (first | (with_reducible first | exact HB.out | apply below_alloc | apply pw_below_drewN | apply below_drew1 | refine below_set ?_ GE281.out | refine below_set ?_ GE293.out) | exact HB.out)⟩⟩
         ·replace c54 := Bool.eq_false_iff.mpr c54
          subst c54
          have H1 : (laws_FnExactPlayWindow.j1 kj7 l0 t277 t280 t289 true t273 t274 t275 t276) = some r := by rw [if_neg (show ¬ (false = true) by decide)] at H; exact H
          clear H
          have H := H1
          clear H1
          have H' := Aside0.mk H
          clear H
          have hnb61 := NB293_281.out
          have hnc61 := NB281_293.out
          have hcz62_0 : w49.cell? ⟨gb293, 0, none⟩ = some (.int .i64 t285) := (blk_cell BK293.out 0).trans rfl
          have hcz62_1 : w49.cell? ⟨gb293, 1, none⟩ = some (.int .i64 t286) := (blk_cell BK293.out 1).trans rfl
          have hcz62_2 : w49.cell? ⟨gb293, 2, none⟩ = some (.int .i64 t287) := (blk_cell BK293.out 2).trans rfl
          have hcz62_3 : w49.cell? ⟨gb293, 3, none⟩ = some (.int .i64 t288) := (blk_cell BK293.out 3).trans rfl
          have hfz62_0 := blk_frozen BK293.out 0
          have hfz62_1 := blk_frozen BK293.out 1
          have hfz62_2 := blk_frozen BK293.out 2
          have hfz62_3 := blk_frozen BK293.out 3
          have hcz63_0 : w49.cell? ⟨gb281, 0, none⟩ = some (.int .i64 t273) := (blk_cell BK281.out 0).trans rfl
          have hcz63_1 : w49.cell? ⟨gb281, 1, none⟩ = some (.int .i64 t274) := (blk_cell BK281.out 1).trans rfl
          have hcz63_2 : w49.cell? ⟨gb281, 2, none⟩ = some (.int .i64 t275) := (blk_cell BK281.out 2).trans rfl
          have hcz63_3 : w49.cell? ⟨gb281, 3, none⟩ = some (.int .i64 t276) := (blk_cell BK281.out 3).trans rfl
          have hfz63_0 := blk_frozen BK281.out 0
          have hfz63_1 := blk_frozen BK281.out 1
          have hfz63_2 := blk_frozen BK281.out 2
          have hfz63_3 := blk_frozen BK281.out 3
          go_wp2_with (first | (go_at_call 67; (with_reducible refine (laws_eqWindow.calls t285 t286 t287 t288 t273 t274 t275 t276 true _ A51.out).mono ?_); rintro e w64 ⟨rfl, hb⟩; have n0_ := Aside0.mk (Kd.R_below (by (with_reducible repeat (first | apply Kd.R_alloc | apply Kd.R_drewN | apply Kd.R_drew)); exact HO_5.out) hb); have n1_ := Aside0.mk (Kd.R_below (by (with_reducible repeat (first | apply Kd.R_alloc | apply Kd.R_drewN | apply Kd.R_drew)); exact HO_7.out) hb); have n2_ := Aside0.mk (Kd.R_below (by (with_reducible repeat (first | apply Kd.R_alloc | apply Kd.R_drewN | apply Kd.R_drew)); exact HO_9.out) hb); have n3_ := Aside0.mk (Kd.R_below (by (with_reducible repeat (first | apply Kd.R_alloc | apply Kd.R_drewN | apply Kd.R_drew)); exact HO298.out) hb); have n4_ := Aside0.mk (blk_below (g := gb281) (o := .cells #[.int .i64 t273, .int .i64 t274, .int .i64 t275, .int .i64 t276] 113 (0, 0)) (by (with_reducible repeat (first | refine blk_drewN ?_ _ | refine blk_drew ?_ | refine blk_alloc ?_ _)); exact BK281.out) hb); have n5_ := Aside0.mk (blk_below (g := gb293) (o := .cells #[.int .i64 t285, .int .i64 t286, .int .i64 t287, .int .i64 t288] 113 (0, 0)) (by (with_reducible repeat (first | refine blk_drewN ?_ _ | refine blk_drew ?_ | refine blk_alloc ?_ _)); exact BK293.out) hb); have n6_ := Aside0.mk (below_step (by repeat (first | (with_reducible first | exact HB.out | apply below_alloc | apply pw_below_drewN | apply below_drew1 | refine below_set ?_ GE281.out | refine below_set ?_ GE293.out) | exact HB.out)) hb); clear HO_5; clear HO_7; clear HO_9; clear HO298; clear BK281; clear BK293; clear HB; have HO_5 := n0_; have HO_7 := n1_; have HO_9 := n2_; have HO298 := n3_; have BK281 := n4_; have BK293 := n5_; have HB := n6_; clear n0_ n1_ n2_ n3_ n4_ n5_ n6_; (try clear hb); (try clear hb2); (try clear hk); (try clear hi); obtain ⟨Ao65, co65, eo65⟩ := Kd.R_slice HO_9.out; subst eo65; obtain ⟨Ao66, co66, eo66⟩ := Kd.R_slice HO_5.out; subst eo66) | (go_at_call 68; (with_reducible refine (laws_eqIntS.calls kj7 _ _ t289 _ _ t277 false _ ?side1 ?side2 ?side3 ?side4 A53.out).mono ?_); (case side1 => repeat (first | exact (Kd.R_reads' HO_9.out).2.2 | (with_reducible refine Kd.C_alloc ?_ _) | (with_reducible refine Kd.C_drewN ?_ _) | (with_reducible refine Kd.C_drew ?_))); (case side2 => exact (Kd.R_reads' HO_9.out).2.1); (case side3 => repeat (first | exact (Kd.R_reads' HO_5.out).2.2 | (with_reducible refine Kd.C_alloc ?_ _) | (with_reducible refine Kd.C_drewN ?_ _) | (with_reducible refine Kd.C_drew ?_))); (case side4 => exact (Kd.R_reads' HO_5.out).2.1); rintro e w' ⟨rfl, ⟨nd, rfl⟩⟩))
          go_meet
          case rel => exact ⟨_, (true), (by first | rfl | (simp; done) | (simp [*]; done)), H', ⟨by have := HJ7.out; first | omega | exact Nat.le_refl _⟩, ⟨by (with_reducible repeat (first | apply Kd.R_alloc | apply Kd.R_drewN | apply Kd.R_drew)); exact HO_5.out⟩, ⟨by (with_reducible repeat (first | apply Kd.R_alloc | apply Kd.R_drewN | apply Kd.R_drew)); exact HO_9.out⟩, ⟨by (with_reducible repeat (first | refine blk_drewN ?_ _ | refine blk_drew ?_ | refine blk_alloc ?_ _)); exact BK281.out⟩, ⟨by (with_reducible repeat (first | refine blk_drewN ?_ _ | refine blk_drew ?_ | refine blk_alloc ?_ _)); exact BK293.out⟩, ⟨by repeat (first | (with_reducible first | exact HB.out | apply below_alloc | apply pw_below_drewN | apply below_drew1 | refine below_set ?_ GE281.out | refine below_set ?_ GE293.out) | exact HB.out)⟩⟩
        ·replace c52 := Bool.eq_false_iff.mpr c52
         subst c52
         have H1 : (laws_FnExactPlayWindow.j1 kj7 l0 t277 t280 t289 true t273 t274 t275 t276) = some r := by rw [if_neg (show ¬ (false = true) by decide)] at H; exact H
         clear H
         have H := H1
         clear H1
         have H' := Aside0.mk H
         clear H
         have hnb67 := NB293_281.out
         have hnc67 := NB281_293.out
         have hcz68_0 : w49.cell? ⟨gb293, 0, none⟩ = some (.int .i64 t285) := (blk_cell BK293.out 0).trans rfl
         have hcz68_1 : w49.cell? ⟨gb293, 1, none⟩ = some (.int .i64 t286) := (blk_cell BK293.out 1).trans rfl
         have hcz68_2 : w49.cell? ⟨gb293, 2, none⟩ = some (.int .i64 t287) := (blk_cell BK293.out 2).trans rfl
         have hcz68_3 : w49.cell? ⟨gb293, 3, none⟩ = some (.int .i64 t288) := (blk_cell BK293.out 3).trans rfl
         have hfz68_0 := blk_frozen BK293.out 0
         have hfz68_1 := blk_frozen BK293.out 1
         have hfz68_2 := blk_frozen BK293.out 2
         have hfz68_3 := blk_frozen BK293.out 3
         have hcz69_0 : w49.cell? ⟨gb281, 0, none⟩ = some (.int .i64 t273) := (blk_cell BK281.out 0).trans rfl
         have hcz69_1 : w49.cell? ⟨gb281, 1, none⟩ = some (.int .i64 t274) := (blk_cell BK281.out 1).trans rfl
         have hcz69_2 : w49.cell? ⟨gb281, 2, none⟩ = some (.int .i64 t275) := (blk_cell BK281.out 2).trans rfl
         have hcz69_3 : w49.cell? ⟨gb281, 3, none⟩ = some (.int .i64 t276) := (blk_cell BK281.out 3).trans rfl
         have hfz69_0 := blk_frozen BK281.out 0
         have hfz69_1 := blk_frozen BK281.out 1
         have hfz69_2 := blk_frozen BK281.out 2
         have hfz69_3 := blk_frozen BK281.out 3
         go_wp2_with (first | (go_at_call 67; (with_reducible refine (laws_eqWindow.calls t285 t286 t287 t288 t273 t274 t275 t276 false _ A51.out).mono ?_); rintro e w70 ⟨rfl, hb⟩; have n0_ := Aside0.mk (Kd.R_below (by (with_reducible repeat (first | apply Kd.R_alloc | apply Kd.R_drewN | apply Kd.R_drew)); exact HO_5.out) hb); have n1_ := Aside0.mk (Kd.R_below (by (with_reducible repeat (first | apply Kd.R_alloc | apply Kd.R_drewN | apply Kd.R_drew)); exact HO_7.out) hb); have n2_ := Aside0.mk (Kd.R_below (by (with_reducible repeat (first | apply Kd.R_alloc | apply Kd.R_drewN | apply Kd.R_drew)); exact HO_9.out) hb); have n3_ := Aside0.mk (Kd.R_below (by (with_reducible repeat (first | apply Kd.R_alloc | apply Kd.R_drewN | apply Kd.R_drew)); exact HO298.out) hb); have n4_ := Aside0.mk (blk_below (g := gb281) (o := .cells #[.int .i64 t273, .int .i64 t274, .int .i64 t275, .int .i64 t276] 113 (0, 0)) (by (with_reducible repeat (first | refine blk_drewN ?_ _ | refine blk_drew ?_ | refine blk_alloc ?_ _)); exact BK281.out) hb); have n5_ := Aside0.mk (blk_below (g := gb293) (o := .cells #[.int .i64 t285, .int .i64 t286, .int .i64 t287, .int .i64 t288] 113 (0, 0)) (by (with_reducible repeat (first | refine blk_drewN ?_ _ | refine blk_drew ?_ | refine blk_alloc ?_ _)); exact BK293.out) hb); have n6_ := Aside0.mk (below_step (by repeat (first | (with_reducible first | exact HB.out | apply below_alloc | apply pw_below_drewN | apply below_drew1 | refine below_set ?_ GE281.out | refine below_set ?_ GE293.out) | exact HB.out)) hb); clear HO_5; clear HO_7; clear HO_9; clear HO298; clear BK281; clear BK293; clear HB; have HO_5 := n0_; have HO_7 := n1_; have HO_9 := n2_; have HO298 := n3_; have BK281 := n4_; have BK293 := n5_; have HB := n6_; clear n0_ n1_ n2_ n3_ n4_ n5_ n6_; (try clear hb); (try clear hb2); (try clear hk); (try clear hi)))
         go_meet
         case rel => exact ⟨_, (true), (by first | rfl | (simp; done) | (simp [*]; done)), H', ⟨by have := HJ7.out; first | omega | exact Nat.le_refl _⟩, ⟨by (with_reducible repeat (first | apply Kd.R_alloc | apply Kd.R_drewN | apply Kd.R_drew)); exact HO_5.out⟩, ⟨by (with_reducible repeat (first | apply Kd.R_alloc | apply Kd.R_drewN | apply Kd.R_drew)); exact HO_9.out⟩, ⟨by (with_reducible repeat (first | refine blk_drewN ?_ _ | refine blk_drew ?_ | refine blk_alloc ?_ _)); exact BK281.out⟩, ⟨by (with_reducible repeat (first | refine blk_drewN ?_ _ | refine blk_drew ?_ | refine blk_alloc ?_ _)); exact BK293.out⟩, ⟨by repeat (first | (with_reducible first | exact HB.out | apply below_alloc | apply pw_below_drewN | apply below_drew1 | refine below_set ?_ GE281.out | refine below_set ?_ GE293.out) | exact HB.out)⟩⟩
      case rest =>
       clear HC45
       try clear c1
       try clear c2
       try clear p2
       try clear c3
       try clear c3b0
       try clear c4
       try clear c5
       try clear c6
       try clear c7
       try clear c12
       try clear c18
       try clear c21
       try clear c23
       try clear c24
       try clear c30
       try clear c36
       try clear c40
       try clear c43
       try clear c50
       try clear c50b0
       try clear c52
       try clear c54
       try clear c55
       try clear c61
       try clear c63
       try clear c64
       try clear c65
       try clear c66
       try clear c67
       try clear c69
       try clear c70
       try clear hcz13_0
       try clear hcz13_1
       try clear hcz13_2
       try clear hcz13_3
       try clear hcz19_0
       try clear hcz19_1
       try clear hcz19_2
       try clear hcz19_3
       try clear hcz25_0
       try clear hcz25_1
       try clear hcz25_2
       try clear hcz25_3
       try clear hcz26_0
       try clear hcz26_1
       try clear hcz26_2
       try clear hcz26_3
       try clear hcz31_0
       try clear hcz31_1
       try clear hcz31_2
       try clear hcz31_3
       try clear hcz32_0
       try clear hcz32_1
       try clear hcz32_2
       try clear hcz32_3
       try clear hcz37_0
       try clear hcz37_1
       try clear hcz37_2
       try clear hcz37_3
       try clear hcz38_0
       try clear hcz38_1
       try clear hcz38_2
       try clear hcz38_3
       try clear hcz56_0
       try clear hcz56_1
       try clear hcz56_2
       try clear hcz56_3
       try clear hcz57_0
       try clear hcz57_1
       try clear hcz57_2
       try clear hcz57_3
       try clear hcz62_0
       try clear hcz62_1
       try clear hcz62_2
       try clear hcz62_3
       try clear hcz63_0
       try clear hcz63_1
       try clear hcz63_2
       try clear hcz63_3
       try clear hcz68_0
       try clear hcz68_1
       try clear hcz68_2
       try clear hcz68_3
       try clear hcz69_0
       try clear hcz69_1
       try clear hcz69_2
       try clear hcz69_3
       try clear hfz13_0
       try clear hfz13_1
       try clear hfz13_2
       try clear hfz13_3
       try clear hfz19_0
       try clear hfz19_1
       try clear hfz19_2
       try clear hfz19_3
       try clear hfz25_0
       try clear hfz25_1
       try clear hfz25_2
       try clear hfz25_3
       try clear hfz26_0
       try clear hfz26_1
       try clear hfz26_2
       try clear hfz26_3
       try clear hfz31_0
       try clear hfz31_1
       try clear hfz31_2
       try clear hfz31_3
       try clear hfz32_0
       try clear hfz32_1
       try clear hfz32_2
       try clear hfz32_3
       try clear hfz37_0
       try clear hfz37_1
       try clear hfz37_2
       try clear hfz37_3
       try clear hfz38_0
       try clear hfz38_1
       try clear hfz38_2
       try clear hfz38_3
       try clear hfz56_0
       try clear hfz56_1
       try clear hfz56_2
       try clear hfz56_3
       try clear hfz57_0
       try clear hfz57_1
       try clear hfz57_2
       try clear hfz57_3
       try clear hfz62_0
       try clear hfz62_1
       try clear hfz62_2
       try clear hfz62_3
       try clear hfz63_0
       try clear hfz63_1
       try clear hfz63_2
       try clear hfz63_3
       try clear hfz68_0
       try clear hfz68_1
       try clear hfz68_2
       try clear hfz68_3
       try clear hfz69_0
       try clear hfz69_1
       try clear hfz69_2
       try clear hfz69_3
       try clear p2
       obtain ⟨kq, x78_44, rfl, HA, HJ44, HO_5, HO_9, BK281, BK293, HB⟩ := hcut
       cases kq with
       | zero => exact absurd HA.out (by simp [laws_FnExactPlayWindow.j1])
       | succ kj44 =>
        have H := HA.out
        clear HA
        simp only [laws_FnExactPlayWindow.j1] at H
        by_cases c71 : x78_44 = true
        ·subst c71
         have H1 : (some false) = some r := by rw [if_pos rfl] at H; exact H
         clear H
         have H := H1
         clear H1
         obtain rfl := Option.some.inj H
         go_wp2
         go_ret
         exact ⟨by first | rfl | (simp [errW_none, errW_some] <;> rfl) | (simp [*, errW_none, errW_some] <;> rfl), by repeat (first | (with_reducible first | exact HB.out | apply below_alloc | apply pw_below_drewN | apply below_drew1 | refine below_set ?_ GE281.out | refine below_set ?_ GE293.out) | exact HB.out)⟩
        ·replace c71 := Bool.eq_false_iff.mpr c71
         subst c71
         have H1 : ((laws_markIntS.f kj44 t289 1).bind fun bt304 => ((laws_heldIntS.f kj44 bt304.2 1).bind fun t306 => (if t306 < 0 then (some false) else (if t306 = bt304.1 then ((laws_toGrowS.f kj44 l0).bind fun t307 => ((impl_PlayWindow.f kj44 t307).bind fun bt310 => ((laws_eqWindow.f bt310.1 bt310.2.1 bt310.2.2.1 bt310.2.2.2.1 t273 t274 t275 t276).bind fun t319 => (if t319 = true then ((laws_eqIntS.f kj44 bt310.2.2.2.2.1 t277).bind fun t320 => (if t320 = true then (laws_FnExactPlayWindow.j2 kj44 bt304.2 bt304.1 (bt310.2.2.2.2.2 != t280)) else (laws_FnExactPlayWindow.j2 kj44 bt304.2 bt304.1 true))) else (laws_FnExactPlayWindow.j2 kj44 bt304.2 bt304.1 true))))) else (some false))))) = some r := by rw [if_neg (show ¬ (false = true) by decide)] at H; exact H
         clear H
         have H := H1
         clear H1
         replace H := Option.bind_eq_some_iff.mp H
         obtain ⟨⟨t304, t305⟩, A720, H⟩ := H
         replace H : ((laws_heldIntS.f kj44 t305 1).bind fun t306 => (if t306 < 0 then (some false) else (if t306 = t304 then ((laws_toGrowS.f kj44 l0).bind fun t307 => ((impl_PlayWindow.f kj44 t307).bind fun bt310 => ((laws_eqWindow.f bt310.1 bt310.2.1 bt310.2.2.1 bt310.2.2.2.1 t273 t274 t275 t276).bind fun t319 => (if t319 = true then ((laws_eqIntS.f kj44 bt310.2.2.2.2.1 t277).bind fun t320 => (if t320 = true then (laws_FnExactPlayWindow.j2 kj44 t305 t304 (bt310.2.2.2.2.2 != t280)) else (laws_FnExactPlayWindow.j2 kj44 t305 t304 true))) else (laws_FnExactPlayWindow.j2 kj44 t305 t304 true))))) else (some false)))) = some r := H
         have A72 := Aside0.mk A720
         clear A720
         replace H := Option.bind_eq_some_iff.mp H
         obtain ⟨t306, A730, H⟩ := H
         replace H : (if t306 < 0 then (some false) else (if t306 = t304 then ((laws_toGrowS.f kj44 l0).bind fun t307 => ((impl_PlayWindow.f kj44 t307).bind fun bt310 => ((laws_eqWindow.f bt310.1 bt310.2.1 bt310.2.2.1 bt310.2.2.2.1 t273 t274 t275 t276).bind fun t319 => (if t319 = true then ((laws_eqIntS.f kj44 bt310.2.2.2.2.1 t277).bind fun t320 => (if t320 = true then (laws_FnExactPlayWindow.j2 kj44 t305 t304 (bt310.2.2.2.2.2 != t280)) else (laws_FnExactPlayWindow.j2 kj44 t305 t304 true))) else (laws_FnExactPlayWindow.j2 kj44 t305 t304 true))))) else (some false))) = some r := H
         have A73 := Aside0.mk A730
         clear A730
         by_cases c74 : t306 < 0
         ·rw [if_pos c74] at H
          have c74b0 : decide (t306 < 0) = true := decide_eq_true c74
          clear c74
          obtain rfl := Option.some.inj H
          obtain ⟨Ao75, co75, eo75⟩ := Kd.R_slice HO_9.out
          subst eo75
          go_wp2_with (first | ((with_reducible refine gate_callee (f := 71) rfl ?_); refine goesL_ (some 81) rfl rfl Try.func71 (by kernel_rfl) rfl #[.slice Ao75 t289.length co75, .int .i64 1] rfl (by (try simp only [List.map_toArray, List.map_cons, List.map_nil]); first | done | rfl | (simp only [List.length_drop, List.length_take]; rfl)) ?_; (with_reducible refine (laws_markIntS.calls kj44 (fun k_ => some k_ = (.slice Ao75 t289.length co75 : Value).ownBlock) (.slice Ao75 t289.length co75) t289 1 t304 t305 w _ ?side1 ?side2 A72.out).mono ?_); (case side1 => repeat (first | (with_reducible first | exact HB.out | apply below_alloc | apply pw_below_drewN | apply below_drew1 | refine below_set ?_ GE281.out | refine below_set ?_ GE293.out) | exact HB.out)); (case side2 => exact Kd.R_tight rfl HO_9.out); rintro e w76 ⟨rfl, hy0, hb, hkp⟩; refine ⟨_, rfl, ?_⟩; have n0_ := Aside0.mk (Kd.R_mono (ok' := fun k_ => some k_ ≠ (.slice Ao75 t289.length co75 : Value).ownBlock) (Kd.R_keptB (HO_5.out) hkp (fun k_ hk_ hs_ => (hk_) hs_)) (fun k_ hk_ => hk_.1)); have n1_ := Aside0.mk (Kd.R_reok rfl hy0 (fun k_ e_ => HO_9.out.1 k_ e_)); have n2_ := Aside0.mk (blk_kept (by (with_reducible repeat (first | refine blk_drewN ?_ _ | refine blk_drew ?_ | refine blk_alloc ?_ _)); exact BK281.out) hkp (fun hs_ => (fun e_ => (Kd.R_ne HO_9.out BK281.out (by decide)) e_) hs_)); have n3_ := Aside0.mk (blk_kept (by (with_reducible repeat (first | refine blk_drewN ?_ _ | refine blk_drew ?_ | refine blk_alloc ?_ _)); exact BK293.out) hkp (fun hs_ => (fun e_ => (Kd.R_ne HO_9.out BK293.out (by decide)) e_) hs_)); have n4_ := Aside0.mk (hb); clear HO_5; clear HO_9; clear BK281; clear BK293; clear HB; have HO_5 := n0_; have HO_9 := n1_; have BK281 := n2_; have BK293 := n3_; have HB := n4_; clear n0_ n1_ n2_ n3_ n4_; (try clear hb); (try clear hkp); (try clear hy0)) | ((with_reducible refine gate_callee (f := 72) rfl ?_); refine goesL_ (some 84) rfl rfl Try.func72 (by kernel_rfl) rfl #[.slice Ao75 t305.length co75, .int .i64 1] rfl (by (try simp only [List.map_toArray, List.map_cons, List.map_nil]); first | done | (rw [show t305.length = t289.length from (Kd.R_reads' HO_9.out).1.symm] <;> rfl) | rfl | (simp only [List.length_drop, List.length_take]; rfl)) ?_; (with_reducible refine (laws_heldIntS.calls kj44 _ _ t305 1 t306 _ ?side1 ?side2 A73.out).mono ?_); (case side1 => repeat (first | exact (Kd.R_reads' HO_9.out).2.2 | (with_reducible refine Kd.C_alloc ?_ _) | (with_reducible refine Kd.C_drewN ?_ _) | (with_reducible refine Kd.C_drew ?_))); (case side2 => rw [show t305.length = t289.length from (Kd.R_reads' HO_9.out).1.symm]; exact (Kd.R_reads' HO_9.out).2.1); rintro e w' ⟨rfl, ⟨nd, rfl⟩⟩; refine ⟨_, rfl, ?_⟩))
          go_ret
          exact ⟨by first | rfl | (simp [errW_none, errW_some] <;> rfl) | (simp [*, errW_none, errW_some] <;> rfl), by repeat (first | (with_reducible first | exact HB.out | apply below_alloc | apply pw_below_drewN | apply below_drew1 | refine below_set ?_ GE281.out | refine below_set ?_ GE293.out) | exact HB.out)⟩
         ·rw [if_neg c74] at H
          have c74b0 : decide (t306 < 0) = false := decide_eq_false c74
          clear c74
          by_cases c77 : t306 = t304
          ·rw [if_pos c77] at H
           have c77b0 : (t306 == t304) = true := beq_iff_eq.mpr c77
           have c77b1 : (t306 != t304) = false := bne_eq_false_iff_eq.mpr c77
           clear c77
           replace H := Option.bind_eq_some_iff.mp H
           obtain ⟨t307, A780, H⟩ := H
           replace H : ((impl_PlayWindow.f kj44 t307).bind fun bt310 => ((laws_eqWindow.f bt310.1 bt310.2.1 bt310.2.2.1 bt310.2.2.2.1 t273 t274 t275 t276).bind fun t319 => (if t319 = true then ((laws_eqIntS.f kj44 bt310.2.2.2.2.1 t277).bind fun t320 => (if t320 = true then (laws_FnExactPlayWindow.j2 kj44 t305 t304 (bt310.2.2.2.2.2 != t280)) else (laws_FnExactPlayWindow.j2 kj44 t305 t304 true))) else (laws_FnExactPlayWindow.j2 kj44 t305 t304 true)))) = some r := H
           have A78 := Aside0.mk A780
           clear A780
           replace H := Option.bind_eq_some_iff.mp H
           obtain ⟨⟨t310, t311, t312, t313, t314, t317⟩, A790, H⟩ := H
           replace H : ((laws_eqWindow.f t310 t311 t312 t313 t273 t274 t275 t276).bind fun t319 => (if t319 = true then ((laws_eqIntS.f kj44 t314 t277).bind fun t320 => (if t320 = true then (laws_FnExactPlayWindow.j2 kj44 t305 t304 (t317 != t280)) else (laws_FnExactPlayWindow.j2 kj44 t305 t304 true))) else (laws_FnExactPlayWindow.j2 kj44 t305 t304 true))) = some r := H
           have A79 := Aside0.mk A790
           clear A790
           have HC80 := Aside0.mk H
           clear H
           obtain ⟨Ao81, co81, eo81⟩ := Kd.R_slice HO_9.out
           subst eo81
           go_upto_region 25 with (first | ((with_reducible refine gate_callee (f := 71) rfl ?_); refine goesL_ (some 81) rfl rfl Try.func71 (by kernel_rfl) rfl #[.slice Ao81 t289.length co81, .int .i64 1] rfl (by (try simp only [List.map_toArray, List.map_cons, List.map_nil]); first | done | rfl | (simp only [List.length_drop, List.length_take]; rfl)) ?_; (with_reducible refine (laws_markIntS.calls kj44 (fun k_ => some k_ = (.slice Ao81 t289.length co81 : Value).ownBlock) (.slice Ao81 t289.length co81) t289 1 t304 t305 w _ ?side1 ?side2 A72.out).mono ?_); (case side1 => repeat (first | (with_reducible first | exact HB.out | apply below_alloc | apply pw_below_drewN | apply below_drew1 | refine below_set ?_ GE281.out | refine below_set ?_ GE293.out) | exact HB.out)); (case side2 => exact Kd.R_tight rfl HO_9.out); rintro e w82 ⟨rfl, hy0, hb, hkp⟩; refine ⟨_, rfl, ?_⟩; have n0_ := Aside0.mk (Kd.R_mono (ok' := fun k_ => some k_ ≠ (.slice Ao81 t289.length co81 : Value).ownBlock) (Kd.R_keptB (HO_5.out) hkp (fun k_ hk_ hs_ => (hk_) hs_)) (fun k_ hk_ => hk_.1)); have n1_ := Aside0.mk (Kd.R_reok rfl hy0 (fun k_ e_ => HO_9.out.1 k_ e_)); have n2_ := Aside0.mk (blk_kept (by (with_reducible repeat (first | refine blk_drewN ?_ _ | refine blk_drew ?_ | refine blk_alloc ?_ _)); exact BK281.out) hkp (fun hs_ => (fun e_ => (Kd.R_ne HO_9.out BK281.out (by decide)) e_) hs_)); have n3_ := Aside0.mk (blk_kept (by (with_reducible repeat (first | refine blk_drewN ?_ _ | refine blk_drew ?_ | refine blk_alloc ?_ _)); exact BK293.out) hkp (fun hs_ => (fun e_ => (Kd.R_ne HO_9.out BK293.out (by decide)) e_) hs_)); have n4_ := Aside0.mk (hb); clear HO_5; clear HO_9; clear BK281; clear BK293; clear HB; have HO_5 := n0_; have HO_9 := n1_; have BK281 := n2_; have BK293 := n3_; have HB := n4_; clear n0_ n1_ n2_ n3_ n4_; (try clear hb); (try clear hkp); (try clear hy0)) | ((with_reducible refine gate_callee (f := 72) rfl ?_); refine goesL_ (some 84) rfl rfl Try.func72 (by kernel_rfl) rfl #[.slice Ao81 t305.length co81, .int .i64 1] rfl (by (try simp only [List.map_toArray, List.map_cons, List.map_nil]); first | done | (rw [show t305.length = t289.length from (Kd.R_reads' HO_9.out).1.symm] <;> rfl) | rfl | (simp only [List.length_drop, List.length_take]; rfl)) ?_; (with_reducible refine (laws_heldIntS.calls kj44 _ _ t305 1 t306 _ ?side1 ?side2 A73.out).mono ?_); (case side1 => repeat (first | exact (Kd.R_reads' HO_9.out).2.2 | (with_reducible refine Kd.C_alloc ?_ _) | (with_reducible refine Kd.C_drewN ?_ _) | (with_reducible refine Kd.C_drew ?_))); (case side2 => rw [show t305.length = t289.length from (Kd.R_reads' HO_9.out).1.symm]; exact (Kd.R_reads' HO_9.out).2.1); rintro e w' ⟨rfl, ⟨nd, rfl⟩⟩; refine ⟨_, rfl, ?_⟩; (try (rw [drewN_self w82]; generalize hq_ : World.drewN w82 _ = w82; have n0_ : Aside0 (Kd.R (Kd.int .i64) 3 w82 w.heap.size (fun k_ => some k_ ≠ (.slice Ao81 t289.length co81 : Value).ownBlock) v278 t277) := ⟨by rw [← hq_]; exact (by (with_reducible repeat (first | apply Kd.R_alloc | apply Kd.R_drewN | apply Kd.R_drew)); exact HO_5.out)⟩; have n1_ : Aside0 (Kd.R (Kd.int .i64) 3 w82 w.heap.size (fun k_ => some k_ ≠ (v278 : Value).ownBlock) (.slice Ao81 t289.length co81) t305) := ⟨by rw [← hq_]; exact (by (with_reducible repeat (first | apply Kd.R_alloc | apply Kd.R_drewN | apply Kd.R_drew)); exact HO_9.out)⟩; have n2_ : Aside0 (w82.heap[gb281]? = some (.cells #[.int .i64 t273, .int .i64 t274, .int .i64 t275, .int .i64 t276] 113 (0, 0))) := ⟨by rw [← hq_]; exact (by (with_reducible repeat (first | refine blk_drewN ?_ _ | refine blk_drew ?_ | refine blk_alloc ?_ _)); exact BK281.out)⟩; have n3_ : Aside0 (w82.heap[gb293]? = some (.cells #[.int .i64 t285, .int .i64 t286, .int .i64 t287, .int .i64 t288] 113 (0, 0))) := ⟨by rw [← hq_]; exact (by (with_reducible repeat (first | refine blk_drewN ?_ _ | refine blk_drew ?_ | refine blk_alloc ?_ _)); exact BK293.out)⟩; have n4_ : Aside0 (Below w.heap.size w w82) := ⟨by rw [← hq_]; exact (by repeat (first | (with_reducible first | exact HB.out | apply below_alloc | apply pw_below_drewN | apply below_drew1 | refine below_set ?_ GE281.out | refine below_set ?_ GE293.out) | exact HB.out))⟩; clear HO_5 HO_9 BK281 BK293 HB hq_; have HO_5 := n0_; have HO_9 := n1_; have BK281 := n2_; have BK293 := n3_; have HB := n4_; clear n0_ n1_ n2_ n3_ n4_))) | ((with_reducible refine gate_callee (f := 65) rfl ?_); refine goesL_ (some 92) rfl rfl Try.func65 (by kernel_rfl) rfl #[.slice A0 l0.length c0] rfl (by (try simp only [List.map_toArray, List.map_cons, List.map_nil]); first | done | rfl | (simp only [List.length_drop, List.length_take]; rfl)) ?_; (with_reducible refine (laws_toGrowS.calls kj44 _ _ l0 t307 _ ?side1 ?side2 A78.out).mono ?_); (case side1 => repeat (first | exact (Kd.C_below HR0.out HB.out) | (with_reducible refine Kd.C_alloc ?_ _) | (with_reducible refine Kd.C_drewN ?_ _) | (with_reducible refine Kd.C_drew ?_))); (case side2 => exact HC0.out); rintro e w83 ⟨v308, rfl, ho0, hb⟩; refine ⟨_, rfl, ?_⟩; have n0_ := Aside0.mk (Kd.R_below (by (with_reducible repeat (first | apply Kd.R_alloc | apply Kd.R_drewN | apply Kd.R_drew)); exact HO_5.out) hb); have n1_ := Aside0.mk (Kd.R_below (by (with_reducible repeat (first | apply Kd.R_alloc | apply Kd.R_drewN | apply Kd.R_drew)); exact HO_9.out) hb); have n2_ := Aside0.mk (Kd.R_lower ho0 (below_size (by repeat (first | (with_reducible first | exact HB.out | apply below_alloc | apply pw_below_drewN | apply below_drew1 | refine below_set ?_ GE281.out | refine below_set ?_ GE293.out) | exact HB.out)))); have n3_ := Aside0.mk (blk_below (g := gb281) (o := .cells #[.int .i64 t273, .int .i64 t274, .int .i64 t275, .int .i64 t276] 113 (0, 0)) (by (with_reducible repeat (first | refine blk_drewN ?_ _ | refine blk_drew ?_ | refine blk_alloc ?_ _)); exact BK281.out) hb); have n4_ := Aside0.mk (blk_below (g := gb293) (o := .cells #[.int .i64 t285, .int .i64 t286, .int .i64 t287, .int .i64 t288] 113 (0, 0)) (by (with_reducible repeat (first | refine blk_drewN ?_ _ | refine blk_drew ?_ | refine blk_alloc ?_ _)); exact BK293.out) hb); have n5_ := Aside0.mk (below_step (by repeat (first | (with_reducible first | exact HB.out | apply below_alloc | apply pw_below_drewN | apply below_drew1 | refine below_set ?_ GE281.out | refine below_set ?_ GE293.out) | exact HB.out)) hb); clear HO_5; clear HO_9; clear BK281; clear BK293; clear HB; have HO_5 := n0_; have HO_9 := n1_; have HO309 := n2_; have BK281 := n3_; have BK293 := n4_; have HB := n5_; clear n0_ n1_ n2_ n3_ n4_ n5_; (try clear hb); (try clear hb2); (try clear hk); (try clear hi); (try clear ho0); obtain ⟨Ao84, co84, eo84⟩ := Kd.R_slice HO309.out; subst eo84) | ((with_reducible refine gate_callee (f := 66) rfl ?_); refine goesL_ (some 93) rfl rfl Try.func66 (by kernel_rfl) rfl #[.slice Ao84 t307.length co84] rfl (by (try simp only [List.map_toArray, List.map_cons, List.map_nil]); first | done | rfl | (simp only [List.length_drop, List.length_take]; rfl)) ?_; (with_reducible refine (impl_PlayWindow.calls kj44 _ _ t307 t310 t311 t312 t313 t314 t317 _ ?side1 ?side2 A79.out).mono ?_); (case side1 => repeat (first | exact (Kd.R_reads' HO309.out).2.2 | (with_reducible refine Kd.C_alloc ?_ _) | (with_reducible refine Kd.C_drewN ?_ _) | (with_reducible refine Kd.C_drew ?_))); (case side2 => exact (Kd.R_reads' HO309.out).2.1); rintro e w85 ⟨v315, rfl, ho0, hb⟩; refine ⟨_, rfl, ?_⟩; have n0_ := Aside0.mk (Kd.R_elder' (by (with_reducible repeat (first | apply Kd.R_alloc | apply Kd.R_drewN | apply Kd.R_drew)); exact HO_5.out) (Kd.R_base ho0) hb); have n1_ := Aside0.mk (Kd.R_elder' (by (with_reducible repeat (first | apply Kd.R_alloc | apply Kd.R_drewN | apply Kd.R_drew)); exact HO_9.out) (Kd.R_base ho0) hb); have n2_ := Aside0.mk (Kd.R_below (by (with_reducible repeat (first | apply Kd.R_alloc | apply Kd.R_drewN | apply Kd.R_drew)); exact HO309.out) hb); have n3_ := Aside0.mk (Kd.R_lower (Kd.R_new' (Kd.R_new' ho0 (Kd.R_lt (by (with_reducible repeat (first | apply Kd.R_alloc | apply Kd.R_drewN | apply Kd.R_drew)); exact HO_5.out))) (Kd.R_lt (by (with_reducible repeat (first | apply Kd.R_alloc | apply Kd.R_drewN | apply Kd.R_drew)); exact HO_9.out))) (below_size (by repeat (first | (with_reducible first | exact HB.out | apply below_alloc | apply pw_below_drewN | apply below_drew1 | refine below_set ?_ GE281.out | refine below_set ?_ GE293.out) | exact HB.out)))); have n4_ := Aside0.mk (blk_below (g := gb281) (o := .cells #[.int .i64 t273, .int .i64 t274, .int .i64 t275, .int .i64 t276] 113 (0, 0)) (by (with_reducible repeat (first | refine blk_drewN ?_ _ | refine blk_drew ?_ | refine blk_alloc ?_ _)); exact BK281.out) hb); have n5_ := Aside0.mk (blk_below (g := gb293) (o := .cells #[.int .i64 t285, .int .i64 t286, .int .i64 t287, .int .i64 t288] 113 (0, 0)) (by (with_reducible repeat (first | refine blk_drewN ?_ _ | refine blk_drew ?_ | refine blk_alloc ?_ _)); exact BK293.out) hb); have n6_ := Aside0.mk (below_step (by repeat (first | (with_reducible first | exact HB.out | apply below_alloc | apply pw_below_drewN | apply below_drew1 | refine below_set ?_ GE281.out | refine below_set ?_ GE293.out) | exact HB.out)) hb); clear HO_5; clear HO_9; clear HO309; clear BK281; clear BK293; clear HB; have HO_5 := n0_; have HO_9 := n1_; have HO309 := n2_; have HO316 := n3_; have BK281 := n4_; have BK293 := n5_; have HB := n6_; clear n0_ n1_ n2_ n3_ n4_ n5_ n6_; (try clear hb); (try clear hb2); (try clear hk); (try clear hi); (try clear ho0)) | ((with_reducible refine gate_dst (N := 14) rfl ?_); refine box_event ?hg (N := 14) ?hd (cs := #[.int .i64 0, .int .i64 0, .int .i64 0, .int .i64 0]) (t := 113) ?hr ?_; (case hd => rfl); (case hg => rfl); (case hr => first | (go_simp; done) | (go_simp; rfl)); intro gb318 hg w86 hbox hb; have n0_ := Aside0.mk (Kd.R_below (by (with_reducible repeat (first | apply Kd.R_alloc | apply Kd.R_drewN | apply Kd.R_drew)); exact HO_5.out) hb); have n1_ := Aside0.mk (Kd.R_below (by (with_reducible repeat (first | apply Kd.R_alloc | apply Kd.R_drewN | apply Kd.R_drew)); exact HO_9.out) hb); have n2_ := Aside0.mk (Kd.R_below (by (with_reducible repeat (first | apply Kd.R_alloc | apply Kd.R_drewN | apply Kd.R_drew)); exact HO309.out) hb); have n3_ := Aside0.mk (Kd.R_below (by (with_reducible repeat (first | apply Kd.R_alloc | apply Kd.R_drewN | apply Kd.R_drew)); exact HO316.out) hb); have n4_ := Aside0.mk (blk_below (g := gb281) (o := .cells #[.int .i64 t273, .int .i64 t274, .int .i64 t275, .int .i64 t276] 113 (0, 0)) (by (with_reducible repeat (first | refine blk_drewN ?_ _ | refine blk_drew ?_ | refine blk_alloc ?_ _)); exact BK281.out) hb); have n5_ := Aside0.mk (blk_below (g := gb293) (o := .cells #[.int .i64 t285, .int .i64 t286, .int .i64 t287, .int .i64 t288] 113 (0, 0)) (by (with_reducible repeat (first | refine blk_drewN ?_ _ | refine blk_drew ?_ | refine blk_alloc ?_ _)); exact BK293.out) hb); have n6_ := Aside0.mk (below_step (by repeat (first | (with_reducible first | exact HB.out | apply below_alloc | apply pw_below_drewN | apply below_drew1 | refine below_set ?_ GE281.out | refine below_set ?_ GE293.out) | exact HB.out)) hb); have n7_ := Aside0.mk (hbox); have n8_ := Aside0.mk ((by rw [hg]; exact (below_size (by repeat (first | (with_reducible first | exact HB.out | apply below_alloc | apply pw_below_drewN | apply below_drew1 | refine below_set ?_ GE281.out | refine below_set ?_ GE293.out) | exact HB.out))) : w.heap.size ≤ gb318)); have n9_ := n8_; have n10_ := Aside0.mk ((by rw [hg]; exact Nat.ne_of_lt (blk_lt (g := gb281) (o := .cells #[.int .i64 t273, .int .i64 t274, .int .i64 t275, .int .i64 t276] 113 (0, 0)) (by (with_reducible repeat (first | refine blk_drewN ?_ _ | refine blk_drew ?_ | refine blk_alloc ?_ _)); exact BK281.out)) : gb281 ≠ gb318)); have n11_ := Aside0.mk (Ne.symm n10_.out); have n12_ := Aside0.mk ((by rw [hg]; exact Nat.ne_of_lt (blk_lt (g := gb293) (o := .cells #[.int .i64 t285, .int .i64 t286, .int .i64 t287, .int .i64 t288] 113 (0, 0)) (by (with_reducible repeat (first | refine blk_drewN ?_ _ | refine blk_drew ?_ | refine blk_alloc ?_ _)); exact BK293.out)) : gb293 ≠ gb318)); have n13_ := Aside0.mk (Ne.symm n12_.out); clear HO_5; clear HO_9; clear HO309; clear HO316; clear BK281; clear BK293; clear HB; have HO_5 := n0_; have HO_9 := n1_; have HO309 := n2_; have HO316 := n3_; have BK281 := n4_; have BK293 := n5_; have HB := n6_; have BK318 := n7_; have GW318 := n8_; have GE318 := n9_; have NB281_318 := n10_; have NB318_281 := n11_; have NB293_318 := n12_; have NB318_293 := n13_; clear n0_ n1_ n2_ n3_ n4_ n5_ n6_ n7_ n8_ n9_ n10_ n11_ n12_ n13_; clear hb hbox hg; have hnb87 := NB318_281.out; have hnc87 := NB281_318.out; have hnb88 := NB318_293.out; have hnc88 := NB293_318.out; have hcz89_0 : w86.cell? ⟨gb318, 0, none⟩ = some (.int .i64 0) := (blk_cell BK318.out 0).trans rfl; have hcz89_1 : w86.cell? ⟨gb318, 1, none⟩ = some (.int .i64 0) := (blk_cell BK318.out 1).trans rfl; have hcz89_2 : w86.cell? ⟨gb318, 2, none⟩ = some (.int .i64 0) := (blk_cell BK318.out 2).trans rfl; have hcz89_3 : w86.cell? ⟨gb318, 3, none⟩ = some (.int .i64 0) := (blk_cell BK318.out 3).trans rfl; have hfz89_0 := blk_frozen BK318.out 0; have hfz89_1 := blk_frozen BK318.out 1; have hfz89_2 := blk_frozen BK318.out 2; have hfz89_3 := blk_frozen BK318.out 3))
           (try simp only [Act.put, List.setIfInBounds_toArray, List.set_cons_zero, List.set_cons_succ])
           go_cut [111] (fun v111 wc => ∃ (kq : Nat) (x111_79 : Bool), v111 = .bool x111_79 ∧ Aside0 (laws_FnExactPlayWindow.j2 kq t305 t304 x111_79 = some r) ∧ Aside0 (kq ≤ kj44) ∧ Aside0 (Kd.R (Kd.int .i64) 3 wc w.heap.size (fun _ => True) (.slice Ao81 t289.length co81) t305) ∧ Aside0 (wc.heap[gb281]? = some (.cells #[.int .i64 t273, .int .i64 t274, .int .i64 t275, .int .i64 t276] 113 (0, 0))) ∧ Aside0 (wc.heap[gb293]? = some (.cells #[.int .i64 t285, .int .i64 t286, .int .i64 t287, .int .i64 t288] 113 (0, 0))) ∧ Aside0 (wc.heap[gb318]? = some (.cells #[.int .i64 t310, .int .i64 t311, .int .i64 t312, .int .i64 t313] 113 (0, 0))) ∧ Aside0 (Below w.heap.size w wc))
           case first =>
            have H := HC80.out
            clear HC80
            replace H := Option.bind_eq_some_iff.mp H
            obtain ⟨t319, A900, H⟩ := H
            replace H : (if t319 = true then ((laws_eqIntS.f kj44 t314 t277).bind fun t320 => (if t320 = true then (laws_FnExactPlayWindow.j2 kj44 t305 t304 (t317 != t280)) else (laws_FnExactPlayWindow.j2 kj44 t305 t304 true))) else (laws_FnExactPlayWindow.j2 kj44 t305 t304 true)) = some r := H
            have A90 := Aside0.mk A900
            clear A900
            by_cases c91 : t319 = true
            ·subst c91
             have H1 : ((laws_eqIntS.f kj44 t314 t277).bind fun t320 => (if t320 = true then (laws_FnExactPlayWindow.j2 kj44 t305 t304 (t317 != t280)) else (laws_FnExactPlayWindow.j2 kj44 t305 t304 true))) = some r := by rw [if_pos rfl] at H; exact H
             clear H
             have H := H1
             clear H1
             replace H := Option.bind_eq_some_iff.mp H
             obtain ⟨t320, A920, H⟩ := H
             replace H : (if t320 = true then (laws_FnExactPlayWindow.j2 kj44 t305 t304 (t317 != t280)) else (laws_FnExactPlayWindow.j2 kj44 t305 t304 true)) = some r := H
             have A92 := Aside0.mk A920
             clear A920
             by_cases c93 : t320 = true
             ·subst c93
              have H1 : (laws_FnExactPlayWindow.j2 kj44 t305 t304 (t317 != t280)) = some r := by rw [if_pos rfl] at H; exact H
              clear H
              have H := H1
              clear H1
              have H' := Aside0.mk H
              clear H
              have hnb94 := NB318_281.out
              have hnc94 := NB281_318.out
              have hnb95 := NB318_293.out
              have hnc95 := NB293_318.out
              have hcz96_0 : w86.cell? ⟨gb318, 0, none⟩ = some (.int .i64 0) := (blk_cell BK318.out 0).trans rfl
              have hcz96_1 : w86.cell? ⟨gb318, 1, none⟩ = some (.int .i64 0) := (blk_cell BK318.out 1).trans rfl
              have hcz96_2 : w86.cell? ⟨gb318, 2, none⟩ = some (.int .i64 0) := (blk_cell BK318.out 2).trans rfl
              have hcz96_3 : w86.cell? ⟨gb318, 3, none⟩ = some (.int .i64 0) := (blk_cell BK318.out 3).trans rfl
              have hfz96_0 := blk_frozen BK318.out 0
              have hfz96_1 := blk_frozen BK318.out 1
              have hfz96_2 := blk_frozen BK318.out 2
              have hfz96_3 := blk_frozen BK318.out 3
              have hnb97 := NB281_293.out
              have hnc97 := NB293_281.out
              have hcz98_0 : w86.cell? ⟨gb281, 0, none⟩ = some (.int .i64 t273) := (blk_cell BK281.out 0).trans rfl
              have hcz98_1 : w86.cell? ⟨gb281, 1, none⟩ = some (.int .i64 t274) := (blk_cell BK281.out 1).trans rfl
              have hcz98_2 : w86.cell? ⟨gb281, 2, none⟩ = some (.int .i64 t275) := (blk_cell BK281.out 2).trans rfl
              have hcz98_3 : w86.cell? ⟨gb281, 3, none⟩ = some (.int .i64 t276) := (blk_cell BK281.out 3).trans rfl
              have hfz98_0 := blk_frozen BK281.out 0
              have hfz98_1 := blk_frozen BK281.out 1
              have hfz98_2 := blk_frozen BK281.out 2
              have hfz98_3 := blk_frozen BK281.out 3
              go_wp2_with (first | ((with_reducible refine gate_callee (f := 67) rfl ?_); refine goesL_ (some 99) rfl rfl Try.func67 (by kernel_rfl) rfl #[.agg #[.int .i64 t310, .int .i64 t311, .int .i64 t312, .int .i64 t313], .agg #[.int .i64 t273, .int .i64 t274, .int .i64 t275, .int .i64 t276]] rfl (by (try simp only [List.map_toArray, List.map_cons, List.map_nil]); first | done | rfl | (simp only [List.length_drop, List.length_take]; rfl)) ?_; (with_reducible refine (laws_eqWindow.calls t310 t311 t312 t313 t273 t274 t275 t276 true _ A90.out).mono ?_); rintro e w99 ⟨rfl, hb⟩; refine ⟨_, rfl, ?_⟩; have n0_ := Aside0.mk (Kd.R_below (by (with_reducible repeat (first | apply Kd.R_alloc | apply Kd.R_drewN | apply Kd.R_drew)); exact (Kd.R_mono (Kd.R_far (p := ⟨gb318, 3, none⟩) (Kd.R_far (p := ⟨gb318, 2, none⟩) (Kd.R_far (p := ⟨gb318, 1, none⟩) (Kd.R_far (p := ⟨gb318, 0, none⟩) (Kd.R_types HO_5.out BK318.out (by decide)) (fun _ hk => hk.2) (.int .i64 t310)) (fun _ hk => hk.2) (.int .i64 t311)) (fun _ hk => hk.2) (.int .i64 t312)) (fun _ hk => hk.2) (.int .i64 t313)) (fun _ h_ => h_.1))) hb); have n1_ := Aside0.mk (Kd.R_below (by (with_reducible repeat (first | apply Kd.R_alloc | apply Kd.R_drewN | apply Kd.R_drew)); exact (Kd.R_mono (Kd.R_far (p := ⟨gb318, 3, none⟩) (Kd.R_far (p := ⟨gb318, 2, none⟩) (Kd.R_far (p := ⟨gb318, 1, none⟩) (Kd.R_far (p := ⟨gb318, 0, none⟩) (Kd.R_types HO_9.out BK318.out (by decide)) (fun _ hk => hk.2) (.int .i64 t310)) (fun _ hk => hk.2) (.int .i64 t311)) (fun _ hk => hk.2) (.int .i64 t312)) (fun _ hk => hk.2) (.int .i64 t313)) (fun _ h_ => h_.1))) hb); have n2_ := Aside0.mk (Kd.R_below (by (with_reducible repeat (first | apply Kd.R_alloc | apply Kd.R_drewN | apply Kd.R_drew)); exact (Kd.R_mono (Kd.R_far (p := ⟨gb318, 3, none⟩) (Kd.R_far (p := ⟨gb318, 2, none⟩) (Kd.R_far (p := ⟨gb318, 1, none⟩) (Kd.R_far (p := ⟨gb318, 0, none⟩) (Kd.R_types HO309.out BK318.out (by decide)) (fun _ hk => hk.2) (.int .i64 t310)) (fun _ hk => hk.2) (.int .i64 t311)) (fun _ hk => hk.2) (.int .i64 t312)) (fun _ hk => hk.2) (.int .i64 t313)) (fun _ h_ => h_.1))) hb); have n3_ := Aside0.mk (Kd.R_below (by (with_reducible repeat (first | apply Kd.R_alloc | apply Kd.R_drewN | apply Kd.R_drew)); exact (Kd.R_mono (Kd.R_far (p := ⟨gb318, 3, none⟩) (Kd.R_far (p := ⟨gb318, 2, none⟩) (Kd.R_far (p := ⟨gb318, 1, none⟩) (Kd.R_far (p := ⟨gb318, 0, none⟩) (Kd.R_types HO316.out BK318.out (by decide)) (fun _ hk => hk.2) (.int .i64 t310)) (fun _ hk => hk.2) (.int .i64 t311)) (fun _ hk => hk.2) (.int .i64 t312)) (fun _ hk => hk.2) (.int .i64 t313)) (fun _ h_ => h_.1))) hb); have n4_ := Aside0.mk (blk_below (g := gb281) (o := .cells #[.int .i64 t273, .int .i64 t274, .int .i64 t275, .int .i64 t276] 113 (0, 0)) (by (with_reducible repeat (first | refine blk_drewN ?_ _ | refine blk_drew ?_ | refine blk_alloc ?_ _)); refine blk_far ?_ NB281_318.out _; (with_reducible repeat (first | refine blk_drewN ?_ _ | refine blk_drew ?_ | refine blk_alloc ?_ _)); refine blk_far ?_ NB281_318.out _; (with_reducible repeat (first | refine blk_drewN ?_ _ | refine blk_drew ?_ | refine blk_alloc ?_ _)); refine blk_far ?_ NB281_318.out _; (with_reducible repeat (first | refine blk_drewN ?_ _ | refine blk_drew ?_ | refine blk_alloc ?_ _)); refine blk_far ?_ NB281_318.out _; (with_reducible repeat (first | refine blk_drewN ?_ _ | refine blk_drew ?_ | refine blk_alloc ?_ _)); exact BK281.out) hb); have n5_ := Aside0.mk (blk_below (g := gb293) (o := .cells #[.int .i64 t285, .int .i64 t286, .int .i64 t287, .int .i64 t288] 113 (0, 0)) (by (with_reducible repeat (first | refine blk_drewN ?_ _ | refine blk_drew ?_ | refine blk_alloc ?_ _)); refine blk_far ?_ NB293_318.out _; (with_reducible repeat (first | refine blk_drewN ?_ _ | refine blk_drew ?_ | refine blk_alloc ?_ _)); refine blk_far ?_ NB293_318.out _; (with_reducible repeat (first | refine blk_drewN ?_ _ | refine blk_drew ?_ | refine blk_alloc ?_ _)); refine blk_far ?_ NB293_318.out _; (with_reducible repeat (first | refine blk_drewN ?_ _ | refine blk_drew ?_ | refine blk_alloc ?_ _)); refine blk_far ?_ NB293_318.out _; (with_reducible repeat (first | refine blk_drewN ?_ _ | refine blk_drew ?_ | refine blk_alloc ?_ _)); exact BK293.out) hb); have n6_ := Aside0.mk (blk_below (g := gb318) (o := .cells #[.int .i64 t310, .int .i64 t311, .int .i64 t312, .int .i64 t313] 113 (0, 0)) (by (with_reducible repeat (first | refine blk_drewN ?_ _ | refine blk_drew ?_ | refine blk_alloc ?_ _)); refine blk_put (cs := #[.int .i64 t310, .int .i64 t311, .int .i64 t312, .int .i64 0]) ?_ 3 _ rfl; (with_reducible repeat (first | refine blk_drewN ?_ _ | refine blk_drew ?_ | refine blk_alloc ?_ _)); refine blk_put (cs := #[.int .i64 t310, .int .i64 t311, .int .i64 0, .int .i64 0]) ?_ 2 _ rfl; (with_reducible repeat (first | refine blk_drewN ?_ _ | refine blk_drew ?_ | refine blk_alloc ?_ _)); refine blk_put (cs := #[.int .i64 t310, .int .i64 0, .int .i64 0, .int .i64 0]) ?_ 1 _ rfl; (with_reducible repeat (first | refine blk_drewN ?_ _ | refine blk_drew ?_ | refine blk_alloc ?_ _)); refine blk_put (cs := #[.int .i64 0, .int .i64 0, .int .i64 0, .int .i64 0]) ?_ 0 _ rfl; (with_reducible repeat (first | refine blk_drewN ?_ _ | refine blk_drew ?_ | refine blk_alloc ?_ _)); exact BK318.out) hb); have n7_ := Aside0.mk (below_step (by repeat (first | (with_reducible first | exact HB.out | apply below_alloc | apply pw_below_drewN | apply below_drew1 | refine below_set ?_ GE281.out | refine below_set ?_ GE293.out | refine below_set ?_ GE318.out) | exact HB.out)) hb); clear HO_5; clear HO_9; clear HO309; clear HO316; clear BK281; clear BK293; clear BK318; clear HB; have HO_5 := n0_; have HO_9 := n1_; have HO309 := n2_; have HO316 := n3_; have BK281 := n4_; have BK293 := n5_; have BK318 := n6_; have HB := n7_; clear n0_ n1_ n2_ n3_ n4_ n5_ n6_ n7_; (try clear hb); (try clear hb2); (try clear hk); (try clear hi); obtain ⟨Ao100, co100, eo100⟩ := Kd.R_slice HO316.out; subst eo100; obtain ⟨Ao101, co101, eo101⟩ := Kd.R_slice HO_5.out; subst eo101) | (go_at_call 68; (with_reducible refine (laws_eqIntS.calls kj44 _ _ t314 _ _ t277 true _ ?side1 ?side2 ?side3 ?side4 A92.out).mono ?_); (case side1 => repeat (first | exact (Kd.R_reads' HO316.out).2.2 | (with_reducible refine Kd.C_alloc ?_ _) | (with_reducible refine Kd.C_drewN ?_ _) | (with_reducible refine Kd.C_drew ?_))); (case side2 => exact (Kd.R_reads' HO316.out).2.1); (case side3 => repeat (first | exact (Kd.R_reads' HO_5.out).2.2 | (with_reducible refine Kd.C_alloc ?_ _) | (with_reducible refine Kd.C_drewN ?_ _) | (with_reducible refine Kd.C_drew ?_))); (case side4 => exact (Kd.R_reads' HO_5.out).2.1); rintro e w' ⟨rfl, ⟨nd, rfl⟩⟩))
              go_meet
              case rel => exact ⟨_, ((t317 != t280)), (by first | rfl | (simp; done) | (simp [*]; done)), H', ⟨by have := HJ7.out; have := HJ44.out; first | omega | exact Nat.le_refl _⟩, ⟨by (with_reducible repeat (first | apply Kd.R_alloc | apply Kd.R_drewN | apply Kd.R_drew)); exact Kd.R_mono HO_9.out (fun _ hk => trivial)⟩, ⟨by (with_reducible repeat (first | refine blk_drewN ?_ _ | refine blk_drew ?_ | refine blk_alloc ?_ _)); exact BK281.out⟩, ⟨by (with_reducible repeat (first | refine blk_drewN ?_ _ | refine blk_drew ?_ | refine blk_alloc ?_ _)); exact BK293.out⟩, ⟨by (with_reducible repeat (first | refine blk_drewN ?_ _ | refine blk_drew ?_ | refine blk_alloc ?_ _)); exact BK318.out⟩, ⟨by repeat (first | (with_reducible first | exact HB.out | apply below_alloc | apply pw_below_drewN | apply below_drew1 | refine below_set ?_ GE281.out | refine below_set ?_ GE293.out | refine below_set ?_ GE318.out) | exact HB.out)⟩⟩
             ·replace c93 := Bool.eq_false_iff.mpr c93
              subst c93
              have H1 : (laws_FnExactPlayWindow.j2 kj44 t305 t304 true) = some r := by rw [if_neg (show ¬ (false = true) by decide)] at H; exact H
              clear H
              have H := H1
              clear H1
              have H' := Aside0.mk H
              clear H
              have hnb102 := NB318_281.out
              have hnc102 := NB281_318.out
              have hnb103 := NB318_293.out
              have hnc103 := NB293_318.out
              have hcz104_0 : w86.cell? ⟨gb318, 0, none⟩ = some (.int .i64 0) := (blk_cell BK318.out 0).trans rfl
              have hcz104_1 : w86.cell? ⟨gb318, 1, none⟩ = some (.int .i64 0) := (blk_cell BK318.out 1).trans rfl
              have hcz104_2 : w86.cell? ⟨gb318, 2, none⟩ = some (.int .i64 0) := (blk_cell BK318.out 2).trans rfl
              have hcz104_3 : w86.cell? ⟨gb318, 3, none⟩ = some (.int .i64 0) := (blk_cell BK318.out 3).trans rfl
              have hfz104_0 := blk_frozen BK318.out 0
              have hfz104_1 := blk_frozen BK318.out 1
              have hfz104_2 := blk_frozen BK318.out 2
              have hfz104_3 := blk_frozen BK318.out 3
              have hnb105 := NB281_293.out
              have hnc105 := NB293_281.out
              have hcz106_0 : w86.cell? ⟨gb281, 0, none⟩ = some (.int .i64 t273) := (blk_cell BK281.out 0).trans rfl
              have hcz106_1 : w86.cell? ⟨gb281, 1, none⟩ = some (.int .i64 t274) := (blk_cell BK281.out 1).trans rfl
              have hcz106_2 : w86.cell? ⟨gb281, 2, none⟩ = some (.int .i64 t275) := (blk_cell BK281.out 2).trans rfl
              have hcz106_3 : w86.cell? ⟨gb281, 3, none⟩ = some (.int .i64 t276) := (blk_cell BK281.out 3).trans rfl
              have hfz106_0 := blk_frozen BK281.out 0
              have hfz106_1 := blk_frozen BK281.out 1
              have hfz106_2 := blk_frozen BK281.out 2
              have hfz106_3 := blk_frozen BK281.out 3
              go_wp2_with (first | ((with_reducible refine gate_callee (f := 67) rfl ?_); refine goesL_ (some 99) rfl rfl Try.func67 (by kernel_rfl) rfl #[.agg #[.int .i64 t310, .int .i64 t311, .int .i64 t312, .int .i64 t313], .agg #[.int .i64 t273, .int .i64 t274, .int .i64 t275, .int .i64 t276]] rfl (by (try simp only [List.map_toArray, List.map_cons, List.map_nil]); first | done | rfl | (simp only [List.length_drop, List.length_take]; rfl)) ?_; (with_reducible refine (laws_eqWindow.calls t310 t311 t312 t313 t273 t274 t275 t276 true _ A90.out).mono ?_); rintro e w107 ⟨rfl, hb⟩; refine ⟨_, rfl, ?_⟩; have n0_ := Aside0.mk (Kd.R_below (by (with_reducible repeat (first | apply Kd.R_alloc | apply Kd.R_drewN | apply Kd.R_drew)); exact (Kd.R_mono (Kd.R_far (p := ⟨gb318, 3, none⟩) (Kd.R_far (p := ⟨gb318, 2, none⟩) (Kd.R_far (p := ⟨gb318, 1, none⟩) (Kd.R_far (p := ⟨gb318, 0, none⟩) (Kd.R_types HO_5.out BK318.out (by decide)) (fun _ hk => hk.2) (.int .i64 t310)) (fun _ hk => hk.2) (.int .i64 t311)) (fun _ hk => hk.2) (.int .i64 t312)) (fun _ hk => hk.2) (.int .i64 t313)) (fun _ h_ => h_.1))) hb); have n1_ := Aside0.mk (Kd.R_below (by (with_reducible repeat (first | apply Kd.R_alloc | apply Kd.R_drewN | apply Kd.R_drew)); exact (Kd.R_mono (Kd.R_far (p := ⟨gb318, 3, none⟩) (Kd.R_far (p := ⟨gb318, 2, none⟩) (Kd.R_far (p := ⟨gb318, 1, none⟩) (Kd.R_far (p := ⟨gb318, 0, none⟩) (Kd.R_types HO_9.out BK318.out (by decide)) (fun _ hk => hk.2) (.int .i64 t310)) (fun _ hk => hk.2) (.int .i64 t311)) (fun _ hk => hk.2) (.int .i64 t312)) (fun _ hk => hk.2) (.int .i64 t313)) (fun _ h_ => h_.1))) hb); have n2_ := Aside0.mk (Kd.R_below (by (with_reducible repeat (first | apply Kd.R_alloc | apply Kd.R_drewN | apply Kd.R_drew)); exact (Kd.R_mono (Kd.R_far (p := ⟨gb318, 3, none⟩) (Kd.R_far (p := ⟨gb318, 2, none⟩) (Kd.R_far (p := ⟨gb318, 1, none⟩) (Kd.R_far (p := ⟨gb318, 0, none⟩) (Kd.R_types HO309.out BK318.out (by decide)) (fun _ hk => hk.2) (.int .i64 t310)) (fun _ hk => hk.2) (.int .i64 t311)) (fun _ hk => hk.2) (.int .i64 t312)) (fun _ hk => hk.2) (.int .i64 t313)) (fun _ h_ => h_.1))) hb); have n3_ := Aside0.mk (Kd.R_below (by (with_reducible repeat (first | apply Kd.R_alloc | apply Kd.R_drewN | apply Kd.R_drew)); exact (Kd.R_mono (Kd.R_far (p := ⟨gb318, 3, none⟩) (Kd.R_far (p := ⟨gb318, 2, none⟩) (Kd.R_far (p := ⟨gb318, 1, none⟩) (Kd.R_far (p := ⟨gb318, 0, none⟩) (Kd.R_types HO316.out BK318.out (by decide)) (fun _ hk => hk.2) (.int .i64 t310)) (fun _ hk => hk.2) (.int .i64 t311)) (fun _ hk => hk.2) (.int .i64 t312)) (fun _ hk => hk.2) (.int .i64 t313)) (fun _ h_ => h_.1))) hb); have n4_ := Aside0.mk (blk_below (g := gb281) (o := .cells #[.int .i64 t273, .int .i64 t274, .int .i64 t275, .int .i64 t276] 113 (0, 0)) (by (with_reducible repeat (first | refine blk_drewN ?_ _ | refine blk_drew ?_ | refine blk_alloc ?_ _)); refine blk_far ?_ NB281_318.out _; (with_reducible repeat (first | refine blk_drewN ?_ _ | refine blk_drew ?_ | refine blk_alloc ?_ _)); refine blk_far ?_ NB281_318.out _; (with_reducible repeat (first | refine blk_drewN ?_ _ | refine blk_drew ?_ | refine blk_alloc ?_ _)); refine blk_far ?_ NB281_318.out _; (with_reducible repeat (first | refine blk_drewN ?_ _ | refine blk_drew ?_ | refine blk_alloc ?_ _)); refine blk_far ?_ NB281_318.out _; (with_reducible repeat (first | refine blk_drewN ?_ _ | refine blk_drew ?_ | refine blk_alloc ?_ _)); exact BK281.out) hb); have n5_ := Aside0.mk (blk_below (g := gb293) (o := .cells #[.int .i64 t285, .int .i64 t286, .int .i64 t287, .int .i64 t288] 113 (0, 0)) (by (with_reducible repeat (first | refine blk_drewN ?_ _ | refine blk_drew ?_ | refine blk_alloc ?_ _)); refine blk_far ?_ NB293_318.out _; (with_reducible repeat (first | refine blk_drewN ?_ _ | refine blk_drew ?_ | refine blk_alloc ?_ _)); refine blk_far ?_ NB293_318.out _; (with_reducible repeat (first | refine blk_drewN ?_ _ | refine blk_drew ?_ | refine blk_alloc ?_ _)); refine blk_far ?_ NB293_318.out _; (with_reducible repeat (first | refine blk_drewN ?_ _ | refine blk_drew ?_ | refine blk_alloc ?_ _)); refine blk_far ?_ NB293_318.out _; (with_reducible repeat (first | refine blk_drewN ?_ _ | refine blk_drew ?_ | refine blk_alloc ?_ _)); exact BK293.out) hb); have n6_ := Aside0.mk (blk_below (g := gb318) (o := .cells #[.int .i64 t310, .int .i64 t311, .int .i64 t312, .int .i64 t313] 113 (0, 0)) (by (with_reducible repeat (first | refine blk_drewN ?_ _ | refine blk_drew ?_ | refine blk_alloc ?_ _)); refine blk_put (cs := #[.int .i64 t310, .int .i64 t311, .int .i64 t312, .int .i64 0]) ?_ 3 _ rfl; (with_reducible repeat (first | refine blk_drewN ?_ _ | refine blk_drew ?_ | refine blk_alloc ?_ _)); refine blk_put (cs := #[.int .i64 t310, .int .i64 t311, .int .i64 0, .int .i64 0]) ?_ 2 _ rfl; (with_reducible repeat (first | refine blk_drewN ?_ _ | refine blk_drew ?_ | refine blk_alloc ?_ _)); refine blk_put (cs := #[.int .i64 t310, .int .i64 0, .int .i64 0, .int .i64 0]) ?_ 1 _ rfl; (with_reducible repeat (first | refine blk_drewN ?_ _ | refine blk_drew ?_ | refine blk_alloc ?_ _)); refine blk_put (cs := #[.int .i64 0, .int .i64 0, .int .i64 0, .int .i64 0]) ?_ 0 _ rfl; (with_reducible repeat (first | refine blk_drewN ?_ _ | refine blk_drew ?_ | refine blk_alloc ?_ _)); exact BK318.out) hb); have n7_ := Aside0.mk (below_step (by repeat (first | (with_reducible first | exact HB.out | apply below_alloc | apply pw_below_drewN | apply below_drew1 | refine below_set ?_ GE281.out | refine below_set ?_ GE293.out | refine below_set ?_ GE318.out) | exact HB.out)) hb); clear HO_5; clear HO_9; clear HO309; clear HO316; clear BK281; clear BK293; clear BK318; clear HB; have HO_5 := n0_; have HO_9 := n1_; have HO309 := n2_; have HO316 := n3_; have BK281 := n4_; have BK293 := n5_; have BK318 := n6_; have HB := n7_; clear n0_ n1_ n2_ n3_ n4_ n5_ n6_ n7_; (try clear hb); (try clear hb2); (try clear hk); (try clear hi); obtain ⟨Ao108, co108, eo108⟩ := Kd.R_slice HO316.out; subst eo108; obtain ⟨Ao109, co109, eo109⟩ := Kd.R_slice HO_5.out; subst eo109) | (go_at_call 68; (with_reducible refine (laws_eqIntS.calls kj44 _ _ t314 _ _ t277 false _ ?side1 ?side2 ?side3 ?side4 A92.out).mono ?_); (case side1 => repeat (first | exact (Kd.R_reads' HO316.out).2.2 | (with_reducible refine Kd.C_alloc ?_ _) | (with_reducible refine Kd.C_drewN ?_ _) | (with_reducible refine Kd.C_drew ?_))); (case side2 => exact (Kd.R_reads' HO316.out).2.1); (case side3 => repeat (first | exact (Kd.R_reads' HO_5.out).2.2 | (with_reducible refine Kd.C_alloc ?_ _) | (with_reducible refine Kd.C_drewN ?_ _) | (with_reducible refine Kd.C_drew ?_))); (case side4 => exact (Kd.R_reads' HO_5.out).2.1); rintro e w' ⟨rfl, ⟨nd, rfl⟩⟩))
              go_meet
              case rel => exact ⟨_, (true), (by first | rfl | (simp; done) | (simp [*]; done)), H', ⟨by have := HJ7.out; have := HJ44.out; first | omega | exact Nat.le_refl _⟩, ⟨by (with_reducible repeat (first | apply Kd.R_alloc | apply Kd.R_drewN | apply Kd.R_drew)); exact Kd.R_mono HO_9.out (fun _ hk => trivial)⟩, ⟨by (with_reducible repeat (first | refine blk_drewN ?_ _ | refine blk_drew ?_ | refine blk_alloc ?_ _)); exact BK281.out⟩, ⟨by (with_reducible repeat (first | refine blk_drewN ?_ _ | refine blk_drew ?_ | refine blk_alloc ?_ _)); exact BK293.out⟩, ⟨by (with_reducible repeat (first | refine blk_drewN ?_ _ | refine blk_drew ?_ | refine blk_alloc ?_ _)); exact BK318.out⟩, ⟨by repeat (first | (with_reducible first | exact HB.out | apply below_alloc | apply pw_below_drewN | apply below_drew1 | refine below_set ?_ GE281.out | refine below_set ?_ GE293.out | refine below_set ?_ GE318.out) | exact HB.out)⟩⟩
            ·replace c91 := Bool.eq_false_iff.mpr c91
             subst c91
             have H1 : (laws_FnExactPlayWindow.j2 kj44 t305 t304 true) = some r := by rw [if_neg (show ¬ (false = true) by decide)] at H; exact H
             clear H
             have H := H1
             clear H1
             have H' := Aside0.mk H
             clear H
             have hnb110 := NB318_281.out
             have hnc110 := NB281_318.out
             have hnb111 := NB318_293.out
             have hnc111 := NB293_318.out
             have hcz112_0 : w86.cell? ⟨gb318, 0, none⟩ = some (.int .i64 0) := (blk_cell BK318.out 0).trans rfl
             have hcz112_1 : w86.cell? ⟨gb318, 1, none⟩ = some (.int .i64 0) := (blk_cell BK318.out 1).trans rfl
             have hcz112_2 : w86.cell? ⟨gb318, 2, none⟩ = some (.int .i64 0) := (blk_cell BK318.out 2).trans rfl
             have hcz112_3 : w86.cell? ⟨gb318, 3, none⟩ = some (.int .i64 0) := (blk_cell BK318.out 3).trans rfl
             have hfz112_0 := blk_frozen BK318.out 0
             have hfz112_1 := blk_frozen BK318.out 1
             have hfz112_2 := blk_frozen BK318.out 2
             have hfz112_3 := blk_frozen BK318.out 3
             have hnb113 := NB281_293.out
             have hnc113 := NB293_281.out
             have hcz114_0 : w86.cell? ⟨gb281, 0, none⟩ = some (.int .i64 t273) := (blk_cell BK281.out 0).trans rfl
             have hcz114_1 : w86.cell? ⟨gb281, 1, none⟩ = some (.int .i64 t274) := (blk_cell BK281.out 1).trans rfl
             have hcz114_2 : w86.cell? ⟨gb281, 2, none⟩ = some (.int .i64 t275) := (blk_cell BK281.out 2).trans rfl
             have hcz114_3 : w86.cell? ⟨gb281, 3, none⟩ = some (.int .i64 t276) := (blk_cell BK281.out 3).trans rfl
             have hfz114_0 := blk_frozen BK281.out 0
             have hfz114_1 := blk_frozen BK281.out 1
             have hfz114_2 := blk_frozen BK281.out 2
             have hfz114_3 := blk_frozen BK281.out 3
             go_wp2_with (first | ((with_reducible refine gate_callee (f := 67) rfl ?_); refine goesL_ (some 99) rfl rfl Try.func67 (by kernel_rfl) rfl #[.agg #[.int .i64 t310, .int .i64 t311, .int .i64 t312, .int .i64 t313], .agg #[.int .i64 t273, .int .i64 t274, .int .i64 t275, .int .i64 t276]] rfl (by (try simp only [List.map_toArray, List.map_cons, List.map_nil]); first | done | rfl | (simp only [List.length_drop, List.length_take]; rfl)) ?_; (with_reducible refine (laws_eqWindow.calls t310 t311 t312 t313 t273 t274 t275 t276 false _ A90.out).mono ?_); rintro e w115 ⟨rfl, hb⟩; refine ⟨_, rfl, ?_⟩; have n0_ := Aside0.mk (Kd.R_below (by (with_reducible repeat (first | apply Kd.R_alloc | apply Kd.R_drewN | apply Kd.R_drew)); exact (Kd.R_mono (Kd.R_far (p := ⟨gb318, 3, none⟩) (Kd.R_far (p := ⟨gb318, 2, none⟩) (Kd.R_far (p := ⟨gb318, 1, none⟩) (Kd.R_far (p := ⟨gb318, 0, none⟩) (Kd.R_types HO_5.out BK318.out (by decide)) (fun _ hk => hk.2) (.int .i64 t310)) (fun _ hk => hk.2) (.int .i64 t311)) (fun _ hk => hk.2) (.int .i64 t312)) (fun _ hk => hk.2) (.int .i64 t313)) (fun _ h_ => h_.1))) hb); have n1_ := Aside0.mk (Kd.R_below (by (with_reducible repeat (first | apply Kd.R_alloc | apply Kd.R_drewN | apply Kd.R_drew)); exact (Kd.R_mono (Kd.R_far (p := ⟨gb318, 3, none⟩) (Kd.R_far (p := ⟨gb318, 2, none⟩) (Kd.R_far (p := ⟨gb318, 1, none⟩) (Kd.R_far (p := ⟨gb318, 0, none⟩) (Kd.R_types HO_9.out BK318.out (by decide)) (fun _ hk => hk.2) (.int .i64 t310)) (fun _ hk => hk.2) (.int .i64 t311)) (fun _ hk => hk.2) (.int .i64 t312)) (fun _ hk => hk.2) (.int .i64 t313)) (fun _ h_ => h_.1))) hb); have n2_ := Aside0.mk (Kd.R_below (by (with_reducible repeat (first | apply Kd.R_alloc | apply Kd.R_drewN | apply Kd.R_drew)); exact (Kd.R_mono (Kd.R_far (p := ⟨gb318, 3, none⟩) (Kd.R_far (p := ⟨gb318, 2, none⟩) (Kd.R_far (p := ⟨gb318, 1, none⟩) (Kd.R_far (p := ⟨gb318, 0, none⟩) (Kd.R_types HO309.out BK318.out (by decide)) (fun _ hk => hk.2) (.int .i64 t310)) (fun _ hk => hk.2) (.int .i64 t311)) (fun _ hk => hk.2) (.int .i64 t312)) (fun _ hk => hk.2) (.int .i64 t313)) (fun _ h_ => h_.1))) hb); have n3_ := Aside0.mk (Kd.R_below (by (with_reducible repeat (first | apply Kd.R_alloc | apply Kd.R_drewN | apply Kd.R_drew)); exact (Kd.R_mono (Kd.R_far (p := ⟨gb318, 3, none⟩) (Kd.R_far (p := ⟨gb318, 2, none⟩) (Kd.R_far (p := ⟨gb318, 1, none⟩) (Kd.R_far (p := ⟨gb318, 0, none⟩) (Kd.R_types HO316.out BK318.out (by decide)) (fun _ hk => hk.2) (.int .i64 t310)) (fun _ hk => hk.2) (.int .i64 t311)) (fun _ hk => hk.2) (.int .i64 t312)) (fun _ hk => hk.2) (.int .i64 t313)) (fun _ h_ => h_.1))) hb); have n4_ := Aside0.mk (blk_below (g := gb281) (o := .cells #[.int .i64 t273, .int .i64 t274, .int .i64 t275, .int .i64 t276] 113 (0, 0)) (by (with_reducible repeat (first | refine blk_drewN ?_ _ | refine blk_drew ?_ | refine blk_alloc ?_ _)); refine blk_far ?_ NB281_318.out _; (with_reducible repeat (first | refine blk_drewN ?_ _ | refine blk_drew ?_ | refine blk_alloc ?_ _)); refine blk_far ?_ NB281_318.out _; (with_reducible repeat (first | refine blk_drewN ?_ _ | refine blk_drew ?_ | refine blk_alloc ?_ _)); refine blk_far ?_ NB281_318.out _; (with_reducible repeat (first | refine blk_drewN ?_ _ | refine blk_drew ?_ | refine blk_alloc ?_ _)); refine blk_far ?_ NB281_318.out _; (with_reducible repeat (first | refine blk_drewN ?_ _ | refine blk_drew ?_ | refine blk_alloc ?_ _)); exact BK281.out) hb); have n5_ := Aside0.mk (blk_below (g := gb293) (o := .cells #[.int .i64 t285, .int .i64 t286, .int .i64 t287, .int .i64 t288] 113 (0, 0)) (by (with_reducible repeat (first | refine blk_drewN ?_ _ | refine blk_drew ?_ | refine blk_alloc ?_ _)); refine blk_far ?_ NB293_318.out _; (with_reducible repeat (first | refine blk_drewN ?_ _ | refine blk_drew ?_ | refine blk_alloc ?_ _)); refine blk_far ?_ NB293_318.out _; (with_reducible repeat (first | refine blk_drewN ?_ _ | refine blk_drew ?_ | refine blk_alloc ?_ _)); refine blk_far ?_ NB293_318.out _; (with_reducible repeat (first | refine blk_drewN ?_ _ | refine blk_drew ?_ | refine blk_alloc ?_ _)); refine blk_far ?_ NB293_318.out _; (with_reducible repeat (first | refine blk_drewN ?_ _ | refine blk_drew ?_ | refine blk_alloc ?_ _)); exact BK293.out) hb); have n6_ := Aside0.mk (blk_below (g := gb318) (o := .cells #[.int .i64 t310, .int .i64 t311, .int .i64 t312, .int .i64 t313] 113 (0, 0)) (by (with_reducible repeat (first | refine blk_drewN ?_ _ | refine blk_drew ?_ | refine blk_alloc ?_ _)); refine blk_put (cs := #[.int .i64 t310, .int .i64 t311, .int .i64 t312, .int .i64 0]) ?_ 3 _ rfl; (with_reducible repeat (first | refine blk_drewN ?_ _ | refine blk_drew ?_ | refine blk_alloc ?_ _)); refine blk_put (cs := #[.int .i64 t310, .int .i64 t311, .int .i64 0, .int .i64 0]) ?_ 2 _ rfl; (with_reducible repeat (first | refine blk_drewN ?_ _ | refine blk_drew ?_ | refine blk_alloc ?_ _)); refine blk_put (cs := #[.int .i64 t310, .int .i64 0, .int .i64 0, .int .i64 0]) ?_ 1 _ rfl; (with_reducible repeat (first | refine blk_drewN ?_ _ | refine blk_drew ?_ | refine blk_alloc ?_ _)); refine blk_put (cs := #[.int .i64 0, .int .i64 0, .int .i64 0, .int .i64 0]) ?_ 0 _ rfl; (with_reducible repeat (first | refine blk_drewN ?_ _ | refine blk_drew ?_ | refine blk_alloc ?_ _)); exact BK318.out) hb); have n7_ := Aside0.mk (below_step (by repeat (first | (with_reducible first | exact HB.out | apply below_alloc | apply pw_below_drewN | apply below_drew1 | refine below_set ?_ GE281.out | refine below_set ?_ GE293.out | refine below_set ?_ GE318.out) | exact HB.out)) hb); clear HO_5; clear HO_9; clear HO309; clear HO316; clear BK281; clear BK293; clear BK318; clear HB; have HO_5 := n0_; have HO_9 := n1_; have HO309 := n2_; have HO316 := n3_; have BK281 := n4_; have BK293 := n5_; have BK318 := n6_; have HB := n7_; clear n0_ n1_ n2_ n3_ n4_ n5_ n6_ n7_; (try clear hb); (try clear hb2); (try clear hk); (try clear hi)))
             go_meet
             case rel => exact ⟨_, (true), (by first | rfl | (simp; done) | (simp [*]; done)), H', ⟨by have := HJ7.out; have := HJ44.out; first | omega | exact Nat.le_refl _⟩, ⟨by (with_reducible repeat (first | apply Kd.R_alloc | apply Kd.R_drewN | apply Kd.R_drew)); exact Kd.R_mono HO_9.out (fun _ hk => trivial)⟩, ⟨by (with_reducible repeat (first | refine blk_drewN ?_ _ | refine blk_drew ?_ | refine blk_alloc ?_ _)); exact BK281.out⟩, ⟨by (with_reducible repeat (first | refine blk_drewN ?_ _ | refine blk_drew ?_ | refine blk_alloc ?_ _)); exact BK293.out⟩, ⟨by (with_reducible repeat (first | refine blk_drewN ?_ _ | refine blk_drew ?_ | refine blk_alloc ?_ _)); exact BK318.out⟩, ⟨by repeat (first | (with_reducible first | exact HB.out | apply below_alloc | apply pw_below_drewN | apply below_drew1 | refine below_set ?_ GE281.out | refine below_set ?_ GE293.out | refine below_set ?_ GE318.out) | exact HB.out)⟩⟩
           case rest =>
            clear HC80
            try clear c1
            try clear c2
            try clear p2
            try clear c3
            try clear c3b0
            try clear c4
            try clear c5
            try clear c6
            try clear c7
            try clear c8
            try clear c9
            try clear c10
            try clear c11
            try clear c12
            try clear c18
            try clear c21
            try clear c23
            try clear c24
            try clear c30
            try clear c36
            try clear c40
            try clear c43
            try clear c50
            try clear c50b0
            try clear c52
            try clear c54
            try clear c55
            try clear c61
            try clear c63
            try clear c64
            try clear c65
            try clear c66
            try clear c67
            try clear c69
            try clear c70
            try clear c71
            try clear c72
            try clear c74
            try clear c74b0
            try clear c77
            try clear c77b0
            try clear c77b1
            try clear c87
            try clear c88
            try clear c91
            try clear c93
            try clear c94
            try clear c95
            try clear c97
            try clear c102
            try clear c103
            try clear c105
            try clear c110
            try clear c111
            try clear c113
            try clear hcz104_0
            try clear hcz104_1
            try clear hcz104_2
            try clear hcz104_3
            try clear hcz106_0
            try clear hcz106_1
            try clear hcz106_2
            try clear hcz106_3
            try clear hcz112_0
            try clear hcz112_1
            try clear hcz112_2
            try clear hcz112_3
            try clear hcz114_0
            try clear hcz114_1
            try clear hcz114_2
            try clear hcz114_3
            try clear hcz13_0
            try clear hcz13_1
            try clear hcz13_2
            try clear hcz13_3
            try clear hcz19_0
            try clear hcz19_1
            try clear hcz19_2
            try clear hcz19_3
            try clear hcz25_0
            try clear hcz25_1
            try clear hcz25_2
            try clear hcz25_3
            try clear hcz26_0
            try clear hcz26_1
            try clear hcz26_2
            try clear hcz26_3
            try clear hcz31_0
            try clear hcz31_1
            try clear hcz31_2
            try clear hcz31_3
            try clear hcz32_0
            try clear hcz32_1
            try clear hcz32_2
            try clear hcz32_3
            try clear hcz37_0
            try clear hcz37_1
            try clear hcz37_2
            try clear hcz37_3
            try clear hcz38_0
            try clear hcz38_1
            try clear hcz38_2
            try clear hcz38_3
            try clear hcz56_0
            try clear hcz56_1
            try clear hcz56_2
            try clear hcz56_3
            try clear hcz57_0
            try clear hcz57_1
            try clear hcz57_2
            try clear hcz57_3
            try clear hcz62_0
            try clear hcz62_1
            try clear hcz62_2
            try clear hcz62_3
            try clear hcz63_0
            try clear hcz63_1
            try clear hcz63_2
            try clear hcz63_3
            try clear hcz68_0
            try clear hcz68_1
            try clear hcz68_2
            try clear hcz68_3
            try clear hcz69_0
            try clear hcz69_1
            try clear hcz69_2
            try clear hcz69_3
            try clear hcz89_0
            try clear hcz89_1
            try clear hcz89_2
            try clear hcz89_3
            try clear hcz96_0
            try clear hcz96_1
            try clear hcz96_2
            try clear hcz96_3
            try clear hcz98_0
            try clear hcz98_1
            try clear hcz98_2
            try clear hcz98_3
            try clear hfz104_0
            try clear hfz104_1
            try clear hfz104_2
            try clear hfz104_3
            try clear hfz106_0
            try clear hfz106_1
            try clear hfz106_2
            try clear hfz106_3
            try clear hfz112_0
            try clear hfz112_1
            try clear hfz112_2
            try clear hfz112_3
            try clear hfz114_0
            try clear hfz114_1
            try clear hfz114_2
            try clear hfz114_3
            try clear hfz13_0
            try clear hfz13_1
            try clear hfz13_2
            try clear hfz13_3
            try clear hfz19_0
            try clear hfz19_1
            try clear hfz19_2
            try clear hfz19_3
            try clear hfz25_0
            try clear hfz25_1
            try clear hfz25_2
            try clear hfz25_3
            try clear hfz26_0
            try clear hfz26_1
            try clear hfz26_2
            try clear hfz26_3
            try clear hfz31_0
            try clear hfz31_1
            try clear hfz31_2
            try clear hfz31_3
            try clear hfz32_0
            try clear hfz32_1
            try clear hfz32_2
            try clear hfz32_3
            try clear hfz37_0
            try clear hfz37_1
            try clear hfz37_2
            try clear hfz37_3
            try clear hfz38_0
            try clear hfz38_1
            try clear hfz38_2
            try clear hfz38_3
            try clear hfz56_0
            try clear hfz56_1
            try clear hfz56_2
            try clear hfz56_3
            try clear hfz57_0
            try clear hfz57_1
            try clear hfz57_2
            try clear hfz57_3
            try clear hfz62_0
            try clear hfz62_1
            try clear hfz62_2
            try clear hfz62_3
            try clear hfz63_0
            try clear hfz63_1
            try clear hfz63_2
            try clear hfz63_3
            try clear hfz68_0
            try clear hfz68_1
            try clear hfz68_2
            try clear hfz68_3
            try clear hfz69_0
            try clear hfz69_1
            try clear hfz69_2
            try clear hfz69_3
            try clear hfz89_0
            try clear hfz89_1
            try clear hfz89_2
            try clear hfz89_3
            try clear hfz96_0
            try clear hfz96_1
            try clear hfz96_2
            try clear hfz96_3
            try clear hfz98_0
            try clear hfz98_1
            try clear hfz98_2
            try clear hfz98_3
            try clear p2
            obtain ⟨kq, x111_79, rfl, HA, HJ79, HO_9, BK281, BK293, BK318, HB⟩ := hcut
            have hl9_79 := (Kd.R_reads' HO_9.out).1
            rw [hl9_79] at HO_9
            (try simp only [hl9_79])
            (try simp only [hl9_79] at BK281)
            (try simp only [hl9_79] at BK293)
            (try simp only [hl9_79] at BK318)
            cases kq with
            | zero => exact absurd HA.out (by simp [laws_FnExactPlayWindow.j2])
            | succ kj79 =>
             have H := HA.out
             clear HA
             simp only [laws_FnExactPlayWindow.j2] at H
             by_cases c116 : x111_79 = true
             ·subst c116
              have H1 : (some false) = some r := by rw [if_pos rfl] at H; exact H
              clear H
              have H := H1
              clear H1
              obtain rfl := Option.some.inj H
              go_wp2
              go_ret
              exact ⟨by first | rfl | (simp [errW_none, errW_some] <;> rfl) | (simp [*, errW_none, errW_some] <;> rfl), by repeat (first | (with_reducible first | exact HB.out | apply below_alloc | apply pw_below_drewN | apply below_drew1 | refine below_set ?_ GE281.out | refine below_set ?_ GE293.out | refine below_set ?_ GE318.out) | exact HB.out)⟩
             ·replace c116 := Bool.eq_false_iff.mpr c116
              subst c116
              have H1 : ((laws_heldIntS.f kj79 t305 1).bind fun t321 => (if t321 < 0 then (some false) else (if t321 = t304 then (some true) else (some false)))) = some r := by rw [if_neg (show ¬ (false = true) by decide)] at H; exact H
              clear H
              have H := H1
              clear H1
              replace H := Option.bind_eq_some_iff.mp H
              obtain ⟨t321, A1170, H⟩ := H
              replace H : (if t321 < 0 then (some false) else (if t321 = t304 then (some true) else (some false))) = some r := H
              have A117 := Aside0.mk A1170
              clear A1170
              by_cases c118 : t321 < 0
              ·rw [if_pos c118] at H
               have c118b0 : decide (t321 < 0) = true := decide_eq_true c118
               clear c118
               obtain rfl := Option.some.inj H
               go_wp2_with (first | ((with_reducible refine gate_callee (f := 72) rfl ?_); refine goesL_ (some 114) rfl rfl Try.func72 (by kernel_rfl) rfl #[.slice Ao81 t305.length co81, .int .i64 1] rfl (by (try simp only [List.map_toArray, List.map_cons, List.map_nil]); first | done | rfl | (simp only [List.length_drop, List.length_take]; rfl)) ?_; (with_reducible refine (laws_heldIntS.calls kj79 _ _ t305 1 t321 _ ?side1 ?side2 A117.out).mono ?_); (case side1 => repeat (first | exact (Kd.R_reads' HO_9.out).2.2 | (with_reducible refine Kd.C_alloc ?_ _) | (with_reducible refine Kd.C_drewN ?_ _) | (with_reducible refine Kd.C_drew ?_))); (case side2 => exact (Kd.R_reads' HO_9.out).2.1); rintro e w' ⟨rfl, ⟨nd, rfl⟩⟩; refine ⟨_, rfl, ?_⟩))
               go_ret
               exact ⟨by first | rfl | (simp [errW_none, errW_some] <;> rfl) | (simp [*, errW_none, errW_some] <;> rfl), by repeat (first | (with_reducible first | exact HB.out | apply below_alloc | apply pw_below_drewN | apply below_drew1 | refine below_set ?_ GE281.out | refine below_set ?_ GE293.out | refine below_set ?_ GE318.out) | exact HB.out)⟩
              ·rw [if_neg c118] at H
               have c118b0 : decide (t321 < 0) = false := decide_eq_false c118
               clear c118
               by_cases c119 : t321 = t304
               ·rw [if_pos c119] at H
                have c119b0 : (t321 == t304) = true := beq_iff_eq.mpr c119
                have c119b1 : (t321 != t304) = false := bne_eq_false_iff_eq.mpr c119
                clear c119
                obtain rfl := Option.some.inj H
                go_wp2_with (first | ((with_reducible refine gate_callee (f := 72) rfl ?_); refine goesL_ (some 114) rfl rfl Try.func72 (by kernel_rfl) rfl #[.slice Ao81 t305.length co81, .int .i64 1] rfl (by (try simp only [List.map_toArray, List.map_cons, List.map_nil]); first | done | rfl | (simp only [List.length_drop, List.length_take]; rfl)) ?_; (with_reducible refine (laws_heldIntS.calls kj79 _ _ t305 1 t321 _ ?side1 ?side2 A117.out).mono ?_); (case side1 => repeat (first | exact (Kd.R_reads' HO_9.out).2.2 | (with_reducible refine Kd.C_alloc ?_ _) | (with_reducible refine Kd.C_drewN ?_ _) | (with_reducible refine Kd.C_drew ?_))); (case side2 => exact (Kd.R_reads' HO_9.out).2.1); rintro e w' ⟨rfl, ⟨nd, rfl⟩⟩; refine ⟨_, rfl, ?_⟩))
                go_ret
                exact ⟨by first | rfl | (simp [errW_none, errW_some] <;> rfl) | (simp [*, errW_none, errW_some] <;> rfl), by repeat (first | (with_reducible first | exact HB.out | apply below_alloc | apply pw_below_drewN | apply below_drew1 | refine below_set ?_ GE281.out | refine below_set ?_ GE293.out | refine below_set ?_ GE318.out) | exact HB.out)⟩
               ·rw [if_neg c119] at H
                have c119b0 : (t321 == t304) = false := beq_eq_false_iff_ne.mpr c119
                have c119b1 : (t321 != t304) = true := bne_iff_ne.mpr c119
                obtain rfl := Option.some.inj H
                go_wp2_with (first | ((with_reducible refine gate_callee (f := 72) rfl ?_); refine goesL_ (some 114) rfl rfl Try.func72 (by kernel_rfl) rfl #[.slice Ao81 t305.length co81, .int .i64 1] rfl (by (try simp only [List.map_toArray, List.map_cons, List.map_nil]); first | done | rfl | (simp only [List.length_drop, List.length_take]; rfl)) ?_; (with_reducible refine (laws_heldIntS.calls kj79 _ _ t305 1 t321 _ ?side1 ?side2 A117.out).mono ?_); (case side1 => repeat (first | exact (Kd.R_reads' HO_9.out).2.2 | (with_reducible refine Kd.C_alloc ?_ _) | (with_reducible refine Kd.C_drewN ?_ _) | (with_reducible refine Kd.C_drew ?_))); (case side2 => exact (Kd.R_reads' HO_9.out).2.1); rintro e w' ⟨rfl, ⟨nd, rfl⟩⟩; refine ⟨_, rfl, ?_⟩))
                go_ret
                exact ⟨by first | rfl | (simp [errW_none, errW_some] <;> rfl) | (simp [*, errW_none, errW_some] <;> rfl), by repeat (first | (with_reducible first | exact HB.out | apply below_alloc | apply pw_below_drewN | apply below_drew1 | refine below_set ?_ GE281.out | refine below_set ?_ GE293.out | refine below_set ?_ GE318.out) | exact HB.out)⟩
          ·rw [if_neg c77] at H
           have c77b0 : (t306 == t304) = false := beq_eq_false_iff_ne.mpr c77
           have c77b1 : (t306 != t304) = true := bne_iff_ne.mpr c77
           obtain rfl := Option.some.inj H
           obtain ⟨Ao120, co120, eo120⟩ := Kd.R_slice HO_9.out
           subst eo120
           go_wp2_with (first | ((with_reducible refine gate_callee (f := 71) rfl ?_); refine goesL_ (some 81) rfl rfl Try.func71 (by kernel_rfl) rfl #[.slice Ao120 t289.length co120, .int .i64 1] rfl (by (try simp only [List.map_toArray, List.map_cons, List.map_nil]); first | done | rfl | (simp only [List.length_drop, List.length_take]; rfl)) ?_; (with_reducible refine (laws_markIntS.calls kj44 (fun k_ => some k_ = (.slice Ao120 t289.length co120 : Value).ownBlock) (.slice Ao120 t289.length co120) t289 1 t304 t305 w _ ?side1 ?side2 A72.out).mono ?_); (case side1 => repeat (first | (with_reducible first | exact HB.out | apply below_alloc | apply pw_below_drewN | apply below_drew1 | refine below_set ?_ GE281.out | refine below_set ?_ GE293.out) | exact HB.out)); (case side2 => exact Kd.R_tight rfl HO_9.out); rintro e w121 ⟨rfl, hy0, hb, hkp⟩; refine ⟨_, rfl, ?_⟩; have n0_ := Aside0.mk (Kd.R_mono (ok' := fun k_ => some k_ ≠ (.slice Ao120 t289.length co120 : Value).ownBlock) (Kd.R_keptB (HO_5.out) hkp (fun k_ hk_ hs_ => (hk_) hs_)) (fun k_ hk_ => hk_.1)); have n1_ := Aside0.mk (Kd.R_reok rfl hy0 (fun k_ e_ => HO_9.out.1 k_ e_)); have n2_ := Aside0.mk (blk_kept (by (with_reducible repeat (first | refine blk_drewN ?_ _ | refine blk_drew ?_ | refine blk_alloc ?_ _)); exact BK281.out) hkp (fun hs_ => (fun e_ => (Kd.R_ne HO_9.out BK281.out (by decide)) e_) hs_)); have n3_ := Aside0.mk (blk_kept (by (with_reducible repeat (first | refine blk_drewN ?_ _ | refine blk_drew ?_ | refine blk_alloc ?_ _)); exact BK293.out) hkp (fun hs_ => (fun e_ => (Kd.R_ne HO_9.out BK293.out (by decide)) e_) hs_)); have n4_ := Aside0.mk (hb); clear HO_5; clear HO_9; clear BK281; clear BK293; clear HB; have HO_5 := n0_; have HO_9 := n1_; have BK281 := n2_; have BK293 := n3_; have HB := n4_; clear n0_ n1_ n2_ n3_ n4_; (try clear hb); (try clear hkp); (try clear hy0)) | ((with_reducible refine gate_callee (f := 72) rfl ?_); refine goesL_ (some 84) rfl rfl Try.func72 (by kernel_rfl) rfl #[.slice Ao120 t305.length co120, .int .i64 1] rfl (by (try simp only [List.map_toArray, List.map_cons, List.map_nil]); first | done | (rw [show t305.length = t289.length from (Kd.R_reads' HO_9.out).1.symm] <;> rfl) | rfl | (simp only [List.length_drop, List.length_take]; rfl)) ?_; (with_reducible refine (laws_heldIntS.calls kj44 _ _ t305 1 t306 _ ?side1 ?side2 A73.out).mono ?_); (case side1 => repeat (first | exact (Kd.R_reads' HO_9.out).2.2 | (with_reducible refine Kd.C_alloc ?_ _) | (with_reducible refine Kd.C_drewN ?_ _) | (with_reducible refine Kd.C_drew ?_))); (case side2 => rw [show t305.length = t289.length from (Kd.R_reads' HO_9.out).1.symm]; exact (Kd.R_reads' HO_9.out).2.1); rintro e w' ⟨rfl, ⟨nd, rfl⟩⟩; refine ⟨_, rfl, ?_⟩))
           go_ret
           exact ⟨by first | rfl | (simp [errW_none, errW_some] <;> rfl) | (simp [*, errW_none, errW_some] <;> rfl), by repeat (first | (with_reducible first | exact HB.out | apply below_alloc | apply pw_below_drewN | apply below_drew1 | refine below_set ?_ GE281.out | refine below_set ?_ GE293.out) | exact HB.out)⟩
     ·replace c43 := Bool.eq_false_iff.mpr c43
      subst c43
      have H1 : (some false) = some r := by rw [if_neg (show ¬ (false = true) by decide)] at H; exact H
      clear H
      have H := H1
      clear H1
      obtain rfl := Option.some.inj H
      go_wp2_with (first | ((with_reducible refine gate_callee (f := 65) rfl ?_); refine goesL_ (some 54) rfl rfl Try.func65 (by kernel_rfl) rfl #[.slice A0 l0.length c0] rfl (by (try simp only [List.map_toArray, List.map_cons, List.map_nil]); first | done | rfl | (simp only [List.length_drop, List.length_take]; rfl)) ?_; (with_reducible refine (laws_toGrowS.calls kj7 _ _ l0 t296 _ ?side1 ?side2 A41.out).mono ?_); (case side1 => repeat (first | exact (Kd.C_below HR0.out HB.out) | (with_reducible refine Kd.C_alloc ?_ _) | (with_reducible refine Kd.C_drewN ?_ _) | (with_reducible refine Kd.C_drew ?_))); (case side2 => exact HC0.out); rintro e w122 ⟨v297, rfl, ho0, hb⟩; refine ⟨_, rfl, ?_⟩; have n0_ := Aside0.mk (Kd.R_below (by (with_reducible repeat (first | apply Kd.R_alloc | apply Kd.R_drewN | apply Kd.R_drew)); exact HO_5.out) hb); have n1_ := Aside0.mk (Kd.R_elder' (by (with_reducible repeat (first | apply Kd.R_alloc | apply Kd.R_drewN | apply Kd.R_drew)); exact HO_7.out) (Kd.R_base ho0) hb); have n2_ := Aside0.mk (Kd.R_below (by (with_reducible repeat (first | apply Kd.R_alloc | apply Kd.R_drewN | apply Kd.R_drew)); exact HO_9.out) hb); have n3_ := Aside0.mk (Kd.R_lower (Kd.R_new' ho0 (Kd.R_lt (by (with_reducible repeat (first | apply Kd.R_alloc | apply Kd.R_drewN | apply Kd.R_drew)); exact HO_7.out))) (below_size (by repeat (first | (with_reducible first | exact HB.out | apply below_alloc | apply pw_below_drewN | apply below_drew1 | refine below_set ?_ GE281.out | refine below_set ?_ GE293.out) | exact HB.out)))); have n4_ := Aside0.mk (blk_below (g := gb281) (o := .cells #[.int .i64 t273, .int .i64 t274, .int .i64 t275, .int .i64 t276] 113 (0, 0)) (by (with_reducible repeat (first | refine blk_drewN ?_ _ | refine blk_drew ?_ | refine blk_alloc ?_ _)); exact BK281.out) hb); have n5_ := Aside0.mk (blk_below (g := gb293) (o := .cells #[.int .i64 t285, .int .i64 t286, .int .i64 t287, .int .i64 t288] 113 (0, 0)) (by (with_reducible repeat (first | refine blk_drewN ?_ _ | refine blk_drew ?_ | refine blk_alloc ?_ _)); exact BK293.out) hb); have n6_ := Aside0.mk (below_step (by repeat (first | (with_reducible first | exact HB.out | apply below_alloc | apply pw_below_drewN | apply below_drew1 | refine below_set ?_ GE281.out | refine below_set ?_ GE293.out) | exact HB.out)) hb); clear HO_5; clear HO_7; clear HO_9; clear BK281; clear BK293; clear HB; have HO_5 := n0_; have HO_7 := n1_; have HO_9 := n2_; have HO298 := n3_; have BK281 := n4_; have BK293 := n5_; have HB := n6_; clear n0_ n1_ n2_ n3_ n4_ n5_ n6_; (try clear hb); (try clear hb2); (try clear hk); (try clear hi); (try clear ho0); obtain ⟨Ao123, co123, eo123⟩ := Kd.R_slice HO298.out; subst eo123) | ((with_reducible refine gate_callee (f := 69) rfl ?_); refine goesL_ (some 55) rfl rfl Try.func69 (by kernel_rfl) rfl #[.slice Ao15 t282.length co15, .slice Ao123 t296.length co123] rfl (by (try simp only [List.map_toArray, List.map_cons, List.map_nil]); first | done | rfl | (simp only [List.length_drop, List.length_take]; rfl)) ?_; (with_reducible refine (laws_eqGrowS.calls kj7 _ _ t282 _ _ t296 false _ ?side1 ?side2 ?side3 ?side4 A42.out).mono ?_); (case side1 => repeat (first | exact (Kd.R_reads' HO_7.out).2.2 | (with_reducible refine Kd.C_alloc ?_ _) | (with_reducible refine Kd.C_drewN ?_ _) | (with_reducible refine Kd.C_drew ?_))); (case side2 => exact (Kd.R_reads' HO_7.out).2.1); (case side3 => repeat (first | exact (Kd.R_reads' HO298.out).2.2 | (with_reducible refine Kd.C_alloc ?_ _) | (with_reducible refine Kd.C_drewN ?_ _) | (with_reducible refine Kd.C_drew ?_))); (case side4 => exact (Kd.R_reads' HO298.out).2.1); rintro e w124 ⟨rfl, hb⟩; refine ⟨_, rfl, ?_⟩; have n0_ := Aside0.mk (Kd.R_below (by (with_reducible repeat (first | apply Kd.R_alloc | apply Kd.R_drewN | apply Kd.R_drew)); exact HO_5.out) hb); have n1_ := Aside0.mk (Kd.R_below (by (with_reducible repeat (first | apply Kd.R_alloc | apply Kd.R_drewN | apply Kd.R_drew)); exact HO_7.out) hb); have n2_ := Aside0.mk (Kd.R_below (by (with_reducible repeat (first | apply Kd.R_alloc | apply Kd.R_drewN | apply Kd.R_drew)); exact HO_9.out) hb); have n3_ := Aside0.mk (Kd.R_below (by (with_reducible repeat (first | apply Kd.R_alloc | apply Kd.R_drewN | apply Kd.R_drew)); exact HO298.out) hb); have n4_ := Aside0.mk (blk_below (g := gb281) (o := .cells #[.int .i64 t273, .int .i64 t274, .int .i64 t275, .int .i64 t276] 113 (0, 0)) (by (with_reducible repeat (first | refine blk_drewN ?_ _ | refine blk_drew ?_ | refine blk_alloc ?_ _)); exact BK281.out) hb); have n5_ := Aside0.mk (blk_below (g := gb293) (o := .cells #[.int .i64 t285, .int .i64 t286, .int .i64 t287, .int .i64 t288] 113 (0, 0)) (by (with_reducible repeat (first | refine blk_drewN ?_ _ | refine blk_drew ?_ | refine blk_alloc ?_ _)); exact BK293.out) hb); have n6_ := Aside0.mk (below_step (by repeat (first | (with_reducible first | exact HB.out | apply below_alloc | apply pw_below_drewN | apply below_drew1 | refine below_set ?_ GE281.out | refine below_set ?_ GE293.out) | exact HB.out)) hb); clear HO_5; clear HO_7; clear HO_9; clear HO298; clear BK281; clear BK293; clear HB; have HO_5 := n0_; have HO_7 := n1_; have HO_9 := n2_; have HO298 := n3_; have BK281 := n4_; have BK293 := n5_; have HB := n6_; clear n0_ n1_ n2_ n3_ n4_ n5_ n6_; (try clear hb); (try clear hb2); (try clear hk); (try clear hi)))
      go_ret
      exact ⟨by first | rfl | (simp [errW_none, errW_some] <;> rfl) | (simp [*, errW_none, errW_some] <;> rfl), by repeat (first | (with_reducible first | exact HB.out | apply below_alloc | apply pw_below_drewN | apply below_drew1 | refine below_set ?_ GE281.out | refine below_set ?_ GE293.out) | exact HB.out)⟩

end Go.Proofs.Ythkmjfapljmmpaa.PFnExactPlayWindow
