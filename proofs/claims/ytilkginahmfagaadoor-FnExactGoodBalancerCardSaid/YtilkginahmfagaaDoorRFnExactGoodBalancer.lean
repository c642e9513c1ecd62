/- The row of the law FnExactGoodBalancer: for every input the call returns true, and each argument reads behind it as before. -/
import Derived.Lay
import Derived.Test.YtilkginahmfagaaDoorTie
import Derived.Test.YtilkginahmfagaaDoorCards
import Derived.Test.YtilkginahmfagaaDoorRows
import Derived.Test.YtilkginahmfagaaDoorPFnExactGoodBalancerx8
import Derived.Test.YtilkginahmfagaaDoorPureFnExactGoodBalancer
import Derived.Test.YtilkginahmfagaaDoorOpenK
import Derived.WalkKit
import Derived.ProofKit
import Derived.OpenShut
import Derived.ShutString
import Derived.ChangeOld
import Derived.Below
import Derived.SizedLaws
import Derived.Carry
import Derived.KernelRfl
import Derived.SevenTiedAt
import Derived.LaidMore
import Derived.Stop.Joined
import Derived.Stop.LaidErr
import Derived.Lib.LaidTab
namespace Go.Proofs.YtilkginahmfagaaDoor.fnExactGoodBalancer
open Go.ChangeShapes Go.WideShapes Go.ChangeAt Go.RowKit Go.Proofs.YtilkginahmfagaaDoor.OpenK Go.Proofs.YtilkginahmfagaaDoor.PFnExactGoodBalancer Go.Proofs.YtilkginahmfagaaDoor.SFnExactGoodBalancer Go.Proofs.YtilkginahmfagaaDoorW.PrintWords
open Go.ChangeMaps (open_string shut_string)
theorem own : ownKnob Tryd.prog.godebug = none := by kernel_rfl
theorem laidOut : laidOutB Tryd.prog = true := by kernel_rfl
theorem opn159 : Opn Tryd.prog 159 k159 ok159 :=
  Opn.struct (fun x : S159 => (x.f0, x.f1)) (fun y => ⟨y.1, y.2⟩) (fun _ => rfl) Tryd.underlying159 rfl (by kernel_rfl) (OpnF.cons (o' := 1) rfl (by kernel_rfl) rfl (Opn.string Tryd.underlying9) (OpnF.one rfl (by kernel_rfl) (Opn.string Tryd.underlying9))) (fun _ h => h)
theorem opn117 : Opn Tryd.prog 117 k117 ok117 :=
  Opn.struct (fun x : S117 => (x.f0, x.f1, x.f2, x.f3, x.f4)) (fun y => ⟨y.1, y.2.1, y.2.2.1, y.2.2.2.1, y.2.2.2.2⟩) (fun _ => rfl) Tryd.underlying117 rfl (by kernel_rfl) (OpnF.cons (o' := 1) rfl (by kernel_rfl) rfl (Opn.i64 Tryd.underlying3) (OpnF.cons (o' := 2) rfl (by kernel_rfl) rfl (Opn.i64 Tryd.underlying3) (OpnF.cons (o' := 3) rfl (by kernel_rfl) rfl (Opn.i64 Tryd.underlying3) (OpnF.cons (o' := 4) rfl (by kernel_rfl) rfl (Opn.string Tryd.underlying9) (OpnF.one rfl (by kernel_rfl) (Opn.bool Tryd.underlying4)))))) (fun _ h => h)
theorem opn120 : Opn Tryd.prog 120 k120 ok120 :=
  Opn.struct (fun x : S120 => (x.f0, x.f1, x.f2)) (fun y => ⟨y.1, y.2.1, y.2.2⟩) (fun _ => rfl) Tryd.underlying120 rfl (by kernel_rfl) (OpnF.cons (o' := 5) rfl (by kernel_rfl) rfl opn117 (OpnF.cons (o' := 6) rfl (by kernel_rfl) rfl (Opn.slice Tryd.underlying118 (by kernel_rfl) 32 (by kernel_rfl) opn159) (OpnF.one rfl (by kernel_rfl) (Opn.i64 Tryd.underlying3)))) (fun _ h => h)
set_option maxRecDepth 100000 in
/-- The heap that the door's own run leaves lays what the row lists. -/
theorem door_met (os : Os) (args : Array Value) : laidMetH Tryd.prog Rows.fnExactGoodBalancerRow.laid ((World.laidAll Tryd.prog os Rows.fnExactGoodBalancerRow.laid).forCall (fun _ _ => 0) ⟨#[], args, []⟩).memory := by
  rw [MakeChecks.laidMetH_plain _ _ _ (by kernel_rfl)]
  exact laidMet_laidAll _ (by kernel_rfl) (by kernel_rfl)
set_option maxRecDepth 100000 in
set_option maxHeartbeats 1000000 in
theorem lifted (os : Os) (started : os.Started) (H : Type) (enc : TypeId × Value → H) :
    ReturnsInHanded {} Tryd.checked os 3 .any (fun w args => (Rows.fnExactGoodBalancerSpec.pre enc Tryd.prog Tryd.f3 Rows.fnExactGoodBalancerRow.domain false w args ∧ laidMetH Tryd.prog Rows.fnExactGoodBalancerRow.laid w) ∧ sizedMet enc Tryd.prog Tryd.f3 (OpenSpec.ofChange Rows.fnExactGoodBalancerSpec) false w args) (Rows.fnExactGoodBalancerSpec.post enc Tryd.prog Tryd.f3 false true false false) := by
  refine returnsInHanded_of_change_and (C := Tryd.checked) (X := fun w _ => laidMetH Tryd.prog Rows.fnExactGoodBalancerRow.laid w) (fun _ _ _ hh h => h.of_heap hh) own started (by kernel_rfl) Tryd.func3
    (ChangeSpec.witness_shaped (enc := enc) (C := Tryd.checked) (os := os) (X := fun w _ => laidMetH Tryd.prog Rows.fnExactGoodBalancerRow.laid w) false (World.laidAll Tryd.prog os Rows.fnExactGoodBalancerRow.laid) #[.agg #[.slice none 0 0, .slice none 0 0, .int .i64 0, .bool false, .slice none 0 0, .int .i64 0, .int .i64 0]] 8 (World.laidAll_os _ _ _) (World.shaped_of_ZipB (by kernel_rfl) (by kernel_rfl)) (by kernel_rfl) (by kernel_rfl) (by kernel_rfl) (door_met os _)) ?_
  intro W base args ds gs before hval0 hW hcnd hsz0 hL _
  have hsz : (DataW.weightsEach Tryd.prog (Tryd.f3.params.toList ++ Rows.fnExactGoodBalancerSpec.plain.varTypes Tryd.prog) (ds ++ gs)).all (· ≤ reachBytes) = true := hsz0
  have hval : ∀ (j : Nat) t v, Tryd.f3.params[j]? = some t → args[j]? = some v → Value.okWide Tryd.prog W .any base t v := hval0
  have hW' := hW
  obtain ⟨p, q, hA0, hV, rfl, hfz, hnd⟩ := hW
  have hA : DataW.TrodAll enc Tryd.prog W 0 (fun _ => true) true Tryd.f3.params.toList args.toList ds p := hA0
  rw [Tryd.params3] at hA hval hsz
  obtain ⟨v0, vs0, d0, ds0, p0, q0, hargs, rfl, rfl, h0, r0⟩ := trodAll_cons hA
  obtain ⟨rfl, rfl, rfl⟩ := trodAll_nil r0
  obtain rfl : args = #[v0] := by cases args; simp_all
  obtain ⟨rfl, rfl⟩ := trodVars_none hV
  have kk0 := h0
  have lt0 : ∀ x ∈ p0, x.block < W.heap.size := by obtain ⟨m, hm⟩ := kk0; exact DataW.trod_lt m _ _ _ hm
  obtain ⟨fuel0, hf0⟩ := h0
  obtain ⟨cs0, rfl, hcs0⟩ := agg_of Tryd.underlying27 (hval 0 27 v0 rfl rfl)
  rw [hcs0] at hf0
  obtain ⟨cl0, ecl0⟩ : ∃ l, cs0.toList = l := ⟨_, rfl⟩
  rw [ecl0] at hf0
  obtain ⟨⟨l0_0, l0_1, a0_2, a0_3, l0_4, a0_5, a0_6⟩, hK0, hok0⟩ := (Opn.agg Tryd.underlying27 rfl (by kernel_rfl) (OpnF.cons (o' := 1) rfl (by kernel_rfl) rfl (Opn.agg Tryd.underlying24 rfl (by kernel_rfl) (OpnF.one rfl (by kernel_rfl) (Opn.slice Tryd.underlying22 (by kernel_rfl) 80 (by kernel_rfl) opn120))) (OpnF.cons (o' := 2) rfl (by kernel_rfl) rfl (Opn.slice Tryd.underlying25 (by kernel_rfl) 16 (by kernel_rfl) (Opn.string Tryd.underlying9)) (OpnF.cons (o' := 3) rfl (by kernel_rfl) rfl (Opn.i64 Tryd.underlying3) (OpnF.cons (o' := 4) rfl (by kernel_rfl) rfl (Opn.bool Tryd.underlying4) (OpnF.cons (o' := 5) rfl (by kernel_rfl) rfl (Opn.slice Tryd.underlying25 (by kernel_rfl) 16 (by kernel_rfl) (Opn.string Tryd.underlying9)) (OpnF.cons (o' := 6) rfl (by kernel_rfl) rfl (Opn.i64 Tryd.underlying3) (OpnF.one rfl (by kernel_rfl) (Opn.i64 Tryd.underlying3))))))))) _ enc W 0 _ _ fuel0 _ _ hf0 (weights_at hsz (j := 0) rfl rfl)
  clear hcs0 hf0
  obtain ⟨_, _, rfl, ⟨A0_0, c0_0, rfl, hc0_0, hr0_0⟩, ⟨_, _, rfl, ⟨A0_1, c0_1, rfl, hc0_1, hr0_1⟩, ⟨_, _, rfl, rfl, ⟨_, _, rfl, rfl, ⟨_, _, rfl, ⟨A0_4, c0_4, rfl, hc0_4, hr0_4⟩, ⟨_, _, rfl, rfl, rfl⟩⟩⟩⟩⟩⟩ := hK0
  obtain rfl : cs0 = #[.slice A0_0 l0_0.length c0_0, .slice A0_1 l0_1.length c0_1, .int .i64 a0_2, .bool a0_3, .slice A0_4 l0_4.length c0_4, .int .i64 a0_5, .int .i64 a0_6] := Array.ext' ecl0
  clear ecl0
  obtain ⟨o0_0, ⟨o0_1, ⟨o0_2, ⟨o0_3, ⟨o0_4, ⟨o0_5, o0_6⟩⟩⟩⟩⟩⟩ := hok0
  clear hA0 hval0 hsz0 hsz
  obtain ⟨k, hp⟩ := Pure.FnExactGoodBalancer l0_0 l0_1 a0_2 a0_3 l0_4 a0_5 a0_6 o0_0 o0_1 o0_2 o0_4 o0_5 o0_6
  refine (laws_FnExactGoodBalancer.calls k A0_0 c0_0 l0_0 A0_1 c0_1 l0_1 a0_2 a0_3 A0_4 c0_4 l0_4 a0_5 a0_6 true W hr0_0 hc0_0 hr0_1 hc0_1 hr0_4 hc0_4 hp).mono fun e W' ⟨he, bel⟩ => ?_
  subst he
  exact ⟨_, rfl, _, _, _, [], _, [], hW', trodAll_mk1 (shut_bool Tryd.underlying4 _), (trodAll_cons_mk (Below.trod laidOut (by kernel_rfl) (of_decide_eq_true (by kernel_rfl)) kk0 bel lt0) trodAll_mk0), rfl, bel.frame _, fun h => by cases h⟩
theorem over : Rows.fnExactGoodBalancerRow.holds Tryd.pinned (OpenSpec.ofChange Rows.fnExactGoodBalancerSpec) :=
  OpenClaim.holds_of_wide 3 Tryd.f3 rfl rfl rfl rfl rfl rfl rfl ⟨rfl, rfl, rfl, rfl, rfl⟩ rfl rfl rfl rfl rfl (by kernel_rfl) Tryd.func3 (by kernel_rfl)
    (of_decide_eq_true (by kernel_rfl)) (by unfold Func.isWrapper; first | (rw [if_pos (by decide +kernel)]; kernel_rfl) | (rw [if_neg (by decide +kernel)]; exact ⟨rfl, rfl⟩))
    (fun os started H enc _ => lifted os started H enc)
theorem proved : Rows.FnExactGoodBalancerCardSaid :=
  Claim7.holds_tied_plain_at .later [] [.data, .pinned] true (true, "c9ba94135ccd439a29e558186fa4d8a0a7e330cb964a2a6097a9ad508aba3a6a") true
    over (fun _ h => by cases h) (by kernel_rfl) (fun _ h => by cases h) fnExactGoodBalancer_row_tie rfl ⟨rfl, rfl⟩ (by kernel_rfl) rfl
    (fun f fn hf hfn => by
      obtain rfl : f = 3 := Option.some.inj ((show Tryd.prog.funcNamed "loop.example/g00206/laws.FnExactGoodBalancer" = some 3 by kernel_rfl).symm.trans hf) |>.symm
      obtain rfl : fn = Tryd.f3 := (Option.some.inj (Tryd.func3.symm.trans hfn)).symm
      exact ⟨by kernel_rfl, fun j t ht => by
        rw [Tryd.params3] at ht
        have hm : t ∈ [27] := by simpa using Array.mem_of_getElem? ht
        have hall : ([27].all fun u => !Tryd.prog.wantsStandIn u) = true := by kernel_rfl
        exact (show Tryd.prog.wantsStandIn t = false by simpa using List.all_eq_true.1 hall t hm)⟩)
    (by kernel_rfl)
#print axioms proved
end Go.Proofs.YtilkginahmfagaaDoor.fnExactGoodBalancer
namespace Go.Proofs.YtilkginahmfagaaDoor
/-- The row, under a short name, for the claim. -/
theorem fnExactGoodBalancerCard_holds : Rows.FnExactGoodBalancerCardSaid := fnExactGoodBalancer.proved
end Go.Proofs.YtilkginahmfagaaDoor
