/- The row of the law FnExactSendNumber: for every input the call returns true, and each argument reads behind it as before. -/
import Derived.Test.YthkmjfapljmmpaaRows
import Derived.Test.YthkmjfapljmmpaaPFnExactSendNumberx11
import Derived.Test.YthkmjfapljmmpaaPureFnExactSendNumber
import Derived.Test.YthkmjfapljmmpaaOpenK
import Derived.WalkKit
import Derived.ProofKit
import Derived.OpenShut
import Derived.ShutString
import Derived.ChangeOld
import Derived.Below
import Derived.SizedLaws
import Derived.Carry
import Derived.KernelRfl
namespace Go.Proofs.Ythkmjfapljmmpaa.fnExactSendNumber
open Go.ChangeShapes Go.WideShapes Go.ChangeAt Go.RowKit Go.Proofs.Ythkmjfapljmmpaa.OpenK Go.Proofs.Ythkmjfapljmmpaa.PFnExactSendNumber Go.Proofs.Ythkmjfapljmmpaa.SFnExactSendNumber Go.Proofs.YthkmjfapljmmpaaW.PrintWords
open Go.ChangeMaps (open_string shut_string)
theorem own : ownKnob Try.prog.godebug = none := by kernel_rfl
theorem laidOut : laidOutB Try.prog = true := by kernel_rfl
theorem opn74 : Opn Try.prog 74 k74 ok74 :=
  Opn.struct (fun x : S74 => (x.f0, x.f1, x.f2)) (fun y => ⟨y.1, y.2.1, y.2.2⟩) (fun _ => rfl) Try.underlying74 rfl (by kernel_rfl) (OpnF.cons (o' := 1) rfl (by kernel_rfl) rfl (Opn.i64 Try.underlying3) (OpnF.cons (o' := 2) rfl (by kernel_rfl) rfl (Opn.i64 Try.underlying3) (OpnF.one rfl (by kernel_rfl) (Opn.i64 Try.underlying3)))) (fun _ h => h)
set_option maxRecDepth 100000 in
set_option maxHeartbeats 1000000 in
theorem lifted (os : Os) (started : os.Started) (H : Type) (enc : TypeId × Value → H) :
    ReturnsInHanded {} Try.checked os 8 .any (Rows.fnExactSendNumberSpec.pre6 enc Try.prog Try.f8 Rows.fnExactSendNumberRow.domain false) (Rows.fnExactSendNumberSpec.post enc Try.prog Try.f8 false true false false) := by
  refine returnsInHanded_of_change_sized (C := Try.checked) own started (by kernel_rfl) Try.func8
    (ChangeSpec.witness6 (enc := enc) (C := Try.checked) false ⟨#[], #[.agg #[.int .i64 0, .slice none 0 0, .bool false, .int .i64 0, .int .i64 0, .int .i64 0, .int .i64 0], .agg #[.int .i64 0, .int .i64 0, .int .i64 0]], []⟩ 8 (by kernel_rfl) (by kernel_rfl) (by kernel_rfl) (by kernel_rfl)) ?_
  intro W base args ds gs before hval0 hW hcnd hsz0 _
  have hsz : (DataW.weightsEach Try.prog (Try.f8.params.toList ++ Rows.fnExactSendNumberSpec.plain.varTypes Try.prog) (ds ++ gs)).all (· ≤ reachBytes) = true := hsz0
  have hval : ∀ (j : Nat) t v, Try.f8.params[j]? = some t → args[j]? = some v → Value.okWide Try.prog W .any base t v := hval0
  have hW' := hW
  obtain ⟨p, q, hA0, hV, rfl, hfz, hnd⟩ := hW
  have hA : DataW.TrodAll enc Try.prog W 0 (fun _ => true) true Try.f8.params.toList args.toList ds p := hA0
  rw [Try.params8] at hA hval hsz
  obtain ⟨v0, vs0, d0, ds0, p0, q0, hargs, rfl, rfl, h0, r0⟩ := trodAll_cons hA
  obtain ⟨v1, vs1, d1, ds1, p1, q1, rfl, rfl, rfl, h1, r1⟩ := trodAll_cons r0
  obtain ⟨rfl, rfl, rfl⟩ := trodAll_nil r1
  obtain rfl : args = #[v0, v1] := by cases args; simp_all
  obtain ⟨rfl, rfl⟩ := trodVars_none hV
  have kk0 := h0
  have lt0 : ∀ x ∈ p0, x.block < W.heap.size := by obtain ⟨m, hm⟩ := kk0; exact DataW.trod_lt m _ _ _ hm
  obtain ⟨fuel0, hf0⟩ := h0
  obtain ⟨cs0, rfl, hcs0⟩ := agg_of Try.underlying72 (hval 0 72 v0 rfl rfl)
  rw [hcs0] at hf0
  obtain ⟨cl0, ecl0⟩ : ∃ l, cs0.toList = l := ⟨_, rfl⟩
  rw [ecl0] at hf0
  obtain ⟨⟨a0_0, l0_1, ⟨a0_2, a0_3, a0_4, a0_5, a0_6⟩⟩, hK0, hok0⟩ := (Opn.agg Try.underlying72 rfl (by kernel_rfl) (OpnF.cons (o' := 1) rfl (by kernel_rfl) rfl (Opn.i64 Try.underlying3) (OpnF.cons (o' := 2) rfl (by kernel_rfl) rfl (Opn.slice Try.underlying68 (by kernel_rfl) 24 (by kernel_rfl) opn74) (OpnF.one rfl (by kernel_rfl) (Opn.agg Try.underlying70 rfl (by kernel_rfl) (OpnF.cons (o' := 1) rfl (by kernel_rfl) rfl (Opn.bool Try.underlying4) (OpnF.cons (o' := 2) rfl (by kernel_rfl) rfl (Opn.i64 Try.underlying3) (OpnF.cons (o' := 3) rfl (by kernel_rfl) rfl (Opn.i64 Try.underlying3) (OpnF.cons (o' := 4) rfl (by kernel_rfl) rfl (Opn.i64 Try.underlying3) (OpnF.one rfl (by kernel_rfl) (Opn.i64 Try.underlying3))))))))))) _ enc W 0 _ _ fuel0 _ _ hf0 (weights_at hsz (j := 0) rfl rfl)
  clear hcs0 hf0
  obtain ⟨_, _, rfl, rfl, ⟨_, _, rfl, ⟨A0_1, c0_1, rfl, hc0_1, hr0_1⟩, ⟨_, _, rfl, rfl, ⟨_, _, rfl, rfl, ⟨_, _, rfl, rfl, ⟨_, _, rfl, rfl, rfl⟩⟩⟩⟩⟩⟩ := hK0
  obtain rfl : cs0 = #[.int .i64 a0_0, .slice A0_1 l0_1.length c0_1, .bool a0_2, .int .i64 a0_3, .int .i64 a0_4, .int .i64 a0_5, .int .i64 a0_6] := Array.ext' ecl0
  clear ecl0
  obtain ⟨o0_0, ⟨o0_1, ⟨o0_2, ⟨o0_3, ⟨o0_4, ⟨o0_5, o0_6⟩⟩⟩⟩⟩⟩ := hok0
  have kk1 := h1
  have lt1 : ∀ x ∈ p1, x.block < W.heap.size := by obtain ⟨m, hm⟩ := kk1; exact DataW.trod_lt m _ _ _ hm
  obtain ⟨fuel1, hf1⟩ := h1
  obtain ⟨cs1, rfl, hcs1⟩ := agg_of Try.underlying74 (hval 1 74 v1 rfl rfl)
  rw [hcs1] at hf1
  obtain ⟨cl1, ecl1⟩ : ∃ l, cs1.toList = l := ⟨_, rfl⟩
  rw [ecl1] at hf1
  obtain ⟨⟨a1_0, a1_1, a1_2⟩, hK1, hok1⟩ := (Opn.agg Try.underlying74 rfl (by kernel_rfl) (OpnF.cons (o' := 1) rfl (by kernel_rfl) rfl (Opn.i64 Try.underlying3) (OpnF.cons (o' := 2) rfl (by kernel_rfl) rfl (Opn.i64 Try.underlying3) (OpnF.one rfl (by kernel_rfl) (Opn.i64 Try.underlying3))))) _ enc W 0 _ _ fuel1 _ _ hf1 (weights_at hsz (j := 1) rfl rfl)
  clear hcs1 hf1
  obtain ⟨_, _, rfl, rfl, ⟨_, _, rfl, rfl, rfl⟩⟩ := hK1
  obtain rfl : cs1 = #[.int .i64 a1_0, .int .i64 a1_1, .int .i64 a1_2] := Array.ext' ecl1
  clear ecl1
  obtain ⟨o1_0, ⟨o1_1, o1_2⟩⟩ := hok1
  clear hA0 hval0 hsz0 hsz
  obtain ⟨k, hp⟩ := Pure.FnExactSendNumber a0_0 l0_1 a0_2 a0_3 a0_4 a0_5 a0_6 a1_0 a1_1 a1_2 o0_0 o0_1 o0_3 o0_4 o0_5 o0_6 o1_0 o1_1 o1_2
  refine (laws_FnExactSendNumber.calls k a0_0 A0_1 c0_1 l0_1 a0_2 a0_3 a0_4 a0_5 a0_6 a1_0 a1_1 a1_2 true W hr0_1 hc0_1 hp).mono fun e W' ⟨he, bel⟩ => ?_
  subst he
  exact ⟨_, rfl, _, _, _, [], _, [], hW', trodAll_mk1 (shut_bool Try.underlying4 _), (trodAll_cons_mk (Below.trod laidOut (by kernel_rfl) (of_decide_eq_true (by kernel_rfl)) kk0 bel lt0) (trodAll_cons_mk (Below.trod laidOut (by kernel_rfl) (of_decide_eq_true (by kernel_rfl)) kk1 bel lt1) trodAll_mk0)), rfl, bel.frame _, fun h => by cases h⟩
theorem over : Rows.fnExactSendNumberRow.holds Try.pinned (OpenSpec.ofChange Rows.fnExactSendNumberSpec) :=
  OpenClaim.holds_of_wide 8 Try.f8 rfl rfl rfl rfl rfl rfl rfl ⟨rfl, rfl, rfl, rfl, rfl⟩ rfl rfl rfl rfl rfl (by kernel_rfl) Try.func8 (by kernel_rfl)
    (of_decide_eq_true (by kernel_rfl)) (by unfold Func.isWrapper; first | (rw [if_pos (by decide +kernel)]; kernel_rfl) | (rw [if_neg (by decide +kernel)]; exact ⟨rfl, rfl⟩))
    (fun os started H enc _ => lifted os started H enc)
theorem proved : Rows.FnExactSendNumberSaid := over
#print axioms proved
end Go.Proofs.Ythkmjfapljmmpaa.fnExactSendNumber
namespace Go.Proofs.Ythkmjfapljmmpaa
/-- The row, under a short name, for the claim. -/
theorem fnExactSendNumber_holds : Rows.FnExactSendNumberSaid := fnExactSendNumber.proved
end Go.Proofs.Ythkmjfapljmmpaa
