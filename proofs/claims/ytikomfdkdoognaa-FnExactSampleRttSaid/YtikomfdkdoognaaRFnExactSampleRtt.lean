/- The row of the law FnExactSampleRtt: for every input the call returns true, and each argument reads behind it as before. -/
import Derived.Test.YtikomfdkdoognaaRows
import Derived.Test.YtikomfdkdoognaaPFnExactSampleRttx3
import Derived.Test.YtikomfdkdoognaaPureFnExactSampleRtt
import Derived.Test.YtikomfdkdoognaaOpenK
import Derived.WalkKit
import Derived.ProofKit
import Derived.OpenShut
import Derived.ShutString
import Derived.ChangeOld
import Derived.Below
import Derived.SizedLaws
import Derived.Carry
import Derived.KernelRfl
namespace Go.Proofs.Ytikomfdkdoognaa.fnExactSampleRtt
open Go.ChangeShapes Go.WideShapes Go.ChangeAt Go.RowKit Go.Proofs.Ytikomfdkdoognaa.OpenK Go.Proofs.Ytikomfdkdoognaa.PFnExactSampleRtt Go.Proofs.Ytikomfdkdoognaa.SFnExactSampleRtt Go.Proofs.YtikomfdkdoognaaW.PrintWords
open Go.ChangeMaps (open_string shut_string)
theorem own : ownKnob Try.prog.godebug = none := by kernel_rfl
theorem laidOut : laidOutB Try.prog = true := by kernel_rfl
set_option maxRecDepth 100000 in
set_option maxHeartbeats 1000000 in
theorem lifted (os : Os) (started : os.Started) (H : Type) (enc : TypeId × Value → H) :
    ReturnsInHanded {} Try.checked os 8 .any (Rows.fnExactSampleRttSpec.pre6 enc Try.prog Try.f8 Rows.fnExactSampleRttRow.domain false) (Rows.fnExactSampleRttSpec.post enc Try.prog Try.f8 false true false false) := by
  refine returnsInHanded_of_change_sized (C := Try.checked) own started (by kernel_rfl) Try.func8
    (ChangeSpec.witness6 (enc := enc) (C := Try.checked) false ⟨#[], #[.agg #[.bool false, .int .i64 0, .int .i64 0, .int .i64 0, .int .i64 0], .int .i64 0, .int .i64 0], []⟩ 8 (by kernel_rfl) (by kernel_rfl) (by kernel_rfl) (by kernel_rfl)) ?_
  intro W base args ds gs before hval0 hW hcnd hsz0 _
  have hsz : (DataW.weightsEach Try.prog (Try.f8.params.toList ++ Rows.fnExactSampleRttSpec.plain.varTypes Try.prog) (ds ++ gs)).all (· ≤ reachBytes) = true := hsz0
  have hval : ∀ (j : Nat) t v, Try.f8.params[j]? = some t → args[j]? = some v → Value.okWide Try.prog W .any base t v := hval0
  have hW' := hW
  obtain ⟨p, q, hA0, hV, rfl, hfz, hnd⟩ := hW
  have hA : DataW.TrodAll enc Try.prog W 0 (fun _ => true) true Try.f8.params.toList args.toList ds p := hA0
  rw [Try.params8] at hA hval hsz
  obtain ⟨v0, vs0, d0, ds0, p0, q0, hargs, rfl, rfl, h0, r0⟩ := trodAll_cons hA
  obtain ⟨v1, vs1, d1, ds1, p1, q1, rfl, rfl, rfl, h1, r1⟩ := trodAll_cons r0
  obtain ⟨v2, vs2, d2, ds2, p2, q2, rfl, rfl, rfl, h2, r2⟩ := trodAll_cons r1
  obtain ⟨rfl, rfl, rfl⟩ := trodAll_nil r2
  obtain rfl : args = #[v0, v1, v2] := by cases args; simp_all
  obtain ⟨rfl, rfl⟩ := trodVars_none hV
  have kk0 := h0
  have lt0 : ∀ x ∈ p0, x.block < W.heap.size := by obtain ⟨m, hm⟩ := kk0; exact DataW.trod_lt m _ _ _ hm
  obtain ⟨fuel0, hf0⟩ := h0
  obtain ⟨cs0, rfl, hcs0⟩ := agg_of Try.underlying51 (hval 0 51 v0 rfl rfl)
  rw [hcs0] at hf0
  obtain ⟨cl0, ecl0⟩ : ∃ l, cs0.toList = l := ⟨_, rfl⟩
  rw [ecl0] at hf0
  obtain ⟨⟨a0_0, a0_1, a0_2, a0_3, a0_4⟩, hK0, hok0⟩ := (Opn.agg Try.underlying51 rfl (by kernel_rfl) (OpnF.cons (o' := 1) rfl (by kernel_rfl) rfl (Opn.bool Try.underlying4) (OpnF.cons (o' := 2) rfl (by kernel_rfl) rfl (Opn.i64 Try.underlying3) (OpnF.cons (o' := 3) rfl (by kernel_rfl) rfl (Opn.i64 Try.underlying3) (OpnF.cons (o' := 4) rfl (by kernel_rfl) rfl (Opn.i64 Try.underlying3) (OpnF.one rfl (by kernel_rfl) (Opn.i64 Try.underlying3))))))) _ enc W 0 _ _ fuel0 _ _ hf0 (weights_at hsz (j := 0) rfl rfl)
  clear hcs0 hf0
  obtain ⟨_, _, rfl, rfl, ⟨_, _, rfl, rfl, ⟨_, _, rfl, rfl, ⟨_, _, rfl, rfl, rfl⟩⟩⟩⟩ := hK0
  obtain rfl : cs0 = #[.bool a0_0, .int .i64 a0_1, .int .i64 a0_2, .int .i64 a0_3, .int .i64 a0_4] := Array.ext' ecl0
  clear ecl0
  obtain ⟨o0_0, ⟨o0_1, ⟨o0_2, ⟨o0_3, o0_4⟩⟩⟩⟩ := hok0
  obtain ⟨a1, rfl, rfl, rfl, w1⟩ := open_int Try.underlying3 (hval 1 3 v1 rfl rfl) h1
  have o1 := wf_i64 w1
  obtain ⟨a2, rfl, rfl, rfl, w2⟩ := open_int Try.underlying3 (hval 2 3 v2 rfl rfl) h2
  have o2 := wf_i64 w2
  clear hA0 hval0 hsz0 hsz
  obtain ⟨k, hp⟩ := Pure.FnExactSampleRtt a0_0 a0_1 a0_2 a0_3 a0_4 a1 a2 o0_1 o0_2 o0_3 o0_4 o1 o2
  refine (laws_FnExactSampleRtt.calls k a0_0 a0_1 a0_2 a0_3 a0_4 a1 a2 true W hp).mono fun e W' ⟨he, bel⟩ => ?_
  subst he
  exact ⟨_, rfl, _, _, _, [], _, [], hW', trodAll_mk1 (shut_bool Try.underlying4 _), (trodAll_cons_mk (Below.trod laidOut (by kernel_rfl) (of_decide_eq_true (by kernel_rfl)) kk0 bel lt0) (trodAll_cons_mk (shut_int Try.underlying3 w1) (trodAll_cons_mk (shut_int Try.underlying3 w2) trodAll_mk0))), rfl, bel.frame _, fun h => by cases h⟩
theorem over : Rows.fnExactSampleRttRow.holds Try.pinned (OpenSpec.ofChange Rows.fnExactSampleRttSpec) :=
  OpenClaim.holds_of_wide 8 Try.f8 rfl rfl rfl rfl rfl rfl rfl ⟨rfl, rfl, rfl, rfl, rfl⟩ rfl rfl rfl rfl rfl (by kernel_rfl) Try.func8 (by kernel_rfl)
    (of_decide_eq_true (by kernel_rfl)) (by unfold Func.isWrapper; first | (rw [if_pos (by decide +kernel)]; kernel_rfl) | (rw [if_neg (by decide +kernel)]; exact ⟨rfl, rfl⟩))
    (fun os started H enc _ => lifted os started H enc)
theorem proved : Rows.FnExactSampleRttSaid := over
#print axioms proved
end Go.Proofs.Ytikomfdkdoognaa.fnExactSampleRtt
namespace Go.Proofs.Ytikomfdkdoognaa
/-- The row, under a short name, for the claim. -/
theorem fnExactSampleRtt_holds : Rows.FnExactSampleRttSaid := fnExactSampleRtt.proved
end Go.Proofs.Ytikomfdkdoognaa
