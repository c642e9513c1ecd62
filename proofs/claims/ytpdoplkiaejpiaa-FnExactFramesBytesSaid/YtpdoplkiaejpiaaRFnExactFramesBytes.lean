/- The row of the law FnExactFramesBytes: for every input the call returns true, and each argument reads behind it as before. -/
import Derived.Test.YtpdoplkiaejpiaaRows
import Derived.Test.YtpdoplkiaejpiaaPFnExactFramesBytesx9
import Derived.Test.YtpdoplkiaejpiaaPureFnExactFramesBytes
import Derived.Test.YtpdoplkiaejpiaaOpenK
import Derived.WalkKit
import Derived.ProofKit
import Derived.OpenShut
import Derived.ShutString
import Derived.ChangeOld
import Derived.Below
import Derived.SizedLaws
import Derived.Carry
import Derived.KernelRfl
namespace Go.Proofs.Ytpdoplkiaejpiaa.fnExactFramesBytes
open Go.ChangeShapes Go.WideShapes Go.ChangeAt Go.RowKit Go.Proofs.Ytpdoplkiaejpiaa.OpenK Go.Proofs.Ytpdoplkiaejpiaa.PFnExactFramesBytes Go.Proofs.Ytpdoplkiaejpiaa.SFnExactFramesBytes Go.Proofs.YtpdoplkiaejpiaaW.PrintWords
open Go.ChangeMaps (open_string shut_string)
theorem own : ownKnob Try.prog.godebug = none := by kernel_rfl
theorem laidOut : laidOutB Try.prog = true := by kernel_rfl
theorem opn99 : Opn Try.prog 99 k99 ok99 :=
  Opn.struct (fun x : S99 => (x.f0, x.f1)) (fun y => ⟨y.1, y.2⟩) (fun _ => rfl) Try.underlying99 rfl (by kernel_rfl) (OpnF.cons (o' := 1) rfl (by kernel_rfl) rfl (Opn.i64 Try.underlying3) (OpnF.one rfl (by kernel_rfl) (Opn.i64 Try.underlying3))) (fun _ h => h)
theorem opn24 : Opn Try.prog 24 k24 ok24 :=
  Opn.struct (fun x : S24 => (x.f0, x.f1, x.f2, x.f3, x.f4, x.f5, x.f6)) (fun y => ⟨y.1, y.2.1, y.2.2.1, y.2.2.2.1, y.2.2.2.2.1, y.2.2.2.2.2.1, y.2.2.2.2.2.2⟩) (fun _ => rfl) Try.underlying24 rfl (by kernel_rfl) (OpnF.cons (o' := 1) rfl (by kernel_rfl) rfl (Opn.i64 Try.underlying3) (OpnF.cons (o' := 2) rfl (by kernel_rfl) rfl (Opn.i64 Try.underlying3) (OpnF.cons (o' := 3) rfl (by kernel_rfl) rfl (Opn.i64 Try.underlying3) (OpnF.cons (o' := 4) rfl (by kernel_rfl) rfl (Opn.i64 Try.underlying3) (OpnF.cons (o' := 5) rfl (by kernel_rfl) rfl (Opn.bool Try.underlying4) (OpnF.cons (o' := 6) rfl (by kernel_rfl) rfl (Opn.string Try.underlying9) (OpnF.one rfl (by kernel_rfl) (Opn.slice Try.underlying22 (by kernel_rfl) 16 (by kernel_rfl) opn99)))))))) (fun _ h => h)
set_option maxRecDepth 100000 in
set_option maxHeartbeats 1000000 in
theorem lifted (os : Os) (started : os.Started) (H : Type) (enc : TypeId × Value → H) :
    ReturnsInHanded {} Try.checked os 5 .any (Rows.fnExactFramesBytesSpec.pre6 enc Try.prog Try.f5 Rows.fnExactFramesBytesRow.domain false) (Rows.fnExactFramesBytesSpec.post enc Try.prog Try.f5 false true false false) := by
  refine returnsInHanded_of_change_sized (C := Try.checked) own started (by kernel_rfl) Try.func5
    (ChangeSpec.witness6 (enc := enc) (C := Try.checked) false ⟨#[], #[.slice none 0 0], []⟩ 8 (by kernel_rfl) (by kernel_rfl) (by kernel_rfl) (by kernel_rfl)) ?_
  intro W base args ds gs before hval0 hW hcnd hsz0 _
  have hsz : (DataW.weightsEach Try.prog (Try.f5.params.toList ++ Rows.fnExactFramesBytesSpec.plain.varTypes Try.prog) (ds ++ gs)).all (· ≤ reachBytes) = true := hsz0
  have hval : ∀ (j : Nat) t v, Try.f5.params[j]? = some t → args[j]? = some v → Value.okWide Try.prog W .any base t v := hval0
  have hW' := hW
  obtain ⟨p, q, hA0, hV, rfl, hfz, hnd⟩ := hW
  have hA : DataW.TrodAll enc Try.prog W 0 (fun _ => true) true Try.f5.params.toList args.toList ds p := hA0
  rw [Try.params5] at hA hval hsz
  obtain ⟨v0, vs0, d0, ds0, p0, q0, hargs, rfl, rfl, h0, r0⟩ := trodAll_cons hA
  obtain ⟨rfl, rfl, rfl⟩ := trodAll_nil r0
  obtain rfl : args = #[v0] := by cases args; simp_all
  obtain ⟨rfl, rfl⟩ := trodVars_none hV
  have kk0 := h0
  have lt0 : ∀ x ∈ p0, x.block < W.heap.size := by obtain ⟨m, hm⟩ := kk0; exact DataW.trod_lt m _ _ _ hm
  obtain ⟨fuel0, hf0⟩ := h0
  obtain ⟨A0, len0, c0, rfl⟩ := WideShapes.okWide_slice Try.underlying57 (hval 0 57 v0 rfl rfl)
  obtain ⟨l0, ⟨A0', c0', e0, hc0, hr0⟩, o0⟩ := (Opn.slice Try.underlying57 (by kernel_rfl) 80 (by kernel_rfl) opn24) _ enc W 0 _ _ fuel0 _ _ hf0 (weights_at hsz (j := 0) rfl rfl)
  clear hf0
  obtain ⟨rfl, rfl, rfl⟩ : A0 = A0' ∧ len0 = l0.length ∧ c0 = c0' := by simpa [Value.cells] using e0
  clear e0
  clear hA0 hval0 hsz0 hsz
  obtain ⟨k, hp⟩ := Pure.FnExactFramesBytes l0 o0
  refine (laws_FnExactFramesBytes.calls k A0 c0 l0 true W rfl hr0 hc0 hp).mono fun e W' ⟨he, bel⟩ => ?_
  subst he
  exact ⟨_, rfl, _, _, _, [], _, [], hW', trodAll_mk1 (shut_bool Try.underlying4 _), (trodAll_cons_mk (Below.trod laidOut (by kernel_rfl) (of_decide_eq_true (by kernel_rfl)) kk0 bel lt0) trodAll_mk0), rfl, bel.frame _, fun h => by cases h⟩
theorem over : Rows.fnExactFramesBytesRow.holds Try.pinned (OpenSpec.ofChange Rows.fnExactFramesBytesSpec) :=
  OpenClaim.holds_of_wide 5 Try.f5 rfl rfl rfl rfl rfl rfl rfl ⟨rfl, rfl, rfl, rfl, rfl⟩ rfl rfl rfl rfl rfl (by kernel_rfl) Try.func5 (by kernel_rfl)
    (of_decide_eq_true (by kernel_rfl)) (by unfold Func.isWrapper; first | (rw [if_pos (by decide +kernel)]; kernel_rfl) | (rw [if_neg (by decide +kernel)]; exact ⟨rfl, rfl⟩))
    (fun os started H enc _ => lifted os started H enc)
theorem proved : Rows.FnExactFramesBytesSaid := over
#print axioms proved
end Go.Proofs.Ytpdoplkiaejpiaa.fnExactFramesBytes
namespace Go.Proofs.Ytpdoplkiaejpiaa
/-- The row, under a short name, for the claim. -/
theorem fnExactFramesBytes_holds : Rows.FnExactFramesBytesSaid := fnExactFramesBytes.proved
end Go.Proofs.Ytpdoplkiaejpiaa
