/- The row of the law FnExactFrameBytes: for every input the call returns true, and each argument reads behind it as before. -/
import Derived.Test.YtpdoplkiaejpiaaRows
import Derived.Test.YtpdoplkiaejpiaaPFnExactFrameBytesx9
import Derived.Test.YtpdoplkiaejpiaaPureFnExactFrameBytes
import Derived.Test.YtpdoplkiaejpiaaOpenK
import Derived.WalkKit
import Derived.ProofKit
import Derived.OpenShut
import Derived.ShutString
import Derived.ChangeOld
import Derived.Below
import Derived.SizedLaws
import Derived.Carry
import Derived.KernelRfl
namespace Go.Proofs.Ytpdoplkiaejpiaa.fnExactFrameBytes
open Go.ChangeShapes Go.WideShapes Go.ChangeAt Go.RowKit Go.Proofs.Ytpdoplkiaejpiaa.OpenK Go.Proofs.Ytpdoplkiaejpiaa.PFnExactFrameBytes Go.Proofs.Ytpdoplkiaejpiaa.SFnExactFrameBytes Go.Proofs.YtpdoplkiaejpiaaW.PrintWords
open Go.ChangeMaps (open_string shut_string)
theorem own : ownKnob Try.prog.godebug = none := by kernel_rfl
theorem laidOut : laidOutB Try.prog = true := by kernel_rfl
theorem opn99 : Opn Try.prog 99 k99 ok99 :=
  Opn.struct (fun x : S99 => (x.f0, x.f1)) (fun y => ⟨y.1, y.2⟩) (fun _ => rfl) Try.underlying99 rfl (by kernel_rfl) (OpnF.cons (o' := 1) rfl (by kernel_rfl) rfl (Opn.i64 Try.underlying3) (OpnF.one rfl (by kernel_rfl) (Opn.i64 Try.underlying3))) (fun _ h => h)
set_option maxRecDepth 100000 in
set_option maxHeartbeats 1000000 in
theorem lifted (os : Os) (started : os.Started) (H : Type) (enc : TypeId × Value → H) :
    ReturnsInHanded {} Try.checked os 3 .any (Rows.fnExactFrameBytesSpec.pre6 enc Try.prog Try.f3 Rows.fnExactFrameBytesRow.domain false) (Rows.fnExactFrameBytesSpec.post enc Try.prog Try.f3 false true false false) := by
  refine returnsInHanded_of_change_sized (C := Try.checked) own started (by kernel_rfl) Try.func3
    (ChangeSpec.witness6 (enc := enc) (C := Try.checked) false ⟨#[], #[.agg #[.int .i64 0, .int .i64 0, .int .i64 0, .int .i64 0, .bool false, .string ByteArray.empty, .slice none 0 0]], []⟩ 8 (by kernel_rfl) (by kernel_rfl) (by kernel_rfl) (by kernel_rfl)) ?_
  intro W base args ds gs before hval0 hW hcnd hsz0 _
  have hsz : (DataW.weightsEach Try.prog (Try.f3.params.toList ++ Rows.fnExactFrameBytesSpec.plain.varTypes Try.prog) (ds ++ gs)).all (· ≤ reachBytes) = true := hsz0
  have hval : ∀ (j : Nat) t v, Try.f3.params[j]? = some t → args[j]? = some v → Value.okWide Try.prog W .any base t v := hval0
  have hW' := hW
  obtain ⟨p, q, hA0, hV, rfl, hfz, hnd⟩ := hW
  have hA : DataW.TrodAll enc Try.prog W 0 (fun _ => true) true Try.f3.params.toList args.toList ds p := hA0
  rw [Try.params3] at hA hval hsz
  obtain ⟨v0, vs0, d0, ds0, p0, q0, hargs, rfl, rfl, h0, r0⟩ := trodAll_cons hA
  obtain ⟨rfl, rfl, rfl⟩ := trodAll_nil r0
  obtain rfl : args = #[v0] := by cases args; simp_all
  obtain ⟨rfl, rfl⟩ := trodVars_none hV
  have kk0 := h0
  have lt0 : ∀ x ∈ p0, x.block < W.heap.size := by obtain ⟨m, hm⟩ := kk0; exact DataW.trod_lt m _ _ _ hm
  obtain ⟨fuel0, hf0⟩ := h0
  obtain ⟨cs0, rfl, hcs0⟩ := agg_of Try.underlying24 (hval 0 24 v0 rfl rfl)
  rw [hcs0] at hf0
  obtain ⟨cl0, ecl0⟩ : ∃ l, cs0.toList = l := ⟨_, rfl⟩
  rw [ecl0] at hf0
  obtain ⟨⟨a0_0, a0_1, a0_2, a0_3, a0_4, a0_5, l0_6⟩, hK0, hok0⟩ := (Opn.agg Try.underlying24 rfl (by kernel_rfl) (OpnF.cons (o' := 1) rfl (by kernel_rfl) rfl (Opn.i64 Try.underlying3) (OpnF.cons (o' := 2) rfl (by kernel_rfl) rfl (Opn.i64 Try.underlying3) (OpnF.cons (o' := 3) rfl (by kernel_rfl) rfl (Opn.i64 Try.underlying3) (OpnF.cons (o' := 4) rfl (by kernel_rfl) rfl (Opn.i64 Try.underlying3) (OpnF.cons (o' := 5) rfl (by kernel_rfl) rfl (Opn.bool Try.underlying4) (OpnF.cons (o' := 6) rfl (by kernel_rfl) rfl (Opn.string Try.underlying9) (OpnF.one rfl (by kernel_rfl) (Opn.slice Try.underlying22 (by kernel_rfl) 16 (by kernel_rfl) opn99))))))))) _ enc W 0 _ _ fuel0 _ _ hf0 (weights_at hsz (j := 0) rfl rfl)
  clear hcs0 hf0
  obtain ⟨_, _, rfl, rfl, ⟨_, _, rfl, rfl, ⟨_, _, rfl, rfl, ⟨_, _, rfl, rfl, ⟨_, _, rfl, rfl, ⟨_, _, rfl, rfl, ⟨A0_6, c0_6, rfl, hc0_6, hr0_6⟩⟩⟩⟩⟩⟩⟩ := hK0
  obtain rfl : cs0 = #[.int .i64 a0_0, .int .i64 a0_1, .int .i64 a0_2, .int .i64 a0_3, .bool a0_4, .string a0_5, .slice A0_6 l0_6.length c0_6] := Array.ext' ecl0
  clear ecl0
  obtain ⟨o0_0, ⟨o0_1, ⟨o0_2, ⟨o0_3, ⟨o0_4, ⟨o0_5, o0_6⟩⟩⟩⟩⟩⟩ := hok0
  clear hA0 hval0 hsz0 hsz
  obtain ⟨k, hp⟩ := Pure.FnExactFrameBytes a0_0 a0_1 a0_2 a0_3 a0_4 a0_5 l0_6 o0_0 o0_1 o0_2 o0_3 o0_5 o0_6
  refine (laws_FnExactFrameBytes.calls k a0_0 a0_1 a0_2 a0_3 a0_4 a0_5 A0_6 c0_6 l0_6 true W rfl hr0_6 hc0_6 hp).mono fun e W' ⟨he, bel⟩ => ?_
  subst he
  exact ⟨_, rfl, _, _, _, [], _, [], hW', trodAll_mk1 (shut_bool Try.underlying4 _), (trodAll_cons_mk (Below.trod laidOut (by kernel_rfl) (of_decide_eq_true (by kernel_rfl)) kk0 bel lt0) trodAll_mk0), rfl, bel.frame _, fun h => by cases h⟩
theorem over : Rows.fnExactFrameBytesRow.holds Try.pinned (OpenSpec.ofChange Rows.fnExactFrameBytesSpec) :=
  OpenClaim.holds_of_wide 3 Try.f3 rfl rfl rfl rfl rfl rfl rfl ⟨rfl, rfl, rfl, rfl, rfl⟩ rfl rfl rfl rfl rfl (by kernel_rfl) Try.func3 (by kernel_rfl)
    (of_decide_eq_true (by kernel_rfl)) (by unfold Func.isWrapper; first | (rw [if_pos (by decide +kernel)]; kernel_rfl) | (rw [if_neg (by decide +kernel)]; exact ⟨rfl, rfl⟩))
    (fun os started H enc _ => lifted os started H enc)
theorem proved : Rows.FnExactFrameBytesSaid := over
#print axioms proved
end Go.Proofs.Ytpdoplkiaejpiaa.fnExactFrameBytes
namespace Go.Proofs.Ytpdoplkiaejpiaa
/-- The row, under a short name, for the claim. -/
theorem fnExactFrameBytes_holds : Rows.FnExactFrameBytesSaid := fnExactFrameBytes.proved
end Go.Proofs.Ytpdoplkiaejpiaa
