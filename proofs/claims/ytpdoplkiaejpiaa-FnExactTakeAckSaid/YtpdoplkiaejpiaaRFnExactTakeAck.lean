/- The row of the law FnExactTakeAck: for every input the call returns true, and each argument reads behind it as before. -/
import Derived.Test.YtpdoplkiaejpiaaRows
import Derived.Test.YtpdoplkiaejpiaaPFnExactTakeAckx13
import Derived.Test.YtpdoplkiaejpiaaPureFnExactTakeAck
import Derived.Test.YtpdoplkiaejpiaaOpenK
import Derived.WalkKit
import Derived.ProofKit
import Derived.OpenShut
import Derived.ShutString
import Derived.ChangeOld
import Derived.Below
import Derived.SizedLaws
import Derived.Carry
import Derived.KernelRfl
namespace Go.Proofs.Ytpdoplkiaejpiaa.fnExactTakeAck
open Go.ChangeShapes Go.WideShapes Go.ChangeAt Go.RowKit Go.Proofs.Ytpdoplkiaejpiaa.OpenK Go.Proofs.Ytpdoplkiaejpiaa.PFnExactTakeAck Go.Proofs.Ytpdoplkiaejpiaa.SFnExactTakeAck Go.Proofs.YtpdoplkiaejpiaaW.PrintWords
open Go.ChangeMaps (open_string shut_string)
theorem own : ownKnob Try.prog.godebug = none := by kernel_rfl
theorem laidOut : laidOutB Try.prog = true := by kernel_rfl
theorem opn136 : Opn Try.prog 136 k136 ok136 :=
  Opn.struct (fun x : S136 => (x.f0, x.f1, x.f2)) (fun y => ⟨y.1, y.2.1, y.2.2⟩) (fun _ => rfl) Try.underlying136 rfl (by kernel_rfl) (OpnF.cons (o' := 1) rfl (by kernel_rfl) rfl (Opn.i64 Try.underlying3) (OpnF.cons (o' := 2) rfl (by kernel_rfl) rfl (Opn.i64 Try.underlying3) (OpnF.one rfl (by kernel_rfl) (Opn.i64 Try.underlying3)))) (fun _ h => h)
theorem opn99 : Opn Try.prog 99 k99 ok99 :=
  Opn.struct (fun x : S99 => (x.f0, x.f1)) (fun y => ⟨y.1, y.2⟩) (fun _ => rfl) Try.underlying99 rfl (by kernel_rfl) (OpnF.cons (o' := 1) rfl (by kernel_rfl) rfl (Opn.i64 Try.underlying3) (OpnF.one rfl (by kernel_rfl) (Opn.i64 Try.underlying3))) (fun _ h => h)
set_option maxRecDepth 100000 in
set_option maxHeartbeats 1000000 in
theorem lifted (os : Os) (started : os.Started) (H : Type) (enc : TypeId × Value → H) :
    ReturnsInHanded {} Try.checked os 4 .any (Rows.fnExactTakeAckSpec.pre6 enc Try.prog Try.f4 Rows.fnExactTakeAckRow.domain false) (Rows.fnExactTakeAckSpec.post enc Try.prog Try.f4 false true false false) := by
  refine returnsInHanded_of_change_sized (C := Try.checked) own started (by kernel_rfl) Try.func4
    (ChangeSpec.witness6 (enc := enc) (C := Try.checked) false ⟨#[], #[.agg #[.int .i64 0, .slice none 0 0, .bool false, .int .i64 0, .int .i64 0, .int .i64 0, .int .i64 0], .slice none 0 0, .int .i64 0, .int .i64 0], []⟩ 8 (by kernel_rfl) (by kernel_rfl) (by kernel_rfl) (by kernel_rfl)) ?_
  intro W base args ds gs before hval0 hW hcnd hsz0 _
  have hsz : (DataW.weightsEach Try.prog (Try.f4.params.toList ++ Rows.fnExactTakeAckSpec.plain.varTypes Try.prog) (ds ++ gs)).all (· ≤ reachBytes) = true := hsz0
  have hval : ∀ (j : Nat) t v, Try.f4.params[j]? = some t → args[j]? = some v → Value.okWide Try.prog W .any base t v := hval0
  have hW' := hW
  obtain ⟨p, q, hA0, hV, rfl, hfz, hnd⟩ := hW
  have hA : DataW.TrodAll enc Try.prog W 0 (fun _ => true) true Try.f4.params.toList args.toList ds p := hA0
  rw [Try.params4] at hA hval hsz
  obtain ⟨v0, vs0, d0, ds0, p0, q0, hargs, rfl, rfl, h0, r0⟩ := trodAll_cons hA
  obtain ⟨v1, vs1, d1, ds1, p1, q1, rfl, rfl, rfl, h1, r1⟩ := trodAll_cons r0
  obtain ⟨v2, vs2, d2, ds2, p2, q2, rfl, rfl, rfl, h2, r2⟩ := trodAll_cons r1
  obtain ⟨v3, vs3, d3, ds3, p3, q3, rfl, rfl, rfl, h3, r3⟩ := trodAll_cons r2
  obtain ⟨rfl, rfl, rfl⟩ := trodAll_nil r3
  obtain rfl : args = #[v0, v1, v2, v3] := by cases args; simp_all
  obtain ⟨rfl, rfl⟩ := trodVars_none hV
  have kk0 := h0
  have lt0 : ∀ x ∈ p0, x.block < W.heap.size := by obtain ⟨m, hm⟩ := kk0; exact DataW.trod_lt m _ _ _ hm
  obtain ⟨fuel0, hf0⟩ := h0
  obtain ⟨cs0, rfl, hcs0⟩ := agg_of Try.underlying38 (hval 0 38 v0 rfl rfl)
  rw [hcs0] at hf0
  obtain ⟨cl0, ecl0⟩ : ∃ l, cs0.toList = l := ⟨_, rfl⟩
  rw [ecl0] at hf0
  obtain ⟨⟨a0_0, l0_1, ⟨a0_2, a0_3, a0_4, a0_5, a0_6⟩⟩, hK0, hok0⟩ := (Opn.agg Try.underlying38 rfl (by kernel_rfl) (OpnF.cons (o' := 1) rfl (by kernel_rfl) rfl (Opn.i64 Try.underlying3) (OpnF.cons (o' := 2) rfl (by kernel_rfl) rfl (Opn.slice Try.underlying34 (by kernel_rfl) 24 (by kernel_rfl) opn136) (OpnF.one rfl (by kernel_rfl) (Opn.agg Try.underlying36 rfl (by kernel_rfl) (OpnF.cons (o' := 1) rfl (by kernel_rfl) rfl (Opn.bool Try.underlying4) (OpnF.cons (o' := 2) rfl (by kernel_rfl) rfl (Opn.i64 Try.underlying3) (OpnF.cons (o' := 3) rfl (by kernel_rfl) rfl (Opn.i64 Try.underlying3) (OpnF.cons (o' := 4) rfl (by kernel_rfl) rfl (Opn.i64 Try.underlying3) (OpnF.one rfl (by kernel_rfl) (Opn.i64 Try.underlying3))))))))))) _ enc W 0 _ _ fuel0 _ _ hf0 (weights_at hsz (j := 0) rfl rfl)
  clear hcs0 hf0
  obtain ⟨_, _, rfl, rfl, ⟨_, _, rfl, ⟨A0_1, c0_1, rfl, hc0_1, hr0_1⟩, ⟨_, _, rfl, rfl, ⟨_, _, rfl, rfl, ⟨_, _, rfl, rfl, ⟨_, _, rfl, rfl, rfl⟩⟩⟩⟩⟩⟩ := hK0
  obtain rfl : cs0 = #[.int .i64 a0_0, .slice A0_1 l0_1.length c0_1, .bool a0_2, .int .i64 a0_3, .int .i64 a0_4, .int .i64 a0_5, .int .i64 a0_6] := Array.ext' ecl0
  clear ecl0
  obtain ⟨o0_0, ⟨o0_1, ⟨o0_2, ⟨o0_3, ⟨o0_4, ⟨o0_5, o0_6⟩⟩⟩⟩⟩⟩ := hok0
  have kk1 := h1
  have lt1 : ∀ x ∈ p1, x.block < W.heap.size := by obtain ⟨m, hm⟩ := kk1; exact DataW.trod_lt m _ _ _ hm
  obtain ⟨fuel1, hf1⟩ := h1
  obtain ⟨A1, len1, c1, rfl⟩ := WideShapes.okWide_slice Try.underlying22 (hval 1 22 v1 rfl rfl)
  obtain ⟨l1, ⟨A1', c1', e1, hc1, hr1⟩, o1⟩ := (Opn.slice Try.underlying22 (by kernel_rfl) 16 (by kernel_rfl) opn99) _ enc W 0 _ _ fuel1 _ _ hf1 (weights_at hsz (j := 1) rfl rfl)
  clear hf1
  obtain ⟨rfl, rfl, rfl⟩ : A1 = A1' ∧ len1 = l1.length ∧ c1 = c1' := by simpa [Value.cells] using e1
  clear e1
  obtain ⟨a2, rfl, rfl, rfl, w2⟩ := open_int Try.underlying3 (hval 2 3 v2 rfl rfl) h2
  have o2 := wf_i64 w2
  obtain ⟨a3, rfl, rfl, rfl, w3⟩ := open_int Try.underlying3 (hval 3 3 v3 rfl rfl) h3
  have o3 := wf_i64 w3
  clear hA0 hval0 hsz0 hsz
  obtain ⟨k, hp⟩ := Pure.FnExactTakeAck a0_0 l0_1 a0_2 a0_3 a0_4 a0_5 a0_6 l1 a2 a3 o0_0 o0_1 o0_3 o0_4 o0_5 o0_6 o1 o2 o3
  refine (laws_FnExactTakeAck.calls k a0_0 A0_1 c0_1 l0_1 a0_2 a0_3 a0_4 a0_5 a0_6 A1 c1 l1 a2 a3 true W hr0_1 hc0_1 hr1 hc1 hp).mono fun e W' ⟨he, bel⟩ => ?_
  subst he
  exact ⟨_, rfl, _, _, _, [], _, [], hW', trodAll_mk1 (shut_bool Try.underlying4 _), (trodAll_cons_mk (Below.trod laidOut (by kernel_rfl) (of_decide_eq_true (by kernel_rfl)) kk0 bel lt0) (trodAll_cons_mk (Below.trod laidOut (by kernel_rfl) (of_decide_eq_true (by kernel_rfl)) kk1 bel lt1) (trodAll_cons_mk (shut_int Try.underlying3 w2) (trodAll_cons_mk (shut_int Try.underlying3 w3) trodAll_mk0)))), rfl, bel.frame _, fun h => by cases h⟩
theorem over : Rows.fnExactTakeAckRow.holds Try.pinned (OpenSpec.ofChange Rows.fnExactTakeAckSpec) :=
  OpenClaim.holds_of_wide 4 Try.f4 rfl rfl rfl rfl rfl rfl rfl ⟨rfl, rfl, rfl, rfl, rfl⟩ rfl rfl rfl rfl rfl (by kernel_rfl) Try.func4 (by kernel_rfl)
    (of_decide_eq_true (by kernel_rfl)) (by unfold Func.isWrapper; first | (rw [if_pos (by decide +kernel)]; kernel_rfl) | (rw [if_neg (by decide +kernel)]; exact ⟨rfl, rfl⟩))
    (fun os started H enc _ => lifted os started H enc)
theorem proved : Rows.FnExactTakeAckSaid := over
#print axioms proved
end Go.Proofs.Ytpdoplkiaejpiaa.fnExactTakeAck
namespace Go.Proofs.Ytpdoplkiaejpiaa
/-- The row, under a short name, for the claim. -/
theorem fnExactTakeAck_holds : Rows.FnExactTakeAckSaid := fnExactTakeAck.proved
end Go.Proofs.Ytpdoplkiaejpiaa
