/- The row of the law FnExactMintToken: for every input the call returns true, and each argument reads behind it as before. -/
import Derived.Test.YtkcdhphhacjkhaaRows
import Derived.Test.YtkcdhphhacjkhaaPFnExactMintTokenx2
import Derived.Test.YtkcdhphhacjkhaaPureFnExactMintToken
import Derived.Test.YtkcdhphhacjkhaaOpenK
import Derived.WalkKit
import Derived.ProofKit
import Derived.OpenShut
import Derived.ShutString
import Derived.ChangeOld
import Derived.Below
import Derived.SizedLaws
import Derived.Carry
import Derived.KernelRfl
namespace Go.Proofs.Ytkcdhphhacjkhaa.fnExactMintToken
open Go.ChangeShapes Go.WideShapes Go.ChangeAt Go.RowKit Go.Proofs.Ytkcdhphhacjkhaa.OpenK Go.Proofs.Ytkcdhphhacjkhaa.PFnExactMintToken Go.Proofs.Ytkcdhphhacjkhaa.SFnExactMintToken Go.Proofs.YtkcdhphhacjkhaaW.PrintWords
open Go.ChangeMaps (open_string shut_string)
theorem own : ownKnob Try.prog.godebug = none := by kernel_rfl
theorem laidOut : laidOutB Try.prog = true := by kernel_rfl
set_option maxRecDepth 100000 in
set_option maxHeartbeats 1000000 in
theorem lifted (os : Os) (started : os.Started) (H : Type) (enc : TypeId × Value → H) :
    ReturnsInHanded {} Try.checked os 3 .any (Rows.fnExactMintTokenSpec.pre6 enc Try.prog Try.f3 Rows.fnExactMintTokenRow.domain false) (Rows.fnExactMintTokenSpec.post enc Try.prog Try.f3 false true false false) := by
  refine returnsInHanded_of_change_sized (C := Try.checked) own started (by kernel_rfl) Try.func3
    (ChangeSpec.witness6 (enc := enc) (C := Try.checked) false ⟨#[], #[.string ByteArray.empty, .string ByteArray.empty, .string ByteArray.empty, .agg #[.string ByteArray.empty, .int .i64 0, .bool false]], []⟩ 8 (by kernel_rfl) (by kernel_rfl) (by kernel_rfl) (by kernel_rfl)) ?_
  intro W base args ds gs before hval0 hW hcnd hsz0 _
  have hsz : (DataW.weightsEach Try.prog (Try.f3.params.toList ++ Rows.fnExactMintTokenSpec.plain.varTypes Try.prog) (ds ++ gs)).all (· ≤ reachBytes) = true := hsz0
  have hval : ∀ (j : Nat) t v, Try.f3.params[j]? = some t → args[j]? = some v → Value.okWide Try.prog W .any base t v := hval0
  have hW' := hW
  obtain ⟨p, q, hA0, hV, rfl, hfz, hnd⟩ := hW
  have hA : DataW.TrodAll enc Try.prog W 0 (fun _ => true) true Try.f3.params.toList args.toList ds p := hA0
  rw [Try.params3] at hA hval hsz
  obtain ⟨v0, vs0, d0, ds0, p0, q0, hargs, rfl, rfl, h0, r0⟩ := trodAll_cons hA
  obtain ⟨v1, vs1, d1, ds1, p1, q1, rfl, rfl, rfl, h1, r1⟩ := trodAll_cons r0
  obtain ⟨v2, vs2, d2, ds2, p2, q2, rfl, rfl, rfl, h2, r2⟩ := trodAll_cons r1
  obtain ⟨v3, vs3, d3, ds3, p3, q3, rfl, rfl, rfl, h3, r3⟩ := trodAll_cons r2
  obtain ⟨rfl, rfl, rfl⟩ := trodAll_nil r3
  obtain rfl : args = #[v0, v1, v2, v3] := by cases args; simp_all
  obtain ⟨rfl, rfl⟩ := trodVars_none hV
  obtain ⟨a0, rfl, rfl, rfl, y0⟩ := open_string Try.underlying9 (hval 0 9 v0 rfl rfl) h0
  have o0 : a0.size ≤ 140737488351232 := by
    have z := sized_string hsz (j := 0) (t := 9) rfl rfl
    rw [Array.length_toList] at z
    exact z
  obtain ⟨a1, rfl, rfl, rfl, y1⟩ := open_string Try.underlying9 (hval 1 9 v1 rfl rfl) h1
  have o1 : a1.size ≤ 140737488351232 := by
    have z := sized_string hsz (j := 1) (t := 9) rfl rfl
    rw [Array.length_toList] at z
    exact z
  obtain ⟨a2, rfl, rfl, rfl, y2⟩ := open_string Try.underlying9 (hval 2 9 v2 rfl rfl) h2
  have o2 : a2.size ≤ 140737488351232 := by
    have z := sized_string hsz (j := 2) (t := 9) rfl rfl
    rw [Array.length_toList] at z
    exact z
  have kk3 := h3
  have lt3 : ∀ x ∈ p3, x.block < W.heap.size := by obtain ⟨m, hm⟩ := kk3; exact DataW.trod_lt m _ _ _ hm
  obtain ⟨fuel3, hf3⟩ := h3
  obtain ⟨cs3, rfl, hcs3⟩ := agg_of Try.underlying23 (hval 3 23 v3 rfl rfl)
  rw [hcs3] at hf3
  obtain ⟨cl3, ecl3⟩ : ∃ l, cs3.toList = l := ⟨_, rfl⟩
  rw [ecl3] at hf3
  obtain ⟨⟨a3_0, a3_1, a3_2⟩, hK3, hok3⟩ := (Opn.agg Try.underlying23 rfl (by kernel_rfl) (OpnF.cons (o' := 1) rfl (by kernel_rfl) rfl (Opn.string Try.underlying9) (OpnF.cons (o' := 2) rfl (by kernel_rfl) rfl (Opn.i64 Try.underlying3) (OpnF.one rfl (by kernel_rfl) (Opn.bool Try.underlying4))))) _ enc W 0 _ _ fuel3 _ _ hf3 (weights_at hsz (j := 3) rfl rfl)
  clear hcs3 hf3
  obtain ⟨_, _, rfl, rfl, ⟨_, _, rfl, rfl, rfl⟩⟩ := hK3
  obtain rfl : cs3 = #[.string a3_0, .int .i64 a3_1, .bool a3_2] := Array.ext' ecl3
  clear ecl3
  obtain ⟨o3_0, ⟨o3_1, o3_2⟩⟩ := hok3
  clear hA0 hval0 hsz0 hsz
  obtain ⟨k, hp⟩ := Pure.FnExactMintToken a0 a1 a2 a3_0 a3_1 a3_2 o0 o1 o2 o3_0 o3_1
  refine (laws_FnExactMintToken.calls k a0 a1 a2 a3_0 a3_1 a3_2 true W hp).mono fun e W' ⟨he, bel⟩ => ?_
  subst he
  exact ⟨_, rfl, _, _, _, [], _, [], hW', trodAll_mk1 (shut_bool Try.underlying4 _), (trodAll_cons_mk (shut_string Try.underlying9 y0) (trodAll_cons_mk (shut_string Try.underlying9 y1) (trodAll_cons_mk (shut_string Try.underlying9 y2) (trodAll_cons_mk (Below.trod laidOut (by kernel_rfl) (of_decide_eq_true (by kernel_rfl)) kk3 bel lt3) trodAll_mk0)))), rfl, bel.frame _, fun h => by cases h⟩
theorem over : Rows.fnExactMintTokenRow.holds Try.pinned (OpenSpec.ofChange Rows.fnExactMintTokenSpec) :=
  OpenClaim.holds_of_wide 3 Try.f3 rfl rfl rfl rfl rfl rfl rfl ⟨rfl, rfl, rfl, rfl, rfl⟩ rfl rfl rfl rfl rfl (by kernel_rfl) Try.func3 (by kernel_rfl)
    (of_decide_eq_true (by kernel_rfl)) (by unfold Func.isWrapper; first | (rw [if_pos (by decide +kernel)]; kernel_rfl) | (rw [if_neg (by decide +kernel)]; exact ⟨rfl, rfl⟩))
    (fun os started H enc _ => lifted os started H enc)
theorem proved : Rows.FnExactMintTokenSaid := over
#print axioms proved
end Go.Proofs.Ytkcdhphhacjkhaa.fnExactMintToken
namespace Go.Proofs.Ytkcdhphhacjkhaa
/-- The row, under a short name, for the claim. -/
theorem fnExactMintToken_holds : Rows.FnExactMintTokenSaid := fnExactMintToken.proved
end Go.Proofs.Ytkcdhphhacjkhaa
