/- The row of the law FnExactParseTarget: for every input the call returns true, and each argument reads behind it as before. -/
import Derived.Test.YtilkginahmfagaaDoorBothK
import Derived.Test.YtilkginahmfagaaDoorTie
import Derived.Test.YtilkginahmfagaaDoorCards
import Derived.Test.YtilkginahmfagaaDoorRows
import Derived.Test.YtilkginahmfagaaDoorParseK
import Derived.Test.YtilkginahmfagaaDoorPureFnExactParseTarget
import Derived.Test.YtilkginahmfagaaDoorOpenK
import Derived.WalkKit
import Derived.ProofKit
import Derived.OpenShut
import Derived.ShutString
import Derived.ChangeOld
import Derived.Below
import Derived.SizedLaws
import Derived.Carry
import Derived.KernelRfl
import Derived.SevenTiedAt
import Derived.LaidMore
import Derived.Stop.Joined
import Derived.Stop.LaidErr
import Derived.Lib.LaidTab
namespace Go.Proofs.YtilkginahmfagaaDoor.fnExactParseTarget
open Go.ChangeShapes Go.WideShapes Go.ChangeAt Go.RowKit Go.Proofs.YtilkginahmfagaaDoor.OpenK Go.Proofs.YtilkginahmfagaaDoor.PFnExactParseTarget Go.Proofs.YtilkginahmfagaaDoor.SFnExactParseTarget Go.Proofs.YtilkginahmfagaaDoorW.PrintWords
open Go.ChangeMaps (open_string shut_string)
open Go.Proofs.YtilkginahmfagaaDoor.BothK
theorem own : ownKnob Tryd.prog.godebug = none := by kernel_rfl
theorem laidOut : laidOutB Tryd.prog = true := by kernel_rfl
set_option maxRecDepth 100000 in
/-- The heap that the door's own run leaves lays what the row lists. -/
theorem door_met (os : Os) (args : Array Value) : laidMetH Tryd.prog Rows.fnExactParseTargetRow.laid ((World.doorLaid Tryd.prog 72 os).forCall (fun _ _ => 0) ⟨#[], args, []⟩).memory :=
  laidMetH_of_parts3 (fuel := 8) (laidMet_of_run' 8 (by kernel_rfl) (by kernel_rfl)) (by kernel_rfl) (by kernel_rfl)
set_option maxRecDepth 100000 in
theorem star : ("*" ++ "errors.errorString" : String) = "*errors.errorString" := by decide
theorem hrow (u : TypeId) (h : Tryd.prog.typeName? 3 u = some "*errors.errorString") : u = 174 :=
  typeName_ptr_named (nm := "errors.errorString") (by rw [star]; kernel_rfl) (by kernel_rfl) (by decide) u (by rw [star]; exact h)
theorem of_laid {W : World} (h : laidMetH Tryd.prog Rows.fnExactParseTargetRow.laid W) (hsh : W.ShapedOpen Tryd.prog) : Env W := by
  rw [MakeChecks.laidMetH_plain _ _ _ (by kernel_rfl)] at h
  have h2 : laidMet Tryd.prog [("internal/strconv.uint64pow10", Rows.laid_internal_strconv_uint64pow10), ("strconv.ErrRange", Rows.laid_strconv_ErrRange), ("strconv.ErrSyntax", Rows.laid_strconv_ErrSyntax)] W := h.tail.tail
  have h3 := h2.tail
  have h4 := h3.tail
  have e : (Rows.laid_internal_strconv_uint64pow10 : DataW Unit) = Lib.tabData .u64 Lib.pow10Tab := by kernel_rfl
  rw [e] at h2
  obtain ⟨a1, s1, hv1, _, _, _⟩ := laid_sentinel (g := 2) h3 (by kernel_rfl) (ti := 76) (by kernel_rfl) Tryd.underlying76 hrow Tryd.underlying174 Tryd.underlying176 rfl rfl Tryd.underlying9 (by kernel_rfl) (by kernel_rfl)
  obtain ⟨a2, s2, hv2, _, _, _⟩ := laid_sentinel (g := 1) h4 (by kernel_rfl) (ti := 76) (by kernel_rfl) Tryd.underlying76 hrow Tryd.underlying174 Tryd.underlying176 rfl rfl Tryd.underlying9 (by kernel_rfl) (by kernel_rfl)
  exact {
    tab := Lib.tabIs_of_head (g := 3) (t := 187) (e := 149) (n := 20) (by kernel_rfl) (by kernel_rfl) (by kernel_rfl) (by kernel_rfl) (by kernel_rfl) (by kernel_rfl) h2
    ml := cell_of_shapedOpen_int (zero := #[.int .i64 0]) (t := 3) hsh (of_decide_eq_true (by kernel_rfl)) (by kernel_rfl) rfl (by kernel_rfl) (by kernel_rfl) Tryd.underlying3
    es := ⟨_, by simpa using World.var?_cell (show Tryd.prog.globalNamed "strconv.ErrSyntax" = some 1 by kernel_rfl) hv2 0, Or.inr ⟨_, _, rfl⟩⟩
    er := ⟨_, by simpa using World.var?_cell (show Tryd.prog.globalNamed "strconv.ErrRange" = some 2 by kernel_rfl) hv1 0, Or.inr ⟨_, _, rfl⟩⟩ }
set_option maxRecDepth 100000 in
set_option maxHeartbeats 1000000 in
theorem lifted (os : Os) (started : os.Started) (H : Type) (enc : TypeId × Value → H) :
    ReturnsInHanded {} Tryd.checked os 5 .any (fun w args => (Rows.fnExactParseTargetSpec.pre enc Tryd.prog Tryd.f5 Rows.fnExactParseTargetRow.domain false w args ∧ laidMetH Tryd.prog Rows.fnExactParseTargetRow.laid w) ∧ sizedMet enc Tryd.prog Tryd.f5 (OpenSpec.ofChange Rows.fnExactParseTargetSpec) false w args) (Rows.fnExactParseTargetSpec.post enc Tryd.prog Tryd.f5 false true false false) := by
  refine returnsInHanded_of_change_both (C := Tryd.checked) (X := fun w _ => laidMetH Tryd.prog Rows.fnExactParseTargetRow.laid w) (fun _ _ _ hh h => h.of_heap hh) own started (by kernel_rfl) Tryd.func5
    (ChangeSpec.witness_shaped (enc := enc) (C := Tryd.checked) (os := os) (X := fun w _ => laidMetH Tryd.prog Rows.fnExactParseTargetRow.laid w) false (World.doorLaid Tryd.prog 72 os) #[.string ByteArray.empty] 8 rfl (World.shaped_of_RefB (by kernel_rfl) (by kernel_rfl)) (by kernel_rfl) (by kernel_rfl) (by kernel_rfl) (door_met os _)) ?_
  intro W base args ds gs before hval0 hW hcnd hsz0 hL hsh _
  have hsz : (DataW.weightsEach Tryd.prog (Tryd.f5.params.toList ++ Rows.fnExactParseTargetSpec.plain.varTypes Tryd.prog) (ds ++ gs)).all (· ≤ reachBytes) = true := hsz0
  have hval : ∀ (j : Nat) t v, Tryd.f5.params[j]? = some t → args[j]? = some v → Value.okWide Tryd.prog W .any base t v := hval0
  have hW' := hW
  obtain ⟨p, q, hA0, hV, rfl, hfz, hnd⟩ := hW
  have hA : DataW.TrodAll enc Tryd.prog W 0 (fun _ => true) true Tryd.f5.params.toList args.toList ds p := hA0
  rw [Tryd.params5] at hA hval hsz
  obtain ⟨v0, vs0, d0, ds0, p0, q0, hargs, rfl, rfl, h0, r0⟩ := trodAll_cons hA
  obtain ⟨rfl, rfl, rfl⟩ := trodAll_nil r0
  obtain rfl : args = #[v0] := by cases args; simp_all
  obtain ⟨rfl, rfl⟩ := trodVars_none hV
  obtain ⟨a0, rfl, rfl, rfl, y0⟩ := open_string Tryd.underlying9 (hval 0 9 v0 rfl rfl) h0
  have o0 : a0.size ≤ 140737488351232 := by
    have z := sized_string hsz (j := 0) (t := 9) rfl rfl
    rw [Array.length_toList] at z
    exact z
  clear hA0 hval0 hsz0 hsz
  obtain ⟨k, hp⟩ := Pure.FnExactParseTarget a0 o0
  refine (laws_FnExactParseTarget.calls k a0 W (of_laid hL hsh) hp).mono fun e W' ⟨he, bel⟩ => ?_
  subst he
  exact ⟨_, rfl, _, _, _, [], _, [], hW', trodAll_mk1 (shut_bool Tryd.underlying4 _), (trodAll_cons_mk (shut_string Tryd.underlying9 y0) trodAll_mk0), rfl, bel.frame _, fun h => by cases h⟩
theorem over : Rows.fnExactParseTargetRow.holds Tryd.pinned (OpenSpec.ofChange Rows.fnExactParseTargetSpec) :=
  OpenClaim.holds_of_wide 5 Tryd.f5 rfl rfl rfl rfl rfl rfl rfl ⟨rfl, rfl, rfl, rfl, rfl⟩ rfl rfl rfl rfl rfl (by kernel_rfl) Tryd.func5 (by kernel_rfl)
    (of_decide_eq_true (by kernel_rfl)) (by unfold Func.isWrapper; first | (rw [if_pos (by decide +kernel)]; kernel_rfl) | (rw [if_neg (by decide +kernel)]; exact ⟨rfl, rfl⟩))
    (fun os started H enc _ => lifted os started H enc)
theorem proved : Rows.FnExactParseTargetCardSaid :=
  Claim7.holds_tied_plain_at .later [] [.data, .data, .data, .sentinel, .sentinel] true (true, "c9ba94135ccd439a29e558186fa4d8a0a7e330cb964a2a6097a9ad508aba3a6a") true
    over (fun _ h => by cases h) (by kernel_rfl) (fun _ h => by cases h) fnExactParseTarget_row_tie rfl ⟨rfl, rfl⟩ (by kernel_rfl) rfl
    (fun f fn hf hfn => by
      obtain rfl : f = 5 := Option.some.inj ((show Tryd.prog.funcNamed "loop.example/g00206/laws.FnExactParseTarget" = some 5 by kernel_rfl).symm.trans hf) |>.symm
      obtain rfl : fn = Tryd.f5 := (Option.some.inj (Tryd.func5.symm.trans hfn)).symm
      exact ⟨by kernel_rfl, fun j t ht => by
        rw [Tryd.params5] at ht
        have hm : t ∈ [9] := by simpa using Array.mem_of_getElem? ht
        have hall : ([9].all fun u => !Tryd.prog.wantsStandIn u) = true := by kernel_rfl
        exact (show Tryd.prog.wantsStandIn t = false by simpa using List.all_eq_true.1 hall t hm)⟩)
    (by kernel_rfl)
#print axioms proved
end Go.Proofs.YtilkginahmfagaaDoor.fnExactParseTarget
namespace Go.Proofs.YtilkginahmfagaaDoor
/-- The row, under a short name, for the claim. -/
theorem fnExactParseTargetCard_holds : Rows.FnExactParseTargetCardSaid := fnExactParseTarget.proved
end Go.Proofs.YtilkginahmfagaaDoor
