-- Written by a program of this session (wip/xprint.py).
import Derived.Test.YthkmjfapljmmpaaPFnExactSendNumberx0
namespace Go.Proofs.Ythkmjfapljmmpaa.PFnExactSendNumber
open Go.RowKit Go.Proofs.YthkmjfapljmmpaaW.PrintWords Go.Proofs.YthkmjfapljmmpaaW.PrintLast Go.Proofs.YthkmjfapljmmpaaW.PrintMore
attribute [local go_sem] Go.Proofs.Ythkmjfapljmmpaa.StoreK.isSome_setCell max2_int min2_int max_two min_two max_three min_three max_four min_four   -- for this text's walks alone
set_option linter.unusedVariables false
set_option linter.unusedSimpArgs false

/-! ### impl_Sent: function 123 -/
def impl_Sent.f (l0 : List S83) : Option (List S83) := if l0.length < 5864062014805 then (some l0) else none
theorem clone_Sent (l : List S83) (h : l.length ≤ 1048576) : impl_Sent.f l = some l := by unfold impl_Sent.f; rw [if_pos (by omega)]
set_option maxHeartbeats 4000000 in
set_option maxRecDepth 100000 in
theorem impl_Sent.calls (A0 : Option Addr) (c0 : Nat) (l0 : List S83) (r : List S83) (w : World) (hr0 : Kd.C k83 w A0 l0.length l0) (hc0 : l0.length ≤ c0) (h : impl_Sent.f l0 = some r) :
    Calls Try.prog 123 #[.slice A0 l0.length c0] w fun e w' => ∃ v0_ : Value, e = .returned (v0_) ∧ Kd.R k83 83 w' w.heap.size (fun _ => True) v0_ r ∧ Below w.heap.size w w' := by
  have hl : l0.length < 5864062014805 ∧ l0 = r := by
    unfold impl_Sent.f at h
    split at h
    · exact ⟨by assumption, Option.some.inj h⟩
    · cases h
  clear h
  obtain ⟨hl, rfl⟩ := hl
  have HB := Aside0.mk (Below.refl w.heap.size w)
  cases A0 with
  | none =>
    obtain rfl : l0 = [] := by
      cases l0 with
      | nil => rfl
      | cons x t =>
        obtain ⟨a, ha, _⟩ := hr0.2.2 (by simp)
        cases ha
    have heq : ∀ w : World, (binOp .eql 76 (.slice none 0 c0) (.slice none 0 0)).run Try.prog w = .ok (.bool true) w := fun w => Go.Lib.run_eql_slice_nil w 76 83 none _ _ _ _ Try.underlying76
    clear hr0 hc0 hl
    go_enter Try.func123, Try.ntmps123
    go_wp2
    go_ret
    exact ⟨_, rfl, Kd.R_nil _ _ _ _ _, by repeat (first | (with_reducible first | exact HB.out | apply below_alloc | apply pw_below_drewN | apply below_drew1) | exact HB.out)⟩
  | some ad =>
    have heq : ∀ w : World, (binOp .eql 76 (.slice (some ad) l0.length c0) (.slice none 0 0)).run Try.prog w = .ok (.bool false) w := fun w => Go.Lib.run_eql_slice_nil w 76 83 (some ad) _ _ _ _ Try.underlying76
    have HR0 := Aside0.mk hr0
    have LM := Aside0.mk hl
    clear hr0 hc0 hl
    go_enter Try.func123, Try.ntmps123
    go_wp2_with (first
      | ((with_reducible refine gate_dst (N := 5) rfl ?_); refine Kd.R_lit k83 _ 83 ?hg (N := 5) ?hd (xs := ([] : List (S83))) (inner := []) (ok := fun _ => True) (okp := fun _ => True) ?hr ?hp (fun _ hk => hk) trivial (Below.refl _ _) (Nat.le_refl _) (by simp) ?_; (case hd => rfl); (case hg => rfl); (case hr => first | (go_simp; done) | (go_simp; rfl)); (case hp => exact (Reps.none _ _)); intro v115 w5 ho6 hb hg_ hnew_; clear hg_ hnew_; have n0_ := Aside0.mk (Kd.R_lower ho6 (below_size (by repeat (first | (with_reducible first | exact HB.out | apply below_alloc | apply pw_below_drewN | apply below_drew1) | exact HB.out)))); have n3_ := Aside0.mk (below_step (by repeat (first | (with_reducible first | exact HB.out | apply below_alloc | apply pw_below_drewN | apply below_drew1) | exact HB.out)) hb); clear HB; have HO := n0_; have HB := n3_; clear n0_ n3_; clear hb ho6)
      | ((with_reducible refine gate_builtin (b := .append) (xs := #[.tmp 5, .tmp 6]) rfl ?_); at_builtin; refine Kd.R_append_rows k83 (w0 := w) w.heap.size rfl (.tmp 5) (.tmp 6) 76 83 (.agg #[(.int .i64 0), (.int .i64 0), (.int .i64 0)]) 24 rfl Try.underlying76 info83 rfl (by decide) (by omega) v115 [] l0 _ _ _ (fun _ => True) (fun _ => False) rfl rfl ?aO ?aR (fun _ _ h => h) (fun _ h => h.elim) ?aF ?aB ?aS ?aL ?_; (case aR => repeat (first | exact (Kd.C_below HR0.out HB.out) | (with_reducible refine Kd.C_alloc ?_ _) | (with_reducible refine Kd.C_drewN ?_ _) | (with_reducible refine Kd.C_drew ?_))); (case aB => exact (by repeat (first | (with_reducible first | exact HB.out | apply below_alloc | apply pw_below_drewN | apply below_drew1) | exact HB.out))); (case aF => exact (fun _ _ => trivial)); (case aO => exact (by (with_reducible repeat (first | apply Kd.R_alloc | apply Kd.R_drewN | apply Kd.R_drew)); exact HO.out)); (case aS => exact (below_size (by repeat (first | (with_reducible first | exact HB.out | apply below_alloc | apply pw_below_drewN | apply below_drew1) | exact HB.out)))); (case aL => have := LM.out; simp only [List.length_nil, Nat.zero_add]; omega); intro v118 w9 ho hb hg hat; rw [List.nil_append] at ho; have n2_ := Aside0.mk hb; have n3_ := Aside0.mk ho; clear HB; clear HO; have HB := n2_; have HO := n3_; clear n2_ n3_; clear ho hb hg hat)
      | fail)
    go_ret
    exact ⟨_, rfl, by (with_reducible repeat (first | apply Kd.R_alloc | apply Kd.R_drewN | apply Kd.R_drew)); exact HO.out, by repeat (first | (with_reducible first | exact HB.out | apply below_alloc | apply pw_below_drewN | apply below_drew1) | exact HB.out)⟩

end Go.Proofs.Ythkmjfapljmmpaa.PFnExactSendNumber
