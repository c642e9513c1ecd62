-- Written by a program of this session (wip/genlaw.py): the walk of the law FnExactSendNumber by the one way on which all that it asks is true.
import Derived.Test.YthkmjfapljmmpaaPFnExactSendNumberx2
import Derived.Test.YthkmjfapljmmpaaPFnExactSendNumberx3
import Derived.Test.YthkmjfapljmmpaaPFnExactSendNumberx4
import Derived.Test.YthkmjfapljmmpaaPFnExactSendNumberx5
import Derived.Test.YthkmjfapljmmpaaPFnExactSendNumberx6
import Derived.Test.YthkmjfapljmmpaaPFnExactSendNumberx7
import Derived.Test.YthkmjfapljmmpaaPFnExactSendNumberx8
import Derived.Test.YthkmjfapljmmpaaPFnExactSendNumberx9
import Derived.Test.YthkmjfapljmmpaaPFnExactSendNumberx10
import Derived.Test.YthkmjfapljmmpaaLawK
namespace Go.Proofs.Ythkmjfapljmmpaa.PFnExactSendNumber
open Go.RowKit Go.Proofs.YthkmjfapljmmpaaW.PrintWords Go.Proofs.YthkmjfapljmmpaaW.PrintLast Go.Proofs.YthkmjfapljmmpaaW.PrintMore
open Go.Proofs.Ythkmjfapljmmpaa.ShortK (sA sZ sS)
open Go.Proofs.Ythkmjfapljmmpaa.StoreK (bm)
open Go.Proofs.Ythkmjfapljmmpaa.LawK
attribute [local go_sem] Go.Proofs.Ythkmjfapljmmpaa.StoreK.isSome_setCell max2_int min2_int max_two min_two max_three min_three max_four min_four   -- for this text's walks alone
set_option linter.unusedVariables false
set_option linter.unusedSimpArgs false

set_option maxHeartbeats 16000000 in
set_option maxRecDepth 100000 in
theorem laws_FnExactSendNumber.short0 (k : Nat) (a0_0 : Int) (A0_1 : Option Addr) (c0_1 : Nat) (l0_1 : List (S74)) (a0_2 : Bool) (a0_3 : Int) (a0_4 : Int) (a0_5 : Int) (a0_6 : Int) (a1_0 : Int) (a1_1 : Int) (a1_2 : Int) (t2 : Int) (w : World) (hr0_1 : Kd.C k74 w A0_1 l0_1.length l0_1) (hc0_1 : l0_1.length ≤ c0_1) (A3_ : laws_szSpace.f a0_0 l0_1 a0_2 a0_3 a0_4 a0_5 a0_6 1048576 = some t2) (e0_ : t2 < 0) :
  Calls Try.prog 8 #[.agg #[.int .i64 a0_0, .slice A0_1 l0_1.length c0_1, .bool a0_2, .int .i64 a0_3, .int .i64 a0_4, .int .i64 a0_5, .int .i64 a0_6], .agg #[.int .i64 a1_0, .int .i64 a1_1, .int .i64 a1_2]] w fun e w' => e = .returned (.bool true) ∧ Below w.heap.size w w' := by
 have HR0_1 := Aside0.mk hr0_1
 have HC0_1 := Aside0.mk hc0_1
 clear hr0_1 hc0_1
 have A3 := Aside0.mk A3_
 clear A3_
 have e0 : decide (t2 < 0) = true := decide_eq_true (by omega)
 clear e0_
 have hu72 := Try.underlying72
 have hu74 := Try.underlying74
 have hu79 := Try.underlying79
 have HB := Aside0.mk (Below.refl w.heap.size w)
 go_enter Try.func8, Try.ntmps8
 go_wp2_with (first | ((with_reducible refine gate_dst (N := 2) rfl ?_); refine box_event ?hg (N := 2) ?hd (cs := #[.int .i64 a0_0, .slice A0_1 l0_1.length c0_1, .bool a0_2, .int .i64 a0_3, .int .i64 a0_4, .int .i64 a0_5, .int .i64 a0_6]) (t := 72) ?hr ?_; (case hd => rfl); (case hg => rfl); (case hr => first | (go_simp; done) | (go_simp; rfl)); intro gb2 hg w1 hbox hb; have hge : w.heap.size ≤ gb2 := Nat.le_trans HB.out.size (Nat.le_of_eq hg.symm); replace HB := uH HB hb; have B2 : Bx w.heap.size w1 gb2 #[.int .i64 a0_0, .slice A0_1 l0_1.length c0_1, .bool a0_2, .int .i64 a0_3, .int .i64 a0_4, .int .i64 a0_5, .int .i64 a0_6] 72 := ⟨hbox, hge⟩; clear hb hbox hg hge; obtain ⟨qB2_0, qB2_1, qB2_2, qB2_3, qB2_4, qB2_5, qB2_6⟩ := cz7' B2; obtain ⟨zB2_0, zB2_1, zB2_2, zB2_3, zB2_4, zB2_5, zB2_6⟩ := fz7' B2) | ((with_reducible refine gate_dst (N := 3) rfl ?_); refine box_event ?hg (N := 3) ?hd (cs := #[.int .i64 a1_0, .int .i64 a1_1, .int .i64 a1_2]) (t := 74) ?hr ?_; (case hd => rfl); (case hg => rfl); (case hr => first | (go_simp; done) | (go_simp; rfl)); clear qB2_0 qB2_1 qB2_2 qB2_3 qB2_4 qB2_5 qB2_6 zB2_0 zB2_1 zB2_2 zB2_3 zB2_4 zB2_5 zB2_6; intro gb3 hg w2 hbox hb; have N1 := B2.ne hg; have hge : w.heap.size ≤ gb3 := Nat.le_trans HB.out.size (Nat.le_of_eq hg.symm); replace B2 := B2.up hb; replace HB := uH HB hb; have B3 : Bx w.heap.size w2 gb3 #[.int .i64 a1_0, .int .i64 a1_1, .int .i64 a1_2] 74 := ⟨hbox, hge⟩; clear hb hbox hg hge; obtain ⟨qB2_0, qB2_1, qB2_2, qB2_3, qB2_4, qB2_5, qB2_6⟩ := cz7' B2; obtain ⟨zB2_0, zB2_1, zB2_2, zB2_3, zB2_4, zB2_5, zB2_6⟩ := fz7' B2))
 clear qB2_0 qB2_1 qB2_2 qB2_3 qB2_4 qB2_5 qB2_6 zB2_0 zB2_1 zB2_2 zB2_3 zB2_4 zB2_5 zB2_6
 refine (laws_szSpace.calls a0_0 _ _ l0_1 a0_2 a0_3 a0_4 a0_5 a0_6 1048576 t2 _ (Kd.C_below HR0_1.out HB.out) HC0_1.out A3.out).mono ?_
 rintro e w3 ⟨rfl, hb⟩
 replace B2 := B2.up hb
 replace B3 := B3.up hb
 replace HB := uH HB hb
 clear hb
 go_wp2_with fail
 go_ret
 exact ⟨rfl, HB.out⟩
set_option maxHeartbeats 16000000 in
set_option maxRecDepth 100000 in
theorem laws_FnExactSendNumber.long (k : Nat) (a0_0 : Int) (A0_1 : Option Addr) (c0_1 : Nat) (l0_1 : List (S74)) (a0_2 : Bool) (a0_3 : Int) (a0_4 : Int) (a0_5 : Int) (a0_6 : Int) (a1_0 : Int) (a1_1 : Int) (a1_2 : Int) (t2 : Int) (t4 : Int) (t5 : List (S83)) (t6 : Bool) (t7 : Int) (t8 : Int) (t9 : Int) (t10 : Int) (t18 : Int) (t19 : Int) (t20 : Int) (t22 : Int) (t23 : List (S83)) (t24 : Bool) (t25 : Int) (t26 : Int) (t27 : Int) (t28 : Int) (t29 : Bool) (t175 : Int) (t176 : List (S83)) (t178 : Int) (t179 : List (S83)) (w : World) (hr0_1 : Kd.C k74 w A0_1 l0_1.length l0_1) (hc0_1 : l0_1.length ≤ c0_1) (A3_ : laws_szSpace.f a0_0 l0_1 a0_2 a0_3 a0_4 a0_5 a0_6 1048576 = some t2) (A11_ : laws_toSpace.f k a0_0 l0_1 a0_2 a0_3 a0_4 a0_5 a0_6 = some (t4, t5, t6, t7, t8, t9, t10)) (A21_ : laws_toSent.f a1_0 a1_1 a1_2 = some (t18, t19, t20)) (A30_ : spec_SendNumber.f k t4 t5 t6 t7 t8 t9 t10 t18 t19 t20 = some (t22, t23, t24, t25, t26, t27, t28, t29)) (A105_ : impl_SendNumber.f k t4 t5 t6 t7 t8 t9 t10 t18 t19 t20 = some (t22, t23, t24, t25, t26, t27, t28, t29)) (A164_ : laws_eqSpace.f k t22 t23 t24 t25 t26 t27 t28 t22 t23 t24 t25 t26 t27 t28 = some true) (A174_ : laws_eqSpace.f k t4 t5 t6 t7 t8 t9 t10 t4 t5 t6 t7 t8 t9 t10 = some true) (A177_ : laws_markSpace.f k t4 t5 t6 t7 t8 t9 t10 1 = some (t175, t176)) (A180_ : laws_markSpace.f k t22 t23 t24 t25 t26 t27 t28 1 = some (t178, t179)) (A181_ : laws_heldSpace.f k t22 t179 t24 t25 t26 t27 t28 1 = some t178) (e0_ : 0 ≤ t2) (e1_ : 0 ≤ t175) (e2_ : 0 ≤ t178) :
  Calls Try.prog 8 #[.agg #[.int .i64 a0_0, .slice A0_1 l0_1.length c0_1, .bool a0_2, .int .i64 a0_3, .int .i64 a0_4, .int .i64 a0_5, .int .i64 a0_6], .agg #[.int .i64 a1_0, .int .i64 a1_1, .int .i64 a1_2]] w fun e w' => e = .returned (.bool true) ∧ Below w.heap.size w w' := by
 have HR0_1 := Aside0.mk hr0_1
 have HC0_1 := Aside0.mk hc0_1
 clear hr0_1 hc0_1
 have A3 := Aside0.mk A3_
 clear A3_
 have A11 := Aside0.mk A11_
 clear A11_
 have A21 := Aside0.mk A21_
 clear A21_
 have A30 := Aside0.mk A30_
 clear A30_
 have A105 := Aside0.mk A105_
 clear A105_
 have A164 := Aside0.mk A164_
 clear A164_
 have A174 := Aside0.mk A174_
 clear A174_
 have A177 := Aside0.mk A177_
 clear A177_
 have A180 := Aside0.mk A180_
 clear A180_
 have A181 := Aside0.mk A181_
 clear A181_
 have e0 : decide (t2 < 0) = false := decide_eq_false (by omega)
 clear e0_
 have e1 : decide (t175 < 0) = false := decide_eq_false (by omega)
 clear e1_
 have e2 : decide (t178 < 0) = false := decide_eq_false (by omega)
 clear e2_
 have hu72 := Try.underlying72
 have hu74 := Try.underlying74
 have hu79 := Try.underlying79
 have HB := Aside0.mk (Below.refl w.heap.size w)
 go_enter Try.func8, Try.ntmps8
 go_wp2_with (first | ((with_reducible refine gate_dst (N := 2) rfl ?_); refine box_event ?hg (N := 2) ?hd (cs := #[.int .i64 a0_0, .slice A0_1 l0_1.length c0_1, .bool a0_2, .int .i64 a0_3, .int .i64 a0_4, .int .i64 a0_5, .int .i64 a0_6]) (t := 72) ?hr ?_; (case hd => rfl); (case hg => rfl); (case hr => first | (go_simp; done) | (go_simp; rfl)); intro gb2 hg w1 hbox hb; have hge : w.heap.size ≤ gb2 := Nat.le_trans HB.out.size (Nat.le_of_eq hg.symm); replace HB := uH HB hb; have B2 : Bx w.heap.size w1 gb2 #[.int .i64 a0_0, .slice A0_1 l0_1.length c0_1, .bool a0_2, .int .i64 a0_3, .int .i64 a0_4, .int .i64 a0_5, .int .i64 a0_6] 72 := ⟨hbox, hge⟩; clear hb hbox hg hge; obtain ⟨qB2_0, qB2_1, qB2_2, qB2_3, qB2_4, qB2_5, qB2_6⟩ := cz7' B2; obtain ⟨zB2_0, zB2_1, zB2_2, zB2_3, zB2_4, zB2_5, zB2_6⟩ := fz7' B2) | ((with_reducible refine gate_dst (N := 3) rfl ?_); refine box_event ?hg (N := 3) ?hd (cs := #[.int .i64 a1_0, .int .i64 a1_1, .int .i64 a1_2]) (t := 74) ?hr ?_; (case hd => rfl); (case hg => rfl); (case hr => first | (go_simp; done) | (go_simp; rfl)); clear qB2_0 qB2_1 qB2_2 qB2_3 qB2_4 qB2_5 qB2_6 zB2_0 zB2_1 zB2_2 zB2_3 zB2_4 zB2_5 zB2_6; intro gb3 hg w2 hbox hb; have N1 := B2.ne hg; have hge : w.heap.size ≤ gb3 := Nat.le_trans HB.out.size (Nat.le_of_eq hg.symm); replace B2 := B2.up hb; replace HB := uH HB hb; have B3 : Bx w.heap.size w2 gb3 #[.int .i64 a1_0, .int .i64 a1_1, .int .i64 a1_2] 74 := ⟨hbox, hge⟩; clear hb hbox hg hge; obtain ⟨qB2_0, qB2_1, qB2_2, qB2_3, qB2_4, qB2_5, qB2_6⟩ := cz7' B2; obtain ⟨zB2_0, zB2_1, zB2_2, zB2_3, zB2_4, zB2_5, zB2_6⟩ := fz7' B2))
 clear qB2_0 qB2_1 qB2_2 qB2_3 qB2_4 qB2_5 qB2_6 zB2_0 zB2_1 zB2_2 zB2_3 zB2_4 zB2_5 zB2_6
 refine (laws_szSpace.calls a0_0 _ _ l0_1 a0_2 a0_3 a0_4 a0_5 a0_6 1048576 t2 _ (Kd.C_below HR0_1.out HB.out) HC0_1.out A3.out).mono ?_
 rintro e w3 ⟨rfl, hb⟩
 replace B2 := B2.up hb
 replace B3 := B3.up hb
 replace HB := uH HB hb
 clear hb
 go_wp2_with fail
 refine start_ (n := 11) (S := fun w' => Bx w.heap.size w' gb2 #[.int .i64 a0_0, .slice A0_1 l0_1.length c0_1, .bool a0_2, .int .i64 a0_3, .int .i64 a0_4, .int .i64 a0_5, .int .i64 a0_6] 72 ∧ Bx w.heap.size w' gb3 #[.int .i64 a1_0, .int .i64 a1_1, .int .i64 a1_2] 74) (ds := []) (bm 11 0) (by kernel_rfl) rfl rfl ⟨B2.up (bd _), B3.up (bd _)⟩ (fun hHeld => ?_)
 replace B2 := B2.up (bd _)
 replace B3 := B3.up (bd _)
 replace HB := uHd HB
 generalize w3.drew = w4 at B2 B3 HB hHeld ⊢
 refine take_ (i := 0) (N := some 22) (v := ?_) (a' := ?_) (bm 11 1) rfl rfl (by kernel_rfl) (fun _ _ _ h => h) (Or.inl ⟨by rfl, ?_⟩) hHeld ?_ ?_
 rotate_left
 · rintro w' ⟨s0, s1⟩
   obtain ⟨q0, q1, q2, q3, q4, q5, q6⟩ := cz7' s0
   go_simp
   with_reducible rfl
 rotate_left
 · simp only [Act.put, sA, sZ, sS, i64_w, i32_w]
   rfl
 refine take_ (i := 2) (N := some 24) (v := ?_) (a' := ?_) (bm 11 5) rfl rfl (by kernel_rfl) (fun _ _ _ h => h) (Or.inl ⟨by rfl, ?_⟩) hHeld ?_ ?_
 rotate_left
 · rintro w' ⟨s0, s1⟩
   obtain ⟨q0, q1, q2⟩ := cz3' s1
   go_simp
   with_reducible rfl
 rotate_left
 · simp only [Act.put, sA, sZ, sS, i64_w, i32_w]
   rfl
 refine join_ (σ := Option Addr × Nat × Value × Nat) 2 (bm 11 511) (fun s_ => [(23, .agg #[.int .i64 t4, s_.2.2.1, .bool t6, .int .i64 t7, .int .i64 t8, .int .i64 t9, .int .i64 t10]), (25, .agg #[.int .i64 t18, .int .i64 t19, .int .i64 t20]), (26, .tuple #[.agg #[.int .i64 t22, .slice s_.1 t23.length s_.2.1, .bool t24, .int .i64 t25, .int .i64 t26, .int .i64 t27, .int .i64 t28], .bool t29]), (21, .tuple #[.agg #[.int .i64 t22, .slice s_.1 t23.length s_.2.1, .bool t24, .int .i64 t25, .int .i64 t26, .int .i64 t27, .int .i64 t28], .bool t29]), (27, .agg #[.int .i64 t22, .slice s_.1 t23.length s_.2.1, .bool t24, .int .i64 t25, .int .i64 t26, .int .i64 t27, .int .i64 t28]), (28, .bool t29), (6, .pointer (some ⟨s_.2.2.2, 0, none⟩))]) (fun s_ w' => (Bx w.heap.size w' gb2 #[.int .i64 a0_0, .slice A0_1 l0_1.length c0_1, .bool a0_2, .int .i64 a0_3, .int .i64 a0_4, .int .i64 a0_5, .int .i64 a0_6] 72 ∧ Bx w.heap.size w' gb3 #[.int .i64 a1_0, .int .i64 a1_1, .int .i64 a1_2] 74) ∧ Bx w.heap.size w' gb2 #[.int .i64 a0_0, .slice A0_1 l0_1.length c0_1, .bool a0_2, .int .i64 a0_3, .int .i64 a0_4, .int .i64 a0_5, .int .i64 a0_6] 72 ∧ Bx w.heap.size w' gb3 #[.int .i64 a1_0, .int .i64 a1_1, .int .i64 a1_2] 74 ∧ (∃ ok_ : Nat → Prop, Rw k83 83 w.heap.size w' ok_ (.slice s_.1 t23.length s_.2.1) t23) ∧ Bx w.heap.size w' s_.2.2.2 #[.int .i64 0, .slice none 0 0, .bool false, .int .i64 0, .int .i64 0, .int .i64 0, .int .i64 0] 79 ∧ Aside0 (gb2 ≠ s_.2.2.2) ∧ Aside0 (gb3 ≠ s_.2.2.2) ∧ Aside0 (Below w.heap.size w w')) ?_ ?_
 rotate_left
 · intro hCont
   refine two_ (i := 1) (j := 8) (Ni := some 23) (Nj := some 6) (bm 11 7) (bm 11 261) rfl rfl rfl rfl (by kernel_rfl) (by decide) (by decide) (fun K hK => ?_) (fun K hK => ?_)
   · skip
     clear hHeld
     refine goes_ Try.func45 (by kernel_rfl) rfl #[.agg #[.int .i64 a0_0, .slice A0_1 l0_1.length c0_1, .bool a0_2, .int .i64 a0_3, .int .i64 a0_4, .int .i64 a0_5, .int .i64 a0_6]] (by rfl) rfl rfl (by (try simp only [List.map_toArray, List.map_cons, List.map_nil]); first | done | rfl | (simp only [List.length_drop, List.length_take]; rfl)) ?_
     refine (laws_toSpace.calls k a0_0 _ _ l0_1 a0_2 a0_3 a0_4 a0_5 a0_6 t4 t5 t6 t7 t8 t9 t10 _ (Kd.C_below HR0_1.out HB.out) HC0_1.out A11.out).mono ?_
     rintro e w5 ⟨v40, rfl, ho0, hb⟩
     refine ⟨_, rfl, ?_⟩
     obtain ⟨ok41, A_42, c_43, rfl, R44, F45⟩ := Rw.new HB ho0
     clear F45
     replace B2 := B2.up hb
     replace B3 := B3.up hb
     replace HB := uH HB hb
     clear hb ho0
     refine hK.out _ _ ⟨B2, B3⟩ (fun hHeld => ?_)
     clear hK K
     refine norm_ (a' := ?_) ?_ ?_
     rotate_left
     · show Act.put _ (some 23) _ = _
       simp only [Act.put, sA, sZ, sS, i64_w, i32_w]
       rfl
     refine two_ (i := 3) (j := 8) (Ni := some 25) (Nj := some 6) (bm 11 15) (bm 11 263) rfl rfl rfl rfl (by kernel_rfl) (by decide) (by decide) (fun K hK => ?_) (fun K hK => ?_)
     · skip
       clear hHeld
       refine goes_ Try.func46 (by kernel_rfl) rfl #[.agg #[.int .i64 a1_0, .int .i64 a1_1, .int .i64 a1_2]] (by rfl) rfl rfl (by (try simp only [List.map_toArray, List.map_cons, List.map_nil]); first | done | rfl | (simp only [List.length_drop, List.length_take]; rfl)) ?_
       refine (laws_toSent.calls a1_0 a1_1 a1_2 t18 t19 t20 _ A21.out).mono ?_
       rintro e w6 ⟨rfl, hb⟩
       refine ⟨_, rfl, ?_⟩
       replace B2 := B2.up hb
       replace B3 := B3.up hb
       replace R44 := R44.up hb
       replace HB := uH HB hb
       clear hb
       refine hK.out _ _ ⟨B2, B3⟩ (fun hHeld => ?_)
       clear hK K
       refine norm_ (a' := ?_) ?_ ?_
       rotate_left
       · show Act.put _ (some 25) _ = _
         simp only [Act.put, sA, sZ, sS, i64_w, i32_w]
         rfl
       refine two_ (i := 4) (j := 8) (Ni := some 26) (Nj := some 6) (bm 11 31) (bm 11 271) rfl rfl rfl rfl (by kernel_rfl) (by decide) (by decide) (fun K hK => ?_) (fun K hK => ?_)
       · skip
         clear hHeld
         refine goes_ Try.func44 (by kernel_rfl) rfl #[.agg #[.int .i64 t4, .slice A_42 t5.length c_43, .bool t6, .int .i64 t7, .int .i64 t8, .int .i64 t9, .int .i64 t10], .agg #[.int .i64 t18, .int .i64 t19, .int .i64 t20]] (by rfl) rfl rfl (by (try simp only [List.map_toArray, List.map_cons, List.map_nil]); first | done | rfl | (simp only [List.length_drop, List.length_take]; rfl)) ?_
         refine (spec_SendNumber.calls k t4 _ _ t5 t6 t7 t8 t9 t10 t18 t19 t20 t22 t23 t24 t25 t26 t27 t28 t29 _ R44.readsC R44.readsN A30.out).mono ?_
         rintro e w7 ⟨v46, rfl, ho0, hb⟩
         refine ⟨_, rfl, ?_⟩
         obtain ⟨ok47, A_48, c_49, rfl, R50, F51⟩ := Rw.new HB ho0
         have D52 := R44.dis F51
         clear F51
         replace B2 := B2.up hb
         replace B3 := B3.up hb
         replace R44 := R44.up hb
         replace HB := uH HB hb
         clear hb ho0
         refine hK.out _ _ ⟨B2, B3⟩ (fun hHeld => ?_)
         clear hK K
         refine norm_ (a' := ?_) ?_ ?_
         rotate_left
         · show Act.put _ (some 26) _ = _
           simp only [Act.put, sA, sZ, sS, i64_w, i32_w]
           rfl
         refine pure_ (i := 5) (N := some 21) (v := ?_) (a' := ?_) (bm 11 63) rfl rfl (by kernel_rfl) (fun _ _ _ h => h) (Or.inl ⟨by rfl, ?_⟩) ?_ ?_
         rotate_left
         · intro w'
           go_simp
           with_reducible rfl
         rotate_left
         · simp only [Act.put, sA, sZ, sS, i64_w, i32_w]
           rfl
         refine pure_ (i := 6) (N := some 27) (v := ?_) (a' := ?_) (bm 11 127) rfl rfl (by kernel_rfl) (fun _ _ _ h => h) (Or.inl ⟨by rfl, ?_⟩) ?_ ?_
         rotate_left
         · intro w'
           go_simp
           with_reducible rfl
         rotate_left
         · simp only [Act.put, sA, sZ, sS, i64_w, i32_w]
           rfl
         refine pure_ (i := 7) (N := some 28) (v := ?_) (a' := ?_) (bm 11 255) rfl rfl (by kernel_rfl) (fun _ _ _ h => h) (Or.inl ⟨by rfl, ?_⟩) ?_ ?_
         rotate_left
         · intro w'
           go_simp
           with_reducible rfl
         rotate_left
         · simp only [Act.put, sA, sZ, sS, i64_w, i32_w]
           rfl
         refine one_ (i := 8) (N := some 6) (bm 11 511) rfl rfl (by kernel_rfl) (by decide) (fun K hK => ?_)
         clear hHeld
         refine box_step ?hg (N := 6) ?hd (cs := #[.int .i64 0, .slice none 0 0, .bool false, .int .i64 0, .int .i64 0, .int .i64 0, .int .i64 0]) (t := 79) ?hr ?_; (case hd => rfl); (case hg => rfl); (case hr => first | (go_simp; done) | (go_simp; rfl))
         intro gb6 hg w8 hbox hb
         have N53 := B2.ne hg
         have N54 := B3.ne hg
         have hge : w.heap.size ≤ gb6 := Nat.le_trans HB.out.size (Nat.le_of_eq hg.symm)
         replace B2 := B2.up hb
         replace B3 := B3.up hb
         replace R44 := R44.up hb
         replace R50 := R50.up hb
         replace HB := uH HB hb
         have B6 : Bx w.heap.size w8 gb6 #[.int .i64 0, .slice none 0 0, .bool false, .int .i64 0, .int .i64 0, .int .i64 0, .int .i64 0] 79 := ⟨hbox, hge⟩
         clear hb hbox hg hge
         refine hK.out _ _ ⟨B2, B3⟩ (fun hHeld => ?_)
         clear hK K
         refine norm_ (a' := ?_) ?_ ?_
         rotate_left
         · show Act.put _ (some 6) _ = _
           simp only [Act.put, sA, sZ, sS, i64_w, i32_w]
           rfl
         exact norm_ (by simp only [putAll, Act.put, sA, sZ, sS]) (hCont (A_48, c_49, .slice A_42 t5.length c_43, gb6) _ ⟨hHeld, B2, B3, ⟨_, R50⟩, B6, N53, N54, HB⟩)
       · skip
         clear hHeld
         refine box_step ?hg (N := 6) ?hd (cs := #[.int .i64 0, .slice none 0 0, .bool false, .int .i64 0, .int .i64 0, .int .i64 0, .int .i64 0]) (t := 79) ?hr ?_; (case hd => rfl); (case hg => rfl); (case hr => first | (go_simp; done) | (go_simp; rfl))
         intro gb6 hg w7 hbox hb
         have N55 := B2.ne hg
         have N56 := B3.ne hg
         have hge : w.heap.size ≤ gb6 := Nat.le_trans HB.out.size (Nat.le_of_eq hg.symm)
         replace B2 := B2.up hb
         replace B3 := B3.up hb
         replace R44 := R44.up hb
         replace HB := uH HB hb
         have B6 : Bx w.heap.size w7 gb6 #[.int .i64 0, .slice none 0 0, .bool false, .int .i64 0, .int .i64 0, .int .i64 0, .int .i64 0] 79 := ⟨hbox, hge⟩
         clear hb hbox hg hge
         refine hK.out _ _ ⟨B2, B3⟩ (fun hHeld => ?_)
         clear hK K
         refine norm_ (a' := ?_) ?_ ?_
         rotate_left
         · show Act.put _ (some 6) _ = _
           simp only [Act.put, sA, sZ, sS, i64_w, i32_w]
           rfl
         refine one_ (i := 4) (N := some 26) (bm 11 287) rfl rfl (by kernel_rfl) (by decide) (fun K hK => ?_)
         clear hHeld
         refine goes_ Try.func44 (by kernel_rfl) rfl #[.agg #[.int .i64 t4, .slice A_42 t5.length c_43, .bool t6, .int .i64 t7, .int .i64 t8, .int .i64 t9, .int .i64 t10], .agg #[.int .i64 t18, .int .i64 t19, .int .i64 t20]] (by rfl) rfl rfl (by (try simp only [List.map_toArray, List.map_cons, List.map_nil]); first | done | rfl | (simp only [List.length_drop, List.length_take]; rfl)) ?_
         refine (spec_SendNumber.calls k t4 _ _ t5 t6 t7 t8 t9 t10 t18 t19 t20 t22 t23 t24 t25 t26 t27 t28 t29 _ R44.readsC R44.readsN A30.out).mono ?_
         rintro e w8 ⟨v57, rfl, ho0, hb⟩
         refine ⟨_, rfl, ?_⟩
         obtain ⟨ok58, A_59, c_60, rfl, R61, F62⟩ := Rw.new HB ho0
         have D63 := R44.dis F62
         clear F62
         replace B2 := B2.up hb
         replace B3 := B3.up hb
         replace B6 := B6.up hb
         replace R44 := R44.up hb
         replace HB := uH HB hb
         clear hb ho0
         refine hK.out _ _ ⟨B2, B3⟩ (fun hHeld => ?_)
         clear hK K
         refine norm_ (a' := ?_) ?_ ?_
         rotate_left
         · show Act.put _ (some 26) _ = _
           simp only [Act.put, sA, sZ, sS, i64_w, i32_w]
           rfl
         refine pure_ (i := 5) (N := some 21) (v := ?_) (a' := ?_) (bm 11 319) rfl rfl (by kernel_rfl) (fun _ _ _ h => h) (Or.inl ⟨by rfl, ?_⟩) ?_ ?_
         rotate_left
         · intro w'
           go_simp
           with_reducible rfl
         rotate_left
         · simp only [Act.put, sA, sZ, sS, i64_w, i32_w]
           rfl
         refine pure_ (i := 6) (N := some 27) (v := ?_) (a' := ?_) (bm 11 383) rfl rfl (by kernel_rfl) (fun _ _ _ h => h) (Or.inl ⟨by rfl, ?_⟩) ?_ ?_
         rotate_left
         · intro w'
           go_simp
           with_reducible rfl
         rotate_left
         · simp only [Act.put, sA, sZ, sS, i64_w, i32_w]
           rfl
         refine pure_ (i := 7) (N := some 28) (v := ?_) (a' := ?_) (bm 11 511) rfl rfl (by kernel_rfl) (fun _ _ _ h => h) (Or.inl ⟨by rfl, ?_⟩) ?_ ?_
         rotate_left
         · intro w'
           go_simp
           with_reducible rfl
         rotate_left
         · simp only [Act.put, sA, sZ, sS, i64_w, i32_w]
           rfl
         exact norm_ (by simp only [putAll, Act.put, sA, sZ, sS]) (hCont (A_59, c_60, .slice A_42 t5.length c_43, gb6) _ ⟨hHeld, B2, B3, ⟨_, R61⟩, B6, N55, N56, HB⟩)
     · skip
       clear hHeld
       refine box_step ?hg (N := 6) ?hd (cs := #[.int .i64 0, .slice none 0 0, .bool false, .int .i64 0, .int .i64 0, .int .i64 0, .int .i64 0]) (t := 79) ?hr ?_; (case hd => rfl); (case hg => rfl); (case hr => first | (go_simp; done) | (go_simp; rfl))
       intro gb6 hg w6 hbox hb
       have N64 := B2.ne hg
       have N65 := B3.ne hg
       have hge : w.heap.size ≤ gb6 := Nat.le_trans HB.out.size (Nat.le_of_eq hg.symm)
       replace B2 := B2.up hb
       replace B3 := B3.up hb
       replace R44 := R44.up hb
       replace HB := uH HB hb
       have B6 : Bx w.heap.size w6 gb6 #[.int .i64 0, .slice none 0 0, .bool false, .int .i64 0, .int .i64 0, .int .i64 0, .int .i64 0] 79 := ⟨hbox, hge⟩
       clear hb hbox hg hge
       refine hK.out _ _ ⟨B2, B3⟩ (fun hHeld => ?_)
       clear hK K
       refine norm_ (a' := ?_) ?_ ?_
       rotate_left
       · show Act.put _ (some 6) _ = _
         simp only [Act.put, sA, sZ, sS, i64_w, i32_w]
         rfl
       refine one_ (i := 3) (N := some 25) (bm 11 271) rfl rfl (by kernel_rfl) (by decide) (fun K hK => ?_)
       clear hHeld
       refine goes_ Try.func46 (by kernel_rfl) rfl #[.agg #[.int .i64 a1_0, .int .i64 a1_1, .int .i64 a1_2]] (by rfl) rfl rfl (by (try simp only [List.map_toArray, List.map_cons, List.map_nil]); first | done | rfl | (simp only [List.length_drop, List.length_take]; rfl)) ?_
       refine (laws_toSent.calls a1_0 a1_1 a1_2 t18 t19 t20 _ A21.out).mono ?_
       rintro e w7 ⟨rfl, hb⟩
       refine ⟨_, rfl, ?_⟩
       replace B2 := B2.up hb
       replace B3 := B3.up hb
       replace B6 := B6.up hb
       replace R44 := R44.up hb
       replace HB := uH HB hb
       clear hb
       refine hK.out _ _ ⟨B2, B3⟩ (fun hHeld => ?_)
       clear hK K
       refine norm_ (a' := ?_) ?_ ?_
       rotate_left
       · show Act.put _ (some 25) _ = _
         simp only [Act.put, sA, sZ, sS, i64_w, i32_w]
         rfl
       refine one_ (i := 4) (N := some 26) (bm 11 287) rfl rfl (by kernel_rfl) (by decide) (fun K hK => ?_)
       clear hHeld
       refine goes_ Try.func44 (by kernel_rfl) rfl #[.agg #[.int .i64 t4, .slice A_42 t5.length c_43, .bool t6, .int .i64 t7, .int .i64 t8, .int .i64 t9, .int .i64 t10], .agg #[.int .i64 t18, .int .i64 t19, .int .i64 t20]] (by rfl) rfl rfl (by (try simp only [List.map_toArray, List.map_cons, List.map_nil]); first | done | rfl | (simp only [List.length_drop, List.length_take]; rfl)) ?_
       refine (spec_SendNumber.calls k t4 _ _ t5 t6 t7 t8 t9 t10 t18 t19 t20 t22 t23 t24 t25 t26 t27 t28 t29 _ R44.readsC R44.readsN A30.out).mono ?_
       rintro e w8 ⟨v66, rfl, ho0, hb⟩
       refine ⟨_, rfl, ?_⟩
       obtain ⟨ok67, A_68, c_69, rfl, R70, F71⟩ := Rw.new HB ho0
       have D72 := R44.dis F71
       clear F71
       replace B2 := B2.up hb
       replace B3 := B3.up hb
       replace B6 := B6.up hb
       replace R44 := R44.up hb
       replace HB := uH HB hb
       clear hb ho0
       refine hK.out _ _ ⟨B2, B3⟩ (fun hHeld => ?_)
       clear hK K
       refine norm_ (a' := ?_) ?_ ?_
       rotate_left
       · show Act.put _ (some 26) _ = _
         simp only [Act.put, sA, sZ, sS, i64_w, i32_w]
         rfl
       refine pure_ (i := 5) (N := some 21) (v := ?_) (a' := ?_) (bm 11 319) rfl rfl (by kernel_rfl) (fun _ _ _ h => h) (Or.inl ⟨by rfl, ?_⟩) ?_ ?_
       rotate_left
       · intro w'
         go_simp
         with_reducible rfl
       rotate_left
       · simp only [Act.put, sA, sZ, sS, i64_w, i32_w]
         rfl
       refine pure_ (i := 6) (N := some 27) (v := ?_) (a' := ?_) (bm 11 383) rfl rfl (by kernel_rfl) (fun _ _ _ h => h) (Or.inl ⟨by rfl, ?_⟩) ?_ ?_
       rotate_left
       · intro w'
         go_simp
         with_reducible rfl
       rotate_left
       · simp only [Act.put, sA, sZ, sS, i64_w, i32_w]
         rfl
       refine pure_ (i := 7) (N := some 28) (v := ?_) (a' := ?_) (bm 11 511) rfl rfl (by kernel_rfl) (fun _ _ _ h => h) (Or.inl ⟨by rfl, ?_⟩) ?_ ?_
       rotate_left
       · intro w'
         go_simp
         with_reducible rfl
       rotate_left
       · simp only [Act.put, sA, sZ, sS, i64_w, i32_w]
         rfl
       exact norm_ (by simp only [putAll, Act.put, sA, sZ, sS]) (hCont (A_68, c_69, .slice A_42 t5.length c_43, gb6) _ ⟨hHeld, B2, B3, ⟨_, R70⟩, B6, N64, N65, HB⟩)
   · skip
     clear hHeld
     refine box_step ?hg (N := 6) ?hd (cs := #[.int .i64 0, .slice none 0 0, .bool false, .int .i64 0, .int .i64 0, .int .i64 0, .int .i64 0]) (t := 79) ?hr ?_; (case hd => rfl); (case hg => rfl); (case hr => first | (go_simp; done) | (go_simp; rfl))
     intro gb6 hg w5 hbox hb
     have N73 := B2.ne hg
     have N74 := B3.ne hg
     have hge : w.heap.size ≤ gb6 := Nat.le_trans HB.out.size (Nat.le_of_eq hg.symm)
     replace B2 := B2.up hb
     replace B3 := B3.up hb
     replace HB := uH HB hb
     have B6 : Bx w.heap.size w5 gb6 #[.int .i64 0, .slice none 0 0, .bool false, .int .i64 0, .int .i64 0, .int .i64 0, .int .i64 0] 79 := ⟨hbox, hge⟩
     clear hb hbox hg hge
     refine hK.out _ _ ⟨B2, B3⟩ (fun hHeld => ?_)
     clear hK K
     refine norm_ (a' := ?_) ?_ ?_
     rotate_left
     · show Act.put _ (some 6) _ = _
       simp only [Act.put, sA, sZ, sS, i64_w, i32_w]
       rfl
     refine one_ (i := 1) (N := some 23) (bm 11 263) rfl rfl (by kernel_rfl) (by decide) (fun K hK => ?_)
     clear hHeld
     refine goes_ Try.func45 (by kernel_rfl) rfl #[.agg #[.int .i64 a0_0, .slice A0_1 l0_1.length c0_1, .bool a0_2, .int .i64 a0_3, .int .i64 a0_4, .int .i64 a0_5, .int .i64 a0_6]] (by rfl) rfl rfl (by (try simp only [List.map_toArray, List.map_cons, List.map_nil]); first | done | rfl | (simp only [List.length_drop, List.length_take]; rfl)) ?_
     refine (laws_toSpace.calls k a0_0 _ _ l0_1 a0_2 a0_3 a0_4 a0_5 a0_6 t4 t5 t6 t7 t8 t9 t10 _ (Kd.C_below HR0_1.out HB.out) HC0_1.out A11.out).mono ?_
     rintro e w6 ⟨v75, rfl, ho0, hb⟩
     refine ⟨_, rfl, ?_⟩
     obtain ⟨ok76, A_77, c_78, rfl, R79, F80⟩ := Rw.new HB ho0
     clear F80
     replace B2 := B2.up hb
     replace B3 := B3.up hb
     replace B6 := B6.up hb
     replace HB := uH HB hb
     clear hb ho0
     refine hK.out _ _ ⟨B2, B3⟩ (fun hHeld => ?_)
     clear hK K
     refine norm_ (a' := ?_) ?_ ?_
     rotate_left
     · show Act.put _ (some 23) _ = _
       simp only [Act.put, sA, sZ, sS, i64_w, i32_w]
       rfl
     refine one_ (i := 3) (N := some 25) (bm 11 271) rfl rfl (by kernel_rfl) (by decide) (fun K hK => ?_)
     clear hHeld
     refine goes_ Try.func46 (by kernel_rfl) rfl #[.agg #[.int .i64 a1_0, .int .i64 a1_1, .int .i64 a1_2]] (by rfl) rfl rfl (by (try simp only [List.map_toArray, List.map_cons, List.map_nil]); first | done | rfl | (simp only [List.length_drop, List.length_take]; rfl)) ?_
     refine (laws_toSent.calls a1_0 a1_1 a1_2 t18 t19 t20 _ A21.out).mono ?_
     rintro e w7 ⟨rfl, hb⟩
     refine ⟨_, rfl, ?_⟩
     replace B2 := B2.up hb
     replace B3 := B3.up hb
     replace B6 := B6.up hb
     replace R79 := R79.up hb
     replace HB := uH HB hb
     clear hb
     refine hK.out _ _ ⟨B2, B3⟩ (fun hHeld => ?_)
     clear hK K
     refine norm_ (a' := ?_) ?_ ?_
     rotate_left
     · show Act.put _ (some 25) _ = _
       simp only [Act.put, sA, sZ, sS, i64_w, i32_w]
       rfl
     refine one_ (i := 4) (N := some 26) (bm 11 287) rfl rfl (by kernel_rfl) (by decide) (fun K hK => ?_)
     clear hHeld
     refine goes_ Try.func44 (by kernel_rfl) rfl #[.agg #[.int .i64 t4, .slice A_77 t5.length c_78, .bool t6, .int .i64 t7, .int .i64 t8, .int .i64 t9, .int .i64 t10], .agg #[.int .i64 t18, .int .i64 t19, .int .i64 t20]] (by rfl) rfl rfl (by (try simp only [List.map_toArray, List.map_cons, List.map_nil]); first | done | rfl | (simp only [List.length_drop, List.length_take]; rfl)) ?_
     refine (spec_SendNumber.calls k t4 _ _ t5 t6 t7 t8 t9 t10 t18 t19 t20 t22 t23 t24 t25 t26 t27 t28 t29 _ R79.readsC R79.readsN A30.out).mono ?_
     rintro e w8 ⟨v81, rfl, ho0, hb⟩
     refine ⟨_, rfl, ?_⟩
     obtain ⟨ok82, A_83, c_84, rfl, R85, F86⟩ := Rw.new HB ho0
     have D87 := R79.dis F86
     clear F86
     replace B2 := B2.up hb
     replace B3 := B3.up hb
     replace B6 := B6.up hb
     replace R79 := R79.up hb
     replace HB := uH HB hb
     clear hb ho0
     refine hK.out _ _ ⟨B2, B3⟩ (fun hHeld => ?_)
     clear hK K
     refine norm_ (a' := ?_) ?_ ?_
     rotate_left
     · show Act.put _ (some 26) _ = _
       simp only [Act.put, sA, sZ, sS, i64_w, i32_w]
       rfl
     refine pure_ (i := 5) (N := some 21) (v := ?_) (a' := ?_) (bm 11 319) rfl rfl (by kernel_rfl) (fun _ _ _ h => h) (Or.inl ⟨by rfl, ?_⟩) ?_ ?_
     rotate_left
     · intro w'
       go_simp
       with_reducible rfl
     rotate_left
     · simp only [Act.put, sA, sZ, sS, i64_w, i32_w]
       rfl
     refine pure_ (i := 6) (N := some 27) (v := ?_) (a' := ?_) (bm 11 383) rfl rfl (by kernel_rfl) (fun _ _ _ h => h) (Or.inl ⟨by rfl, ?_⟩) ?_ ?_
     rotate_left
     · intro w'
       go_simp
       with_reducible rfl
     rotate_left
     · simp only [Act.put, sA, sZ, sS, i64_w, i32_w]
       rfl
     refine pure_ (i := 7) (N := some 28) (v := ?_) (a' := ?_) (bm 11 511) rfl rfl (by kernel_rfl) (fun _ _ _ h => h) (Or.inl ⟨by rfl, ?_⟩) ?_ ?_
     rotate_left
     · intro w'
       go_simp
       with_reducible rfl
     rotate_left
     · simp only [Act.put, sA, sZ, sS, i64_w, i32_w]
       rfl
     exact norm_ (by simp only [putAll, Act.put, sA, sZ, sS]) (hCont (A_83, c_84, .slice A_77 t5.length c_78, gb6) _ ⟨hHeld, B2, B3, ⟨_, R85⟩, B6, N73, N74, HB⟩)
 clear hHeld B2 B3 HB
 rintro ⟨A_88, c_89, v90, gb6⟩ w5 ⟨hHeld, B2, B3, ⟨ok91, R92⟩, B6, N93, N94, HB⟩
 refine norm_ (a' := ?_) ?_ ?_
 rotate_left
 · simp only [putAll, Act.put, sA, sZ, sS]
   rfl
 refine one_ (i := 9) (N := none) (bm 11 1023) rfl rfl (by kernel_rfl) (by decide) (fun K hK => ?_)
 clear hHeld
 obtain ⟨qB6_0, qB6_1, qB6_2, qB6_3, qB6_4, qB6_5, qB6_6⟩ := cz7' B6
 obtain ⟨zB6_0, zB6_1, zB6_2, zB6_3, zB6_4, zB6_5, zB6_6⟩ := fz7' B6
 refine skip_ (w1 := (((((((w5.setCell ⟨gb6, 0, none⟩ (.int .i64 t22)).setCell ⟨gb6, 1, none⟩ (.slice A_88 t23.length c_89)).setCell ⟨gb6, 2, none⟩ (.bool t24)).setCell ⟨gb6, 3, none⟩ (.int .i64 t25)).setCell ⟨gb6, 4, none⟩ (.int .i64 t26)).setCell ⟨gb6, 5, none⟩ (.int .i64 t27)).setCell ⟨gb6, 6, none⟩ (.int .i64 t28))) (by rfl) rfl ?_ ?_
 · first | (go_simp; done) | (go_simp; rfl)
 clear qB6_0 qB6_1 qB6_2 qB6_3 qB6_4 qB6_5 qB6_6 zB6_0 zB6_1 zB6_2 zB6_3 zB6_4 zB6_5 zB6_6
 obtain ⟨b_, ho_⟩ := st7 (v0 := .int .i64 t22) (v1 := .slice A_88 t23.length c_89) (v2 := .bool t24) (v3 := .int .i64 t25) (v4 := .int .i64 t26) (v5 := .int .i64 t27) (v6 := .int .i64 t28) B6
 have hk := ho_.k
 replace B2 := B2.far hk N93
 replace B3 := B3.far hk N94
 replace R92 := R92.far B6 (by decide) hk
 replace HB := uHset HB ho_ B6
 clear hk ho_ B6
 have B6 := b_
 clear b_
 refine hK.out _ _ ⟨B2, B3⟩ (fun hHeld => ?_)
 clear hK K
 generalize (((((((w5.setCell ⟨gb6, 0, none⟩ (.int .i64 t22)).setCell ⟨gb6, 1, none⟩ (.slice A_88 t23.length c_89)).setCell ⟨gb6, 2, none⟩ (.bool t24)).setCell ⟨gb6, 3, none⟩ (.int .i64 t25)).setCell ⟨gb6, 4, none⟩ (.int .i64 t26)).setCell ⟨gb6, 5, none⟩ (.int .i64 t27)).setCell ⟨gb6, 6, none⟩ (.int .i64 t28)) = w6 at B2 B3 B6 R92 HB hHeld ⊢
 refine pure_ (i := 10) (N := some 7) (v := ?_) (a' := ?_) (bm 11 2047) rfl rfl (by kernel_rfl) (fun _ _ _ h => h) (Or.inl ⟨by rfl, ?_⟩) ?_ ?_
 rotate_left
 · intro w'
   go_simp
   with_reducible rfl
 rotate_left
 · simp only [Act.put, sA, sZ, sS, i64_w, i32_w]
   rfl
 clear hHeld
 refine done_ (by kernel_rfl) ?_
 obtain ⟨qB2_0, qB2_1, qB2_2, qB2_3, qB2_4, qB2_5, qB2_6⟩ := cz7' B2
 obtain ⟨zB2_0, zB2_1, zB2_2, zB2_3, zB2_4, zB2_5, zB2_6⟩ := fz7' B2
 go_wp2_with fail
 clear qB2_0 qB2_1 qB2_2 qB2_3 qB2_4 qB2_5 qB2_6 zB2_0 zB2_1 zB2_2 zB2_3 zB2_4 zB2_5 zB2_6
 refine (laws_toSpace.calls k a0_0 _ _ l0_1 a0_2 a0_3 a0_4 a0_5 a0_6 t4 t5 t6 t7 t8 t9 t10 _ (Kd.C_below HR0_1.out HB.out) HC0_1.out A11.out).mono ?_
 rintro e w7 ⟨v95, rfl, ho0, hb⟩
 obtain ⟨ok96, A_97, c_98, rfl, R99, F100⟩ := Rw.new HB ho0
 have D101 := R92.dis F100
 clear F100
 replace B2 := B2.up hb
 replace B3 := B3.up hb
 replace B6 := B6.up hb
 replace R92 := R92.up hb
 replace HB := uH HB hb
 clear hb ho0
 go_wp2_with (first | ((with_reducible refine gate_dst (N := 8) rfl ?_); refine box_event ?hg (N := 8) ?hd (cs := #[.int .i64 0, .slice none 0 0, .bool false, .int .i64 0, .int .i64 0, .int .i64 0, .int .i64 0]) (t := 79) ?hr ?_; (case hd => rfl); (case hg => rfl); (case hr => first | (go_simp; done) | (go_simp; rfl)); intro gb8 hg w8 hbox hb; have N102 := B2.ne hg; have N103 := B3.ne hg; have N104 := B6.ne hg; have hge : w.heap.size ≤ gb8 := Nat.le_trans HB.out.size (Nat.le_of_eq hg.symm); replace B2 := B2.up hb; replace B3 := B3.up hb; replace B6 := B6.up hb; replace R92 := R92.up hb; replace R99 := R99.up hb; replace HB := uH HB hb; have B8 : Bx w.heap.size w8 gb8 #[.int .i64 0, .slice none 0 0, .bool false, .int .i64 0, .int .i64 0, .int .i64 0, .int .i64 0] 79 := ⟨hbox, hge⟩; clear hb hbox hg hge; obtain ⟨qB8_0, qB8_1, qB8_2, qB8_3, qB8_4, qB8_5, qB8_6⟩ := cz7' B8; obtain ⟨zB8_0, zB8_1, zB8_2, zB8_3, zB8_4, zB8_5, zB8_6⟩ := fz7' B8))
 clear qB8_0 qB8_1 qB8_2 qB8_3 qB8_4 qB8_5 qB8_6 zB8_0 zB8_1 zB8_2 zB8_3 zB8_4 zB8_5 zB8_6
 obtain ⟨b_, ho_⟩ := st7 (v0 := .int .i64 t4) (v1 := .slice A_97 t5.length c_98) (v2 := .bool t6) (v3 := .int .i64 t7) (v4 := .int .i64 t8) (v5 := .int .i64 t9) (v6 := .int .i64 t10) B8
 have hk := ho_.k
 replace B2 := B2.far hk N102
 replace B3 := B3.far hk N103
 replace B6 := B6.far hk N104
 replace R92 := R92.far B8 (by decide) hk
 replace R99 := R99.far B8 (by decide) hk
 replace HB := uHset HB ho_ B8
 clear hk ho_ B8
 have B8 := b_
 clear b_
 generalize (((((((w8.setCell ⟨gb8, 0, none⟩ (.int .i64 t4)).setCell ⟨gb8, 1, none⟩ (.slice A_97 t5.length c_98)).setCell ⟨gb8, 2, none⟩ (.bool t6)).setCell ⟨gb8, 3, none⟩ (.int .i64 t7)).setCell ⟨gb8, 4, none⟩ (.int .i64 t8)).setCell ⟨gb8, 5, none⟩ (.int .i64 t9)).setCell ⟨gb8, 6, none⟩ (.int .i64 t10)) = w9 at B2 B3 B6 B8 R92 R99 HB ⊢
 refine start_ (n := 10) (S := fun w' => Bx w.heap.size w' gb8 #[.int .i64 t4, .slice A_97 t5.length c_98, .bool t6, .int .i64 t7, .int .i64 t8, .int .i64 t9, .int .i64 t10] 79 ∧ Bx w.heap.size w' gb3 #[.int .i64 a1_0, .int .i64 a1_1, .int .i64 a1_2] 74) (ds := []) (bm 10 0) (by kernel_rfl) rfl rfl ⟨B8.up (bd _), B3.up (bd _)⟩ (fun hHeld => ?_)
 replace B2 := B2.up (bd _)
 replace B3 := B3.up (bd _)
 replace B6 := B6.up (bd _)
 replace B8 := B8.up (bd _)
 replace R92 := R92.up (bd _)
 replace R99 := R99.up (bd _)
 replace HB := uHd HB
 generalize w9.drew = w10 at B2 B3 B6 B8 R92 R99 HB hHeld ⊢
 refine take_ (i := 0) (N := some 32) (v := ?_) (a' := ?_) (bm 10 1) rfl rfl (by kernel_rfl) (fun _ _ _ h => h) (Or.inl ⟨by rfl, ?_⟩) hHeld ?_ ?_
 rotate_left
 · rintro w' ⟨s0, s1⟩
   obtain ⟨q0, q1, q2, q3, q4, q5, q6⟩ := cz7' s0
   go_simp
   with_reducible rfl
 rotate_left
 · simp only [Act.put, sA, sZ, sS, i64_w, i32_w]
   rfl
 refine take_ (i := 1) (N := some 33) (v := ?_) (a' := ?_) (bm 10 3) rfl rfl (by kernel_rfl) (fun _ _ _ h => h) (Or.inl ⟨by rfl, ?_⟩) hHeld ?_ ?_
 rotate_left
 · rintro w' ⟨s0, s1⟩
   obtain ⟨q0, q1, q2⟩ := cz3' s1
   go_simp
   with_reducible rfl
 rotate_left
 · simp only [Act.put, sA, sZ, sS, i64_w, i32_w]
   rfl
 refine join_ (σ := Option Addr × Nat × Nat) 2 (bm 10 255) (fun s_ => [(34, .agg #[.int .i64 t18, .int .i64 t19, .int .i64 t20]), (35, .tuple #[.agg #[.int .i64 t22, .slice s_.1 t23.length s_.2.1, .bool t24, .int .i64 t25, .int .i64 t26, .int .i64 t27, .int .i64 t28], .bool t29]), (31, .tuple #[.agg #[.int .i64 t22, .slice s_.1 t23.length s_.2.1, .bool t24, .int .i64 t25, .int .i64 t26, .int .i64 t27, .int .i64 t28], .bool t29]), (36, .agg #[.int .i64 t22, .slice s_.1 t23.length s_.2.1, .bool t24, .int .i64 t25, .int .i64 t26, .int .i64 t27, .int .i64 t28]), (37, .bool t29), (9, .pointer (some ⟨s_.2.2, 0, none⟩))]) (fun s_ w' => (Bx w.heap.size w' gb8 #[.int .i64 t4, .slice A_97 t5.length c_98, .bool t6, .int .i64 t7, .int .i64 t8, .int .i64 t9, .int .i64 t10] 79 ∧ Bx w.heap.size w' gb3 #[.int .i64 a1_0, .int .i64 a1_1, .int .i64 a1_2] 74) ∧ Bx w.heap.size w' gb2 #[.int .i64 a0_0, .slice A0_1 l0_1.length c0_1, .bool a0_2, .int .i64 a0_3, .int .i64 a0_4, .int .i64 a0_5, .int .i64 a0_6] 72 ∧ Bx w.heap.size w' gb3 #[.int .i64 a1_0, .int .i64 a1_1, .int .i64 a1_2] 74 ∧ Bx w.heap.size w' gb6 #[.int .i64 t22, .slice A_88 t23.length c_89, .bool t24, .int .i64 t25, .int .i64 t26, .int .i64 t27, .int .i64 t28] 79 ∧ Bx w.heap.size w' gb8 #[.int .i64 t4, .slice A_97 t5.length c_98, .bool t6, .int .i64 t7, .int .i64 t8, .int .i64 t9, .int .i64 t10] 79 ∧ Rw k83 83 w.heap.size w' ok91 (.slice A_88 t23.length c_89) t23 ∧ Rw k83 83 w.heap.size w' ok96 (.slice A_97 t5.length c_98) t5 ∧ (∃ ok_ : Nat → Prop, Rw k83 83 w.heap.size w' ok_ (.slice s_.1 t23.length s_.2.1) t23 ∧ Dis ok_ ok91 ∧ Dis ok_ ok96) ∧ Bx w.heap.size w' s_.2.2 #[.int .i64 0, .slice none 0 0, .bool false, .int .i64 0, .int .i64 0, .int .i64 0, .int .i64 0] 79 ∧ Aside0 (gb2 ≠ s_.2.2) ∧ Aside0 (gb3 ≠ s_.2.2) ∧ Aside0 (gb6 ≠ s_.2.2) ∧ Aside0 (gb8 ≠ s_.2.2) ∧ Aside0 (Below w.heap.size w w')) ?_ ?_
 rotate_left
 · intro hCont
   refine two_ (i := 2) (j := 7) (Ni := some 34) (Nj := some 9) (bm 10 7) (bm 10 131) rfl rfl rfl rfl (by kernel_rfl) (by decide) (by decide) (fun K hK => ?_) (fun K hK => ?_)
   · skip
     clear hHeld
     refine goes_ Try.func46 (by kernel_rfl) rfl #[.agg #[.int .i64 a1_0, .int .i64 a1_1, .int .i64 a1_2]] (by rfl) rfl rfl (by (try simp only [List.map_toArray, List.map_cons, List.map_nil]); first | done | rfl | (simp only [List.length_drop, List.length_take]; rfl)) ?_
     refine (laws_toSent.calls a1_0 a1_1 a1_2 t18 t19 t20 _ A21.out).mono ?_
     rintro e w11 ⟨rfl, hb⟩
     refine ⟨_, rfl, ?_⟩
     replace B2 := B2.up hb
     replace B3 := B3.up hb
     replace B6 := B6.up hb
     replace B8 := B8.up hb
     replace R92 := R92.up hb
     replace R99 := R99.up hb
     replace HB := uH HB hb
     clear hb
     refine hK.out _ _ ⟨B8, B3⟩ (fun hHeld => ?_)
     clear hK K
     refine norm_ (a' := ?_) ?_ ?_
     rotate_left
     · show Act.put _ (some 34) _ = _
       simp only [Act.put, sA, sZ, sS, i64_w, i32_w]
       rfl
     refine two_ (i := 3) (j := 7) (Ni := some 35) (Nj := some 9) (bm 10 15) (bm 10 135) rfl rfl rfl rfl (by kernel_rfl) (by decide) (by decide) (fun K hK => ?_) (fun K hK => ?_)
     · skip
       clear hHeld
       refine goes_ Try.func47 (by kernel_rfl) rfl #[.agg #[.int .i64 t4, .slice A_97 t5.length c_98, .bool t6, .int .i64 t7, .int .i64 t8, .int .i64 t9, .int .i64 t10], .agg #[.int .i64 t18, .int .i64 t19, .int .i64 t20]] (by rfl) rfl rfl (by (try simp only [List.map_toArray, List.map_cons, List.map_nil]); first | done | rfl | (simp only [List.length_drop, List.length_take]; rfl)) ?_
       refine (impl_SendNumber.calls k t4 _ _ t5 t6 t7 t8 t9 t10 t18 t19 t20 t22 t23 t24 t25 t26 t27 t28 t29 _ R99.readsC R99.readsN A105.out).mono ?_
       rintro e w12 ⟨v118, rfl, ho0, hb⟩
       refine ⟨_, rfl, ?_⟩
       obtain ⟨ok119, A_120, c_121, rfl, R122, F123⟩ := Rw.new HB ho0
       have D124 := R92.dis F123
       have D125 := R99.dis F123
       clear F123
       replace B2 := B2.up hb
       replace B3 := B3.up hb
       replace B6 := B6.up hb
       replace B8 := B8.up hb
       replace R92 := R92.up hb
       replace R99 := R99.up hb
       replace HB := uH HB hb
       clear hb ho0
       refine hK.out _ _ ⟨B8, B3⟩ (fun hHeld => ?_)
       clear hK K
       refine norm_ (a' := ?_) ?_ ?_
       rotate_left
       · show Act.put _ (some 35) _ = _
         simp only [Act.put, sA, sZ, sS, i64_w, i32_w]
         rfl
       refine pure_ (i := 4) (N := some 31) (v := ?_) (a' := ?_) (bm 10 31) rfl rfl (by kernel_rfl) (fun _ _ _ h => h) (Or.inl ⟨by rfl, ?_⟩) ?_ ?_
       rotate_left
       · intro w'
         go_simp
         with_reducible rfl
       rotate_left
       · simp only [Act.put, sA, sZ, sS, i64_w, i32_w]
         rfl
       refine pure_ (i := 5) (N := some 36) (v := ?_) (a' := ?_) (bm 10 63) rfl rfl (by kernel_rfl) (fun _ _ _ h => h) (Or.inl ⟨by rfl, ?_⟩) ?_ ?_
       rotate_left
       · intro w'
         go_simp
         with_reducible rfl
       rotate_left
       · simp only [Act.put, sA, sZ, sS, i64_w, i32_w]
         rfl
       refine pure_ (i := 6) (N := some 37) (v := ?_) (a' := ?_) (bm 10 127) rfl rfl (by kernel_rfl) (fun _ _ _ h => h) (Or.inl ⟨by rfl, ?_⟩) ?_ ?_
       rotate_left
       · intro w'
         go_simp
         with_reducible rfl
       rotate_left
       · simp only [Act.put, sA, sZ, sS, i64_w, i32_w]
         rfl
       refine one_ (i := 7) (N := some 9) (bm 10 255) rfl rfl (by kernel_rfl) (by decide) (fun K hK => ?_)
       clear hHeld
       refine box_step ?hg (N := 9) ?hd (cs := #[.int .i64 0, .slice none 0 0, .bool false, .int .i64 0, .int .i64 0, .int .i64 0, .int .i64 0]) (t := 79) ?hr ?_; (case hd => rfl); (case hg => rfl); (case hr => first | (go_simp; done) | (go_simp; rfl))
       intro gb9 hg w13 hbox hb
       have N126 := B2.ne hg
       have N127 := B3.ne hg
       have N128 := B6.ne hg
       have N129 := B8.ne hg
       have hge : w.heap.size ≤ gb9 := Nat.le_trans HB.out.size (Nat.le_of_eq hg.symm)
       replace B2 := B2.up hb
       replace B3 := B3.up hb
       replace B6 := B6.up hb
       replace B8 := B8.up hb
       replace R92 := R92.up hb
       replace R99 := R99.up hb
       replace R122 := R122.up hb
       replace HB := uH HB hb
       have B9 : Bx w.heap.size w13 gb9 #[.int .i64 0, .slice none 0 0, .bool false, .int .i64 0, .int .i64 0, .int .i64 0, .int .i64 0] 79 := ⟨hbox, hge⟩
       clear hb hbox hg hge
       refine hK.out _ _ ⟨B8, B3⟩ (fun hHeld => ?_)
       clear hK K
       refine norm_ (a' := ?_) ?_ ?_
       rotate_left
       · show Act.put _ (some 9) _ = _
         simp only [Act.put, sA, sZ, sS, i64_w, i32_w]
         rfl
       exact norm_ (by simp only [putAll, Act.put, sA, sZ, sS]) (hCont (A_120, c_121, gb9) _ ⟨hHeld, B2, B3, B6, B8, R92, R99, ⟨_, R122, D124, D125⟩, B9, N126, N127, N128, N129, HB⟩)
     · skip
       clear hHeld
       refine box_step ?hg (N := 9) ?hd (cs := #[.int .i64 0, .slice none 0 0, .bool false, .int .i64 0, .int .i64 0, .int .i64 0, .int .i64 0]) (t := 79) ?hr ?_; (case hd => rfl); (case hg => rfl); (case hr => first | (go_simp; done) | (go_simp; rfl))
       intro gb9 hg w12 hbox hb
       have N130 := B2.ne hg
       have N131 := B3.ne hg
       have N132 := B6.ne hg
       have N133 := B8.ne hg
       have hge : w.heap.size ≤ gb9 := Nat.le_trans HB.out.size (Nat.le_of_eq hg.symm)
       replace B2 := B2.up hb
       replace B3 := B3.up hb
       replace B6 := B6.up hb
       replace B8 := B8.up hb
       replace R92 := R92.up hb
       replace R99 := R99.up hb
       replace HB := uH HB hb
       have B9 : Bx w.heap.size w12 gb9 #[.int .i64 0, .slice none 0 0, .bool false, .int .i64 0, .int .i64 0, .int .i64 0, .int .i64 0] 79 := ⟨hbox, hge⟩
       clear hb hbox hg hge
       refine hK.out _ _ ⟨B8, B3⟩ (fun hHeld => ?_)
       clear hK K
       refine norm_ (a' := ?_) ?_ ?_
       rotate_left
       · show Act.put _ (some 9) _ = _
         simp only [Act.put, sA, sZ, sS, i64_w, i32_w]
         rfl
       refine one_ (i := 3) (N := some 35) (bm 10 143) rfl rfl (by kernel_rfl) (by decide) (fun K hK => ?_)
       clear hHeld
       refine goes_ Try.func47 (by kernel_rfl) rfl #[.agg #[.int .i64 t4, .slice A_97 t5.length c_98, .bool t6, .int .i64 t7, .int .i64 t8, .int .i64 t9, .int .i64 t10], .agg #[.int .i64 t18, .int .i64 t19, .int .i64 t20]] (by rfl) rfl rfl (by (try simp only [List.map_toArray, List.map_cons, List.map_nil]); first | done | rfl | (simp only [List.length_drop, List.length_take]; rfl)) ?_
       refine (impl_SendNumber.calls k t4 _ _ t5 t6 t7 t8 t9 t10 t18 t19 t20 t22 t23 t24 t25 t26 t27 t28 t29 _ R99.readsC R99.readsN A105.out).mono ?_
       rintro e w13 ⟨v134, rfl, ho0, hb⟩
       refine ⟨_, rfl, ?_⟩
       obtain ⟨ok135, A_136, c_137, rfl, R138, F139⟩ := Rw.new HB ho0
       have D140 := R92.dis F139
       have D141 := R99.dis F139
       clear F139
       replace B2 := B2.up hb
       replace B3 := B3.up hb
       replace B6 := B6.up hb
       replace B8 := B8.up hb
       replace B9 := B9.up hb
       replace R92 := R92.up hb
       replace R99 := R99.up hb
       replace HB := uH HB hb
       clear hb ho0
       refine hK.out _ _ ⟨B8, B3⟩ (fun hHeld => ?_)
       clear hK K
       refine norm_ (a' := ?_) ?_ ?_
       rotate_left
       · show Act.put _ (some 35) _ = _
         simp only [Act.put, sA, sZ, sS, i64_w, i32_w]
         rfl
       refine pure_ (i := 4) (N := some 31) (v := ?_) (a' := ?_) (bm 10 159) rfl rfl (by kernel_rfl) (fun _ _ _ h => h) (Or.inl ⟨by rfl, ?_⟩) ?_ ?_
       rotate_left
       · intro w'
         go_simp
         with_reducible rfl
       rotate_left
       · simp only [Act.put, sA, sZ, sS, i64_w, i32_w]
         rfl
       refine pure_ (i := 5) (N := some 36) (v := ?_) (a' := ?_) (bm 10 191) rfl rfl (by kernel_rfl) (fun _ _ _ h => h) (Or.inl ⟨by rfl, ?_⟩) ?_ ?_
       rotate_left
       · intro w'
         go_simp
         with_reducible rfl
       rotate_left
       · simp only [Act.put, sA, sZ, sS, i64_w, i32_w]
         rfl
       refine pure_ (i := 6) (N := some 37) (v := ?_) (a' := ?_) (bm 10 255) rfl rfl (by kernel_rfl) (fun _ _ _ h => h) (Or.inl ⟨by rfl, ?_⟩) ?_ ?_
       rotate_left
       · intro w'
         go_simp
         with_reducible rfl
       rotate_left
       · simp only [Act.put, sA, sZ, sS, i64_w, i32_w]
         rfl
       exact norm_ (by simp only [putAll, Act.put, sA, sZ, sS]) (hCont (A_136, c_137, gb9) _ ⟨hHeld, B2, B3, B6, B8, R92, R99, ⟨_, R138, D140, D141⟩, B9, N130, N131, N132, N133, HB⟩)
   · skip
     clear hHeld
     refine box_step ?hg (N := 9) ?hd (cs := #[.int .i64 0, .slice none 0 0, .bool false, .int .i64 0, .int .i64 0, .int .i64 0, .int .i64 0]) (t := 79) ?hr ?_; (case hd => rfl); (case hg => rfl); (case hr => first | (go_simp; done) | (go_simp; rfl))
     intro gb9 hg w11 hbox hb
     have N142 := B2.ne hg
     have N143 := B3.ne hg
     have N144 := B6.ne hg
     have N145 := B8.ne hg
     have hge : w.heap.size ≤ gb9 := Nat.le_trans HB.out.size (Nat.le_of_eq hg.symm)
     replace B2 := B2.up hb
     replace B3 := B3.up hb
     replace B6 := B6.up hb
     replace B8 := B8.up hb
     replace R92 := R92.up hb
     replace R99 := R99.up hb
     replace HB := uH HB hb
     have B9 : Bx w.heap.size w11 gb9 #[.int .i64 0, .slice none 0 0, .bool false, .int .i64 0, .int .i64 0, .int .i64 0, .int .i64 0] 79 := ⟨hbox, hge⟩
     clear hb hbox hg hge
     refine hK.out _ _ ⟨B8, B3⟩ (fun hHeld => ?_)
     clear hK K
     refine norm_ (a' := ?_) ?_ ?_
     rotate_left
     · show Act.put _ (some 9) _ = _
       simp only [Act.put, sA, sZ, sS, i64_w, i32_w]
       rfl
     refine one_ (i := 2) (N := some 34) (bm 10 135) rfl rfl (by kernel_rfl) (by decide) (fun K hK => ?_)
     clear hHeld
     refine goes_ Try.func46 (by kernel_rfl) rfl #[.agg #[.int .i64 a1_0, .int .i64 a1_1, .int .i64 a1_2]] (by rfl) rfl rfl (by (try simp only [List.map_toArray, List.map_cons, List.map_nil]); first | done | rfl | (simp only [List.length_drop, List.length_take]; rfl)) ?_
     refine (laws_toSent.calls a1_0 a1_1 a1_2 t18 t19 t20 _ A21.out).mono ?_
     rintro e w12 ⟨rfl, hb⟩
     refine ⟨_, rfl, ?_⟩
     replace B2 := B2.up hb
     replace B3 := B3.up hb
     replace B6 := B6.up hb
     replace B8 := B8.up hb
     replace B9 := B9.up hb
     replace R92 := R92.up hb
     replace R99 := R99.up hb
     replace HB := uH HB hb
     clear hb
     refine hK.out _ _ ⟨B8, B3⟩ (fun hHeld => ?_)
     clear hK K
     refine norm_ (a' := ?_) ?_ ?_
     rotate_left
     · show Act.put _ (some 34) _ = _
       simp only [Act.put, sA, sZ, sS, i64_w, i32_w]
       rfl
     refine one_ (i := 3) (N := some 35) (bm 10 143) rfl rfl (by kernel_rfl) (by decide) (fun K hK => ?_)
     clear hHeld
     refine goes_ Try.func47 (by kernel_rfl) rfl #[.agg #[.int .i64 t4, .slice A_97 t5.length c_98, .bool t6, .int .i64 t7, .int .i64 t8, .int .i64 t9, .int .i64 t10], .agg #[.int .i64 t18, .int .i64 t19, .int .i64 t20]] (by rfl) rfl rfl (by (try simp only [List.map_toArray, List.map_cons, List.map_nil]); first | done | rfl | (simp only [List.length_drop, List.length_take]; rfl)) ?_
     refine (impl_SendNumber.calls k t4 _ _ t5 t6 t7 t8 t9 t10 t18 t19 t20 t22 t23 t24 t25 t26 t27 t28 t29 _ R99.readsC R99.readsN A105.out).mono ?_
     rintro e w13 ⟨v146, rfl, ho0, hb⟩
     refine ⟨_, rfl, ?_⟩
     obtain ⟨ok147, A_148, c_149, rfl, R150, F151⟩ := Rw.new HB ho0
     have D152 := R92.dis F151
     have D153 := R99.dis F151
     clear F151
     replace B2 := B2.up hb
     replace B3 := B3.up hb
     replace B6 := B6.up hb
     replace B8 := B8.up hb
     replace B9 := B9.up hb
     replace R92 := R92.up hb
     replace R99 := R99.up hb
     replace HB := uH HB hb
     clear hb ho0
     refine hK.out _ _ ⟨B8, B3⟩ (fun hHeld => ?_)
     clear hK K
     refine norm_ (a' := ?_) ?_ ?_
     rotate_left
     · show Act.put _ (some 35) _ = _
       simp only [Act.put, sA, sZ, sS, i64_w, i32_w]
       rfl
     refine pure_ (i := 4) (N := some 31) (v := ?_) (a' := ?_) (bm 10 159) rfl rfl (by kernel_rfl) (fun _ _ _ h => h) (Or.inl ⟨by rfl, ?_⟩) ?_ ?_
     rotate_left
     · intro w'
       go_simp
       with_reducible rfl
     rotate_left
     · simp only [Act.put, sA, sZ, sS, i64_w, i32_w]
       rfl
     refine pure_ (i := 5) (N := some 36) (v := ?_) (a' := ?_) (bm 10 191) rfl rfl (by kernel_rfl) (fun _ _ _ h => h) (Or.inl ⟨by rfl, ?_⟩) ?_ ?_
     rotate_left
     · intro w'
       go_simp
       with_reducible rfl
     rotate_left
     · simp only [Act.put, sA, sZ, sS, i64_w, i32_w]
       rfl
     refine pure_ (i := 6) (N := some 37) (v := ?_) (a' := ?_) (bm 10 255) rfl rfl (by kernel_rfl) (fun _ _ _ h => h) (Or.inl ⟨by rfl, ?_⟩) ?_ ?_
     rotate_left
     · intro w'
       go_simp
       with_reducible rfl
     rotate_left
     · simp only [Act.put, sA, sZ, sS, i64_w, i32_w]
       rfl
     exact norm_ (by simp only [putAll, Act.put, sA, sZ, sS]) (hCont (A_148, c_149, gb9) _ ⟨hHeld, B2, B3, B6, B8, R92, R99, ⟨_, R150, D152, D153⟩, B9, N142, N143, N144, N145, HB⟩)
 clear hHeld B2 B3 B6 B8 R92 R99 HB
 rintro ⟨A_154, c_155, gb9⟩ w11 ⟨hHeld, B2, B3, B6, B8, R92, R99, ⟨ok156, R157, D158, D159⟩, B9, N160, N161, N162, N163, HB⟩
 refine norm_ (a' := ?_) ?_ ?_
 rotate_left
 · simp only [putAll, Act.put, sA, sZ, sS]
   rfl
 refine one_ (i := 8) (N := none) (bm 10 511) rfl rfl (by kernel_rfl) (by decide) (fun K hK => ?_)
 clear hHeld
 obtain ⟨qB9_0, qB9_1, qB9_2, qB9_3, qB9_4, qB9_5, qB9_6⟩ := cz7' B9
 obtain ⟨zB9_0, zB9_1, zB9_2, zB9_3, zB9_4, zB9_5, zB9_6⟩ := fz7' B9
 refine skip_ (w1 := (((((((w11.setCell ⟨gb9, 0, none⟩ (.int .i64 t22)).setCell ⟨gb9, 1, none⟩ (.slice A_154 t23.length c_155)).setCell ⟨gb9, 2, none⟩ (.bool t24)).setCell ⟨gb9, 3, none⟩ (.int .i64 t25)).setCell ⟨gb9, 4, none⟩ (.int .i64 t26)).setCell ⟨gb9, 5, none⟩ (.int .i64 t27)).setCell ⟨gb9, 6, none⟩ (.int .i64 t28))) (by rfl) rfl ?_ ?_
 · first | (go_simp; done) | (go_simp; rfl)
 clear qB9_0 qB9_1 qB9_2 qB9_3 qB9_4 qB9_5 qB9_6 zB9_0 zB9_1 zB9_2 zB9_3 zB9_4 zB9_5 zB9_6
 obtain ⟨b_, ho_⟩ := st7 (v0 := .int .i64 t22) (v1 := .slice A_154 t23.length c_155) (v2 := .bool t24) (v3 := .int .i64 t25) (v4 := .int .i64 t26) (v5 := .int .i64 t27) (v6 := .int .i64 t28) B9
 have hk := ho_.k
 replace B2 := B2.far hk N160
 replace B3 := B3.far hk N161
 replace B6 := B6.far hk N162
 replace B8 := B8.far hk N163
 replace R92 := R92.far B9 (by decide) hk
 replace R99 := R99.far B9 (by decide) hk
 replace R157 := R157.far B9 (by decide) hk
 replace HB := uHset HB ho_ B9
 clear hk ho_ B9
 have B9 := b_
 clear b_
 refine hK.out _ _ ⟨B8, B3⟩ (fun hHeld => ?_)
 clear hK K
 generalize (((((((w11.setCell ⟨gb9, 0, none⟩ (.int .i64 t22)).setCell ⟨gb9, 1, none⟩ (.slice A_154 t23.length c_155)).setCell ⟨gb9, 2, none⟩ (.bool t24)).setCell ⟨gb9, 3, none⟩ (.int .i64 t25)).setCell ⟨gb9, 4, none⟩ (.int .i64 t26)).setCell ⟨gb9, 5, none⟩ (.int .i64 t27)).setCell ⟨gb9, 6, none⟩ (.int .i64 t28)) = w12 at B2 B3 B6 B8 B9 R92 R99 R157 HB hHeld ⊢
 refine pure_ (i := 9) (N := some 10) (v := ?_) (a' := ?_) (bm 10 1023) rfl rfl (by kernel_rfl) (fun _ _ _ h => h) (Or.inl ⟨by rfl, ?_⟩) ?_ ?_
 rotate_left
 · intro w'
   go_simp
   with_reducible rfl
 rotate_left
 · simp only [Act.put, sA, sZ, sS, i64_w, i32_w]
   rfl
 clear hHeld
 refine done_ (by kernel_rfl) ?_
 obtain ⟨qB9_0, qB9_1, qB9_2, qB9_3, qB9_4, qB9_5, qB9_6⟩ := cz7' B9
 obtain ⟨zB9_0, zB9_1, zB9_2, zB9_3, zB9_4, zB9_5, zB9_6⟩ := fz7' B9
 obtain ⟨qB6_0, qB6_1, qB6_2, qB6_3, qB6_4, qB6_5, qB6_6⟩ := cz7' B6
 obtain ⟨zB6_0, zB6_1, zB6_2, zB6_3, zB6_4, zB6_5, zB6_6⟩ := fz7' B6
 go_wp2_with fail
 clear qB9_0 qB9_1 qB9_2 qB9_3 qB9_4 qB9_5 qB9_6 zB9_0 zB9_1 zB9_2 zB9_3 zB9_4 zB9_5 zB9_6 qB6_0 qB6_1 qB6_2 qB6_3 qB6_4 qB6_5 qB6_6 zB6_0 zB6_1 zB6_2 zB6_3 zB6_4 zB6_5 zB6_6
 refine (laws_eqSpace.calls k t22 _ _ t23 t24 t25 t26 t27 t28 t22 _ _ t23 t24 t25 t26 t27 t28 true _ R157.readsC R157.readsN R92.readsC R92.readsN A164.out).mono ?_
 rintro e w13 ⟨rfl, hb⟩
 replace B2 := B2.up hb
 replace B3 := B3.up hb
 replace B6 := B6.up hb
 replace B8 := B8.up hb
 replace B9 := B9.up hb
 replace R92 := R92.up hb
 replace R99 := R99.up hb
 replace R157 := R157.up hb
 replace HB := uH HB hb
 clear hb
 go_wp2_with fail
 refine start_ (n := 5) (S := fun w' => Bx w.heap.size w' gb8 #[.int .i64 t4, .slice A_97 t5.length c_98, .bool t6, .int .i64 t7, .int .i64 t8, .int .i64 t9, .int .i64 t10] 79 ∧ Bx w.heap.size w' gb2 #[.int .i64 a0_0, .slice A0_1 l0_1.length c0_1, .bool a0_2, .int .i64 a0_3, .int .i64 a0_4, .int .i64 a0_5, .int .i64 a0_6] 72) (ds := []) (bm 5 0) (by kernel_rfl) rfl rfl ⟨B8.up (bd _), B2.up (bd _)⟩ (fun hHeld => ?_)
 replace B2 := B2.up (bd _)
 replace B3 := B3.up (bd _)
 replace B6 := B6.up (bd _)
 replace B8 := B8.up (bd _)
 replace B9 := B9.up (bd _)
 replace R92 := R92.up (bd _)
 replace R99 := R99.up (bd _)
 replace R157 := R157.up (bd _)
 replace HB := uHd HB
 generalize w13.drew = w14 at B2 B3 B6 B8 B9 R92 R99 R157 HB hHeld ⊢
 refine take_ (i := 0) (N := some 47) (v := ?_) (a' := ?_) (bm 5 1) rfl rfl (by kernel_rfl) (fun _ _ _ h => h) (Or.inl ⟨by rfl, ?_⟩) hHeld ?_ ?_
 rotate_left
 · rintro w' ⟨s0, s1⟩
   obtain ⟨q0, q1, q2, q3, q4, q5, q6⟩ := cz7' s0
   go_simp
   with_reducible rfl
 rotate_left
 · simp only [Act.put, sA, sZ, sS, i64_w, i32_w]
   rfl
 refine take_ (i := 1) (N := some 48) (v := ?_) (a' := ?_) (bm 5 3) rfl rfl (by kernel_rfl) (fun _ _ _ h => h) (Or.inl ⟨by rfl, ?_⟩) hHeld ?_ ?_
 rotate_left
 · rintro w' ⟨s0, s1⟩
   obtain ⟨q0, q1, q2, q3, q4, q5, q6⟩ := cz7' s1
   go_simp
   with_reducible rfl
 rotate_left
 · simp only [Act.put, sA, sZ, sS, i64_w, i32_w]
   rfl
 refine one_ (i := 2) (N := some 49) (bm 5 7) rfl rfl (by kernel_rfl) (by decide) (fun K hK => ?_)
 clear hHeld
 refine goes_ Try.func45 (by kernel_rfl) rfl #[.agg #[.int .i64 a0_0, .slice A0_1 l0_1.length c0_1, .bool a0_2, .int .i64 a0_3, .int .i64 a0_4, .int .i64 a0_5, .int .i64 a0_6]] (by rfl) rfl rfl (by (try simp only [List.map_toArray, List.map_cons, List.map_nil]); first | done | rfl | (simp only [List.length_drop, List.length_take]; rfl)) ?_
 refine (laws_toSpace.calls k a0_0 _ _ l0_1 a0_2 a0_3 a0_4 a0_5 a0_6 t4 t5 t6 t7 t8 t9 t10 _ (Kd.C_below HR0_1.out HB.out) HC0_1.out A11.out).mono ?_
 rintro e w15 ⟨v165, rfl, ho0, hb⟩
 refine ⟨_, rfl, ?_⟩
 obtain ⟨ok166, A_167, c_168, rfl, R169, F170⟩ := Rw.new HB ho0
 have D171 := R92.dis F170
 have D172 := R99.dis F170
 have D173 := R157.dis F170
 clear F170
 replace B2 := B2.up hb
 replace B3 := B3.up hb
 replace B6 := B6.up hb
 replace B8 := B8.up hb
 replace B9 := B9.up hb
 replace R92 := R92.up hb
 replace R99 := R99.up hb
 replace R157 := R157.up hb
 replace HB := uH HB hb
 clear hb ho0
 refine hK.out _ _ ⟨B8, B2⟩ (fun hHeld => ?_)
 clear hK K
 refine norm_ (a' := ?_) ?_ ?_
 rotate_left
 · show Act.put _ (some 49) _ = _
   simp only [Act.put, sA, sZ, sS, i64_w, i32_w]
   rfl
 refine one_ (i := 3) (N := some 50) (bm 5 15) rfl rfl (by kernel_rfl) (by decide) (fun K hK => ?_)
 clear hHeld
 refine goes_ Try.func48 (by kernel_rfl) rfl #[.agg #[.int .i64 t4, .slice A_97 t5.length c_98, .bool t6, .int .i64 t7, .int .i64 t8, .int .i64 t9, .int .i64 t10], .agg #[.int .i64 t4, .slice A_167 t5.length c_168, .bool t6, .int .i64 t7, .int .i64 t8, .int .i64 t9, .int .i64 t10]] (by rfl) rfl rfl (by (try simp only [List.map_toArray, List.map_cons, List.map_nil]); first | done | rfl | (simp only [List.length_drop, List.length_take]; rfl)) ?_
 refine (laws_eqSpace.calls k t4 _ _ t5 t6 t7 t8 t9 t10 t4 _ _ t5 t6 t7 t8 t9 t10 true _ R99.readsC R99.readsN R169.readsC R169.readsN A174.out).mono ?_
 rintro e w16 ⟨rfl, hb⟩
 refine ⟨_, rfl, ?_⟩
 replace B2 := B2.up hb
 replace B3 := B3.up hb
 replace B6 := B6.up hb
 replace B8 := B8.up hb
 replace B9 := B9.up hb
 replace R92 := R92.up hb
 replace R99 := R99.up hb
 replace R157 := R157.up hb
 replace R169 := R169.up hb
 replace HB := uH HB hb
 clear hb
 refine hK.out _ _ ⟨B8, B2⟩ (fun hHeld => ?_)
 clear hK K
 refine norm_ (a' := ?_) ?_ ?_
 rotate_left
 · show Act.put _ (some 50) _ = _
   simp only [Act.put, sA, sZ, sS, i64_w, i32_w]
   rfl
 refine pure_ (i := 4) (N := some 51) (v := ?_) (a' := ?_) (bm 5 31) rfl rfl (by kernel_rfl) (fun _ _ _ h => h) (Or.inl ⟨by rfl, ?_⟩) ?_ ?_
 rotate_left
 · intro w'
   go_simp
   with_reducible rfl
 rotate_left
 · simp only [Act.put, sA, sZ, sS, i64_w, i32_w]
   rfl
 clear hHeld
 refine done_ (by kernel_rfl) ?_
 clear R169
 obtain ⟨qB8_0, qB8_1, qB8_2, qB8_3, qB8_4, qB8_5, qB8_6⟩ := cz7' B8
 obtain ⟨zB8_0, zB8_1, zB8_2, zB8_3, zB8_4, zB8_5, zB8_6⟩ := fz7' B8
 go_wp2_with fail
 clear qB8_0 qB8_1 qB8_2 qB8_3 qB8_4 qB8_5 qB8_6 zB8_0 zB8_1 zB8_2 zB8_3 zB8_4 zB8_5 zB8_6
 replace R99 := R99.shrink (NoB.cons B2 (by decide) (NoB.cons B3 (by decide) (NoB.cons B6 (by decide) (NoB.cons B8 (by decide) (NoB.cons B9 (by decide) (NoB.nil))))))
 refine (laws_markSpace.calls k t4 _ _ t5 t6 t7 t8 t9 t10 1 t175 t176 w _ HB.out R99.r A177.out).mono ?_
 rintro e w17 ⟨rfl, ho0, hbM, hk⟩
 have m_ := R99.marked ho0 hk
 replace B2 := B2.off hk (by simp)
 replace B3 := B3.off hk (by simp)
 replace B6 := B6.off hk (by simp)
 replace B8 := B8.off hk (by simp)
 replace B9 := B9.off hk (by simp)
 replace R92 := R92.off hk D101
 replace R157 := R157.off hk D159.symm
 replace HB := Aside0.mk hbM
 have hl := (Kd.R_reads' m_.r).1
 rw [hl] at m_ B8
 clear hk hbM ho0 hl R99
 have R99 := m_
 clear m_
 clear B8
 clear R99
 obtain ⟨qB9_0, qB9_1, qB9_2, qB9_3, qB9_4, qB9_5, qB9_6⟩ := cz7' B9
 obtain ⟨zB9_0, zB9_1, zB9_2, zB9_3, zB9_4, zB9_5, zB9_6⟩ := fz7' B9
 obtain ⟨qB6_0, qB6_1, qB6_2, qB6_3, qB6_4, qB6_5, qB6_6⟩ := cz7' B6
 obtain ⟨zB6_0, zB6_1, zB6_2, zB6_3, zB6_4, zB6_5, zB6_6⟩ := fz7' B6
 go_wp2_with fail
 clear qB9_0 qB9_1 qB9_2 qB9_3 qB9_4 qB9_5 qB9_6 zB9_0 zB9_1 zB9_2 zB9_3 zB9_4 zB9_5 zB9_6 qB6_0 qB6_1 qB6_2 qB6_3 qB6_4 qB6_5 qB6_6 zB6_0 zB6_1 zB6_2 zB6_3 zB6_4 zB6_5 zB6_6
 refine (laws_eqSpace.calls k t22 _ _ t23 t24 t25 t26 t27 t28 t22 _ _ t23 t24 t25 t26 t27 t28 true _ R157.readsC R157.readsN R92.readsC R92.readsN A164.out).mono ?_
 rintro e w18 ⟨rfl, hb⟩
 replace B2 := B2.up hb
 replace B3 := B3.up hb
 replace B6 := B6.up hb
 replace B9 := B9.up hb
 replace R92 := R92.up hb
 replace R157 := R157.up hb
 replace HB := uH HB hb
 clear hb
 obtain ⟨qB9_0, qB9_1, qB9_2, qB9_3, qB9_4, qB9_5, qB9_6⟩ := cz7' B9
 obtain ⟨zB9_0, zB9_1, zB9_2, zB9_3, zB9_4, zB9_5, zB9_6⟩ := fz7' B9
 go_wp2_with fail
 clear qB9_0 qB9_1 qB9_2 qB9_3 qB9_4 qB9_5 qB9_6 zB9_0 zB9_1 zB9_2 zB9_3 zB9_4 zB9_5 zB9_6
 replace R157 := R157.shrink (NoB.cons B2 (by decide) (NoB.cons B3 (by decide) (NoB.cons B6 (by decide) (NoB.cons B9 (by decide) (NoB.nil)))))
 refine (laws_markSpace.calls k t22 _ _ t23 t24 t25 t26 t27 t28 1 t178 t179 w _ HB.out R157.r A180.out).mono ?_
 rintro e w19 ⟨rfl, ho0, hbM, hk⟩
 have m_ := R157.marked ho0 hk
 replace B2 := B2.off hk (by simp)
 replace B3 := B3.off hk (by simp)
 replace B6 := B6.off hk (by simp)
 replace B9 := B9.off hk (by simp)
 replace R92 := R92.off hk D158
 replace HB := Aside0.mk hbM
 have hl := (Kd.R_reads' m_.r).1
 rw [hl] at m_ B9
 clear hk hbM ho0 hl R157
 have R157 := m_
 clear m_
 obtain ⟨qB9_0, qB9_1, qB9_2, qB9_3, qB9_4, qB9_5, qB9_6⟩ := cz7' B9
 obtain ⟨zB9_0, zB9_1, zB9_2, zB9_3, zB9_4, zB9_5, zB9_6⟩ := fz7' B9
 go_wp2_with fail
 clear qB9_0 qB9_1 qB9_2 qB9_3 qB9_4 qB9_5 qB9_6 zB9_0 zB9_1 zB9_2 zB9_3 zB9_4 zB9_5 zB9_6
 refine (laws_heldSpace.calls k t22 _ _ t179 t24 t25 t26 t27 t28 1 t178 _ R157.readsC R157.readsN A181.out).mono ?_
 rintro e w20 ⟨rfl, hb⟩
 replace B2 := B2.up hb
 replace B3 := B3.up hb
 replace B6 := B6.up hb
 replace B9 := B9.up hb
 replace R92 := R92.up hb
 replace R157 := R157.up hb
 replace HB := uH HB hb
 clear hb
 go_wp2_with fail
 refine start_ (n := 11) (S := fun w' => Bx w.heap.size w' gb2 #[.int .i64 a0_0, .slice A0_1 l0_1.length c0_1, .bool a0_2, .int .i64 a0_3, .int .i64 a0_4, .int .i64 a0_5, .int .i64 a0_6] 72 ∧ Bx w.heap.size w' gb3 #[.int .i64 a1_0, .int .i64 a1_1, .int .i64 a1_2] 74) (ds := []) (bm 11 0) (by kernel_rfl) rfl rfl ⟨B2.up (bd _), B3.up (bd _)⟩ (fun hHeld => ?_)
 replace B2 := B2.up (bd _)
 replace B3 := B3.up (bd _)
 replace B6 := B6.up (bd _)
 replace B9 := B9.up (bd _)
 replace R92 := R92.up (bd _)
 replace R157 := R157.up (bd _)
 replace HB := uHd HB
 generalize w20.drew = w21 at B2 B3 B6 B9 R92 R157 HB hHeld ⊢
 refine take_ (i := 0) (N := some 80) (v := ?_) (a' := ?_) (bm 11 1) rfl rfl (by kernel_rfl) (fun _ _ _ h => h) (Or.inl ⟨by rfl, ?_⟩) hHeld ?_ ?_
 rotate_left
 · rintro w' ⟨s0, s1⟩
   obtain ⟨q0, q1, q2, q3, q4, q5, q6⟩ := cz7' s0
   go_simp
   with_reducible rfl
 rotate_left
 · simp only [Act.put, sA, sZ, sS, i64_w, i32_w]
   rfl
 refine take_ (i := 2) (N := some 82) (v := ?_) (a' := ?_) (bm 11 5) rfl rfl (by kernel_rfl) (fun _ _ _ h => h) (Or.inl ⟨by rfl, ?_⟩) hHeld ?_ ?_
 rotate_left
 · rintro w' ⟨s0, s1⟩
   obtain ⟨q0, q1, q2⟩ := cz3' s1
   go_simp
   with_reducible rfl
 rotate_left
 · simp only [Act.put, sA, sZ, sS, i64_w, i32_w]
   rfl
 refine join_ (σ := Option Addr × Nat × Value × Nat) 2 (bm 11 511) (fun s_ => [(81, .agg #[.int .i64 t4, s_.2.2.1, .bool t6, .int .i64 t7, .int .i64 t8, .int .i64 t9, .int .i64 t10]), (83, .agg #[.int .i64 t18, .int .i64 t19, .int .i64 t20]), (84, .tuple #[.agg #[.int .i64 t22, .slice s_.1 t23.length s_.2.1, .bool t24, .int .i64 t25, .int .i64 t26, .int .i64 t27, .int .i64 t28], .bool t29]), (79, .tuple #[.agg #[.int .i64 t22, .slice s_.1 t23.length s_.2.1, .bool t24, .int .i64 t25, .int .i64 t26, .int .i64 t27, .int .i64 t28], .bool t29]), (85, .agg #[.int .i64 t22, .slice s_.1 t23.length s_.2.1, .bool t24, .int .i64 t25, .int .i64 t26, .int .i64 t27, .int .i64 t28]), (86, .bool t29), (14, .pointer (some ⟨s_.2.2.2, 0, none⟩))]) (fun s_ w' => (Bx w.heap.size w' gb2 #[.int .i64 a0_0, .slice A0_1 l0_1.length c0_1, .bool a0_2, .int .i64 a0_3, .int .i64 a0_4, .int .i64 a0_5, .int .i64 a0_6] 72 ∧ Bx w.heap.size w' gb3 #[.int .i64 a1_0, .int .i64 a1_1, .int .i64 a1_2] 74) ∧ Bx w.heap.size w' gb2 #[.int .i64 a0_0, .slice A0_1 l0_1.length c0_1, .bool a0_2, .int .i64 a0_3, .int .i64 a0_4, .int .i64 a0_5, .int .i64 a0_6] 72 ∧ Bx w.heap.size w' gb3 #[.int .i64 a1_0, .int .i64 a1_1, .int .i64 a1_2] 74 ∧ Bx w.heap.size w' gb6 #[.int .i64 t22, .slice A_88 t23.length c_89, .bool t24, .int .i64 t25, .int .i64 t26, .int .i64 t27, .int .i64 t28] 79 ∧ Bx w.heap.size w' gb9 #[.int .i64 t22, .slice A_154 t179.length c_155, .bool t24, .int .i64 t25, .int .i64 t26, .int .i64 t27, .int .i64 t28] 79 ∧ Rw k83 83 w.heap.size w' ok91 (.slice A_88 t23.length c_89) t23 ∧ Rw k83 83 w.heap.size w' (fun k => (fun k => ok156 k ∧ k ∉ [gb2, gb3, gb6, gb9]) k ∨ w18.heap.size ≤ k ∧ k < w19.heap.size) (.slice A_154 t179.length c_155) t179 ∧ (∃ ok_ : Nat → Prop, Rw k83 83 w.heap.size w' ok_ (.slice s_.1 t23.length s_.2.1) t23 ∧ Dis ok_ ok91 ∧ Dis ok_ (fun k => (fun k => ok156 k ∧ k ∉ [gb2, gb3, gb6, gb9]) k ∨ w18.heap.size ≤ k ∧ k < w19.heap.size)) ∧ Bx w.heap.size w' s_.2.2.2 #[.int .i64 0, .slice none 0 0, .bool false, .int .i64 0, .int .i64 0, .int .i64 0, .int .i64 0] 79 ∧ Aside0 (gb2 ≠ s_.2.2.2) ∧ Aside0 (gb3 ≠ s_.2.2.2) ∧ Aside0 (gb6 ≠ s_.2.2.2) ∧ Aside0 (gb9 ≠ s_.2.2.2) ∧ Aside0 (Below w.heap.size w w')) ?_ ?_
 rotate_left
 · intro hCont
   refine two_ (i := 1) (j := 8) (Ni := some 81) (Nj := some 14) (bm 11 7) (bm 11 261) rfl rfl rfl rfl (by kernel_rfl) (by decide) (by decide) (fun K hK => ?_) (fun K hK => ?_)
   · skip
     clear hHeld
     refine goes_ Try.func45 (by kernel_rfl) rfl #[.agg #[.int .i64 a0_0, .slice A0_1 l0_1.length c0_1, .bool a0_2, .int .i64 a0_3, .int .i64 a0_4, .int .i64 a0_5, .int .i64 a0_6]] (by rfl) rfl rfl (by (try simp only [List.map_toArray, List.map_cons, List.map_nil]); first | done | rfl | (simp only [List.length_drop, List.length_take]; rfl)) ?_
     refine (laws_toSpace.calls k a0_0 _ _ l0_1 a0_2 a0_3 a0_4 a0_5 a0_6 t4 t5 t6 t7 t8 t9 t10 _ (Kd.C_below HR0_1.out HB.out) HC0_1.out A11.out).mono ?_
     rintro e w22 ⟨v203, rfl, ho0, hb⟩
     refine ⟨_, rfl, ?_⟩
     obtain ⟨ok204, A_205, c_206, rfl, R207, F208⟩ := Rw.new HB ho0
     have D209 := R92.dis F208
     have D210 := R157.dis F208
     clear F208
     replace B2 := B2.up hb
     replace B3 := B3.up hb
     replace B6 := B6.up hb
     replace B9 := B9.up hb
     replace R92 := R92.up hb
     replace R157 := R157.up hb
     replace HB := uH HB hb
     clear hb ho0
     refine hK.out _ _ ⟨B2, B3⟩ (fun hHeld => ?_)
     clear hK K
     refine norm_ (a' := ?_) ?_ ?_
     rotate_left
     · show Act.put _ (some 81) _ = _
       simp only [Act.put, sA, sZ, sS, i64_w, i32_w]
       rfl
     refine two_ (i := 3) (j := 8) (Ni := some 83) (Nj := some 14) (bm 11 15) (bm 11 263) rfl rfl rfl rfl (by kernel_rfl) (by decide) (by decide) (fun K hK => ?_) (fun K hK => ?_)
     · skip
       clear hHeld
       refine goes_ Try.func46 (by kernel_rfl) rfl #[.agg #[.int .i64 a1_0, .int .i64 a1_1, .int .i64 a1_2]] (by rfl) rfl rfl (by (try simp only [List.map_toArray, List.map_cons, List.map_nil]); first | done | rfl | (simp only [List.length_drop, List.length_take]; rfl)) ?_
       refine (laws_toSent.calls a1_0 a1_1 a1_2 t18 t19 t20 _ A21.out).mono ?_
       rintro e w23 ⟨rfl, hb⟩
       refine ⟨_, rfl, ?_⟩
       replace B2 := B2.up hb
       replace B3 := B3.up hb
       replace B6 := B6.up hb
       replace B9 := B9.up hb
       replace R92 := R92.up hb
       replace R157 := R157.up hb
       replace R207 := R207.up hb
       replace HB := uH HB hb
       clear hb
       refine hK.out _ _ ⟨B2, B3⟩ (fun hHeld => ?_)
       clear hK K
       refine norm_ (a' := ?_) ?_ ?_
       rotate_left
       · show Act.put _ (some 83) _ = _
         simp only [Act.put, sA, sZ, sS, i64_w, i32_w]
         rfl
       refine two_ (i := 4) (j := 8) (Ni := some 84) (Nj := some 14) (bm 11 31) (bm 11 271) rfl rfl rfl rfl (by kernel_rfl) (by decide) (by decide) (fun K hK => ?_) (fun K hK => ?_)
       · skip
         clear hHeld
         refine goes_ Try.func47 (by kernel_rfl) rfl #[.agg #[.int .i64 t4, .slice A_205 t5.length c_206, .bool t6, .int .i64 t7, .int .i64 t8, .int .i64 t9, .int .i64 t10], .agg #[.int .i64 t18, .int .i64 t19, .int .i64 t20]] (by rfl) rfl rfl (by (try simp only [List.map_toArray, List.map_cons, List.map_nil]); first | done | rfl | (simp only [List.length_drop, List.length_take]; rfl)) ?_
         refine (impl_SendNumber.calls k t4 _ _ t5 t6 t7 t8 t9 t10 t18 t19 t20 t22 t23 t24 t25 t26 t27 t28 t29 _ R207.readsC R207.readsN A105.out).mono ?_
         rintro e w24 ⟨v211, rfl, ho0, hb⟩
         refine ⟨_, rfl, ?_⟩
         obtain ⟨ok212, A_213, c_214, rfl, R215, F216⟩ := Rw.new HB ho0
         have D217 := R92.dis F216
         have D218 := R157.dis F216
         have D219 := R207.dis F216
         clear F216
         replace B2 := B2.up hb
         replace B3 := B3.up hb
         replace B6 := B6.up hb
         replace B9 := B9.up hb
         replace R92 := R92.up hb
         replace R157 := R157.up hb
         replace R207 := R207.up hb
         replace HB := uH HB hb
         clear hb ho0
         refine hK.out _ _ ⟨B2, B3⟩ (fun hHeld => ?_)
         clear hK K
         refine norm_ (a' := ?_) ?_ ?_
         rotate_left
         · show Act.put _ (some 84) _ = _
           simp only [Act.put, sA, sZ, sS, i64_w, i32_w]
           rfl
         refine pure_ (i := 5) (N := some 79) (v := ?_) (a' := ?_) (bm 11 63) rfl rfl (by kernel_rfl) (fun _ _ _ h => h) (Or.inl ⟨by rfl, ?_⟩) ?_ ?_
         rotate_left
         · intro w'
           go_simp
           with_reducible rfl
         rotate_left
         · simp only [Act.put, sA, sZ, sS, i64_w, i32_w]
           rfl
         refine pure_ (i := 6) (N := some 85) (v := ?_) (a' := ?_) (bm 11 127) rfl rfl (by kernel_rfl) (fun _ _ _ h => h) (Or.inl ⟨by rfl, ?_⟩) ?_ ?_
         rotate_left
         · intro w'
           go_simp
           with_reducible rfl
         rotate_left
         · simp only [Act.put, sA, sZ, sS, i64_w, i32_w]
           rfl
         refine pure_ (i := 7) (N := some 86) (v := ?_) (a' := ?_) (bm 11 255) rfl rfl (by kernel_rfl) (fun _ _ _ h => h) (Or.inl ⟨by rfl, ?_⟩) ?_ ?_
         rotate_left
         · intro w'
           go_simp
           with_reducible rfl
         rotate_left
         · simp only [Act.put, sA, sZ, sS, i64_w, i32_w]
           rfl
         refine one_ (i := 8) (N := some 14) (bm 11 511) rfl rfl (by kernel_rfl) (by decide) (fun K hK => ?_)
         clear hHeld
         refine box_step ?hg (N := 14) ?hd (cs := #[.int .i64 0, .slice none 0 0, .bool false, .int .i64 0, .int .i64 0, .int .i64 0, .int .i64 0]) (t := 79) ?hr ?_; (case hd => rfl); (case hg => rfl); (case hr => first | (go_simp; done) | (go_simp; rfl))
         intro gb14 hg w25 hbox hb
         have N220 := B2.ne hg
         have N221 := B3.ne hg
         have N222 := B6.ne hg
         have N223 := B9.ne hg
         have hge : w.heap.size ≤ gb14 := Nat.le_trans HB.out.size (Nat.le_of_eq hg.symm)
         replace B2 := B2.up hb
         replace B3 := B3.up hb
         replace B6 := B6.up hb
         replace B9 := B9.up hb
         replace R92 := R92.up hb
         replace R157 := R157.up hb
         replace R207 := R207.up hb
         replace R215 := R215.up hb
         replace HB := uH HB hb
         have B14 : Bx w.heap.size w25 gb14 #[.int .i64 0, .slice none 0 0, .bool false, .int .i64 0, .int .i64 0, .int .i64 0, .int .i64 0] 79 := ⟨hbox, hge⟩
         clear hb hbox hg hge
         refine hK.out _ _ ⟨B2, B3⟩ (fun hHeld => ?_)
         clear hK K
         refine norm_ (a' := ?_) ?_ ?_
         rotate_left
         · show Act.put _ (some 14) _ = _
           simp only [Act.put, sA, sZ, sS, i64_w, i32_w]
           rfl
         exact norm_ (by simp only [putAll, Act.put, sA, sZ, sS]) (hCont (A_213, c_214, .slice A_205 t5.length c_206, gb14) _ ⟨hHeld, B2, B3, B6, B9, R92, R157, ⟨_, R215, D217, D218⟩, B14, N220, N221, N222, N223, HB⟩)
       · skip
         clear hHeld
         refine box_step ?hg (N := 14) ?hd (cs := #[.int .i64 0, .slice none 0 0, .bool false, .int .i64 0, .int .i64 0, .int .i64 0, .int .i64 0]) (t := 79) ?hr ?_; (case hd => rfl); (case hg => rfl); (case hr => first | (go_simp; done) | (go_simp; rfl))
         intro gb14 hg w24 hbox hb
         have N224 := B2.ne hg
         have N225 := B3.ne hg
         have N226 := B6.ne hg
         have N227 := B9.ne hg
         have hge : w.heap.size ≤ gb14 := Nat.le_trans HB.out.size (Nat.le_of_eq hg.symm)
         replace B2 := B2.up hb
         replace B3 := B3.up hb
         replace B6 := B6.up hb
         replace B9 := B9.up hb
         replace R92 := R92.up hb
         replace R157 := R157.up hb
         replace R207 := R207.up hb
         replace HB := uH HB hb
         have B14 : Bx w.heap.size w24 gb14 #[.int .i64 0, .slice none 0 0, .bool false, .int .i64 0, .int .i64 0, .int .i64 0, .int .i64 0] 79 := ⟨hbox, hge⟩
         clear hb hbox hg hge
         refine hK.out _ _ ⟨B2, B3⟩ (fun hHeld => ?_)
         clear hK K
         refine norm_ (a' := ?_) ?_ ?_
         rotate_left
         · show Act.put _ (some 14) _ = _
           simp only [Act.put, sA, sZ, sS, i64_w, i32_w]
           rfl
         refine one_ (i := 4) (N := some 84) (bm 11 287) rfl rfl (by kernel_rfl) (by decide) (fun K hK => ?_)
         clear hHeld
         refine goes_ Try.func47 (by kernel_rfl) rfl #[.agg #[.int .i64 t4, .slice A_205 t5.length c_206, .bool t6, .int .i64 t7, .int .i64 t8, .int .i64 t9, .int .i64 t10], .agg #[.int .i64 t18, .int .i64 t19, .int .i64 t20]] (by rfl) rfl rfl (by (try simp only [List.map_toArray, List.map_cons, List.map_nil]); first | done | rfl | (simp only [List.length_drop, List.length_take]; rfl)) ?_
         refine (impl_SendNumber.calls k t4 _ _ t5 t6 t7 t8 t9 t10 t18 t19 t20 t22 t23 t24 t25 t26 t27 t28 t29 _ R207.readsC R207.readsN A105.out).mono ?_
         rintro e w25 ⟨v228, rfl, ho0, hb⟩
         refine ⟨_, rfl, ?_⟩
         obtain ⟨ok229, A_230, c_231, rfl, R232, F233⟩ := Rw.new HB ho0
         have D234 := R92.dis F233
         have D235 := R157.dis F233
         have D236 := R207.dis F233
         clear F233
         replace B2 := B2.up hb
         replace B3 := B3.up hb
         replace B6 := B6.up hb
         replace B9 := B9.up hb
         replace B14 := B14.up hb
         replace R92 := R92.up hb
         replace R157 := R157.up hb
         replace R207 := R207.up hb
         replace HB := uH HB hb
         clear hb ho0
         refine hK.out _ _ ⟨B2, B3⟩ (fun hHeld => ?_)
         clear hK K
         refine norm_ (a' := ?_) ?_ ?_
         rotate_left
         · show Act.put _ (some 84) _ = _
           simp only [Act.put, sA, sZ, sS, i64_w, i32_w]
           rfl
         refine pure_ (i := 5) (N := some 79) (v := ?_) (a' := ?_) (bm 11 319) rfl rfl (by kernel_rfl) (fun _ _ _ h => h) (Or.inl ⟨by rfl, ?_⟩) ?_ ?_
         rotate_left
         · intro w'
           go_simp
           with_reducible rfl
         rotate_left
         · simp only [Act.put, sA, sZ, sS, i64_w, i32_w]
           rfl
         refine pure_ (i := 6) (N := some 85) (v := ?_) (a' := ?_) (bm 11 383) rfl rfl (by kernel_rfl) (fun _ _ _ h => h) (Or.inl ⟨by rfl, ?_⟩) ?_ ?_
         rotate_left
         · intro w'
           go_simp
           with_reducible rfl
         rotate_left
         · simp only [Act.put, sA, sZ, sS, i64_w, i32_w]
           rfl
         refine pure_ (i := 7) (N := some 86) (v := ?_) (a' := ?_) (bm 11 511) rfl rfl (by kernel_rfl) (fun _ _ _ h => h) (Or.inl ⟨by rfl, ?_⟩) ?_ ?_
         rotate_left
         · intro w'
           go_simp
           with_reducible rfl
         rotate_left
         · simp only [Act.put, sA, sZ, sS, i64_w, i32_w]
           rfl
         exact norm_ (by simp only [putAll, Act.put, sA, sZ, sS]) (hCont (A_230, c_231, .slice A_205 t5.length c_206, gb14) _ ⟨hHeld, B2, B3, B6, B9, R92, R157, ⟨_, R232, D234, D235⟩, B14, N224, N225, N226, N227, HB⟩)
     · skip
       clear hHeld
       refine box_step ?hg (N := 14) ?hd (cs := #[.int .i64 0, .slice none 0 0, .bool false, .int .i64 0, .int .i64 0, .int .i64 0, .int .i64 0]) (t := 79) ?hr ?_; (case hd => rfl); (case hg => rfl); (case hr => first | (go_simp; done) | (go_simp; rfl))
       intro gb14 hg w23 hbox hb
       have N237 := B2.ne hg
       have N238 := B3.ne hg
       have N239 := B6.ne hg
       have N240 := B9.ne hg
       have hge : w.heap.size ≤ gb14 := Nat.le_trans HB.out.size (Nat.le_of_eq hg.symm)
       replace B2 := B2.up hb
       replace B3 := B3.up hb
       replace B6 := B6.up hb
       replace B9 := B9.up hb
       replace R92 := R92.up hb
       replace R157 := R157.up hb
       replace R207 := R207.up hb
       replace HB := uH HB hb
       have B14 : Bx w.heap.size w23 gb14 #[.int .i64 0, .slice none 0 0, .bool false, .int .i64 0, .int .i64 0, .int .i64 0, .int .i64 0] 79 := ⟨hbox, hge⟩
       clear hb hbox hg hge
       refine hK.out _ _ ⟨B2, B3⟩ (fun hHeld => ?_)
       clear hK K
       refine norm_ (a' := ?_) ?_ ?_
       rotate_left
       · show Act.put _ (some 14) _ = _
         simp only [Act.put, sA, sZ, sS, i64_w, i32_w]
         rfl
       refine one_ (i := 3) (N := some 83) (bm 11 271) rfl rfl (by kernel_rfl) (by decide) (fun K hK => ?_)
       clear hHeld
       refine goes_ Try.func46 (by kernel_rfl) rfl #[.agg #[.int .i64 a1_0, .int .i64 a1_1, .int .i64 a1_2]] (by rfl) rfl rfl (by (try simp only [List.map_toArray, List.map_cons, List.map_nil]); first | done | rfl | (simp only [List.length_drop, List.length_take]; rfl)) ?_
       refine (laws_toSent.calls a1_0 a1_1 a1_2 t18 t19 t20 _ A21.out).mono ?_
       rintro e w24 ⟨rfl, hb⟩
       refine ⟨_, rfl, ?_⟩
       replace B2 := B2.up hb
       replace B3 := B3.up hb
       replace B6 := B6.up hb
       replace B9 := B9.up hb
       replace B14 := B14.up hb
       replace R92 := R92.up hb
       replace R157 := R157.up hb
       replace R207 := R207.up hb
       replace HB := uH HB hb
       clear hb
       refine hK.out _ _ ⟨B2, B3⟩ (fun hHeld => ?_)
       clear hK K
       refine norm_ (a' := ?_) ?_ ?_
       rotate_left
       · show Act.put _ (some 83) _ = _
         simp only [Act.put, sA, sZ, sS, i64_w, i32_w]
         rfl
       refine one_ (i := 4) (N := some 84) (bm 11 287) rfl rfl (by kernel_rfl) (by decide) (fun K hK => ?_)
       clear hHeld
       refine goes_ Try.func47 (by kernel_rfl) rfl #[.agg #[.int .i64 t4, .slice A_205 t5.length c_206, .bool t6, .int .i64 t7, .int .i64 t8, .int .i64 t9, .int .i64 t10], .agg #[.int .i64 t18, .int .i64 t19, .int .i64 t20]] (by rfl) rfl rfl (by (try simp only [List.map_toArray, List.map_cons, List.map_nil]); first | done | rfl | (simp only [List.length_drop, List.length_take]; rfl)) ?_
       refine (impl_SendNumber.calls k t4 _ _ t5 t6 t7 t8 t9 t10 t18 t19 t20 t22 t23 t24 t25 t26 t27 t28 t29 _ R207.readsC R207.readsN A105.out).mono ?_
       rintro e w25 ⟨v241, rfl, ho0, hb⟩
       refine ⟨_, rfl, ?_⟩
       obtain ⟨ok242, A_243, c_244, rfl, R245, F246⟩ := Rw.new HB ho0
       have D247 := R92.dis F246
       have D248 := R157.dis F246
       have D249 := R207.dis F246
       clear F246
       replace B2 := B2.up hb
       replace B3 := B3.up hb
       replace B6 := B6.up hb
       replace B9 := B9.up hb
       replace B14 := B14.up hb
       replace R92 := R92.up hb
       replace R157 := R157.up hb
       replace R207 := R207.up hb
       replace HB := uH HB hb
       clear hb ho0
       refine hK.out _ _ ⟨B2, B3⟩ (fun hHeld => ?_)
       clear hK K
       refine norm_ (a' := ?_) ?_ ?_
       rotate_left
       · show Act.put _ (some 84) _ = _
         simp only [Act.put, sA, sZ, sS, i64_w, i32_w]
         rfl
       refine pure_ (i := 5) (N := some 79) (v := ?_) (a' := ?_) (bm 11 319) rfl rfl (by kernel_rfl) (fun _ _ _ h => h) (Or.inl ⟨by rfl, ?_⟩) ?_ ?_
       rotate_left
       · intro w'
         go_simp
         with_reducible rfl
       rotate_left
       · simp only [Act.put, sA, sZ, sS, i64_w, i32_w]
         rfl
       refine pure_ (i := 6) (N := some 85) (v := ?_) (a' := ?_) (bm 11 383) rfl rfl (by kernel_rfl) (fun _ _ _ h => h) (Or.inl ⟨by rfl, ?_⟩) ?_ ?_
       rotate_left
       · intro w'
         go_simp
         with_reducible rfl
       rotate_left
       · simp only [Act.put, sA, sZ, sS, i64_w, i32_w]
         rfl
       refine pure_ (i := 7) (N := some 86) (v := ?_) (a' := ?_) (bm 11 511) rfl rfl (by kernel_rfl) (fun _ _ _ h => h) (Or.inl ⟨by rfl, ?_⟩) ?_ ?_
       rotate_left
       · intro w'
         go_simp
         with_reducible rfl
       rotate_left
       · simp only [Act.put, sA, sZ, sS, i64_w, i32_w]
         rfl
       exact norm_ (by simp only [putAll, Act.put, sA, sZ, sS]) (hCont (A_243, c_244, .slice A_205 t5.length c_206, gb14) _ ⟨hHeld, B2, B3, B6, B9, R92, R157, ⟨_, R245, D247, D248⟩, B14, N237, N238, N239, N240, HB⟩)
   · skip
     clear hHeld
     refine box_step ?hg (N := 14) ?hd (cs := #[.int .i64 0, .slice none 0 0, .bool false, .int .i64 0, .int .i64 0, .int .i64 0, .int .i64 0]) (t := 79) ?hr ?_; (case hd => rfl); (case hg => rfl); (case hr => first | (go_simp; done) | (go_simp; rfl))
     intro gb14 hg w22 hbox hb
     have N250 := B2.ne hg
     have N251 := B3.ne hg
     have N252 := B6.ne hg
     have N253 := B9.ne hg
     have hge : w.heap.size ≤ gb14 := Nat.le_trans HB.out.size (Nat.le_of_eq hg.symm)
     replace B2 := B2.up hb
     replace B3 := B3.up hb
     replace B6 := B6.up hb
     replace B9 := B9.up hb
     replace R92 := R92.up hb
     replace R157 := R157.up hb
     replace HB := uH HB hb
     have B14 : Bx w.heap.size w22 gb14 #[.int .i64 0, .slice none 0 0, .bool false, .int .i64 0, .int .i64 0, .int .i64 0, .int .i64 0] 79 := ⟨hbox, hge⟩
     clear hb hbox hg hge
     refine hK.out _ _ ⟨B2, B3⟩ (fun hHeld => ?_)
     clear hK K
     refine norm_ (a' := ?_) ?_ ?_
     rotate_left
     · show Act.put _ (some 14) _ = _
       simp only [Act.put, sA, sZ, sS, i64_w, i32_w]
       rfl
     refine one_ (i := 1) (N := some 81) (bm 11 263) rfl rfl (by kernel_rfl) (by decide) (fun K hK => ?_)
     clear hHeld
     refine goes_ Try.func45 (by kernel_rfl) rfl #[.agg #[.int .i64 a0_0, .slice A0_1 l0_1.length c0_1, .bool a0_2, .int .i64 a0_3, .int .i64 a0_4, .int .i64 a0_5, .int .i64 a0_6]] (by rfl) rfl rfl (by (try simp only [List.map_toArray, List.map_cons, List.map_nil]); first | done | rfl | (simp only [List.length_drop, List.length_take]; rfl)) ?_
     refine (laws_toSpace.calls k a0_0 _ _ l0_1 a0_2 a0_3 a0_4 a0_5 a0_6 t4 t5 t6 t7 t8 t9 t10 _ (Kd.C_below HR0_1.out HB.out) HC0_1.out A11.out).mono ?_
     rintro e w23 ⟨v254, rfl, ho0, hb⟩
     refine ⟨_, rfl, ?_⟩
     obtain ⟨ok255, A_256, c_257, rfl, R258, F259⟩ := Rw.new HB ho0
     have D260 := R92.dis F259
     have D261 := R157.dis F259
     clear F259
     replace B2 := B2.up hb
     replace B3 := B3.up hb
     replace B6 := B6.up hb
     replace B9 := B9.up hb
     replace B14 := B14.up hb
     replace R92 := R92.up hb
     replace R157 := R157.up hb
     replace HB := uH HB hb
     clear hb ho0
     refine hK.out _ _ ⟨B2, B3⟩ (fun hHeld => ?_)
     clear hK K
     refine norm_ (a' := ?_) ?_ ?_
     rotate_left
     · show Act.put _ (some 81) _ = _
       simp only [Act.put, sA, sZ, sS, i64_w, i32_w]
       rfl
     refine one_ (i := 3) (N := some 83) (bm 11 271) rfl rfl (by kernel_rfl) (by decide) (fun K hK => ?_)
     clear hHeld
     refine goes_ Try.func46 (by kernel_rfl) rfl #[.agg #[.int .i64 a1_0, .int .i64 a1_1, .int .i64 a1_2]] (by rfl) rfl rfl (by (try simp only [List.map_toArray, List.map_cons, List.map_nil]); first | done | rfl | (simp only [List.length_drop, List.length_take]; rfl)) ?_
     refine (laws_toSent.calls a1_0 a1_1 a1_2 t18 t19 t20 _ A21.out).mono ?_
     rintro e w24 ⟨rfl, hb⟩
     refine ⟨_, rfl, ?_⟩
     replace B2 := B2.up hb
     replace B3 := B3.up hb
     replace B6 := B6.up hb
     replace B9 := B9.up hb
     replace B14 := B14.up hb
     replace R92 := R92.up hb
     replace R157 := R157.up hb
     replace R258 := R258.up hb
     replace HB := uH HB hb
     clear hb
     refine hK.out _ _ ⟨B2, B3⟩ (fun hHeld => ?_)
     clear hK K
     refine norm_ (a' := ?_) ?_ ?_
     rotate_left
     · show Act.put _ (some 83) _ = _
       simp only [Act.put, sA, sZ, sS, i64_w, i32_w]
       rfl
     refine one_ (i := 4) (N := some 84) (bm 11 287) rfl rfl (by kernel_rfl) (by decide) (fun K hK => ?_)
     clear hHeld
     refine goes_ Try.func47 (by kernel_rfl) rfl #[.agg #[.int .i64 t4, .slice A_256 t5.length c_257, .bool t6, .int .i64 t7, .int .i64 t8, .int .i64 t9, .int .i64 t10], .agg #[.int .i64 t18, .int .i64 t19, .int .i64 t20]] (by rfl) rfl rfl (by (try simp only [List.map_toArray, List.map_cons, List.map_nil]); first | done | rfl | (simp only [List.length_drop, List.length_take]; rfl)) ?_
     refine (impl_SendNumber.calls k t4 _ _ t5 t6 t7 t8 t9 t10 t18 t19 t20 t22 t23 t24 t25 t26 t27 t28 t29 _ R258.readsC R258.readsN A105.out).mono ?_
     rintro e w25 ⟨v262, rfl, ho0, hb⟩
     refine ⟨_, rfl, ?_⟩
     obtain ⟨ok263, A_264, c_265, rfl, R266, F267⟩ := Rw.new HB ho0
     have D268 := R92.dis F267
     have D269 := R157.dis F267
     have D270 := R258.dis F267
     clear F267
     replace B2 := B2.up hb
     replace B3 := B3.up hb
     replace B6 := B6.up hb
     replace B9 := B9.up hb
     replace B14 := B14.up hb
     replace R92 := R92.up hb
     replace R157 := R157.up hb
     replace R258 := R258.up hb
     replace HB := uH HB hb
     clear hb ho0
     refine hK.out _ _ ⟨B2, B3⟩ (fun hHeld => ?_)
     clear hK K
     refine norm_ (a' := ?_) ?_ ?_
     rotate_left
     · show Act.put _ (some 84) _ = _
       simp only [Act.put, sA, sZ, sS, i64_w, i32_w]
       rfl
     refine pure_ (i := 5) (N := some 79) (v := ?_) (a' := ?_) (bm 11 319) rfl rfl (by kernel_rfl) (fun _ _ _ h => h) (Or.inl ⟨by rfl, ?_⟩) ?_ ?_
     rotate_left
     · intro w'
       go_simp
       with_reducible rfl
     rotate_left
     · simp only [Act.put, sA, sZ, sS, i64_w, i32_w]
       rfl
     refine pure_ (i := 6) (N := some 85) (v := ?_) (a' := ?_) (bm 11 383) rfl rfl (by kernel_rfl) (fun _ _ _ h => h) (Or.inl ⟨by rfl, ?_⟩) ?_ ?_
     rotate_left
     · intro w'
       go_simp
       with_reducible rfl
     rotate_left
     · simp only [Act.put, sA, sZ, sS, i64_w, i32_w]
       rfl
     refine pure_ (i := 7) (N := some 86) (v := ?_) (a' := ?_) (bm 11 511) rfl rfl (by kernel_rfl) (fun _ _ _ h => h) (Or.inl ⟨by rfl, ?_⟩) ?_ ?_
     rotate_left
     · intro w'
       go_simp
       with_reducible rfl
     rotate_left
     · simp only [Act.put, sA, sZ, sS, i64_w, i32_w]
       rfl
     exact norm_ (by simp only [putAll, Act.put, sA, sZ, sS]) (hCont (A_264, c_265, .slice A_256 t5.length c_257, gb14) _ ⟨hHeld, B2, B3, B6, B9, R92, R157, ⟨_, R266, D268, D269⟩, B14, N250, N251, N252, N253, HB⟩)
 clear hHeld B2 B3 B6 B9 R92 R157 HB
 rintro ⟨A_271, c_272, v273, gb14⟩ w22 ⟨hHeld, B2, B3, B6, B9, R92, R157, ⟨ok274, R275, D276, D277⟩, B14, N278, N279, N280, N281, HB⟩
 refine norm_ (a' := ?_) ?_ ?_
 rotate_left
 · simp only [putAll, Act.put, sA, sZ, sS]
   rfl
 refine one_ (i := 9) (N := none) (bm 11 1023) rfl rfl (by kernel_rfl) (by decide) (fun K hK => ?_)
 clear hHeld
 obtain ⟨qB14_0, qB14_1, qB14_2, qB14_3, qB14_4, qB14_5, qB14_6⟩ := cz7' B14
 obtain ⟨zB14_0, zB14_1, zB14_2, zB14_3, zB14_4, zB14_5, zB14_6⟩ := fz7' B14
 refine skip_ (w1 := (((((((w22.setCell ⟨gb14, 0, none⟩ (.int .i64 t22)).setCell ⟨gb14, 1, none⟩ (.slice A_271 t23.length c_272)).setCell ⟨gb14, 2, none⟩ (.bool t24)).setCell ⟨gb14, 3, none⟩ (.int .i64 t25)).setCell ⟨gb14, 4, none⟩ (.int .i64 t26)).setCell ⟨gb14, 5, none⟩ (.int .i64 t27)).setCell ⟨gb14, 6, none⟩ (.int .i64 t28))) (by rfl) rfl ?_ ?_
 · first | (go_simp; done) | (go_simp; rfl)
 clear qB14_0 qB14_1 qB14_2 qB14_3 qB14_4 qB14_5 qB14_6 zB14_0 zB14_1 zB14_2 zB14_3 zB14_4 zB14_5 zB14_6
 obtain ⟨b_, ho_⟩ := st7 (v0 := .int .i64 t22) (v1 := .slice A_271 t23.length c_272) (v2 := .bool t24) (v3 := .int .i64 t25) (v4 := .int .i64 t26) (v5 := .int .i64 t27) (v6 := .int .i64 t28) B14
 have hk := ho_.k
 replace B2 := B2.far hk N278
 replace B3 := B3.far hk N279
 replace B6 := B6.far hk N280
 replace B9 := B9.far hk N281
 replace R92 := R92.far B14 (by decide) hk
 replace R157 := R157.far B14 (by decide) hk
 replace R275 := R275.far B14 (by decide) hk
 replace HB := uHset HB ho_ B14
 clear hk ho_ B14
 have B14 := b_
 clear b_
 refine hK.out _ _ ⟨B2, B3⟩ (fun hHeld => ?_)
 clear hK K
 generalize (((((((w22.setCell ⟨gb14, 0, none⟩ (.int .i64 t22)).setCell ⟨gb14, 1, none⟩ (.slice A_271 t23.length c_272)).setCell ⟨gb14, 2, none⟩ (.bool t24)).setCell ⟨gb14, 3, none⟩ (.int .i64 t25)).setCell ⟨gb14, 4, none⟩ (.int .i64 t26)).setCell ⟨gb14, 5, none⟩ (.int .i64 t27)).setCell ⟨gb14, 6, none⟩ (.int .i64 t28)) = w23 at B2 B3 B6 B9 B14 R92 R157 R275 HB hHeld ⊢
 refine pure_ (i := 10) (N := some 15) (v := ?_) (a' := ?_) (bm 11 2047) rfl rfl (by kernel_rfl) (fun _ _ _ h => h) (Or.inl ⟨by rfl, ?_⟩) ?_ ?_
 rotate_left
 · intro w'
   go_simp
   with_reducible rfl
 rotate_left
 · simp only [Act.put, sA, sZ, sS, i64_w, i32_w]
   rfl
 clear hHeld
 refine done_ (by kernel_rfl) ?_
 clear B2 B3
 obtain ⟨qB14_0, qB14_1, qB14_2, qB14_3, qB14_4, qB14_5, qB14_6⟩ := cz7' B14
 obtain ⟨zB14_0, zB14_1, zB14_2, zB14_3, zB14_4, zB14_5, zB14_6⟩ := fz7' B14
 obtain ⟨qB6_0, qB6_1, qB6_2, qB6_3, qB6_4, qB6_5, qB6_6⟩ := cz7' B6
 obtain ⟨zB6_0, zB6_1, zB6_2, zB6_3, zB6_4, zB6_5, zB6_6⟩ := fz7' B6
 go_wp2_with fail
 clear qB14_0 qB14_1 qB14_2 qB14_3 qB14_4 qB14_5 qB14_6 zB14_0 zB14_1 zB14_2 zB14_3 zB14_4 zB14_5 zB14_6 qB6_0 qB6_1 qB6_2 qB6_3 qB6_4 qB6_5 qB6_6 zB6_0 zB6_1 zB6_2 zB6_3 zB6_4 zB6_5 zB6_6
 refine (laws_eqSpace.calls k t22 _ _ t23 t24 t25 t26 t27 t28 t22 _ _ t23 t24 t25 t26 t27 t28 true _ R275.readsC R275.readsN R92.readsC R92.readsN A164.out).mono ?_
 rintro e w24 ⟨rfl, hb⟩
 replace B6 := B6.up hb
 replace B9 := B9.up hb
 replace B14 := B14.up hb
 replace R92 := R92.up hb
 replace R157 := R157.up hb
 replace R275 := R275.up hb
 replace HB := uH HB hb
 clear hb
 clear B6 B14
 clear R92 R275
 obtain ⟨qB9_0, qB9_1, qB9_2, qB9_3, qB9_4, qB9_5, qB9_6⟩ := cz7' B9
 obtain ⟨zB9_0, zB9_1, zB9_2, zB9_3, zB9_4, zB9_5, zB9_6⟩ := fz7' B9
 go_wp2_with fail
 clear qB9_0 qB9_1 qB9_2 qB9_3 qB9_4 qB9_5 qB9_6 zB9_0 zB9_1 zB9_2 zB9_3 zB9_4 zB9_5 zB9_6
 refine (laws_heldSpace.calls k t22 _ _ t179 t24 t25 t26 t27 t28 1 t178 _ R157.readsC R157.readsN A181.out).mono ?_
 rintro e w25 ⟨rfl, hb⟩
 replace B9 := B9.up hb
 replace R157 := R157.up hb
 replace HB := uH HB hb
 clear hb
 clear B9
 clear R157
 go_wp2_with fail
 go_ret
 exact ⟨rfl, HB.out⟩
/-- What the callees answer, told once. -/
def laws_FnExactSendNumber.Good (k : Nat) (a0_0 : Int) (l0_1 : List (S74)) (a0_2 : Bool) (a0_3 : Int) (a0_4 : Int) (a0_5 : Int) (a0_6 : Int) (a1_0 : Int) (a1_1 : Int) (a1_2 : Int) : Prop := (∃ (t2 : Int), laws_szSpace.f a0_0 l0_1 a0_2 a0_3 a0_4 a0_5 a0_6 1048576 = some t2 ∧ t2 < 0)
  ∨ (∃ (t2 : Int) (t4 : Int) (t5 : List (S83)) (t6 : Bool) (t7 : Int) (t8 : Int) (t9 : Int) (t10 : Int) (t18 : Int) (t19 : Int) (t20 : Int) (t22 : Int) (t23 : List (S83)) (t24 : Bool) (t25 : Int) (t26 : Int) (t27 : Int) (t28 : Int) (t29 : Bool) (t175 : Int) (t176 : List (S83)) (t178 : Int) (t179 : List (S83)), laws_szSpace.f a0_0 l0_1 a0_2 a0_3 a0_4 a0_5 a0_6 1048576 = some t2 ∧ laws_toSpace.f k a0_0 l0_1 a0_2 a0_3 a0_4 a0_5 a0_6 = some (t4, t5, t6, t7, t8, t9, t10) ∧ laws_toSent.f a1_0 a1_1 a1_2 = some (t18, t19, t20) ∧ spec_SendNumber.f k t4 t5 t6 t7 t8 t9 t10 t18 t19 t20 = some (t22, t23, t24, t25, t26, t27, t28, t29) ∧ impl_SendNumber.f k t4 t5 t6 t7 t8 t9 t10 t18 t19 t20 = some (t22, t23, t24, t25, t26, t27, t28, t29) ∧ laws_eqSpace.f k t22 t23 t24 t25 t26 t27 t28 t22 t23 t24 t25 t26 t27 t28 = some true ∧ laws_eqSpace.f k t4 t5 t6 t7 t8 t9 t10 t4 t5 t6 t7 t8 t9 t10 = some true ∧ laws_markSpace.f k t4 t5 t6 t7 t8 t9 t10 1 = some (t175, t176) ∧ laws_markSpace.f k t22 t23 t24 t25 t26 t27 t28 1 = some (t178, t179) ∧ laws_heldSpace.f k t22 t179 t24 t25 t26 t27 t28 1 = some t178 ∧ 0 ≤ t2 ∧ 0 ≤ t175 ∧ 0 ≤ t178)
open Classical in
noncomputable def laws_FnExactSendNumber.f (k : Nat) (a0_0 : Int) (l0_1 : List (S74)) (a0_2 : Bool) (a0_3 : Int) (a0_4 : Int) (a0_5 : Int) (a0_6 : Int) (a1_0 : Int) (a1_1 : Int) (a1_2 : Int) : Option (Bool) := if laws_FnExactSendNumber.Good k a0_0 l0_1 a0_2 a0_3 a0_4 a0_5 a0_6 a1_0 a1_1 a1_2 then some true else none
theorem laws_FnExactSendNumber.of_good {k : Nat} {a0_0 : Int} {l0_1 : List (S74)} {a0_2 : Bool} {a0_3 : Int} {a0_4 : Int} {a0_5 : Int} {a0_6 : Int} {a1_0 : Int} {a1_1 : Int} {a1_2 : Int} (h : laws_FnExactSendNumber.Good k a0_0 l0_1 a0_2 a0_3 a0_4 a0_5 a0_6 a1_0 a1_1 a1_2) : laws_FnExactSendNumber.f k a0_0 l0_1 a0_2 a0_3 a0_4 a0_5 a0_6 a1_0 a1_1 a1_2 = some true := by unfold laws_FnExactSendNumber.f; exact if_pos h
theorem laws_FnExactSendNumber.calls (k : Nat) (a0_0 : Int) (A0_1 : Option Addr) (c0_1 : Nat) (l0_1 : List (S74)) (a0_2 : Bool) (a0_3 : Int) (a0_4 : Int) (a0_5 : Int) (a0_6 : Int) (a1_0 : Int) (a1_1 : Int) (a1_2 : Int) (r : Bool) (w : World) (hr0_1 : Kd.C k74 w A0_1 l0_1.length l0_1) (hc0_1 : l0_1.length ≤ c0_1) (h : laws_FnExactSendNumber.f k a0_0 l0_1 a0_2 a0_3 a0_4 a0_5 a0_6 a1_0 a1_1 a1_2 = some r) :
  Calls Try.prog 8 #[.agg #[.int .i64 a0_0, .slice A0_1 l0_1.length c0_1, .bool a0_2, .int .i64 a0_3, .int .i64 a0_4, .int .i64 a0_5, .int .i64 a0_6], .agg #[.int .i64 a1_0, .int .i64 a1_1, .int .i64 a1_2]] w fun e w' => e = .returned (.bool r) ∧ Below w.heap.size w w' := by
 unfold laws_FnExactSendNumber.f at h
 split at h
 · rename_i hg
   obtain rfl := Option.some.inj h
   rcases hg with ⟨t2, f0, g0⟩ | ⟨t2, t4, t5, t6, t7, t8, t9, t10, t18, t19, t20, t22, t23, t24, t25, t26, t27, t28, t29, t175, t176, t178, t179, f0, f1, f2, f3, f4, f5, f6, f7, f8, f9, g0, g1, g2⟩
   · exact laws_FnExactSendNumber.short0 k a0_0 A0_1 c0_1 l0_1 a0_2 a0_3 a0_4 a0_5 a0_6 a1_0 a1_1 a1_2 t2 w hr0_1 hc0_1 f0 g0
   · exact laws_FnExactSendNumber.long k a0_0 A0_1 c0_1 l0_1 a0_2 a0_3 a0_4 a0_5 a0_6 a1_0 a1_1 a1_2 t2 t4 t5 t6 t7 t8 t9 t10 t18 t19 t20 t22 t23 t24 t25 t26 t27 t28 t29 t175 t176 t178 t179 w hr0_1 hc0_1 f0 f1 f2 f3 f4 f5 f6 f7 f8 f9 g0 g1 g2
 · cases h
end Go.Proofs.Ythkmjfapljmmpaa.PFnExactSendNumber
