-- Written by a program of this session (wip/genlaw.py): the walk of the law FnExactTakeAck by the one way on which all that it asks is true.
import Derived.Test.YtpdoplkiaejpiaaPFnExactTakeAckx2
import Derived.Test.YtpdoplkiaejpiaaPFnExactTakeAckx3
import Derived.Test.YtpdoplkiaejpiaaPFnExactTakeAckx4
import Derived.Test.YtpdoplkiaejpiaaPFnExactTakeAckx5
import Derived.Test.YtpdoplkiaejpiaaPFnExactTakeAckx6
import Derived.Test.YtpdoplkiaejpiaaPFnExactTakeAckx7
import Derived.Test.YtpdoplkiaejpiaaPFnExactTakeAckx8
import Derived.Test.YtpdoplkiaejpiaaPFnExactTakeAckx9
import Derived.Test.YtpdoplkiaejpiaaPFnExactTakeAckx10
import Derived.Test.YtpdoplkiaejpiaaPFnExactTakeAckx11
import Derived.Test.YtpdoplkiaejpiaaPFnExactTakeAckx12
import Derived.Test.YtpdoplkiaejpiaaLawK
namespace Go.Proofs.Ytpdoplkiaejpiaa.PFnExactTakeAck
open Go.RowKit Go.Proofs.YtpdoplkiaejpiaaW.PrintWords Go.Proofs.YtpdoplkiaejpiaaW.PrintLast Go.Proofs.YtpdoplkiaejpiaaW.PrintMore
open Go.Proofs.Ytpdoplkiaejpiaa.ShortK (sA sZ sS)
open Go.Proofs.Ytpdoplkiaejpiaa.StoreK (bm)
open Go.Proofs.Ytpdoplkiaejpiaa.LawK
attribute [local go_sem] Go.Proofs.Ytpdoplkiaejpiaa.StoreK.isSome_setCell max2_int min2_int max_two min_two max_three min_three max_four min_four   -- for this text's walks alone
set_option linter.unusedVariables false
set_option linter.unusedSimpArgs false

set_option maxHeartbeats 16000000 in
set_option maxRecDepth 100000 in
theorem laws_FnExactTakeAck.short0 (k : Nat) (a0_0 : Int) (A0_1 : Option Addr) (c0_1 : Nat) (l0_1 : List (S136)) (a0_2 : Bool) (a0_3 : Int) (a0_4 : Int) (a0_5 : Int) (a0_6 : Int) (A1 : Option Addr) (c1 : Nat) (l1 : List (S99)) (a2 : Int) (a3 : Int) (t1 : Int) (w : World) (hr0_1 : Kd.C k136 w A0_1 l0_1.length l0_1) (hc0_1 : l0_1.length ≤ c0_1) (hr1 : Kd.C k99 w A1 l1.length l1) (hc1 : l1.length ≤ c1) (A2_ : laws_szSpace.f a0_0 l0_1 a0_2 a0_3 a0_4 a0_5 a0_6 1048576 = some t1) (e0_ : t1 < 0) :
  Calls Try.prog 4 #[.agg #[.int .i64 a0_0, .slice A0_1 l0_1.length c0_1, .bool a0_2, .int .i64 a0_3, .int .i64 a0_4, .int .i64 a0_5, .int .i64 a0_6], .slice A1 l1.length c1, .int .i64 a2, .int .i64 a3] w fun e w' => e = .returned (.bool true) ∧ Below w.heap.size w w' := by
 have HR0_1 := Aside0.mk hr0_1
 have HC0_1 := Aside0.mk hc0_1
 clear hr0_1 hc0_1
 have HR1 := Aside0.mk hr1
 have HC1 := Aside0.mk hc1
 clear hr1 hc1
 have A2 := Aside0.mk A2_
 clear A2_
 have e0 : decide (t1 < 0) = true := decide_eq_true (by omega)
 clear e0_
 have hu38 := Try.underlying38
 have hu44 := Try.underlying44
 have HB := Aside0.mk (Below.refl w.heap.size w)
 go_enter Try.func4, Try.ntmps4
 go_wp2_with (first | ((with_reducible refine gate_dst (N := 4) rfl ?_); refine box_event ?hg (N := 4) ?hd (cs := #[.int .i64 a0_0, .slice A0_1 l0_1.length c0_1, .bool a0_2, .int .i64 a0_3, .int .i64 a0_4, .int .i64 a0_5, .int .i64 a0_6]) (t := 38) ?hr ?_; (case hd => rfl); (case hg => rfl); (case hr => first | (go_simp; done) | (go_simp; rfl)); intro gb4 hg w1 hbox hb; have hge : w.heap.size ≤ gb4 := Nat.le_trans HB.out.size (Nat.le_of_eq hg.symm); replace HB := uH HB hb; have B4 : Bx w.heap.size w1 gb4 #[.int .i64 a0_0, .slice A0_1 l0_1.length c0_1, .bool a0_2, .int .i64 a0_3, .int .i64 a0_4, .int .i64 a0_5, .int .i64 a0_6] 38 := ⟨hbox, hge⟩; clear hb hbox hg hge; obtain ⟨qB4_0, qB4_1, qB4_2, qB4_3, qB4_4, qB4_5, qB4_6⟩ := cz7' B4; obtain ⟨zB4_0, zB4_1, zB4_2, zB4_3, zB4_4, zB4_5, zB4_6⟩ := fz7' B4))
 clear qB4_0 qB4_1 qB4_2 qB4_3 qB4_4 qB4_5 qB4_6 zB4_0 zB4_1 zB4_2 zB4_3 zB4_4 zB4_5 zB4_6
 refine (laws_szSpace.calls a0_0 _ _ l0_1 a0_2 a0_3 a0_4 a0_5 a0_6 1048576 t1 _ (Kd.C_below HR0_1.out HB.out) HC0_1.out A2.out).mono ?_
 rintro e w2 ⟨rfl, hb⟩
 replace B4 := B4.up hb
 replace HB := uH HB hb
 clear hb
 go_wp2_with fail
 go_ret
 exact ⟨rfl, HB.out⟩
set_option maxHeartbeats 16000000 in
set_option maxRecDepth 100000 in
theorem laws_FnExactTakeAck.short1 (k : Nat) (a0_0 : Int) (A0_1 : Option Addr) (c0_1 : Nat) (l0_1 : List (S136)) (a0_2 : Bool) (a0_3 : Int) (a0_4 : Int) (a0_5 : Int) (a0_6 : Int) (A1 : Option Addr) (c1 : Nat) (l1 : List (S99)) (a2 : Int) (a3 : Int) (t1 : Int) (t3 : Int) (w : World) (hr0_1 : Kd.C k136 w A0_1 l0_1.length l0_1) (hc0_1 : l0_1.length ≤ c0_1) (hr1 : Kd.C k99 w A1 l1.length l1) (hc1 : l1.length ≤ c1) (A2_ : laws_szSpace.f a0_0 l0_1 a0_2 a0_3 a0_4 a0_5 a0_6 1048576 = some t1) (A4_ : laws_szRangeS.f l1 t1 = some t3) (e0_ : 0 ≤ t1) (e1_ : t3 < 0) :
  Calls Try.prog 4 #[.agg #[.int .i64 a0_0, .slice A0_1 l0_1.length c0_1, .bool a0_2, .int .i64 a0_3, .int .i64 a0_4, .int .i64 a0_5, .int .i64 a0_6], .slice A1 l1.length c1, .int .i64 a2, .int .i64 a3] w fun e w' => e = .returned (.bool true) ∧ Below w.heap.size w w' := by
 have HR0_1 := Aside0.mk hr0_1
 have HC0_1 := Aside0.mk hc0_1
 clear hr0_1 hc0_1
 have HR1 := Aside0.mk hr1
 have HC1 := Aside0.mk hc1
 clear hr1 hc1
 have A2 := Aside0.mk A2_
 clear A2_
 have A4 := Aside0.mk A4_
 clear A4_
 have e0 : decide (t1 < 0) = false := decide_eq_false (by omega)
 clear e0_
 have e1 : decide (t3 < 0) = true := decide_eq_true (by omega)
 clear e1_
 have hu38 := Try.underlying38
 have hu44 := Try.underlying44
 have HB := Aside0.mk (Below.refl w.heap.size w)
 go_enter Try.func4, Try.ntmps4
 go_wp2_with (first | ((with_reducible refine gate_dst (N := 4) rfl ?_); refine box_event ?hg (N := 4) ?hd (cs := #[.int .i64 a0_0, .slice A0_1 l0_1.length c0_1, .bool a0_2, .int .i64 a0_3, .int .i64 a0_4, .int .i64 a0_5, .int .i64 a0_6]) (t := 38) ?hr ?_; (case hd => rfl); (case hg => rfl); (case hr => first | (go_simp; done) | (go_simp; rfl)); intro gb4 hg w1 hbox hb; have hge : w.heap.size ≤ gb4 := Nat.le_trans HB.out.size (Nat.le_of_eq hg.symm); replace HB := uH HB hb; have B4 : Bx w.heap.size w1 gb4 #[.int .i64 a0_0, .slice A0_1 l0_1.length c0_1, .bool a0_2, .int .i64 a0_3, .int .i64 a0_4, .int .i64 a0_5, .int .i64 a0_6] 38 := ⟨hbox, hge⟩; clear hb hbox hg hge; obtain ⟨qB4_0, qB4_1, qB4_2, qB4_3, qB4_4, qB4_5, qB4_6⟩ := cz7' B4; obtain ⟨zB4_0, zB4_1, zB4_2, zB4_3, zB4_4, zB4_5, zB4_6⟩ := fz7' B4))
 clear qB4_0 qB4_1 qB4_2 qB4_3 qB4_4 qB4_5 qB4_6 zB4_0 zB4_1 zB4_2 zB4_3 zB4_4 zB4_5 zB4_6
 refine (laws_szSpace.calls a0_0 _ _ l0_1 a0_2 a0_3 a0_4 a0_5 a0_6 1048576 t1 _ (Kd.C_below HR0_1.out HB.out) HC0_1.out A2.out).mono ?_
 rintro e w2 ⟨rfl, hb⟩
 replace B4 := B4.up hb
 replace HB := uH HB hb
 clear hb
 go_wp2_with fail
 refine (laws_szRangeS.calls _ _ l1 t1 t3 _ (Kd.C_below HR1.out HB.out) HC1.out A4.out).mono ?_
 rintro e w3 ⟨rfl, hd⟩
 obtain ⟨nd, hq⟩ := hd.out
 have hb : Below _ _ w3 := hq ▸ bn _ nd
 clear hd hq
 replace B4 := B4.up hb
 replace HB := uH HB hb
 clear hb
 obtain ⟨qB4_0, qB4_1, qB4_2, qB4_3, qB4_4, qB4_5, qB4_6⟩ := cz7' B4
 obtain ⟨zB4_0, zB4_1, zB4_2, zB4_3, zB4_4, zB4_5, zB4_6⟩ := fz7' B4
 go_wp2_with fail
 go_ret
 exact ⟨rfl, HB.out⟩
set_option maxHeartbeats 16000000 in
set_option maxRecDepth 100000 in
theorem laws_FnExactTakeAck.long (k : Nat) (a0_0 : Int) (A0_1 : Option Addr) (c0_1 : Nat) (l0_1 : List (S136)) (a0_2 : Bool) (a0_3 : Int) (a0_4 : Int) (a0_5 : Int) (a0_6 : Int) (A1 : Option Addr) (c1 : Nat) (l1 : List (S99)) (a2 : Int) (a3 : Int) (t1 : Int) (t3 : Int) (t5 : Int) (t6 : List (S89)) (t7 : Bool) (t8 : Int) (t9 : Int) (t10 : Int) (t11 : Int) (t19 : List (S92)) (t28 : Int) (t29 : List S89) (t30 : Bool) (t31 : Int) (t32 : Int) (t33 : Int) (t34 : Int) (t35 : List Int) (t36 : List Int) (t37 : Bool) (t161 : Int) (t162 : List (S89)) (t171 : Int) (t172 : List (S92)) (t180 : Int) (t181 : List (S89)) (t189 : Int) (t190 : List Int) (t198 : Int) (t199 : List Int) (w : World) (hr0_1 : Kd.C k136 w A0_1 l0_1.length l0_1) (hc0_1 : l0_1.length ≤ c0_1) (hr1 : Kd.C k99 w A1 l1.length l1) (hc1 : l1.length ≤ c1) (A2_ : laws_szSpace.f a0_0 l0_1 a0_2 a0_3 a0_4 a0_5 a0_6 1048576 = some t1) (A4_ : laws_szRangeS.f l1 t1 = some t3) (A12_ : laws_toSpace.f k a0_0 l0_1 a0_2 a0_3 a0_4 a0_5 a0_6 = some (t5, t6, t7, t8, t9, t10, t11)) (A20_ : laws_toRangeS.f k l1 = some t19) (A38_ : spec_TakeAck.f k t5 t6 t7 t8 t9 t10 t11 t19 a2 a3 = some (t28, t29, t30, t31, t32, t33, t34, t35, t36, t37)) (A88_ : impl_TakeAck.f k t5 t6 t7 t8 t9 t10 t11 t19 a2 a3 = some (t28, t29, t30, t31, t32, t33, t34, t35, t36, t37)) (A128_ : laws_eqSpace.f k t28 t29 t30 t31 t32 t33 t34 t28 t29 t30 t31 t32 t33 t34 = some true) (A129_ : laws_eqIntS.f k t35 t35 = some true) (A130_ : laws_eqIntS.f k t36 t36 = some true) (A145_ : laws_eqSpace.f k t5 t6 t7 t8 t9 t10 t11 t5 t6 t7 t8 t9 t10 t11 = some true) (A160_ : laws_eqRangeS.f k t19 t19 = some true) (A163_ : laws_markSpace.f k t5 t6 t7 t8 t9 t10 t11 1 = some (t161, t162)) (A173_ : laws_markRangeS.f k t19 t161 = some (t171, t172)) (A182_ : laws_markSpace.f k t28 t29 t30 t31 t32 t33 t34 1 = some (t180, t181)) (A191_ : laws_markIntS.f k t35 t180 = some (t189, t190)) (A200_ : laws_markIntS.f k t36 t189 = some (t198, t199)) (A207_ : laws_heldSpace.f k t28 t181 t30 t31 t32 t33 t34 1 = some t180) (A208_ : laws_heldIntS.f k t190 t180 = some t189) (A209_ : laws_heldIntS.f k t199 t189 = some t198) (e0_ : 0 ≤ t1) (e1_ : 0 ≤ t3) (e2_ : 0 ≤ t161) (e3_ : 0 ≤ t171) (e4_ : 0 ≤ t180) (e5_ : 0 ≤ t189) (e6_ : 0 ≤ t198) :
  Calls Try.prog 4 #[.agg #[.int .i64 a0_0, .slice A0_1 l0_1.length c0_1, .bool a0_2, .int .i64 a0_3, .int .i64 a0_4, .int .i64 a0_5, .int .i64 a0_6], .slice A1 l1.length c1, .int .i64 a2, .int .i64 a3] w fun e w' => e = .returned (.bool true) ∧ Below w.heap.size w w' := by
 have HR0_1 := Aside0.mk hr0_1
 have HC0_1 := Aside0.mk hc0_1
 clear hr0_1 hc0_1
 have HR1 := Aside0.mk hr1
 have HC1 := Aside0.mk hc1
 clear hr1 hc1
 have A2 := Aside0.mk A2_
 clear A2_
 have A4 := Aside0.mk A4_
 clear A4_
 have A12 := Aside0.mk A12_
 clear A12_
 have A20 := Aside0.mk A20_
 clear A20_
 have A38 := Aside0.mk A38_
 clear A38_
 have A88 := Aside0.mk A88_
 clear A88_
 have A128 := Aside0.mk A128_
 clear A128_
 have A129 := Aside0.mk A129_
 clear A129_
 have A130 := Aside0.mk A130_
 clear A130_
 have A145 := Aside0.mk A145_
 clear A145_
 have A160 := Aside0.mk A160_
 clear A160_
 have A163 := Aside0.mk A163_
 clear A163_
 have A173 := Aside0.mk A173_
 clear A173_
 have A182 := Aside0.mk A182_
 clear A182_
 have A191 := Aside0.mk A191_
 clear A191_
 have A200 := Aside0.mk A200_
 clear A200_
 have A207 := Aside0.mk A207_
 clear A207_
 have A208 := Aside0.mk A208_
 clear A208_
 have A209 := Aside0.mk A209_
 clear A209_
 have e0 : decide (t1 < 0) = false := decide_eq_false (by omega)
 clear e0_
 have e1 : decide (t3 < 0) = false := decide_eq_false (by omega)
 clear e1_
 have e2 : decide (t161 < 0) = false := decide_eq_false (by omega)
 clear e2_
 have e3 : decide (t171 < 0) = false := decide_eq_false (by omega)
 clear e3_
 have e4 : decide (t180 < 0) = false := decide_eq_false (by omega)
 clear e4_
 have e5 : decide (t189 < 0) = false := decide_eq_false (by omega)
 clear e5_
 have e6 : decide (t198 < 0) = false := decide_eq_false (by omega)
 clear e6_
 have hu38 := Try.underlying38
 have hu44 := Try.underlying44
 have HB := Aside0.mk (Below.refl w.heap.size w)
 go_enter Try.func4, Try.ntmps4
 go_wp2_with (first | ((with_reducible refine gate_dst (N := 4) rfl ?_); refine box_event ?hg (N := 4) ?hd (cs := #[.int .i64 a0_0, .slice A0_1 l0_1.length c0_1, .bool a0_2, .int .i64 a0_3, .int .i64 a0_4, .int .i64 a0_5, .int .i64 a0_6]) (t := 38) ?hr ?_; (case hd => rfl); (case hg => rfl); (case hr => first | (go_simp; done) | (go_simp; rfl)); intro gb4 hg w1 hbox hb; have hge : w.heap.size ≤ gb4 := Nat.le_trans HB.out.size (Nat.le_of_eq hg.symm); replace HB := uH HB hb; have B4 : Bx w.heap.size w1 gb4 #[.int .i64 a0_0, .slice A0_1 l0_1.length c0_1, .bool a0_2, .int .i64 a0_3, .int .i64 a0_4, .int .i64 a0_5, .int .i64 a0_6] 38 := ⟨hbox, hge⟩; clear hb hbox hg hge; obtain ⟨qB4_0, qB4_1, qB4_2, qB4_3, qB4_4, qB4_5, qB4_6⟩ := cz7' B4; obtain ⟨zB4_0, zB4_1, zB4_2, zB4_3, zB4_4, zB4_5, zB4_6⟩ := fz7' B4))
 clear qB4_0 qB4_1 qB4_2 qB4_3 qB4_4 qB4_5 qB4_6 zB4_0 zB4_1 zB4_2 zB4_3 zB4_4 zB4_5 zB4_6
 refine (laws_szSpace.calls a0_0 _ _ l0_1 a0_2 a0_3 a0_4 a0_5 a0_6 1048576 t1 _ (Kd.C_below HR0_1.out HB.out) HC0_1.out A2.out).mono ?_
 rintro e w2 ⟨rfl, hb⟩
 replace B4 := B4.up hb
 replace HB := uH HB hb
 clear hb
 go_wp2_with fail
 refine (laws_szRangeS.calls _ _ l1 t1 t3 _ (Kd.C_below HR1.out HB.out) HC1.out A4.out).mono ?_
 rintro e w3 ⟨rfl, hd⟩
 obtain ⟨nd, hq⟩ := hd.out
 have hb : Below _ _ w3 := hq ▸ bn _ nd
 clear hd hq
 replace B4 := B4.up hb
 replace HB := uH HB hb
 clear hb
 obtain ⟨qB4_0, qB4_1, qB4_2, qB4_3, qB4_4, qB4_5, qB4_6⟩ := cz7' B4
 obtain ⟨zB4_0, zB4_1, zB4_2, zB4_3, zB4_4, zB4_5, zB4_6⟩ := fz7' B4
 go_wp2_with fail
 clear qB4_0 qB4_1 qB4_2 qB4_3 qB4_4 qB4_5 qB4_6 zB4_0 zB4_1 zB4_2 zB4_3 zB4_4 zB4_5 zB4_6
 refine (laws_toSpace.calls k a0_0 _ _ l0_1 a0_2 a0_3 a0_4 a0_5 a0_6 t5 t6 t7 t8 t9 t10 t11 _ (Kd.C_below HR0_1.out HB.out) HC0_1.out A12.out).mono ?_
 rintro e w4 ⟨v13, rfl, ho0, hb⟩
 obtain ⟨ok14, A_15, c_16, rfl, R17, F18⟩ := Rw.new HB ho0
 clear F18
 replace B4 := B4.up hb
 replace HB := uH HB hb
 clear hb ho0
 go_wp2_with fail
 refine (laws_toRangeS.calls k _ _ l1 t19 _ (Kd.C_below HR1.out HB.out) HC1.out A20.out).mono ?_
 rintro e w5 ⟨v21, rfl, ho0, hb⟩
 obtain ⟨ok22, A_23, c_24, rfl, R25, F26⟩ := Rw.new HB ho0
 have D27 := R17.dis F26
 clear F26
 replace B4 := B4.up hb
 replace R17 := R17.up hb
 replace HB := uH HB hb
 clear hb ho0
 go_wp2_with fail
 refine (spec_TakeAck.calls k t5 _ _ t6 t7 t8 t9 t10 t11 _ _ t19 a2 a3 t28 t29 t30 t31 t32 t33 t34 t35 t36 t37 _ R17.readsC R17.readsN R25.readsC R25.readsN A38.out).mono ?_
 rintro e w6 ⟨v39, v40, v41, rfl, ho0, ho1, ho2, hb⟩
 obtain ⟨ok42, A_43, c_44, ok47, A_48, c_49, ok52, A_53, c_54, rfl, rfl, rfl, R45, R50, R55, F46, F51, F56, D57, D58, D59⟩ := Rw.new3 HB ho0 ho1 ho2 rfl rfl rfl (by decide) (by decide) (fun k hk => ho1.1 k hk)
 have D60 := R17.dis F46
 have D61 := R25.dis F46
 clear F46
 have D62 := R17.dis F51
 have D63 := R25.dis F51
 clear F51
 have D64 := R17.dis F56
 have D65 := R25.dis F56
 clear F56
 replace B4 := B4.up hb
 replace R17 := R17.up hb
 replace R25 := R25.up hb
 replace HB := uH HB hb
 clear hb ho0 ho1 ho2
 clear R17 R25
 obtain ⟨qB4_0, qB4_1, qB4_2, qB4_3, qB4_4, qB4_5, qB4_6⟩ := cz7' B4
 obtain ⟨zB4_0, zB4_1, zB4_2, zB4_3, zB4_4, zB4_5, zB4_6⟩ := fz7' B4
 go_wp2_with (first | ((with_reducible refine gate_dst (N := 10) rfl ?_); refine box_event ?hg (N := 10) ?hd (cs := #[.int .i64 0, .slice none 0 0, .bool false, .int .i64 0, .int .i64 0, .int .i64 0, .int .i64 0]) (t := 44) ?hr ?_; (case hd => rfl); (case hg => rfl); (case hr => first | (go_simp; done) | (go_simp; rfl)); clear qB4_0 qB4_1 qB4_2 qB4_3 qB4_4 qB4_5 qB4_6 zB4_0 zB4_1 zB4_2 zB4_3 zB4_4 zB4_5 zB4_6; intro gb10 hg w7 hbox hb; have N66 := B4.ne hg; have hge : w.heap.size ≤ gb10 := Nat.le_trans HB.out.size (Nat.le_of_eq hg.symm); replace B4 := B4.up hb; replace R45 := R45.up hb; replace R50 := R50.up hb; replace R55 := R55.up hb; replace HB := uH HB hb; have B10 : Bx w.heap.size w7 gb10 #[.int .i64 0, .slice none 0 0, .bool false, .int .i64 0, .int .i64 0, .int .i64 0, .int .i64 0] 44 := ⟨hbox, hge⟩; clear hb hbox hg hge; obtain ⟨qB4_0, qB4_1, qB4_2, qB4_3, qB4_4, qB4_5, qB4_6⟩ := cz7' B4; obtain ⟨zB4_0, zB4_1, zB4_2, zB4_3, zB4_4, zB4_5, zB4_6⟩ := fz7' B4; obtain ⟨qB10_0, qB10_1, qB10_2, qB10_3, qB10_4, qB10_5, qB10_6⟩ := cz7' B10; obtain ⟨zB10_0, zB10_1, zB10_2, zB10_3, zB10_4, zB10_5, zB10_6⟩ := fz7' B10; have uN66 := N66.out; have vN66 := Ne.symm N66.out))
 clear qB4_0 qB4_1 qB4_2 qB4_3 qB4_4 qB4_5 qB4_6 zB4_0 zB4_1 zB4_2 zB4_3 zB4_4 zB4_5 zB4_6 qB10_0 qB10_1 qB10_2 qB10_3 qB10_4 qB10_5 qB10_6 zB10_0 zB10_1 zB10_2 zB10_3 zB10_4 zB10_5 zB10_6 uN66 vN66
 obtain ⟨b_, ho_⟩ := st7 (v0 := .int .i64 t28) (v1 := .slice A_43 t29.length c_44) (v2 := .bool t30) (v3 := .int .i64 t31) (v4 := .int .i64 t32) (v5 := .int .i64 t33) (v6 := .int .i64 t34) B10
 have hk := ho_.k
 replace B4 := B4.far hk N66
 replace R45 := R45.far B10 (by decide) hk
 replace R50 := R50.far B10 (by decide) hk
 replace R55 := R55.far B10 (by decide) hk
 replace HB := uHset HB ho_ B10
 clear hk ho_ B10
 have B10 := b_
 clear b_
 generalize (((((((w7.setCell ⟨gb10, 0, none⟩ (.int .i64 t28)).setCell ⟨gb10, 1, none⟩ (.slice A_43 t29.length c_44)).setCell ⟨gb10, 2, none⟩ (.bool t30)).setCell ⟨gb10, 3, none⟩ (.int .i64 t31)).setCell ⟨gb10, 4, none⟩ (.int .i64 t32)).setCell ⟨gb10, 5, none⟩ (.int .i64 t33)).setCell ⟨gb10, 6, none⟩ (.int .i64 t34)) = w8 at B4 B10 R45 R50 R55 HB ⊢
 refine (laws_toSpace.calls k a0_0 _ _ l0_1 a0_2 a0_3 a0_4 a0_5 a0_6 t5 t6 t7 t8 t9 t10 t11 _ (Kd.C_below HR0_1.out HB.out) HC0_1.out A12.out).mono ?_
 rintro e w9 ⟨v67, rfl, ho0, hb⟩
 obtain ⟨ok68, A_69, c_70, rfl, R71, F72⟩ := Rw.new HB ho0
 have D73 := R45.dis F72
 have D74 := R50.dis F72
 have D75 := R55.dis F72
 clear F72
 replace B4 := B4.up hb
 replace B10 := B10.up hb
 replace R45 := R45.up hb
 replace R50 := R50.up hb
 replace R55 := R55.up hb
 replace HB := uH HB hb
 clear hb ho0
 go_wp2_with (first | ((with_reducible refine gate_dst (N := 14) rfl ?_); refine box_event ?hg (N := 14) ?hd (cs := #[.int .i64 0, .slice none 0 0, .bool false, .int .i64 0, .int .i64 0, .int .i64 0, .int .i64 0]) (t := 44) ?hr ?_; (case hd => rfl); (case hg => rfl); (case hr => first | (go_simp; done) | (go_simp; rfl)); intro gb14 hg w10 hbox hb; have N76 := B4.ne hg; have N77 := B10.ne hg; have hge : w.heap.size ≤ gb14 := Nat.le_trans HB.out.size (Nat.le_of_eq hg.symm); replace B4 := B4.up hb; replace B10 := B10.up hb; replace R45 := R45.up hb; replace R50 := R50.up hb; replace R55 := R55.up hb; replace R71 := R71.up hb; replace HB := uH HB hb; have B14 : Bx w.heap.size w10 gb14 #[.int .i64 0, .slice none 0 0, .bool false, .int .i64 0, .int .i64 0, .int .i64 0, .int .i64 0] 44 := ⟨hbox, hge⟩; clear hb hbox hg hge; obtain ⟨qB14_0, qB14_1, qB14_2, qB14_3, qB14_4, qB14_5, qB14_6⟩ := cz7' B14; obtain ⟨zB14_0, zB14_1, zB14_2, zB14_3, zB14_4, zB14_5, zB14_6⟩ := fz7' B14))
 clear qB14_0 qB14_1 qB14_2 qB14_3 qB14_4 qB14_5 qB14_6 zB14_0 zB14_1 zB14_2 zB14_3 zB14_4 zB14_5 zB14_6
 obtain ⟨b_, ho_⟩ := st7 (v0 := .int .i64 t5) (v1 := .slice A_69 t6.length c_70) (v2 := .bool t7) (v3 := .int .i64 t8) (v4 := .int .i64 t9) (v5 := .int .i64 t10) (v6 := .int .i64 t11) B14
 have hk := ho_.k
 replace B4 := B4.far hk N76
 replace B10 := B10.far hk N77
 replace R45 := R45.far B14 (by decide) hk
 replace R50 := R50.far B14 (by decide) hk
 replace R55 := R55.far B14 (by decide) hk
 replace R71 := R71.far B14 (by decide) hk
 replace HB := uHset HB ho_ B14
 clear hk ho_ B14
 have B14 := b_
 clear b_
 generalize (((((((w10.setCell ⟨gb14, 0, none⟩ (.int .i64 t5)).setCell ⟨gb14, 1, none⟩ (.slice A_69 t6.length c_70)).setCell ⟨gb14, 2, none⟩ (.bool t7)).setCell ⟨gb14, 3, none⟩ (.int .i64 t8)).setCell ⟨gb14, 4, none⟩ (.int .i64 t9)).setCell ⟨gb14, 5, none⟩ (.int .i64 t10)).setCell ⟨gb14, 6, none⟩ (.int .i64 t11)) = w11 at B4 B10 B14 R45 R50 R55 R71 HB ⊢
 refine (laws_toRangeS.calls k _ _ l1 t19 _ (Kd.C_below HR1.out HB.out) HC1.out A20.out).mono ?_
 rintro e w12 ⟨v78, rfl, ho0, hb⟩
 obtain ⟨ok79, A_80, c_81, rfl, R82, F83⟩ := Rw.new HB ho0
 have D84 := R45.dis F83
 have D85 := R50.dis F83
 have D86 := R55.dis F83
 have D87 := R71.dis F83
 clear F83
 replace B4 := B4.up hb
 replace B10 := B10.up hb
 replace B14 := B14.up hb
 replace R45 := R45.up hb
 replace R50 := R50.up hb
 replace R55 := R55.up hb
 replace R71 := R71.up hb
 replace HB := uH HB hb
 clear hb ho0
 obtain ⟨qB14_0, qB14_1, qB14_2, qB14_3, qB14_4, qB14_5, qB14_6⟩ := cz7' B14
 obtain ⟨zB14_0, zB14_1, zB14_2, zB14_3, zB14_4, zB14_5, zB14_6⟩ := fz7' B14
 go_wp2_with fail
 clear qB14_0 qB14_1 qB14_2 qB14_3 qB14_4 qB14_5 qB14_6 zB14_0 zB14_1 zB14_2 zB14_3 zB14_4 zB14_5 zB14_6
 refine (impl_TakeAck.calls k t5 _ _ t6 t7 t8 t9 t10 t11 _ _ t19 a2 a3 t28 t29 t30 t31 t32 t33 t34 t35 t36 t37 _ R71.readsC R71.readsN R82.readsC R82.readsN A88.out).mono ?_
 rintro e w13 ⟨v89, v90, v91, rfl, ho0, ho1, ho2, hb⟩
 obtain ⟨ok92, A_93, c_94, ok97, A_98, c_99, ok102, A_103, c_104, rfl, rfl, rfl, R95, R100, R105, F96, F101, F106, D107, D108, D109⟩ := Rw.new3 HB ho0 ho1 ho2 rfl rfl rfl (by decide) (by decide) (fun k hk => ho1.1 k hk)
 have D110 := R45.dis F96
 have D111 := R50.dis F96
 have D112 := R55.dis F96
 have D113 := R71.dis F96
 have D114 := R82.dis F96
 clear F96
 have D115 := R45.dis F101
 have D116 := R50.dis F101
 have D117 := R55.dis F101
 have D118 := R71.dis F101
 have D119 := R82.dis F101
 clear F101
 have D120 := R45.dis F106
 have D121 := R50.dis F106
 have D122 := R55.dis F106
 have D123 := R71.dis F106
 have D124 := R82.dis F106
 clear F106
 replace B4 := B4.up hb
 replace B10 := B10.up hb
 replace B14 := B14.up hb
 replace R45 := R45.up hb
 replace R50 := R50.up hb
 replace R55 := R55.up hb
 replace R71 := R71.up hb
 replace R82 := R82.up hb
 replace HB := uH HB hb
 clear hb ho0 ho1 ho2
 obtain ⟨qB10_0, qB10_1, qB10_2, qB10_3, qB10_4, qB10_5, qB10_6⟩ := cz7' B10
 obtain ⟨zB10_0, zB10_1, zB10_2, zB10_3, zB10_4, zB10_5, zB10_6⟩ := fz7' B10
 go_wp2_with (first | ((with_reducible refine gate_dst (N := 16) rfl ?_); refine box_event ?hg (N := 16) ?hd (cs := #[.int .i64 0, .slice none 0 0, .bool false, .int .i64 0, .int .i64 0, .int .i64 0, .int .i64 0]) (t := 44) ?hr ?_; (case hd => rfl); (case hg => rfl); (case hr => first | (go_simp; done) | (go_simp; rfl)); clear qB10_0 qB10_1 qB10_2 qB10_3 qB10_4 qB10_5 qB10_6 zB10_0 zB10_1 zB10_2 zB10_3 zB10_4 zB10_5 zB10_6; intro gb16 hg w14 hbox hb; have N125 := B4.ne hg; have N126 := B10.ne hg; have N127 := B14.ne hg; have hge : w.heap.size ≤ gb16 := Nat.le_trans HB.out.size (Nat.le_of_eq hg.symm); replace B4 := B4.up hb; replace B10 := B10.up hb; replace B14 := B14.up hb; replace R45 := R45.up hb; replace R50 := R50.up hb; replace R55 := R55.up hb; replace R71 := R71.up hb; replace R82 := R82.up hb; replace R95 := R95.up hb; replace R100 := R100.up hb; replace R105 := R105.up hb; replace HB := uH HB hb; have B16 : Bx w.heap.size w14 gb16 #[.int .i64 0, .slice none 0 0, .bool false, .int .i64 0, .int .i64 0, .int .i64 0, .int .i64 0] 44 := ⟨hbox, hge⟩; clear hb hbox hg hge; obtain ⟨qB10_0, qB10_1, qB10_2, qB10_3, qB10_4, qB10_5, qB10_6⟩ := cz7' B10; obtain ⟨zB10_0, zB10_1, zB10_2, zB10_3, zB10_4, zB10_5, zB10_6⟩ := fz7' B10; obtain ⟨qB16_0, qB16_1, qB16_2, qB16_3, qB16_4, qB16_5, qB16_6⟩ := cz7' B16; obtain ⟨zB16_0, zB16_1, zB16_2, zB16_3, zB16_4, zB16_5, zB16_6⟩ := fz7' B16; have uN126 := N126.out; have vN126 := Ne.symm N126.out))
 clear qB10_0 qB10_1 qB10_2 qB10_3 qB10_4 qB10_5 qB10_6 zB10_0 zB10_1 zB10_2 zB10_3 zB10_4 zB10_5 zB10_6 qB16_0 qB16_1 qB16_2 qB16_3 qB16_4 qB16_5 qB16_6 zB16_0 zB16_1 zB16_2 zB16_3 zB16_4 zB16_5 zB16_6 uN126 vN126
 obtain ⟨b_, ho_⟩ := st7 (v0 := .int .i64 t28) (v1 := .slice A_93 t29.length c_94) (v2 := .bool t30) (v3 := .int .i64 t31) (v4 := .int .i64 t32) (v5 := .int .i64 t33) (v6 := .int .i64 t34) B16
 have hk := ho_.k
 replace B4 := B4.far hk N125
 replace B10 := B10.far hk N126
 replace B14 := B14.far hk N127
 replace R45 := R45.far B16 (by decide) hk
 replace R50 := R50.far B16 (by decide) hk
 replace R55 := R55.far B16 (by decide) hk
 replace R71 := R71.far B16 (by decide) hk
 replace R82 := R82.far B16 (by decide) hk
 replace R95 := R95.far B16 (by decide) hk
 replace R100 := R100.far B16 (by decide) hk
 replace R105 := R105.far B16 (by decide) hk
 replace HB := uHset HB ho_ B16
 clear hk ho_ B16
 have B16 := b_
 clear b_
 generalize (((((((w14.setCell ⟨gb16, 0, none⟩ (.int .i64 t28)).setCell ⟨gb16, 1, none⟩ (.slice A_93 t29.length c_94)).setCell ⟨gb16, 2, none⟩ (.bool t30)).setCell ⟨gb16, 3, none⟩ (.int .i64 t31)).setCell ⟨gb16, 4, none⟩ (.int .i64 t32)).setCell ⟨gb16, 5, none⟩ (.int .i64 t33)).setCell ⟨gb16, 6, none⟩ (.int .i64 t34)) = w15 at B4 B10 B14 B16 R45 R50 R55 R71 R82 R95 R100 R105 HB ⊢
 refine (laws_eqSpace.calls k t28 _ _ t29 t30 t31 t32 t33 t34 t28 _ _ t29 t30 t31 t32 t33 t34 true _ R95.readsC R95.readsN R45.readsC R45.readsN A128.out).mono ?_
 rintro e w16 ⟨rfl, hb⟩
 replace B4 := B4.up hb
 replace B10 := B10.up hb
 replace B14 := B14.up hb
 replace B16 := B16.up hb
 replace R45 := R45.up hb
 replace R50 := R50.up hb
 replace R55 := R55.up hb
 replace R71 := R71.up hb
 replace R82 := R82.up hb
 replace R95 := R95.up hb
 replace R100 := R100.up hb
 replace R105 := R105.up hb
 replace HB := uH HB hb
 clear hb
 go_wp2_with fail
 refine (laws_eqIntS.calls k _ _ t35 _ _ t35 true _ R100.readsC R100.readsN R50.readsC R50.readsN A129.out).mono ?_
 rintro e w17 ⟨rfl, hd⟩
 obtain ⟨nd, hq⟩ := hd.out
 have hb : Below _ _ w17 := hq ▸ bn _ nd
 clear hd hq
 replace B4 := B4.up hb
 replace B10 := B10.up hb
 replace B14 := B14.up hb
 replace B16 := B16.up hb
 replace R45 := R45.up hb
 replace R50 := R50.up hb
 replace R55 := R55.up hb
 replace R71 := R71.up hb
 replace R82 := R82.up hb
 replace R95 := R95.up hb
 replace R100 := R100.up hb
 replace R105 := R105.up hb
 replace HB := uH HB hb
 clear hb
 go_wp2_with fail
 refine (laws_eqIntS.calls k _ _ t36 _ _ t36 true _ R105.readsC R105.readsN R55.readsC R55.readsN A130.out).mono ?_
 rintro e w18 ⟨rfl, hd⟩
 obtain ⟨nd, hq⟩ := hd.out
 have hb : Below _ _ w18 := hq ▸ bn _ nd
 clear hd hq
 replace B4 := B4.up hb
 replace B10 := B10.up hb
 replace B14 := B14.up hb
 replace B16 := B16.up hb
 replace R45 := R45.up hb
 replace R50 := R50.up hb
 replace R55 := R55.up hb
 replace R71 := R71.up hb
 replace R82 := R82.up hb
 replace R95 := R95.up hb
 replace R100 := R100.up hb
 replace R105 := R105.up hb
 replace HB := uH HB hb
 clear hb
 go_wp2_with fail
 refine start_ (n := 5) (S := fun w' => Bx w.heap.size w' gb14 #[.int .i64 t5, .slice A_69 t6.length c_70, .bool t7, .int .i64 t8, .int .i64 t9, .int .i64 t10, .int .i64 t11] 44 ∧ Bx w.heap.size w' gb4 #[.int .i64 a0_0, .slice A0_1 l0_1.length c0_1, .bool a0_2, .int .i64 a0_3, .int .i64 a0_4, .int .i64 a0_5, .int .i64 a0_6] 38) (ds := []) (bm 5 0) (by kernel_rfl) rfl rfl ⟨B14.up (bd _), B4.up (bd _)⟩ (fun hHeld => ?_)
 replace B4 := B4.up (bd _)
 replace B10 := B10.up (bd _)
 replace B14 := B14.up (bd _)
 replace B16 := B16.up (bd _)
 replace R45 := R45.up (bd _)
 replace R50 := R50.up (bd _)
 replace R55 := R55.up (bd _)
 replace R71 := R71.up (bd _)
 replace R82 := R82.up (bd _)
 replace R95 := R95.up (bd _)
 replace R100 := R100.up (bd _)
 replace R105 := R105.up (bd _)
 replace HB := uHd HB
 generalize w18.drew = w19 at B4 B10 B14 B16 R45 R50 R55 R71 R82 R95 R100 R105 HB hHeld ⊢
 refine take_ (i := 0) (N := some 84) (v := ?_) (a' := ?_) (bm 5 1) rfl rfl (by kernel_rfl) (fun _ _ _ h => h) (Or.inl ⟨by rfl, ?_⟩) hHeld ?_ ?_
 rotate_left
 · rintro w' ⟨s0, s1⟩
   obtain ⟨q0, q1, q2, q3, q4, q5, q6⟩ := cz7' s0
   go_simp
   with_reducible rfl
 rotate_left
 · simp only [Act.put, sA, sZ, sS, i64_w, i32_w]
   rfl
 refine take_ (i := 1) (N := some 85) (v := ?_) (a' := ?_) (bm 5 3) rfl rfl (by kernel_rfl) (fun _ _ _ h => h) (Or.inl ⟨by rfl, ?_⟩) hHeld ?_ ?_
 rotate_left
 · rintro w' ⟨s0, s1⟩
   obtain ⟨q0, q1, q2, q3, q4, q5, q6⟩ := cz7' s1
   go_simp
   with_reducible rfl
 rotate_left
 · simp only [Act.put, sA, sZ, sS, i64_w, i32_w]
   rfl
 refine one_ (i := 2) (N := some 86) (bm 5 7) rfl rfl (by kernel_rfl) (by decide) (fun K hK => ?_)
 clear hHeld
 refine goes_ Try.func16 (by kernel_rfl) rfl #[.agg #[.int .i64 a0_0, .slice A0_1 l0_1.length c0_1, .bool a0_2, .int .i64 a0_3, .int .i64 a0_4, .int .i64 a0_5, .int .i64 a0_6]] (by rfl) rfl rfl (by (try simp only [List.map_toArray, List.map_cons, List.map_nil]); first | done | rfl | (simp only [List.length_drop, List.length_take]; rfl)) ?_
 refine (laws_toSpace.calls k a0_0 _ _ l0_1 a0_2 a0_3 a0_4 a0_5 a0_6 t5 t6 t7 t8 t9 t10 t11 _ (Kd.C_below HR0_1.out HB.out) HC0_1.out A12.out).mono ?_
 rintro e w20 ⟨v131, rfl, ho0, hb⟩
 refine ⟨_, rfl, ?_⟩
 obtain ⟨ok132, A_133, c_134, rfl, R135, F136⟩ := Rw.new HB ho0
 have D137 := R45.dis F136
 have D138 := R50.dis F136
 have D139 := R55.dis F136
 have D140 := R71.dis F136
 have D141 := R82.dis F136
 have D142 := R95.dis F136
 have D143 := R100.dis F136
 have D144 := R105.dis F136
 clear F136
 replace B4 := B4.up hb
 replace B10 := B10.up hb
 replace B14 := B14.up hb
 replace B16 := B16.up hb
 replace R45 := R45.up hb
 replace R50 := R50.up hb
 replace R55 := R55.up hb
 replace R71 := R71.up hb
 replace R82 := R82.up hb
 replace R95 := R95.up hb
 replace R100 := R100.up hb
 replace R105 := R105.up hb
 replace HB := uH HB hb
 clear hb ho0
 refine hK.out _ _ ⟨B14, B4⟩ (fun hHeld => ?_)
 clear hK K
 refine norm_ (a' := ?_) ?_ ?_
 rotate_left
 · show Act.put _ (some 86) _ = _
   simp only [Act.put, sA, sZ, sS, i64_w, i32_w]
   rfl
 refine one_ (i := 3) (N := some 87) (bm 5 15) rfl rfl (by kernel_rfl) (by decide) (fun K hK => ?_)
 clear hHeld
 refine goes_ Try.func19 (by kernel_rfl) rfl #[.agg #[.int .i64 t5, .slice A_69 t6.length c_70, .bool t7, .int .i64 t8, .int .i64 t9, .int .i64 t10, .int .i64 t11], .agg #[.int .i64 t5, .slice A_133 t6.length c_134, .bool t7, .int .i64 t8, .int .i64 t9, .int .i64 t10, .int .i64 t11]] (by rfl) rfl rfl (by (try simp only [List.map_toArray, List.map_cons, List.map_nil]); first | done | rfl | (simp only [List.length_drop, List.length_take]; rfl)) ?_
 refine (laws_eqSpace.calls k t5 _ _ t6 t7 t8 t9 t10 t11 t5 _ _ t6 t7 t8 t9 t10 t11 true _ R71.readsC R71.readsN R135.readsC R135.readsN A145.out).mono ?_
 rintro e w21 ⟨rfl, hb⟩
 refine ⟨_, rfl, ?_⟩
 replace B4 := B4.up hb
 replace B10 := B10.up hb
 replace B14 := B14.up hb
 replace B16 := B16.up hb
 replace R45 := R45.up hb
 replace R50 := R50.up hb
 replace R55 := R55.up hb
 replace R71 := R71.up hb
 replace R82 := R82.up hb
 replace R95 := R95.up hb
 replace R100 := R100.up hb
 replace R105 := R105.up hb
 replace R135 := R135.up hb
 replace HB := uH HB hb
 clear hb
 refine hK.out _ _ ⟨B14, B4⟩ (fun hHeld => ?_)
 clear hK K
 refine norm_ (a' := ?_) ?_ ?_
 rotate_left
 · show Act.put _ (some 87) _ = _
   simp only [Act.put, sA, sZ, sS, i64_w, i32_w]
   rfl
 refine pure_ (i := 4) (N := some 88) (v := ?_) (a' := ?_) (bm 5 31) rfl rfl (by kernel_rfl) (fun _ _ _ h => h) (Or.inl ⟨by rfl, ?_⟩) ?_ ?_
 rotate_left
 · intro w'
   go_simp
   with_reducible rfl
 rotate_left
 · simp only [Act.put, sA, sZ, sS, i64_w, i32_w]
   rfl
 clear hHeld
 refine done_ (by kernel_rfl) ?_
 clear R135
 go_wp2_with fail
 refine (laws_toRangeS.calls k _ _ l1 t19 _ (Kd.C_below HR1.out HB.out) HC1.out A20.out).mono ?_
 rintro e w22 ⟨v146, rfl, ho0, hb⟩
 obtain ⟨ok147, A_148, c_149, rfl, R150, F151⟩ := Rw.new HB ho0
 have D152 := R45.dis F151
 have D153 := R50.dis F151
 have D154 := R55.dis F151
 have D155 := R71.dis F151
 have D156 := R82.dis F151
 have D157 := R95.dis F151
 have D158 := R100.dis F151
 have D159 := R105.dis F151
 clear F151
 replace B4 := B4.up hb
 replace B10 := B10.up hb
 replace B14 := B14.up hb
 replace B16 := B16.up hb
 replace R45 := R45.up hb
 replace R50 := R50.up hb
 replace R55 := R55.up hb
 replace R71 := R71.up hb
 replace R82 := R82.up hb
 replace R95 := R95.up hb
 replace R100 := R100.up hb
 replace R105 := R105.up hb
 replace HB := uH HB hb
 clear hb ho0
 go_wp2_with fail
 refine (laws_eqRangeS.calls k _ _ t19 _ _ t19 true _ R82.readsC R82.readsN R150.readsC R150.readsN A160.out).mono ?_
 rintro e w23 ⟨rfl, hb⟩
 replace B4 := B4.up hb
 replace B10 := B10.up hb
 replace B14 := B14.up hb
 replace B16 := B16.up hb
 replace R45 := R45.up hb
 replace R50 := R50.up hb
 replace R55 := R55.up hb
 replace R71 := R71.up hb
 replace R82 := R82.up hb
 replace R95 := R95.up hb
 replace R100 := R100.up hb
 replace R105 := R105.up hb
 replace R150 := R150.up hb
 replace HB := uH HB hb
 clear hb
 clear R150
 obtain ⟨qB14_0, qB14_1, qB14_2, qB14_3, qB14_4, qB14_5, qB14_6⟩ := cz7' B14
 obtain ⟨zB14_0, zB14_1, zB14_2, zB14_3, zB14_4, zB14_5, zB14_6⟩ := fz7' B14
 go_wp2_with fail
 clear qB14_0 qB14_1 qB14_2 qB14_3 qB14_4 qB14_5 qB14_6 zB14_0 zB14_1 zB14_2 zB14_3 zB14_4 zB14_5 zB14_6
 replace R71 := R71.shrink (NoB.cons B4 (by decide) (NoB.cons B10 (by decide) (NoB.cons B14 (by decide) (NoB.cons B16 (by decide) (NoB.nil)))))
 refine (laws_markSpace.calls k t5 _ _ t6 t7 t8 t9 t10 t11 1 t161 t162 w _ HB.out R71.r A163.out).mono ?_
 rintro e w24 ⟨rfl, ho0, hbM, hk⟩
 have D164 := Dis.mark (W2 := w24) (gs := [gb4, gb10, gb14, gb16]) (D73.symm) R45
 have D165 := Dis.mark (W2 := w24) (gs := [gb4, gb10, gb14, gb16]) (D74.symm) R50
 have D166 := Dis.mark (W2 := w24) (gs := [gb4, gb10, gb14, gb16]) (D75.symm) R55
 have D167 := Dis.mark (W2 := w24) (gs := [gb4, gb10, gb14, gb16]) (D87) R82
 have D168 := Dis.mark (W2 := w24) (gs := [gb4, gb10, gb14, gb16]) (D113) R95
 have D169 := Dis.mark (W2 := w24) (gs := [gb4, gb10, gb14, gb16]) (D118) R100
 have D170 := Dis.mark (W2 := w24) (gs := [gb4, gb10, gb14, gb16]) (D123) R105
 have m_ := R71.marked ho0 hk
 replace B4 := B4.off hk (by simp)
 replace B10 := B10.off hk (by simp)
 replace B14 := B14.off hk (by simp)
 replace B16 := B16.off hk (by simp)
 replace R45 := R45.off hk D73
 replace R50 := R50.off hk D74
 replace R55 := R55.off hk D75
 replace R82 := R82.off hk D87.symm
 replace R95 := R95.off hk D113.symm
 replace R100 := R100.off hk D118.symm
 replace R105 := R105.off hk D123.symm
 replace HB := Aside0.mk hbM
 have hl := (Kd.R_reads' m_.r).1
 rw [hl] at m_ B14
 clear hk hbM ho0 hl R71
 have R71 := m_
 clear m_
 clear B14
 clear R71
 go_wp2_with fail
 replace R82 := R82.shrink (NoB.cons B4 (by decide) (NoB.cons B10 (by decide) (NoB.cons B16 (by decide) (NoB.nil))))
 refine (laws_markRangeS.calls k _ _ t19 t161 t171 t172 w _ HB.out R82.r A173.out).mono ?_
 rintro e w25 ⟨rfl, ho0, hbM, hk⟩
 have D174 := Dis.mark (W2 := w25) (gs := [gb4, gb10, gb16]) (D84.symm) R45
 have D175 := Dis.mark (W2 := w25) (gs := [gb4, gb10, gb16]) (D85.symm) R50
 have D176 := Dis.mark (W2 := w25) (gs := [gb4, gb10, gb16]) (D86.symm) R55
 have D177 := Dis.mark (W2 := w25) (gs := [gb4, gb10, gb16]) (D114) R95
 have D178 := Dis.mark (W2 := w25) (gs := [gb4, gb10, gb16]) (D119) R100
 have D179 := Dis.mark (W2 := w25) (gs := [gb4, gb10, gb16]) (D124) R105
 have m_ := R82.marked ho0 hk
 replace B4 := B4.off hk (by simp)
 replace B10 := B10.off hk (by simp)
 replace B16 := B16.off hk (by simp)
 replace R45 := R45.off hk D84
 replace R50 := R50.off hk D85
 replace R55 := R55.off hk D86
 replace R95 := R95.off hk D114.symm
 replace R100 := R100.off hk D119.symm
 replace R105 := R105.off hk D124.symm
 replace HB := Aside0.mk hbM
 have hl := (Kd.R_reads' m_.r).1
 rw [hl] at m_
 try rw [show (Value.slice A_80 t19.length c_81) = Value.slice A_80 t172.length c_81 from by rw [hl]]
 clear hk hbM ho0 hl R82
 have R82 := m_
 clear m_
 obtain ⟨qB16_0, qB16_1, qB16_2, qB16_3, qB16_4, qB16_5, qB16_6⟩ := cz7' B16
 obtain ⟨zB16_0, zB16_1, zB16_2, zB16_3, zB16_4, zB16_5, zB16_6⟩ := fz7' B16
 obtain ⟨qB10_0, qB10_1, qB10_2, qB10_3, qB10_4, qB10_5, qB10_6⟩ := cz7' B10
 obtain ⟨zB10_0, zB10_1, zB10_2, zB10_3, zB10_4, zB10_5, zB10_6⟩ := fz7' B10
 go_wp2_with fail
 clear qB16_0 qB16_1 qB16_2 qB16_3 qB16_4 qB16_5 qB16_6 zB16_0 zB16_1 zB16_2 zB16_3 zB16_4 zB16_5 zB16_6 qB10_0 qB10_1 qB10_2 qB10_3 qB10_4 qB10_5 qB10_6 zB10_0 zB10_1 zB10_2 zB10_3 zB10_4 zB10_5 zB10_6
 refine (laws_eqSpace.calls k t28 _ _ t29 t30 t31 t32 t33 t34 t28 _ _ t29 t30 t31 t32 t33 t34 true _ R95.readsC R95.readsN R45.readsC R45.readsN A128.out).mono ?_
 rintro e w26 ⟨rfl, hb⟩
 replace B4 := B4.up hb
 replace B10 := B10.up hb
 replace B16 := B16.up hb
 replace R45 := R45.up hb
 replace R50 := R50.up hb
 replace R55 := R55.up hb
 replace R82 := R82.up hb
 replace R95 := R95.up hb
 replace R100 := R100.up hb
 replace R105 := R105.up hb
 replace HB := uH HB hb
 clear hb
 go_wp2_with fail
 refine (laws_eqIntS.calls k _ _ t35 _ _ t35 true _ R100.readsC R100.readsN R50.readsC R50.readsN A129.out).mono ?_
 rintro e w27 ⟨rfl, hd⟩
 obtain ⟨nd, hq⟩ := hd.out
 have hb : Below _ _ w27 := hq ▸ bn _ nd
 clear hd hq
 replace B4 := B4.up hb
 replace B10 := B10.up hb
 replace B16 := B16.up hb
 replace R45 := R45.up hb
 replace R50 := R50.up hb
 replace R55 := R55.up hb
 replace R82 := R82.up hb
 replace R95 := R95.up hb
 replace R100 := R100.up hb
 replace R105 := R105.up hb
 replace HB := uH HB hb
 clear hb
 go_wp2_with fail
 refine (laws_eqIntS.calls k _ _ t36 _ _ t36 true _ R105.readsC R105.readsN R55.readsC R55.readsN A130.out).mono ?_
 rintro e w28 ⟨rfl, hd⟩
 obtain ⟨nd, hq⟩ := hd.out
 have hb : Below _ _ w28 := hq ▸ bn _ nd
 clear hd hq
 replace B4 := B4.up hb
 replace B10 := B10.up hb
 replace B16 := B16.up hb
 replace R45 := R45.up hb
 replace R50 := R50.up hb
 replace R55 := R55.up hb
 replace R82 := R82.up hb
 replace R95 := R95.up hb
 replace R100 := R100.up hb
 replace R105 := R105.up hb
 replace HB := uH HB hb
 clear hb
 obtain ⟨qB16_0, qB16_1, qB16_2, qB16_3, qB16_4, qB16_5, qB16_6⟩ := cz7' B16
 obtain ⟨zB16_0, zB16_1, zB16_2, zB16_3, zB16_4, zB16_5, zB16_6⟩ := fz7' B16
 go_wp2_with fail
 clear qB16_0 qB16_1 qB16_2 qB16_3 qB16_4 qB16_5 qB16_6 zB16_0 zB16_1 zB16_2 zB16_3 zB16_4 zB16_5 zB16_6
 replace R95 := R95.shrink (NoB.cons B4 (by decide) (NoB.cons B10 (by decide) (NoB.cons B16 (by decide) (NoB.nil))))
 refine (laws_markSpace.calls k t28 _ _ t29 t30 t31 t32 t33 t34 1 t180 t181 w _ HB.out R95.r A182.out).mono ?_
 rintro e w29 ⟨rfl, ho0, hbM, hk⟩
 have D183 := Dis.mark (W2 := w29) (gs := [gb4, gb10, gb16]) (D110.symm) R45
 have D184 := Dis.mark (W2 := w29) (gs := [gb4, gb10, gb16]) (D111.symm) R50
 have D185 := Dis.mark (W2 := w29) (gs := [gb4, gb10, gb16]) (D112.symm) R55
 have D186 := Dis.mark (W2 := w29) (gs := [gb4, gb10, gb16]) (D177.symm) R82
 have D187 := Dis.mark (W2 := w29) (gs := [gb4, gb10, gb16]) (D107.symm) R100
 have D188 := Dis.mark (W2 := w29) (gs := [gb4, gb10, gb16]) (D108.symm) R105
 have m_ := R95.marked ho0 hk
 replace B4 := B4.off hk (by simp)
 replace B10 := B10.off hk (by simp)
 replace B16 := B16.off hk (by simp)
 replace R45 := R45.off hk D110
 replace R50 := R50.off hk D111
 replace R55 := R55.off hk D112
 replace R82 := R82.off hk D177
 replace R100 := R100.off hk D107
 replace R105 := R105.off hk D108
 replace HB := Aside0.mk hbM
 have hl := (Kd.R_reads' m_.r).1
 rw [hl] at m_ B16
 clear hk hbM ho0 hl R95
 have R95 := m_
 clear m_
 go_wp2_with fail
 replace R100 := R100.shrink (NoB.cons B4 (by decide) (NoB.cons B10 (by decide) (NoB.cons B16 (by decide) (NoB.nil))))
 refine (laws_markIntS.calls k _ _ t35 t180 t189 t190 w _ HB.out R100.r A191.out).mono ?_
 rintro e w30 ⟨rfl, ho0, hbM, hk⟩
 have D192 := Dis.mark (W2 := w30) (gs := [gb4, gb10, gb16]) (D115.symm) R45
 have D193 := Dis.mark (W2 := w30) (gs := [gb4, gb10, gb16]) (D116.symm) R50
 have D194 := Dis.mark (W2 := w30) (gs := [gb4, gb10, gb16]) (D117.symm) R55
 have D195 := Dis.mark (W2 := w30) (gs := [gb4, gb10, gb16]) (D178.symm) R82
 have D196 := Dis.mark (W2 := w30) (gs := [gb4, gb10, gb16]) (D187.symm) R95
 have D197 := Dis.mark (W2 := w30) (gs := [gb4, gb10, gb16]) (D109.symm) R105
 have m_ := R100.marked ho0 hk
 replace B4 := B4.off hk (by simp)
 replace B10 := B10.off hk (by simp)
 replace B16 := B16.off hk (by simp)
 replace R45 := R45.off hk D115
 replace R50 := R50.off hk D116
 replace R55 := R55.off hk D117
 replace R82 := R82.off hk D178
 replace R95 := R95.off hk D187
 replace R105 := R105.off hk D109
 replace HB := Aside0.mk hbM
 have hl := (Kd.R_reads' m_.r).1
 rw [hl] at m_
 try rw [show (Value.slice A_98 t35.length c_99) = Value.slice A_98 t190.length c_99 from by rw [hl]]
 clear hk hbM ho0 hl R100
 have R100 := m_
 clear m_
 go_wp2_with fail
 replace R105 := R105.shrink (NoB.cons B4 (by decide) (NoB.cons B10 (by decide) (NoB.cons B16 (by decide) (NoB.nil))))
 refine (laws_markIntS.calls k _ _ t36 t189 t198 t199 w _ HB.out R105.r A200.out).mono ?_
 rintro e w31 ⟨rfl, ho0, hbM, hk⟩
 have D201 := Dis.mark (W2 := w31) (gs := [gb4, gb10, gb16]) (D120.symm) R45
 have D202 := Dis.mark (W2 := w31) (gs := [gb4, gb10, gb16]) (D121.symm) R50
 have D203 := Dis.mark (W2 := w31) (gs := [gb4, gb10, gb16]) (D122.symm) R55
 have D204 := Dis.mark (W2 := w31) (gs := [gb4, gb10, gb16]) (D179.symm) R82
 have D205 := Dis.mark (W2 := w31) (gs := [gb4, gb10, gb16]) (D188.symm) R95
 have D206 := Dis.mark (W2 := w31) (gs := [gb4, gb10, gb16]) (D197.symm) R100
 have m_ := R105.marked ho0 hk
 replace B4 := B4.off hk (by simp)
 replace B10 := B10.off hk (by simp)
 replace B16 := B16.off hk (by simp)
 replace R45 := R45.off hk D120
 replace R50 := R50.off hk D121
 replace R55 := R55.off hk D122
 replace R82 := R82.off hk D179
 replace R95 := R95.off hk D188
 replace R100 := R100.off hk D197
 replace HB := Aside0.mk hbM
 have hl := (Kd.R_reads' m_.r).1
 rw [hl] at m_
 try rw [show (Value.slice A_103 t36.length c_104) = Value.slice A_103 t199.length c_104 from by rw [hl]]
 clear hk hbM ho0 hl R105
 have R105 := m_
 clear m_
 obtain ⟨qB16_0, qB16_1, qB16_2, qB16_3, qB16_4, qB16_5, qB16_6⟩ := cz7' B16
 obtain ⟨zB16_0, zB16_1, zB16_2, zB16_3, zB16_4, zB16_5, zB16_6⟩ := fz7' B16
 go_wp2_with fail
 clear qB16_0 qB16_1 qB16_2 qB16_3 qB16_4 qB16_5 qB16_6 zB16_0 zB16_1 zB16_2 zB16_3 zB16_4 zB16_5 zB16_6
 refine (laws_heldSpace.calls k t28 _ _ t181 t30 t31 t32 t33 t34 1 t180 _ R95.readsC R95.readsN A207.out).mono ?_
 rintro e w32 ⟨rfl, hb⟩
 replace B4 := B4.up hb
 replace B10 := B10.up hb
 replace B16 := B16.up hb
 replace R45 := R45.up hb
 replace R50 := R50.up hb
 replace R55 := R55.up hb
 replace R82 := R82.up hb
 replace R95 := R95.up hb
 replace R100 := R100.up hb
 replace R105 := R105.up hb
 replace HB := uH HB hb
 clear hb
 go_wp2_with fail
 refine (laws_heldIntS.calls k _ _ t190 t180 t189 _ R100.readsC R100.readsN A208.out).mono ?_
 rintro e w33 ⟨rfl, hd⟩
 obtain ⟨nd, hq⟩ := hd.out
 have hb : Below _ _ w33 := hq ▸ bn _ nd
 clear hd hq
 replace B4 := B4.up hb
 replace B10 := B10.up hb
 replace B16 := B16.up hb
 replace R45 := R45.up hb
 replace R50 := R50.up hb
 replace R55 := R55.up hb
 replace R82 := R82.up hb
 replace R95 := R95.up hb
 replace R100 := R100.up hb
 replace R105 := R105.up hb
 replace HB := uH HB hb
 clear hb
 go_wp2_with fail
 refine (laws_heldIntS.calls k _ _ t199 t189 t198 _ R105.readsC R105.readsN A209.out).mono ?_
 rintro e w34 ⟨rfl, hd⟩
 obtain ⟨nd, hq⟩ := hd.out
 have hb : Below _ _ w34 := hq ▸ bn _ nd
 clear hd hq
 replace B4 := B4.up hb
 replace B10 := B10.up hb
 replace B16 := B16.up hb
 replace R45 := R45.up hb
 replace R50 := R50.up hb
 replace R55 := R55.up hb
 replace R82 := R82.up hb
 replace R95 := R95.up hb
 replace R100 := R100.up hb
 replace R105 := R105.up hb
 replace HB := uH HB hb
 clear hb
 obtain ⟨qB4_0, qB4_1, qB4_2, qB4_3, qB4_4, qB4_5, qB4_6⟩ := cz7' B4
 obtain ⟨zB4_0, zB4_1, zB4_2, zB4_3, zB4_4, zB4_5, zB4_6⟩ := fz7' B4
 go_wp2_with fail
 clear qB4_0 qB4_1 qB4_2 qB4_3 qB4_4 qB4_5 qB4_6 zB4_0 zB4_1 zB4_2 zB4_3 zB4_4 zB4_5 zB4_6
 refine (laws_toSpace.calls k a0_0 _ _ l0_1 a0_2 a0_3 a0_4 a0_5 a0_6 t5 t6 t7 t8 t9 t10 t11 _ (Kd.C_below HR0_1.out HB.out) HC0_1.out A12.out).mono ?_
 rintro e w35 ⟨v210, rfl, ho0, hb⟩
 obtain ⟨ok211, A_212, c_213, rfl, R214, F215⟩ := Rw.new HB ho0
 have D216 := R45.dis F215
 have D217 := R50.dis F215
 have D218 := R55.dis F215
 have D219 := R82.dis F215
 have D220 := R95.dis F215
 have D221 := R100.dis F215
 have D222 := R105.dis F215
 clear F215
 replace B4 := B4.up hb
 replace B10 := B10.up hb
 replace B16 := B16.up hb
 replace R45 := R45.up hb
 replace R50 := R50.up hb
 replace R55 := R55.up hb
 replace R82 := R82.up hb
 replace R95 := R95.up hb
 replace R100 := R100.up hb
 replace R105 := R105.up hb
 replace HB := uH HB hb
 clear hb ho0
 go_wp2_with fail
 refine (laws_toRangeS.calls k _ _ l1 t19 _ (Kd.C_below HR1.out HB.out) HC1.out A20.out).mono ?_
 rintro e w36 ⟨v223, rfl, ho0, hb⟩
 obtain ⟨ok224, A_225, c_226, rfl, R227, F228⟩ := Rw.new HB ho0
 have D229 := R45.dis F228
 have D230 := R50.dis F228
 have D231 := R55.dis F228
 have D232 := R82.dis F228
 have D233 := R95.dis F228
 have D234 := R100.dis F228
 have D235 := R105.dis F228
 have D236 := R214.dis F228
 clear F228
 replace B4 := B4.up hb
 replace B10 := B10.up hb
 replace B16 := B16.up hb
 replace R45 := R45.up hb
 replace R50 := R50.up hb
 replace R55 := R55.up hb
 replace R82 := R82.up hb
 replace R95 := R95.up hb
 replace R100 := R100.up hb
 replace R105 := R105.up hb
 replace R214 := R214.up hb
 replace HB := uH HB hb
 clear hb ho0
 go_wp2_with fail
 refine (impl_TakeAck.calls k t5 _ _ t6 t7 t8 t9 t10 t11 _ _ t19 a2 a3 t28 t29 t30 t31 t32 t33 t34 t35 t36 t37 _ R214.readsC R214.readsN R227.readsC R227.readsN A88.out).mono ?_
 rintro e w37 ⟨v237, v238, v239, rfl, ho0, ho1, ho2, hb⟩
 obtain ⟨ok240, A_241, c_242, ok245, A_246, c_247, ok250, A_251, c_252, rfl, rfl, rfl, R243, R248, R253, F244, F249, F254, D255, D256, D257⟩ := Rw.new3 HB ho0 ho1 ho2 rfl rfl rfl (by decide) (by decide) (fun k hk => ho1.1 k hk)
 have D258 := R45.dis F244
 have D259 := R50.dis F244
 have D260 := R55.dis F244
 have D261 := R82.dis F244
 have D262 := R95.dis F244
 have D263 := R100.dis F244
 have D264 := R105.dis F244
 have D265 := R214.dis F244
 have D266 := R227.dis F244
 clear F244
 have D267 := R45.dis F249
 have D268 := R50.dis F249
 have D269 := R55.dis F249
 have D270 := R82.dis F249
 have D271 := R95.dis F249
 have D272 := R100.dis F249
 have D273 := R105.dis F249
 have D274 := R214.dis F249
 have D275 := R227.dis F249
 clear F249
 have D276 := R45.dis F254
 have D277 := R50.dis F254
 have D278 := R55.dis F254
 have D279 := R82.dis F254
 have D280 := R95.dis F254
 have D281 := R100.dis F254
 have D282 := R105.dis F254
 have D283 := R214.dis F254
 have D284 := R227.dis F254
 clear F254
 replace B4 := B4.up hb
 replace B10 := B10.up hb
 replace B16 := B16.up hb
 replace R45 := R45.up hb
 replace R50 := R50.up hb
 replace R55 := R55.up hb
 replace R82 := R82.up hb
 replace R95 := R95.up hb
 replace R100 := R100.up hb
 replace R105 := R105.up hb
 replace R214 := R214.up hb
 replace R227 := R227.up hb
 replace HB := uH HB hb
 clear hb ho0 ho1 ho2
 clear B4
 clear R214 R227
 obtain ⟨qB10_0, qB10_1, qB10_2, qB10_3, qB10_4, qB10_5, qB10_6⟩ := cz7' B10
 obtain ⟨zB10_0, zB10_1, zB10_2, zB10_3, zB10_4, zB10_5, zB10_6⟩ := fz7' B10
 go_wp2_with (first | ((with_reducible refine gate_dst (N := 23) rfl ?_); refine box_event ?hg (N := 23) ?hd (cs := #[.int .i64 0, .slice none 0 0, .bool false, .int .i64 0, .int .i64 0, .int .i64 0, .int .i64 0]) (t := 44) ?hr ?_; (case hd => rfl); (case hg => rfl); (case hr => first | (go_simp; done) | (go_simp; rfl)); clear qB10_0 qB10_1 qB10_2 qB10_3 qB10_4 qB10_5 qB10_6 zB10_0 zB10_1 zB10_2 zB10_3 zB10_4 zB10_5 zB10_6; intro gb23 hg w38 hbox hb; have N285 := B10.ne hg; have N286 := B16.ne hg; have hge : w.heap.size ≤ gb23 := Nat.le_trans HB.out.size (Nat.le_of_eq hg.symm); replace B10 := B10.up hb; replace B16 := B16.up hb; replace R45 := R45.up hb; replace R50 := R50.up hb; replace R55 := R55.up hb; replace R82 := R82.up hb; replace R95 := R95.up hb; replace R100 := R100.up hb; replace R105 := R105.up hb; replace R243 := R243.up hb; replace R248 := R248.up hb; replace R253 := R253.up hb; replace HB := uH HB hb; have B23 : Bx w.heap.size w38 gb23 #[.int .i64 0, .slice none 0 0, .bool false, .int .i64 0, .int .i64 0, .int .i64 0, .int .i64 0] 44 := ⟨hbox, hge⟩; clear hb hbox hg hge; obtain ⟨qB10_0, qB10_1, qB10_2, qB10_3, qB10_4, qB10_5, qB10_6⟩ := cz7' B10; obtain ⟨zB10_0, zB10_1, zB10_2, zB10_3, zB10_4, zB10_5, zB10_6⟩ := fz7' B10; obtain ⟨qB23_0, qB23_1, qB23_2, qB23_3, qB23_4, qB23_5, qB23_6⟩ := cz7' B23; obtain ⟨zB23_0, zB23_1, zB23_2, zB23_3, zB23_4, zB23_5, zB23_6⟩ := fz7' B23; have uN285 := N285.out; have vN285 := Ne.symm N285.out))
 clear qB10_0 qB10_1 qB10_2 qB10_3 qB10_4 qB10_5 qB10_6 zB10_0 zB10_1 zB10_2 zB10_3 zB10_4 zB10_5 zB10_6 qB23_0 qB23_1 qB23_2 qB23_3 qB23_4 qB23_5 qB23_6 zB23_0 zB23_1 zB23_2 zB23_3 zB23_4 zB23_5 zB23_6 uN285 vN285
 obtain ⟨b_, ho_⟩ := st7 (v0 := .int .i64 t28) (v1 := .slice A_241 t29.length c_242) (v2 := .bool t30) (v3 := .int .i64 t31) (v4 := .int .i64 t32) (v5 := .int .i64 t33) (v6 := .int .i64 t34) B23
 have hk := ho_.k
 replace B10 := B10.far hk N285
 replace B16 := B16.far hk N286
 replace R45 := R45.far B23 (by decide) hk
 replace R50 := R50.far B23 (by decide) hk
 replace R55 := R55.far B23 (by decide) hk
 replace R82 := R82.far B23 (by decide) hk
 replace R95 := R95.far B23 (by decide) hk
 replace R100 := R100.far B23 (by decide) hk
 replace R105 := R105.far B23 (by decide) hk
 replace R243 := R243.far B23 (by decide) hk
 replace R248 := R248.far B23 (by decide) hk
 replace R253 := R253.far B23 (by decide) hk
 replace HB := uHset HB ho_ B23
 clear hk ho_ B23
 have B23 := b_
 clear b_
 generalize (((((((w38.setCell ⟨gb23, 0, none⟩ (.int .i64 t28)).setCell ⟨gb23, 1, none⟩ (.slice A_241 t29.length c_242)).setCell ⟨gb23, 2, none⟩ (.bool t30)).setCell ⟨gb23, 3, none⟩ (.int .i64 t31)).setCell ⟨gb23, 4, none⟩ (.int .i64 t32)).setCell ⟨gb23, 5, none⟩ (.int .i64 t33)).setCell ⟨gb23, 6, none⟩ (.int .i64 t34)) = w39 at B10 B16 B23 R45 R50 R55 R82 R95 R100 R105 R243 R248 R253 HB ⊢
 refine (laws_eqSpace.calls k t28 _ _ t29 t30 t31 t32 t33 t34 t28 _ _ t29 t30 t31 t32 t33 t34 true _ R243.readsC R243.readsN R45.readsC R45.readsN A128.out).mono ?_
 rintro e w40 ⟨rfl, hb⟩
 replace B10 := B10.up hb
 replace B16 := B16.up hb
 replace B23 := B23.up hb
 replace R45 := R45.up hb
 replace R50 := R50.up hb
 replace R55 := R55.up hb
 replace R82 := R82.up hb
 replace R95 := R95.up hb
 replace R100 := R100.up hb
 replace R105 := R105.up hb
 replace R243 := R243.up hb
 replace R248 := R248.up hb
 replace R253 := R253.up hb
 replace HB := uH HB hb
 clear hb
 go_wp2_with fail
 refine (laws_eqIntS.calls k _ _ t35 _ _ t35 true _ R248.readsC R248.readsN R50.readsC R50.readsN A129.out).mono ?_
 rintro e w41 ⟨rfl, hd⟩
 obtain ⟨nd, hq⟩ := hd.out
 have hb : Below _ _ w41 := hq ▸ bn _ nd
 clear hd hq
 replace B10 := B10.up hb
 replace B16 := B16.up hb
 replace B23 := B23.up hb
 replace R45 := R45.up hb
 replace R50 := R50.up hb
 replace R55 := R55.up hb
 replace R82 := R82.up hb
 replace R95 := R95.up hb
 replace R100 := R100.up hb
 replace R105 := R105.up hb
 replace R243 := R243.up hb
 replace R248 := R248.up hb
 replace R253 := R253.up hb
 replace HB := uH HB hb
 clear hb
 go_wp2_with fail
 refine (laws_eqIntS.calls k _ _ t36 _ _ t36 true _ R253.readsC R253.readsN R55.readsC R55.readsN A130.out).mono ?_
 rintro e w42 ⟨rfl, hd⟩
 obtain ⟨nd, hq⟩ := hd.out
 have hb : Below _ _ w42 := hq ▸ bn _ nd
 clear hd hq
 replace B10 := B10.up hb
 replace B16 := B16.up hb
 replace B23 := B23.up hb
 replace R45 := R45.up hb
 replace R50 := R50.up hb
 replace R55 := R55.up hb
 replace R82 := R82.up hb
 replace R95 := R95.up hb
 replace R100 := R100.up hb
 replace R105 := R105.up hb
 replace R243 := R243.up hb
 replace R248 := R248.up hb
 replace R253 := R253.up hb
 replace HB := uH HB hb
 clear hb
 clear B10 B23
 clear R45 R243
 obtain ⟨qB16_0, qB16_1, qB16_2, qB16_3, qB16_4, qB16_5, qB16_6⟩ := cz7' B16
 obtain ⟨zB16_0, zB16_1, zB16_2, zB16_3, zB16_4, zB16_5, zB16_6⟩ := fz7' B16
 go_wp2_with fail
 clear qB16_0 qB16_1 qB16_2 qB16_3 qB16_4 qB16_5 qB16_6 zB16_0 zB16_1 zB16_2 zB16_3 zB16_4 zB16_5 zB16_6
 refine (laws_heldSpace.calls k t28 _ _ t181 t30 t31 t32 t33 t34 1 t180 _ R95.readsC R95.readsN A207.out).mono ?_
 rintro e w43 ⟨rfl, hb⟩
 replace B16 := B16.up hb
 replace R50 := R50.up hb
 replace R55 := R55.up hb
 replace R82 := R82.up hb
 replace R95 := R95.up hb
 replace R100 := R100.up hb
 replace R105 := R105.up hb
 replace R248 := R248.up hb
 replace R253 := R253.up hb
 replace HB := uH HB hb
 clear hb
 clear B16
 clear R95
 go_wp2_with fail
 refine (laws_heldIntS.calls k _ _ t190 t180 t189 _ R100.readsC R100.readsN A208.out).mono ?_
 rintro e w44 ⟨rfl, hd⟩
 obtain ⟨nd, hq⟩ := hd.out
 have hb : Below _ _ w44 := hq ▸ bn _ nd
 clear hd hq
 replace R50 := R50.up hb
 replace R55 := R55.up hb
 replace R82 := R82.up hb
 replace R100 := R100.up hb
 replace R105 := R105.up hb
 replace R248 := R248.up hb
 replace R253 := R253.up hb
 replace HB := uH HB hb
 clear hb
 go_wp2_with fail
 refine (laws_heldIntS.calls k _ _ t199 t189 t198 _ R105.readsC R105.readsN A209.out).mono ?_
 rintro e w45 ⟨rfl, hd⟩
 obtain ⟨nd, hq⟩ := hd.out
 have hb : Below _ _ w45 := hq ▸ bn _ nd
 clear hd hq
 replace R50 := R50.up hb
 replace R55 := R55.up hb
 replace R82 := R82.up hb
 replace R100 := R100.up hb
 replace R105 := R105.up hb
 replace R248 := R248.up hb
 replace R253 := R253.up hb
 replace HB := uH HB hb
 clear hb
 go_wp2_with fail
 go_ret
 exact ⟨rfl, HB.out⟩
/-- What the callees answer, told once. -/
def laws_FnExactTakeAck.Good (k : Nat) (a0_0 : Int) (l0_1 : List (S136)) (a0_2 : Bool) (a0_3 : Int) (a0_4 : Int) (a0_5 : Int) (a0_6 : Int) (l1 : List (S99)) (a2 : Int) (a3 : Int) : Prop := (∃ (t1 : Int), laws_szSpace.f a0_0 l0_1 a0_2 a0_3 a0_4 a0_5 a0_6 1048576 = some t1 ∧ t1 < 0)
  ∨ (∃ (t1 : Int) (t3 : Int), laws_szSpace.f a0_0 l0_1 a0_2 a0_3 a0_4 a0_5 a0_6 1048576 = some t1 ∧ laws_szRangeS.f l1 t1 = some t3 ∧ 0 ≤ t1 ∧ t3 < 0)
  ∨ (∃ (t1 : Int) (t3 : Int) (t5 : Int) (t6 : List (S89)) (t7 : Bool) (t8 : Int) (t9 : Int) (t10 : Int) (t11 : Int) (t19 : List (S92)) (t28 : Int) (t29 : List S89) (t30 : Bool) (t31 : Int) (t32 : Int) (t33 : Int) (t34 : Int) (t35 : List Int) (t36 : List Int) (t37 : Bool) (t161 : Int) (t162 : List (S89)) (t171 : Int) (t172 : List (S92)) (t180 : Int) (t181 : List (S89)) (t189 : Int) (t190 : List Int) (t198 : Int) (t199 : List Int), laws_szSpace.f a0_0 l0_1 a0_2 a0_3 a0_4 a0_5 a0_6 1048576 = some t1 ∧ laws_szRangeS.f l1 t1 = some t3 ∧ laws_toSpace.f k a0_0 l0_1 a0_2 a0_3 a0_4 a0_5 a0_6 = some (t5, t6, t7, t8, t9, t10, t11) ∧ laws_toRangeS.f k l1 = some t19 ∧ spec_TakeAck.f k t5 t6 t7 t8 t9 t10 t11 t19 a2 a3 = some (t28, t29, t30, t31, t32, t33, t34, t35, t36, t37) ∧ impl_TakeAck.f k t5 t6 t7 t8 t9 t10 t11 t19 a2 a3 = some (t28, t29, t30, t31, t32, t33, t34, t35, t36, t37) ∧ laws_eqSpace.f k t28 t29 t30 t31 t32 t33 t34 t28 t29 t30 t31 t32 t33 t34 = some true ∧ laws_eqIntS.f k t35 t35 = some true ∧ laws_eqIntS.f k t36 t36 = some true ∧ laws_eqSpace.f k t5 t6 t7 t8 t9 t10 t11 t5 t6 t7 t8 t9 t10 t11 = some true ∧ laws_eqRangeS.f k t19 t19 = some true ∧ laws_markSpace.f k t5 t6 t7 t8 t9 t10 t11 1 = some (t161, t162) ∧ laws_markRangeS.f k t19 t161 = some (t171, t172) ∧ laws_markSpace.f k t28 t29 t30 t31 t32 t33 t34 1 = some (t180, t181) ∧ laws_markIntS.f k t35 t180 = some (t189, t190) ∧ laws_markIntS.f k t36 t189 = some (t198, t199) ∧ laws_heldSpace.f k t28 t181 t30 t31 t32 t33 t34 1 = some t180 ∧ laws_heldIntS.f k t190 t180 = some t189 ∧ laws_heldIntS.f k t199 t189 = some t198 ∧ 0 ≤ t1 ∧ 0 ≤ t3 ∧ 0 ≤ t161 ∧ 0 ≤ t171 ∧ 0 ≤ t180 ∧ 0 ≤ t189 ∧ 0 ≤ t198)
open Classical in
noncomputable def laws_FnExactTakeAck.f (k : Nat) (a0_0 : Int) (l0_1 : List (S136)) (a0_2 : Bool) (a0_3 : Int) (a0_4 : Int) (a0_5 : Int) (a0_6 : Int) (l1 : List (S99)) (a2 : Int) (a3 : Int) : Option (Bool) := if laws_FnExactTakeAck.Good k a0_0 l0_1 a0_2 a0_3 a0_4 a0_5 a0_6 l1 a2 a3 then some true else none
theorem laws_FnExactTakeAck.of_good {k : Nat} {a0_0 : Int} {l0_1 : List (S136)} {a0_2 : Bool} {a0_3 : Int} {a0_4 : Int} {a0_5 : Int} {a0_6 : Int} {l1 : List (S99)} {a2 : Int} {a3 : Int} (h : laws_FnExactTakeAck.Good k a0_0 l0_1 a0_2 a0_3 a0_4 a0_5 a0_6 l1 a2 a3) : laws_FnExactTakeAck.f k a0_0 l0_1 a0_2 a0_3 a0_4 a0_5 a0_6 l1 a2 a3 = some true := by unfold laws_FnExactTakeAck.f; exact if_pos h
theorem laws_FnExactTakeAck.calls (k : Nat) (a0_0 : Int) (A0_1 : Option Addr) (c0_1 : Nat) (l0_1 : List (S136)) (a0_2 : Bool) (a0_3 : Int) (a0_4 : Int) (a0_5 : Int) (a0_6 : Int) (A1 : Option Addr) (c1 : Nat) (l1 : List (S99)) (a2 : Int) (a3 : Int) (r : Bool) (w : World) (hr0_1 : Kd.C k136 w A0_1 l0_1.length l0_1) (hc0_1 : l0_1.length ≤ c0_1) (hr1 : Kd.C k99 w A1 l1.length l1) (hc1 : l1.length ≤ c1) (h : laws_FnExactTakeAck.f k a0_0 l0_1 a0_2 a0_3 a0_4 a0_5 a0_6 l1 a2 a3 = some r) :
  Calls Try.prog 4 #[.agg #[.int .i64 a0_0, .slice A0_1 l0_1.length c0_1, .bool a0_2, .int .i64 a0_3, .int .i64 a0_4, .int .i64 a0_5, .int .i64 a0_6], .slice A1 l1.length c1, .int .i64 a2, .int .i64 a3] w fun e w' => e = .returned (.bool r) ∧ Below w.heap.size w w' := by
 unfold laws_FnExactTakeAck.f at h
 split at h
 · rename_i hg
   obtain rfl := Option.some.inj h
   rcases hg with ⟨t1, f0, g0⟩ | ⟨t1, t3, f0, f1, g0, g1⟩ | ⟨t1, t3, t5, t6, t7, t8, t9, t10, t11, t19, t28, t29, t30, t31, t32, t33, t34, t35, t36, t37, t161, t162, t171, t172, t180, t181, t189, t190, t198, t199, f0, f1, f2, f3, f4, f5, f6, f7, f8, f9, f10, f11, f12, f13, f14, f15, f16, f17, f18, g0, g1, g2, g3, g4, g5, g6⟩
   · exact laws_FnExactTakeAck.short0 k a0_0 A0_1 c0_1 l0_1 a0_2 a0_3 a0_4 a0_5 a0_6 A1 c1 l1 a2 a3 t1 w hr0_1 hc0_1 hr1 hc1 f0 g0
   · exact laws_FnExactTakeAck.short1 k a0_0 A0_1 c0_1 l0_1 a0_2 a0_3 a0_4 a0_5 a0_6 A1 c1 l1 a2 a3 t1 t3 w hr0_1 hc0_1 hr1 hc1 f0 f1 g0 g1
   · exact laws_FnExactTakeAck.long k a0_0 A0_1 c0_1 l0_1 a0_2 a0_3 a0_4 a0_5 a0_6 A1 c1 l1 a2 a3 t1 t3 t5 t6 t7 t8 t9 t10 t11 t19 t28 t29 t30 t31 t32 t33 t34 t35 t36 t37 t161 t162 t171 t172 t180 t181 t189 t190 t198 t199 w hr0_1 hc0_1 hr1 hc1 f0 f1 f2 f3 f4 f5 f6 f7 f8 f9 f10 f11 f12 f13 f14 f15 f16 f17 f18 g0 g1 g2 g3 g4 g5 g6
 · cases h
end Go.Proofs.Ytpdoplkiaejpiaa.PFnExactTakeAck
