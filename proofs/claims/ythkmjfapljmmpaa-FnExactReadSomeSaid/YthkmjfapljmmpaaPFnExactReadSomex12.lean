-- Written by a program of this session (wip/genlaw.py): the walk of the law FnExactReadSome by the one way on which all that it asks is true.
import Derived.Test.YthkmjfapljmmpaaPFnExactReadSomex1
import Derived.Test.YthkmjfapljmmpaaPFnExactReadSomex2
import Derived.Test.YthkmjfapljmmpaaPFnExactReadSomex3
import Derived.Test.YthkmjfapljmmpaaPFnExactReadSomex4
import Derived.Test.YthkmjfapljmmpaaPFnExactReadSomex5
import Derived.Test.YthkmjfapljmmpaaPFnExactReadSomex6
import Derived.Test.YthkmjfapljmmpaaPFnExactReadSomex7
import Derived.Test.YthkmjfapljmmpaaPFnExactReadSomex8
import Derived.Test.YthkmjfapljmmpaaPFnExactReadSomex9
import Derived.Test.YthkmjfapljmmpaaPFnExactReadSomex11
import Derived.Test.YthkmjfapljmmpaaLawK
namespace Go.Proofs.Ythkmjfapljmmpaa.PFnExactReadSome
open Go.RowKit Go.Proofs.YthkmjfapljmmpaaW.PrintWords Go.Proofs.YthkmjfapljmmpaaW.PrintLast Go.Proofs.YthkmjfapljmmpaaW.PrintMore
open Go.Proofs.Ythkmjfapljmmpaa.ShortK (sA sZ sS)
open Go.Proofs.Ythkmjfapljmmpaa.StoreK (bm)
open Go.Proofs.Ythkmjfapljmmpaa.LawK
attribute [local go_sem] Go.Proofs.Ythkmjfapljmmpaa.StoreK.isSome_setCell max2_int min2_int max_two min_two max_three min_three max_four min_four   -- for this text's walks alone
set_option linter.unusedVariables false
set_option linter.unusedSimpArgs false

set_option maxHeartbeats 16000000 in
set_option maxRecDepth 100000 in
theorem laws_FnExactReadSome.short0 (k : Nat) (a0_0 : Int) (a0_1 : Int) (a0_2 : Int) (A0_3 : Option Addr) (c0_3 : Nat) (l0_3 : List (S218)) (a1 : Int) (t1 : Int) (w : World) (hr0_3 : Kd.C k218 w A0_3 l0_3.length l0_3) (hc0_3 : l0_3.length ≤ c0_3) (A2_ : laws_szInflow.f k a0_0 a0_1 a0_2 l0_3 1048576 = some t1) (e0_ : t1 < 0) :
  Calls Try.prog 9 #[.agg #[.int .i64 a0_0, .int .i64 a0_1, .int .i64 a0_2, .slice A0_3 l0_3.length c0_3], .int .i64 a1] w fun e w' => e = .returned (.bool true) ∧ Below w.heap.size w w' := by
 have HR0_3 := Aside0.mk hr0_3
 have HC0_3 := Aside0.mk hc0_3
 clear hr0_3 hc0_3
 have A2 := Aside0.mk A2_
 clear A2_
 have e0 : decide (t1 < 0) = true := decide_eq_true (by omega)
 clear e0_
 have hu57 := Try.underlying57
 have hu61 := Try.underlying61
 have HB := Aside0.mk (Below.refl w.heap.size w)
 go_enter Try.func9, Try.ntmps9
 go_wp2_with (first | ((with_reducible refine gate_dst (N := 2) rfl ?_); refine box_event ?hg (N := 2) ?hd (cs := #[.int .i64 a0_0, .int .i64 a0_1, .int .i64 a0_2, .slice A0_3 l0_3.length c0_3]) (t := 57) ?hr ?_; (case hd => rfl); (case hg => rfl); (case hr => first | (go_simp; done) | (go_simp; rfl)); intro gb2 hg w1 hbox hb; have hge : w.heap.size ≤ gb2 := Nat.le_trans HB.out.size (Nat.le_of_eq hg.symm); replace HB := uH HB hb; have B2 : Bx w.heap.size w1 gb2 #[.int .i64 a0_0, .int .i64 a0_1, .int .i64 a0_2, .slice A0_3 l0_3.length c0_3] 57 := ⟨hbox, hge⟩; clear hb hbox hg hge; obtain ⟨qB2_0, qB2_1, qB2_2, qB2_3⟩ := cz4' B2; obtain ⟨zB2_0, zB2_1, zB2_2, zB2_3⟩ := fz4' B2))
 clear qB2_0 qB2_1 qB2_2 qB2_3 zB2_0 zB2_1 zB2_2 zB2_3
 refine (laws_szInflow.calls k a0_0 a0_1 a0_2 _ _ l0_3 1048576 t1 _ (Kd.C_below HR0_3.out HB.out) HC0_3.out A2.out).mono ?_
 rintro e w2 ⟨rfl, hb⟩
 replace B2 := B2.up hb
 replace HB := uH HB hb
 clear hb
 obtain ⟨qB2_0, qB2_1, qB2_2, qB2_3⟩ := cz4' B2
 obtain ⟨zB2_0, zB2_1, zB2_2, zB2_3⟩ := fz4' B2
 go_wp2_with fail
 go_ret
 exact ⟨rfl, HB.out⟩
set_option maxHeartbeats 16000000 in
set_option maxRecDepth 100000 in
theorem laws_FnExactReadSome.long (k : Nat) (a0_0 : Int) (a0_1 : Int) (a0_2 : Int) (A0_3 : Option Addr) (c0_3 : Nat) (l0_3 : List (S218)) (a1 : Int) (t1 : Int) (t3 : Int) (t4 : Int) (t5 : Int) (t6 : List (S177)) (t14 : Int) (t15 : Int) (t16 : Int) (t17 : List (S177)) (t18 : ByteArray) (t19 : Bool) (t61 : Int) (t62 : List (S177)) (t64 : Int) (t65 : List (S177)) (w : World) (hr0_3 : Kd.C k218 w A0_3 l0_3.length l0_3) (hc0_3 : l0_3.length ≤ c0_3) (A2_ : laws_szInflow.f k a0_0 a0_1 a0_2 l0_3 1048576 = some t1) (A7_ : laws_toInflow.f k a0_0 a0_1 a0_2 l0_3 = some (t3, t4, t5, t6)) (A20_ : spec_ReadSome.f k t3 t4 t5 t6 a1 = some (t14, t15, t16, t17, t18, t19)) (A38_ : impl_ReadSome.f k t3 t4 t5 t6 a1 = some (t14, t15, t16, t17, t18, t19)) (A50_ : laws_eqInflow.f k t14 t15 t16 t17 t14 t15 t16 t17 = some true) (A60_ : laws_eqInflow.f k t3 t4 t5 t6 t3 t4 t5 t6 = some true) (A63_ : laws_markInflow.f k t3 t4 t5 t6 1 = some (t61, t62)) (A66_ : laws_markInflow.f k t14 t15 t16 t17 1 = some (t64, t65)) (A67_ : laws_heldInflow.f k t14 t15 t16 t65 1 = some t64) (e0_ : 0 ≤ t1) (e1_ : 0 ≤ t61) (e2_ : 0 ≤ t64) :
  Calls Try.prog 9 #[.agg #[.int .i64 a0_0, .int .i64 a0_1, .int .i64 a0_2, .slice A0_3 l0_3.length c0_3], .int .i64 a1] w fun e w' => e = .returned (.bool true) ∧ Below w.heap.size w w' := by
 have HR0_3 := Aside0.mk hr0_3
 have HC0_3 := Aside0.mk hc0_3
 clear hr0_3 hc0_3
 have A2 := Aside0.mk A2_
 clear A2_
 have A7 := Aside0.mk A7_
 clear A7_
 have A20 := Aside0.mk A20_
 clear A20_
 have A38 := Aside0.mk A38_
 clear A38_
 have A50 := Aside0.mk A50_
 clear A50_
 have A60 := Aside0.mk A60_
 clear A60_
 have A63 := Aside0.mk A63_
 clear A63_
 have A66 := Aside0.mk A66_
 clear A66_
 have A67 := Aside0.mk A67_
 clear A67_
 have e0 : decide (t1 < 0) = false := decide_eq_false (by omega)
 clear e0_
 have e1 : decide (t61 < 0) = false := decide_eq_false (by omega)
 clear e1_
 have e2 : decide (t64 < 0) = false := decide_eq_false (by omega)
 clear e2_
 have hu57 := Try.underlying57
 have hu61 := Try.underlying61
 have HB := Aside0.mk (Below.refl w.heap.size w)
 go_enter Try.func9, Try.ntmps9
 go_wp2_with (first | ((with_reducible refine gate_dst (N := 2) rfl ?_); refine box_event ?hg (N := 2) ?hd (cs := #[.int .i64 a0_0, .int .i64 a0_1, .int .i64 a0_2, .slice A0_3 l0_3.length c0_3]) (t := 57) ?hr ?_; (case hd => rfl); (case hg => rfl); (case hr => first | (go_simp; done) | (go_simp; rfl)); intro gb2 hg w1 hbox hb; have hge : w.heap.size ≤ gb2 := Nat.le_trans HB.out.size (Nat.le_of_eq hg.symm); replace HB := uH HB hb; have B2 : Bx w.heap.size w1 gb2 #[.int .i64 a0_0, .int .i64 a0_1, .int .i64 a0_2, .slice A0_3 l0_3.length c0_3] 57 := ⟨hbox, hge⟩; clear hb hbox hg hge; obtain ⟨qB2_0, qB2_1, qB2_2, qB2_3⟩ := cz4' B2; obtain ⟨zB2_0, zB2_1, zB2_2, zB2_3⟩ := fz4' B2))
 clear qB2_0 qB2_1 qB2_2 qB2_3 zB2_0 zB2_1 zB2_2 zB2_3
 refine (laws_szInflow.calls k a0_0 a0_1 a0_2 _ _ l0_3 1048576 t1 _ (Kd.C_below HR0_3.out HB.out) HC0_3.out A2.out).mono ?_
 rintro e w2 ⟨rfl, hb⟩
 replace B2 := B2.up hb
 replace HB := uH HB hb
 clear hb
 obtain ⟨qB2_0, qB2_1, qB2_2, qB2_3⟩ := cz4' B2
 obtain ⟨zB2_0, zB2_1, zB2_2, zB2_3⟩ := fz4' B2
 go_wp2_with fail
 clear qB2_0 qB2_1 qB2_2 qB2_3 zB2_0 zB2_1 zB2_2 zB2_3
 refine (laws_toInflow.calls k a0_0 a0_1 a0_2 _ _ l0_3 t3 t4 t5 t6 _ (Kd.C_below HR0_3.out HB.out) HC0_3.out A7.out).mono ?_
 rintro e w3 ⟨v8, rfl, ho0, hb⟩
 obtain ⟨ok9, A_10, c_11, rfl, R12, F13⟩ := Rw.new HB ho0
 clear F13
 replace B2 := B2.up hb
 replace HB := uH HB hb
 clear hb ho0
 go_wp2_with fail
 refine (spec_ReadSome.calls k t3 t4 t5 _ _ t6 a1 t14 t15 t16 t17 t18 t19 _ R12.readsC R12.readsN A20.out).mono ?_
 rintro e w4 ⟨v21, rfl, ho0, hb⟩
 obtain ⟨ok22, A_23, c_24, rfl, R25, F26⟩ := Qw.new HB ho0
 have D27 := R12.dis F26
 clear F26
 replace B2 := B2.up hb
 replace R12 := R12.up hb
 replace HB := uH HB hb
 clear hb ho0
 clear R12
 obtain ⟨qB2_0, qB2_1, qB2_2, qB2_3⟩ := cz4' B2
 obtain ⟨zB2_0, zB2_1, zB2_2, zB2_3⟩ := fz4' B2
 go_wp2_with (first | ((with_reducible refine gate_dst (N := 6) rfl ?_); refine box_event ?hg (N := 6) ?hd (cs := #[.int .i64 0, .int .i64 0, .int .i64 0, .slice none 0 0]) (t := 61) ?hr ?_; (case hd => rfl); (case hg => rfl); (case hr => first | (go_simp; done) | (go_simp; rfl)); clear qB2_0 qB2_1 qB2_2 qB2_3 zB2_0 zB2_1 zB2_2 zB2_3; intro gb6 hg w5 hbox hb; have N28 := B2.ne hg; have hge : w.heap.size ≤ gb6 := Nat.le_trans HB.out.size (Nat.le_of_eq hg.symm); replace B2 := B2.up hb; replace R25 := R25.up hb; replace HB := uH HB hb; have B6 : Bx w.heap.size w5 gb6 #[.int .i64 0, .int .i64 0, .int .i64 0, .slice none 0 0] 61 := ⟨hbox, hge⟩; clear hb hbox hg hge; obtain ⟨qB2_0, qB2_1, qB2_2, qB2_3⟩ := cz4' B2; obtain ⟨zB2_0, zB2_1, zB2_2, zB2_3⟩ := fz4' B2; obtain ⟨qB6_0, qB6_1, qB6_2, qB6_3⟩ := cz4' B6; obtain ⟨zB6_0, zB6_1, zB6_2, zB6_3⟩ := fz4' B6; have uN28 := N28.out; have vN28 := Ne.symm N28.out))
 clear qB2_0 qB2_1 qB2_2 qB2_3 zB2_0 zB2_1 zB2_2 zB2_3 qB6_0 qB6_1 qB6_2 qB6_3 zB6_0 zB6_1 zB6_2 zB6_3 uN28 vN28
 obtain ⟨b_, ho_⟩ := st4 (v0 := .int .i64 t14) (v1 := .int .i64 t15) (v2 := .int .i64 t16) (v3 := .slice A_23 t17.length c_24) B6
 have hk := ho_.k
 replace B2 := B2.far hk N28
 replace R25 := R25.far B6 (by decide) hk
 replace HB := uHset HB ho_ B6
 clear hk ho_ B6
 have B6 := b_
 clear b_
 generalize ((((w5.setCell ⟨gb6, 0, none⟩ (.int .i64 t14)).setCell ⟨gb6, 1, none⟩ (.int .i64 t15)).setCell ⟨gb6, 2, none⟩ (.int .i64 t16)).setCell ⟨gb6, 3, none⟩ (.slice A_23 t17.length c_24)) = w6 at B2 B6 R25 HB ⊢
 refine (laws_toInflow.calls k a0_0 a0_1 a0_2 _ _ l0_3 t3 t4 t5 t6 _ (Kd.C_below HR0_3.out HB.out) HC0_3.out A7.out).mono ?_
 rintro e w7 ⟨v29, rfl, ho0, hb⟩
 obtain ⟨ok30, A_31, c_32, rfl, R33, F34⟩ := Rw.new HB ho0
 have D35 := R25.dis F34
 clear F34
 replace B2 := B2.up hb
 replace B6 := B6.up hb
 replace R25 := R25.up hb
 replace HB := uH HB hb
 clear hb ho0
 go_wp2_with (first | ((with_reducible refine gate_dst (N := 9) rfl ?_); refine box_event ?hg (N := 9) ?hd (cs := #[.int .i64 0, .int .i64 0, .int .i64 0, .slice none 0 0]) (t := 61) ?hr ?_; (case hd => rfl); (case hg => rfl); (case hr => first | (go_simp; done) | (go_simp; rfl)); intro gb9 hg w8 hbox hb; have N36 := B2.ne hg; have N37 := B6.ne hg; have hge : w.heap.size ≤ gb9 := Nat.le_trans HB.out.size (Nat.le_of_eq hg.symm); replace B2 := B2.up hb; replace B6 := B6.up hb; replace R25 := R25.up hb; replace R33 := R33.up hb; replace HB := uH HB hb; have B9 : Bx w.heap.size w8 gb9 #[.int .i64 0, .int .i64 0, .int .i64 0, .slice none 0 0] 61 := ⟨hbox, hge⟩; clear hb hbox hg hge; obtain ⟨qB9_0, qB9_1, qB9_2, qB9_3⟩ := cz4' B9; obtain ⟨zB9_0, zB9_1, zB9_2, zB9_3⟩ := fz4' B9))
 clear qB9_0 qB9_1 qB9_2 qB9_3 zB9_0 zB9_1 zB9_2 zB9_3
 obtain ⟨b_, ho_⟩ := st4 (v0 := .int .i64 t3) (v1 := .int .i64 t4) (v2 := .int .i64 t5) (v3 := .slice A_31 t6.length c_32) B9
 have hk := ho_.k
 replace B2 := B2.far hk N36
 replace B6 := B6.far hk N37
 replace R25 := R25.far B9 (by decide) hk
 replace R33 := R33.far B9 (by decide) hk
 replace HB := uHset HB ho_ B9
 clear hk ho_ B9
 have B9 := b_
 clear b_
 generalize ((((w8.setCell ⟨gb9, 0, none⟩ (.int .i64 t3)).setCell ⟨gb9, 1, none⟩ (.int .i64 t4)).setCell ⟨gb9, 2, none⟩ (.int .i64 t5)).setCell ⟨gb9, 3, none⟩ (.slice A_31 t6.length c_32)) = w9 at B2 B6 B9 R25 R33 HB ⊢
 refine (impl_ReadSome.calls k t3 t4 t5 _ _ t6 a1 t14 t15 t16 t17 t18 t19 _ R33.readsC R33.readsN A38.out).mono ?_
 rintro e w10 ⟨v39, rfl, ho0, hb⟩
 obtain ⟨ok40, A_41, c_42, rfl, R43, F44⟩ := Qw.new HB ho0
 have D45 := R25.dis F44
 have D46 := R33.dis F44
 clear F44
 replace B2 := B2.up hb
 replace B6 := B6.up hb
 replace B9 := B9.up hb
 replace R25 := R25.up hb
 replace R33 := R33.up hb
 replace HB := uH HB hb
 clear hb ho0
 obtain ⟨qB6_0, qB6_1, qB6_2, qB6_3⟩ := cz4' B6
 obtain ⟨zB6_0, zB6_1, zB6_2, zB6_3⟩ := fz4' B6
 go_wp2_with (first | ((with_reducible refine gate_dst (N := 10) rfl ?_); refine box_event ?hg (N := 10) ?hd (cs := #[.int .i64 0, .int .i64 0, .int .i64 0, .slice none 0 0]) (t := 61) ?hr ?_; (case hd => rfl); (case hg => rfl); (case hr => first | (go_simp; done) | (go_simp; rfl)); clear qB6_0 qB6_1 qB6_2 qB6_3 zB6_0 zB6_1 zB6_2 zB6_3; intro gb10 hg w11 hbox hb; have N47 := B2.ne hg; have N48 := B6.ne hg; have N49 := B9.ne hg; have hge : w.heap.size ≤ gb10 := Nat.le_trans HB.out.size (Nat.le_of_eq hg.symm); replace B2 := B2.up hb; replace B6 := B6.up hb; replace B9 := B9.up hb; replace R25 := R25.up hb; replace R33 := R33.up hb; replace R43 := R43.up hb; replace HB := uH HB hb; have B10 : Bx w.heap.size w11 gb10 #[.int .i64 0, .int .i64 0, .int .i64 0, .slice none 0 0] 61 := ⟨hbox, hge⟩; clear hb hbox hg hge; obtain ⟨qB6_0, qB6_1, qB6_2, qB6_3⟩ := cz4' B6; obtain ⟨zB6_0, zB6_1, zB6_2, zB6_3⟩ := fz4' B6; obtain ⟨qB10_0, qB10_1, qB10_2, qB10_3⟩ := cz4' B10; obtain ⟨zB10_0, zB10_1, zB10_2, zB10_3⟩ := fz4' B10; have uN48 := N48.out; have vN48 := Ne.symm N48.out))
 clear qB6_0 qB6_1 qB6_2 qB6_3 zB6_0 zB6_1 zB6_2 zB6_3 qB10_0 qB10_1 qB10_2 qB10_3 zB10_0 zB10_1 zB10_2 zB10_3 uN48 vN48
 obtain ⟨b_, ho_⟩ := st4 (v0 := .int .i64 t14) (v1 := .int .i64 t15) (v2 := .int .i64 t16) (v3 := .slice A_41 t17.length c_42) B10
 have hk := ho_.k
 replace B2 := B2.far hk N47
 replace B6 := B6.far hk N48
 replace B9 := B9.far hk N49
 replace R25 := R25.far B10 (by decide) hk
 replace R33 := R33.far B10 (by decide) hk
 replace R43 := R43.far B10 (by decide) hk
 replace HB := uHset HB ho_ B10
 clear hk ho_ B10
 have B10 := b_
 clear b_
 generalize ((((w11.setCell ⟨gb10, 0, none⟩ (.int .i64 t14)).setCell ⟨gb10, 1, none⟩ (.int .i64 t15)).setCell ⟨gb10, 2, none⟩ (.int .i64 t16)).setCell ⟨gb10, 3, none⟩ (.slice A_41 t17.length c_42)) = w12 at B2 B6 B9 B10 R25 R33 R43 HB ⊢
 refine (laws_eqInflow.calls k t14 t15 t16 _ _ t17 t14 t15 t16 _ _ t17 true _ R43.readsC R43.readsN R25.readsC R25.readsN A50.out).mono ?_
 rintro e w13 ⟨rfl, hb⟩
 replace B2 := B2.up hb
 replace B6 := B6.up hb
 replace B9 := B9.up hb
 replace B10 := B10.up hb
 replace R25 := R25.up hb
 replace R33 := R33.up hb
 replace R43 := R43.up hb
 replace HB := uH HB hb
 clear hb
 go_wp2_with fail
 refine start_ (n := 5) (S := fun w' => Bx w.heap.size w' gb9 #[.int .i64 t3, .int .i64 t4, .int .i64 t5, .slice A_31 t6.length c_32] 61 ∧ Bx w.heap.size w' gb2 #[.int .i64 a0_0, .int .i64 a0_1, .int .i64 a0_2, .slice A0_3 l0_3.length c0_3] 57) (ds := []) (bm 5 0) (by kernel_rfl) rfl rfl ⟨B9.up (bd _), B2.up (bd _)⟩ (fun hHeld => ?_)
 replace B2 := B2.up (bd _)
 replace B6 := B6.up (bd _)
 replace B9 := B9.up (bd _)
 replace B10 := B10.up (bd _)
 replace R25 := R25.up (bd _)
 replace R33 := R33.up (bd _)
 replace R43 := R43.up (bd _)
 replace HB := uHd HB
 generalize w13.drew = w14 at B2 B6 B9 B10 R25 R33 R43 HB hHeld ⊢
 refine take_ (i := 0) (N := some 55) (v := ?_) (a' := ?_) (bm 5 1) rfl rfl (by kernel_rfl) (fun _ _ _ h => h) (Or.inl ⟨by rfl, ?_⟩) hHeld ?_ ?_
 rotate_left
 · rintro w' ⟨s0, s1⟩
   obtain ⟨q0, q1, q2, q3⟩ := cz4' s0
   go_simp
   with_reducible rfl
 rotate_left
 · simp only [Act.put, sA, sZ, sS, i64_w, i32_w]
   rfl
 refine take_ (i := 1) (N := some 56) (v := ?_) (a' := ?_) (bm 5 3) rfl rfl (by kernel_rfl) (fun _ _ _ h => h) (Or.inl ⟨by rfl, ?_⟩) hHeld ?_ ?_
 rotate_left
 · rintro w' ⟨s0, s1⟩
   obtain ⟨q0, q1, q2, q3⟩ := cz4' s1
   go_simp
   with_reducible rfl
 rotate_left
 · simp only [Act.put, sA, sZ, sS, i64_w, i32_w]
   rfl
 refine one_ (i := 2) (N := some 57) (bm 5 7) rfl rfl (by kernel_rfl) (by decide) (fun K hK => ?_)
 clear hHeld
 refine goes_ Try.func38 (by kernel_rfl) rfl #[.agg #[.int .i64 a0_0, .int .i64 a0_1, .int .i64 a0_2, .slice A0_3 l0_3.length c0_3]] (by rfl) rfl rfl (by (try simp only [List.map_toArray, List.map_cons, List.map_nil]); first | done | rfl | (simp only [List.length_drop, List.length_take]; rfl)) ?_
 refine (laws_toInflow.calls k a0_0 a0_1 a0_2 _ _ l0_3 t3 t4 t5 t6 _ (Kd.C_below HR0_3.out HB.out) HC0_3.out A7.out).mono ?_
 rintro e w15 ⟨v51, rfl, ho0, hb⟩
 refine ⟨_, rfl, ?_⟩
 obtain ⟨ok52, A_53, c_54, rfl, R55, F56⟩ := Rw.new HB ho0
 have D57 := R25.dis F56
 have D58 := R33.dis F56
 have D59 := R43.dis F56
 clear F56
 replace B2 := B2.up hb
 replace B6 := B6.up hb
 replace B9 := B9.up hb
 replace B10 := B10.up hb
 replace R25 := R25.up hb
 replace R33 := R33.up hb
 replace R43 := R43.up hb
 replace HB := uH HB hb
 clear hb ho0
 refine hK.out _ _ ⟨B9, B2⟩ (fun hHeld => ?_)
 clear hK K
 refine norm_ (a' := ?_) ?_ ?_
 rotate_left
 · show Act.put _ (some 57) _ = _
   simp only [Act.put, sA, sZ, sS, i64_w, i32_w]
   rfl
 refine one_ (i := 3) (N := some 58) (bm 5 15) rfl rfl (by kernel_rfl) (by decide) (fun K hK => ?_)
 clear hHeld
 refine goes_ Try.func40 (by kernel_rfl) rfl #[.agg #[.int .i64 t3, .int .i64 t4, .int .i64 t5, .slice A_31 t6.length c_32], .agg #[.int .i64 t3, .int .i64 t4, .int .i64 t5, .slice A_53 t6.length c_54]] (by rfl) rfl rfl (by (try simp only [List.map_toArray, List.map_cons, List.map_nil]); first | done | rfl | (simp only [List.length_drop, List.length_take]; rfl)) ?_
 refine (laws_eqInflow.calls k t3 t4 t5 _ _ t6 t3 t4 t5 _ _ t6 true _ R33.readsC R33.readsN R55.readsC R55.readsN A60.out).mono ?_
 rintro e w16 ⟨rfl, hb⟩
 refine ⟨_, rfl, ?_⟩
 replace B2 := B2.up hb
 replace B6 := B6.up hb
 replace B9 := B9.up hb
 replace B10 := B10.up hb
 replace R25 := R25.up hb
 replace R33 := R33.up hb
 replace R43 := R43.up hb
 replace R55 := R55.up hb
 replace HB := uH HB hb
 clear hb
 refine hK.out _ _ ⟨B9, B2⟩ (fun hHeld => ?_)
 clear hK K
 refine norm_ (a' := ?_) ?_ ?_
 rotate_left
 · show Act.put _ (some 58) _ = _
   simp only [Act.put, sA, sZ, sS, i64_w, i32_w]
   rfl
 refine pure_ (i := 4) (N := some 59) (v := ?_) (a' := ?_) (bm 5 31) rfl rfl (by kernel_rfl) (fun _ _ _ h => h) (Or.inl ⟨by rfl, ?_⟩) ?_ ?_
 rotate_left
 · intro w'
   go_simp
   with_reducible rfl
 rotate_left
 · simp only [Act.put, sA, sZ, sS, i64_w, i32_w]
   rfl
 clear hHeld
 refine done_ (by kernel_rfl) ?_
 clear R55
 obtain ⟨qB9_0, qB9_1, qB9_2, qB9_3⟩ := cz4' B9
 obtain ⟨zB9_0, zB9_1, zB9_2, zB9_3⟩ := fz4' B9
 go_wp2_with fail
 clear qB9_0 qB9_1 qB9_2 qB9_3 zB9_0 zB9_1 zB9_2 zB9_3
 replace R33 := R33.shrink (NoB.cons B2 (by decide) (NoB.cons B6 (by decide) (NoB.cons B9 (by decide) (NoB.cons B10 (by decide) (NoB.nil)))))
 refine (laws_markInflow.calls k t3 t4 t5 _ _ t6 1 t61 t62 w _ HB.out R33.r A63.out).mono ?_
 rintro e w17 ⟨rfl, ho0, hbM, hk⟩
 have m_ := R33.marked ho0 hk
 replace B2 := B2.off hk (by simp)
 replace B6 := B6.off hk (by simp)
 replace B9 := B9.off hk (by simp)
 replace B10 := B10.off hk (by simp)
 replace R25 := R25.off hk D35
 replace R43 := R43.off hk D46.symm
 replace HB := Aside0.mk hbM
 have hl := (Kd.R_reads' m_.r).1
 rw [hl] at m_ B9
 clear hk hbM ho0 hl R33
 have R33 := m_
 clear m_
 clear B9
 clear R33
 obtain ⟨qB10_0, qB10_1, qB10_2, qB10_3⟩ := cz4' B10
 obtain ⟨zB10_0, zB10_1, zB10_2, zB10_3⟩ := fz4' B10
 obtain ⟨qB6_0, qB6_1, qB6_2, qB6_3⟩ := cz4' B6
 obtain ⟨zB6_0, zB6_1, zB6_2, zB6_3⟩ := fz4' B6
 go_wp2_with fail
 clear qB10_0 qB10_1 qB10_2 qB10_3 zB10_0 zB10_1 zB10_2 zB10_3 qB6_0 qB6_1 qB6_2 qB6_3 zB6_0 zB6_1 zB6_2 zB6_3
 refine (laws_eqInflow.calls k t14 t15 t16 _ _ t17 t14 t15 t16 _ _ t17 true _ R43.readsC R43.readsN R25.readsC R25.readsN A50.out).mono ?_
 rintro e w18 ⟨rfl, hb⟩
 replace B2 := B2.up hb
 replace B6 := B6.up hb
 replace B10 := B10.up hb
 replace R25 := R25.up hb
 replace R43 := R43.up hb
 replace HB := uH HB hb
 clear hb
 obtain ⟨qB10_0, qB10_1, qB10_2, qB10_3⟩ := cz4' B10
 obtain ⟨zB10_0, zB10_1, zB10_2, zB10_3⟩ := fz4' B10
 go_wp2_with fail
 clear qB10_0 qB10_1 qB10_2 qB10_3 zB10_0 zB10_1 zB10_2 zB10_3
 replace R43 := R43.shrink (NoB.cons B2 (by decide) (NoB.cons B6 (by decide) (NoB.cons B10 (by decide) (NoB.nil))))
 refine (laws_markInflow.callsQ k t14 t15 t16 _ _ t17 1 t64 t65 w _ HB.out R43.r A66.out).mono ?_
 rintro e w19 ⟨rfl, ho0, hbM, hk⟩
 have m_ := R43.marked ho0 hk
 replace B2 := B2.off hk (by simp)
 replace B6 := B6.off hk (by simp)
 replace B10 := B10.off hk (by simp)
 replace R25 := R25.off hk D45
 replace HB := Aside0.mk hbM
 have hl := (Kd.Q_reads' m_.r).1
 rw [hl] at m_ B10
 clear hk hbM ho0 hl R43
 have R43 := m_
 clear m_
 obtain ⟨qB10_0, qB10_1, qB10_2, qB10_3⟩ := cz4' B10
 obtain ⟨zB10_0, zB10_1, zB10_2, zB10_3⟩ := fz4' B10
 go_wp2_with fail
 clear qB10_0 qB10_1 qB10_2 qB10_3 zB10_0 zB10_1 zB10_2 zB10_3
 refine (laws_heldInflow.calls k t14 t15 t16 _ _ t65 1 t64 _ R43.readsC R43.readsN A67.out).mono ?_
 rintro e w20 ⟨rfl, hb⟩
 replace B2 := B2.up hb
 replace B6 := B6.up hb
 replace B10 := B10.up hb
 replace R25 := R25.up hb
 replace R43 := R43.up hb
 replace HB := uH HB hb
 clear hb
 obtain ⟨qB2_0, qB2_1, qB2_2, qB2_3⟩ := cz4' B2
 obtain ⟨zB2_0, zB2_1, zB2_2, zB2_3⟩ := fz4' B2
 go_wp2_with fail
 clear qB2_0 qB2_1 qB2_2 qB2_3 zB2_0 zB2_1 zB2_2 zB2_3
 refine (laws_toInflow.calls k a0_0 a0_1 a0_2 _ _ l0_3 t3 t4 t5 t6 _ (Kd.C_below HR0_3.out HB.out) HC0_3.out A7.out).mono ?_
 rintro e w21 ⟨v68, rfl, ho0, hb⟩
 obtain ⟨ok69, A_70, c_71, rfl, R72, F73⟩ := Rw.new HB ho0
 have D74 := R25.dis F73
 have D75 := R43.dis F73
 clear F73
 replace B2 := B2.up hb
 replace B6 := B6.up hb
 replace B10 := B10.up hb
 replace R25 := R25.up hb
 replace R43 := R43.up hb
 replace HB := uH HB hb
 clear hb ho0
 go_wp2_with fail
 refine (impl_ReadSome.calls k t3 t4 t5 _ _ t6 a1 t14 t15 t16 t17 t18 t19 _ R72.readsC R72.readsN A38.out).mono ?_
 rintro e w22 ⟨v76, rfl, ho0, hb⟩
 obtain ⟨ok77, A_78, c_79, rfl, R80, F81⟩ := Qw.new HB ho0
 have D82 := R25.dis F81
 have D83 := R43.dis F81
 have D84 := R72.dis F81
 clear F81
 replace B2 := B2.up hb
 replace B6 := B6.up hb
 replace B10 := B10.up hb
 replace R25 := R25.up hb
 replace R43 := R43.up hb
 replace R72 := R72.up hb
 replace HB := uH HB hb
 clear hb ho0
 clear B2
 clear R72
 obtain ⟨qB6_0, qB6_1, qB6_2, qB6_3⟩ := cz4' B6
 obtain ⟨zB6_0, zB6_1, zB6_2, zB6_3⟩ := fz4' B6
 go_wp2_with (first | ((with_reducible refine gate_dst (N := 16) rfl ?_); refine box_event ?hg (N := 16) ?hd (cs := #[.int .i64 0, .int .i64 0, .int .i64 0, .slice none 0 0]) (t := 61) ?hr ?_; (case hd => rfl); (case hg => rfl); (case hr => first | (go_simp; done) | (go_simp; rfl)); clear qB6_0 qB6_1 qB6_2 qB6_3 zB6_0 zB6_1 zB6_2 zB6_3; intro gb16 hg w23 hbox hb; have N85 := B6.ne hg; have N86 := B10.ne hg; have hge : w.heap.size ≤ gb16 := Nat.le_trans HB.out.size (Nat.le_of_eq hg.symm); replace B6 := B6.up hb; replace B10 := B10.up hb; replace R25 := R25.up hb; replace R43 := R43.up hb; replace R80 := R80.up hb; replace HB := uH HB hb; have B16 : Bx w.heap.size w23 gb16 #[.int .i64 0, .int .i64 0, .int .i64 0, .slice none 0 0] 61 := ⟨hbox, hge⟩; clear hb hbox hg hge; obtain ⟨qB6_0, qB6_1, qB6_2, qB6_3⟩ := cz4' B6; obtain ⟨zB6_0, zB6_1, zB6_2, zB6_3⟩ := fz4' B6; obtain ⟨qB16_0, qB16_1, qB16_2, qB16_3⟩ := cz4' B16; obtain ⟨zB16_0, zB16_1, zB16_2, zB16_3⟩ := fz4' B16; have uN85 := N85.out; have vN85 := Ne.symm N85.out))
 clear qB6_0 qB6_1 qB6_2 qB6_3 zB6_0 zB6_1 zB6_2 zB6_3 qB16_0 qB16_1 qB16_2 qB16_3 zB16_0 zB16_1 zB16_2 zB16_3 uN85 vN85
 obtain ⟨b_, ho_⟩ := st4 (v0 := .int .i64 t14) (v1 := .int .i64 t15) (v2 := .int .i64 t16) (v3 := .slice A_78 t17.length c_79) B16
 have hk := ho_.k
 replace B6 := B6.far hk N85
 replace B10 := B10.far hk N86
 replace R25 := R25.far B16 (by decide) hk
 replace R43 := R43.far B16 (by decide) hk
 replace R80 := R80.far B16 (by decide) hk
 replace HB := uHset HB ho_ B16
 clear hk ho_ B16
 have B16 := b_
 clear b_
 generalize ((((w23.setCell ⟨gb16, 0, none⟩ (.int .i64 t14)).setCell ⟨gb16, 1, none⟩ (.int .i64 t15)).setCell ⟨gb16, 2, none⟩ (.int .i64 t16)).setCell ⟨gb16, 3, none⟩ (.slice A_78 t17.length c_79)) = w24 at B6 B10 B16 R25 R43 R80 HB ⊢
 refine (laws_eqInflow.calls k t14 t15 t16 _ _ t17 t14 t15 t16 _ _ t17 true _ R80.readsC R80.readsN R25.readsC R25.readsN A50.out).mono ?_
 rintro e w25 ⟨rfl, hb⟩
 replace B6 := B6.up hb
 replace B10 := B10.up hb
 replace B16 := B16.up hb
 replace R25 := R25.up hb
 replace R43 := R43.up hb
 replace R80 := R80.up hb
 replace HB := uH HB hb
 clear hb
 clear B6 B16
 clear R25 R80
 obtain ⟨qB10_0, qB10_1, qB10_2, qB10_3⟩ := cz4' B10
 obtain ⟨zB10_0, zB10_1, zB10_2, zB10_3⟩ := fz4' B10
 go_wp2_with fail
 clear qB10_0 qB10_1 qB10_2 qB10_3 zB10_0 zB10_1 zB10_2 zB10_3
 refine (laws_heldInflow.calls k t14 t15 t16 _ _ t65 1 t64 _ R43.readsC R43.readsN A67.out).mono ?_
 rintro e w26 ⟨rfl, hb⟩
 replace B10 := B10.up hb
 replace R43 := R43.up hb
 replace HB := uH HB hb
 clear hb
 clear B10
 clear R43
 go_wp2_with fail
 go_ret
 exact ⟨rfl, HB.out⟩
/-- What the callees answer, told once. -/
def laws_FnExactReadSome.Good (k : Nat) (a0_0 : Int) (a0_1 : Int) (a0_2 : Int) (l0_3 : List (S218)) (a1 : Int) : Prop := (∃ (t1 : Int), laws_szInflow.f k a0_0 a0_1 a0_2 l0_3 1048576 = some t1 ∧ t1 < 0)
  ∨ (∃ (t1 : Int) (t3 : Int) (t4 : Int) (t5 : Int) (t6 : List (S177)) (t14 : Int) (t15 : Int) (t16 : Int) (t17 : List (S177)) (t18 : ByteArray) (t19 : Bool) (t61 : Int) (t62 : List (S177)) (t64 : Int) (t65 : List (S177)), laws_szInflow.f k a0_0 a0_1 a0_2 l0_3 1048576 = some t1 ∧ laws_toInflow.f k a0_0 a0_1 a0_2 l0_3 = some (t3, t4, t5, t6) ∧ spec_ReadSome.f k t3 t4 t5 t6 a1 = some (t14, t15, t16, t17, t18, t19) ∧ impl_ReadSome.f k t3 t4 t5 t6 a1 = some (t14, t15, t16, t17, t18, t19) ∧ laws_eqInflow.f k t14 t15 t16 t17 t14 t15 t16 t17 = some true ∧ laws_eqInflow.f k t3 t4 t5 t6 t3 t4 t5 t6 = some true ∧ laws_markInflow.f k t3 t4 t5 t6 1 = some (t61, t62) ∧ laws_markInflow.f k t14 t15 t16 t17 1 = some (t64, t65) ∧ laws_heldInflow.f k t14 t15 t16 t65 1 = some t64 ∧ 0 ≤ t1 ∧ 0 ≤ t61 ∧ 0 ≤ t64)
open Classical in
noncomputable def laws_FnExactReadSome.f (k : Nat) (a0_0 : Int) (a0_1 : Int) (a0_2 : Int) (l0_3 : List (S218)) (a1 : Int) : Option (Bool) := if laws_FnExactReadSome.Good k a0_0 a0_1 a0_2 l0_3 a1 then some true else none
theorem laws_FnExactReadSome.of_good {k : Nat} {a0_0 : Int} {a0_1 : Int} {a0_2 : Int} {l0_3 : List (S218)} {a1 : Int} (h : laws_FnExactReadSome.Good k a0_0 a0_1 a0_2 l0_3 a1) : laws_FnExactReadSome.f k a0_0 a0_1 a0_2 l0_3 a1 = some true := by unfold laws_FnExactReadSome.f; exact if_pos h
theorem laws_FnExactReadSome.calls (k : Nat) (a0_0 : Int) (a0_1 : Int) (a0_2 : Int) (A0_3 : Option Addr) (c0_3 : Nat) (l0_3 : List (S218)) (a1 : Int) (r : Bool) (w : World) (hr0_3 : Kd.C k218 w A0_3 l0_3.length l0_3) (hc0_3 : l0_3.length ≤ c0_3) (h : laws_FnExactReadSome.f k a0_0 a0_1 a0_2 l0_3 a1 = some r) :
  Calls Try.prog 9 #[.agg #[.int .i64 a0_0, .int .i64 a0_1, .int .i64 a0_2, .slice A0_3 l0_3.length c0_3], .int .i64 a1] w fun e w' => e = .returned (.bool r) ∧ Below w.heap.size w w' := by
 unfold laws_FnExactReadSome.f at h
 split at h
 · rename_i hg
   obtain rfl := Option.some.inj h
   rcases hg with ⟨t1, f0, g0⟩ | ⟨t1, t3, t4, t5, t6, t14, t15, t16, t17, t18, t19, t61, t62, t64, t65, f0, f1, f2, f3, f4, f5, f6, f7, f8, g0, g1, g2⟩
   · exact laws_FnExactReadSome.short0 k a0_0 a0_1 a0_2 A0_3 c0_3 l0_3 a1 t1 w hr0_3 hc0_3 f0 g0
   · exact laws_FnExactReadSome.long k a0_0 a0_1 a0_2 A0_3 c0_3 l0_3 a1 t1 t3 t4 t5 t6 t14 t15 t16 t17 t18 t19 t61 t62 t64 t65 w hr0_3 hc0_3 f0 f1 f2 f3 f4 f5 f6 f7 f8 g0 g1 g2
 · cases h
end Go.Proofs.Ythkmjfapljmmpaa.PFnExactReadSome
