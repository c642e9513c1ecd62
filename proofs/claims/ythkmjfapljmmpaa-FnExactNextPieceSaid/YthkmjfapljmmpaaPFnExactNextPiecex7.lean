-- Written by a program of this session (wip/genlaw.py): the walk of the law FnExactNextPiece by the one way on which all that it asks is true.
import Derived.Test.YthkmjfapljmmpaaPFnExactNextPiecex1
import Derived.Test.YthkmjfapljmmpaaPFnExactNextPiecex2
import Derived.Test.YthkmjfapljmmpaaPFnExactNextPiecex3
import Derived.Test.YthkmjfapljmmpaaPFnExactNextPiecex4
import Derived.Test.YthkmjfapljmmpaaPFnExactNextPiecex5
import Derived.Test.YthkmjfapljmmpaaPFnExactNextPiecex6
import Derived.Test.YthkmjfapljmmpaaLawK
namespace Go.Proofs.Ythkmjfapljmmpaa.PFnExactNextPiece
open Go.RowKit Go.Proofs.YthkmjfapljmmpaaW.PrintWords Go.Proofs.YthkmjfapljmmpaaW.PrintLast Go.Proofs.YthkmjfapljmmpaaW.PrintMore
open Go.Proofs.Ythkmjfapljmmpaa.ShortK (sA sZ sS)
open Go.Proofs.Ythkmjfapljmmpaa.StoreK (bm)
open Go.Proofs.Ythkmjfapljmmpaa.LawK
attribute [local go_sem] Go.Proofs.Ythkmjfapljmmpaa.StoreK.isSome_setCell max2_int min2_int max_two min_two max_three min_three max_four min_four   -- for this text's walks alone
set_option linter.unusedVariables false
set_option linter.unusedSimpArgs false

set_option maxHeartbeats 16000000 in
set_option maxRecDepth 100000 in
theorem laws_FnExactNextPiece.short0 (k : Nat) (a0_0 : Int) (a0_1 : Int) (a0_2 : ByteArray) (a0_3 : Bool) (a1 : Int) (t1 : Int) (w : World)  (A2_ : laws_szOutflow.f a0_0 a0_1 a0_2 a0_3 1048576 = some t1) (e0_ : t1 < 0) :
  Calls Try.prog 3 #[.agg #[.int .i64 a0_0, .int .i64 a0_1, .string a0_2, .bool a0_3], .int .i64 a1] w fun e w' => e = .returned (.bool true) ∧ Below w.heap.size w w' := by
 have A2 := Aside0.mk A2_
 clear A2_
 have e0 : decide (t1 < 0) = true := decide_eq_true (by omega)
 clear e0_
 have hu23 := Try.underlying23
 have hu25 := Try.underlying25
 have hu28 := Try.underlying28
 have HB := Aside0.mk (Below.refl w.heap.size w)
 go_enter Try.func3, Try.ntmps3
 go_wp2_with (first | ((with_reducible refine gate_dst (N := 2) rfl ?_); refine box_event ?hg (N := 2) ?hd (cs := #[.int .i64 a0_0, .int .i64 a0_1, .string a0_2, .bool a0_3]) (t := 23) ?hr ?_; (case hd => rfl); (case hg => rfl); (case hr => first | (go_simp; done) | (go_simp; rfl)); intro gb2 hg w1 hbox hb; have hge : w.heap.size ≤ gb2 := Nat.le_trans HB.out.size (Nat.le_of_eq hg.symm); replace HB := uH HB hb; have B2 : Bx w.heap.size w1 gb2 #[.int .i64 a0_0, .int .i64 a0_1, .string a0_2, .bool a0_3] 23 := ⟨hbox, hge⟩; clear hb hbox hg hge; obtain ⟨qB2_0, qB2_1, qB2_2, qB2_3⟩ := cz4' B2; obtain ⟨zB2_0, zB2_1, zB2_2, zB2_3⟩ := fz4' B2))
 clear qB2_0 qB2_1 qB2_2 qB2_3 zB2_0 zB2_1 zB2_2 zB2_3
 refine (laws_szOutflow.calls a0_0 a0_1 a0_2 a0_3 1048576 t1 _ A2.out).mono ?_
 rintro e w2 ⟨rfl, hb⟩
 replace B2 := B2.up hb
 replace HB := uH HB hb
 clear hb
 obtain ⟨qB2_0, qB2_1, qB2_2, qB2_3⟩ := cz4' B2
 obtain ⟨zB2_0, zB2_1, zB2_2, zB2_3⟩ := fz4' B2
 go_wp2_with fail
 go_ret
 exact ⟨rfl, HB.out⟩
set_option maxHeartbeats 16000000 in
set_option maxRecDepth 100000 in
theorem laws_FnExactNextPiece.long (k : Nat) (a0_0 : Int) (a0_1 : Int) (a0_2 : ByteArray) (a0_3 : Bool) (a1 : Int) (t1 : Int) (t3 : Int) (t4 : Int) (t5 : ByteArray) (t6 : Bool) (t8 : Int) (t9 : Int) (t10 : ByteArray) (t11 : Bool) (t12 : Int) (t13 : Int) (t14 : Int) (t15 : Int) (t16 : Bool) (t17 : ByteArray) (t18 : List (S203)) (t19 : Bool) (t47 : Int) (t48 : List (S203)) (w : World)  (A2_ : laws_szOutflow.f a0_0 a0_1 a0_2 a0_3 1048576 = some t1) (A7_ : laws_toOutflow.f a0_0 a0_1 a0_2 a0_3 = some (t3, t4, t5, t6)) (A20_ : spec_NextPiece.f k t3 t4 t5 t6 a1 = some (t8, t9, t10, t11, t12, t13, t14, t15, t16, t17, t18, t19)) (A30_ : impl_NextPiece.f k t3 t4 t5 t6 a1 = some (t8, t9, t10, t11, t12, t13, t14, t15, t16, t17, t18, t19)) (A45_ : laws_eqOutflow.f t8 t9 t10 t11 t8 t9 t10 t11 = some true) (A46_ : laws_eqFrame.f k t12 t13 t14 t15 t16 t17 t18 t12 t13 t14 t15 t16 t17 t18 = some true) (A49_ : laws_markFrame.f k t12 t13 t14 t15 t16 t17 t18 1 = some (t47, t48)) (A50_ : laws_heldFrame.f k t12 t13 t14 t15 t16 t17 t48 1 = some t47) (e0_ : 0 ≤ t1) (e1_ : 0 ≤ t47) :
  Calls Try.prog 3 #[.agg #[.int .i64 a0_0, .int .i64 a0_1, .string a0_2, .bool a0_3], .int .i64 a1] w fun e w' => e = .returned (.bool true) ∧ Below w.heap.size w w' := by
 have A2 := Aside0.mk A2_
 clear A2_
 have A7 := Aside0.mk A7_
 clear A7_
 have A20 := Aside0.mk A20_
 clear A20_
 have A30 := Aside0.mk A30_
 clear A30_
 have A45 := Aside0.mk A45_
 clear A45_
 have A46 := Aside0.mk A46_
 clear A46_
 have A49 := Aside0.mk A49_
 clear A49_
 have A50 := Aside0.mk A50_
 clear A50_
 have e0 : decide (t1 < 0) = false := decide_eq_false (by omega)
 clear e0_
 have e1 : decide (t47 < 0) = false := decide_eq_false (by omega)
 clear e1_
 have hu23 := Try.underlying23
 have hu25 := Try.underlying25
 have hu28 := Try.underlying28
 have HB := Aside0.mk (Below.refl w.heap.size w)
 go_enter Try.func3, Try.ntmps3
 go_wp2_with (first | ((with_reducible refine gate_dst (N := 2) rfl ?_); refine box_event ?hg (N := 2) ?hd (cs := #[.int .i64 a0_0, .int .i64 a0_1, .string a0_2, .bool a0_3]) (t := 23) ?hr ?_; (case hd => rfl); (case hg => rfl); (case hr => first | (go_simp; done) | (go_simp; rfl)); intro gb2 hg w1 hbox hb; have hge : w.heap.size ≤ gb2 := Nat.le_trans HB.out.size (Nat.le_of_eq hg.symm); replace HB := uH HB hb; have B2 : Bx w.heap.size w1 gb2 #[.int .i64 a0_0, .int .i64 a0_1, .string a0_2, .bool a0_3] 23 := ⟨hbox, hge⟩; clear hb hbox hg hge; obtain ⟨qB2_0, qB2_1, qB2_2, qB2_3⟩ := cz4' B2; obtain ⟨zB2_0, zB2_1, zB2_2, zB2_3⟩ := fz4' B2))
 clear qB2_0 qB2_1 qB2_2 qB2_3 zB2_0 zB2_1 zB2_2 zB2_3
 refine (laws_szOutflow.calls a0_0 a0_1 a0_2 a0_3 1048576 t1 _ A2.out).mono ?_
 rintro e w2 ⟨rfl, hb⟩
 replace B2 := B2.up hb
 replace HB := uH HB hb
 clear hb
 obtain ⟨qB2_0, qB2_1, qB2_2, qB2_3⟩ := cz4' B2
 obtain ⟨zB2_0, zB2_1, zB2_2, zB2_3⟩ := fz4' B2
 go_wp2_with fail
 clear qB2_0 qB2_1 qB2_2 qB2_3 zB2_0 zB2_1 zB2_2 zB2_3
 refine (laws_toOutflow.calls a0_0 a0_1 a0_2 a0_3 t3 t4 t5 t6 _ A7.out).mono ?_
 rintro e w3 ⟨rfl, hb⟩
 replace B2 := B2.up hb
 replace HB := uH HB hb
 clear hb
 go_wp2_with fail
 refine (spec_NextPiece.calls k t3 t4 t5 t6 a1 t8 t9 t10 t11 t12 t13 t14 t15 t16 t17 t18 t19 _ A20.out).mono ?_
 rintro e w4 ⟨v21, rfl, ho0, hb⟩
 obtain ⟨ok22, A_23, c_24, rfl, R25, F26⟩ := Rw.new HB ho0
 clear F26
 replace B2 := B2.up hb
 replace HB := uH HB hb
 clear hb ho0
 obtain ⟨qB2_0, qB2_1, qB2_2, qB2_3⟩ := cz4' B2
 obtain ⟨zB2_0, zB2_1, zB2_2, zB2_3⟩ := fz4' B2
 go_wp2_with (first | ((with_reducible refine gate_dst (N := 6) rfl ?_); refine box_event ?hg (N := 6) ?hd (cs := #[.int .i64 0, .int .i64 0, .string ⟨#[]⟩, .bool false]) (t := 25) ?hr ?_; (case hd => rfl); (case hg => rfl); (case hr => first | (go_simp; done) | (go_simp; rfl)); clear qB2_0 qB2_1 qB2_2 qB2_3 zB2_0 zB2_1 zB2_2 zB2_3; intro gb6 hg w5 hbox hb; have N27 := B2.ne hg; have hge : w.heap.size ≤ gb6 := Nat.le_trans HB.out.size (Nat.le_of_eq hg.symm); replace B2 := B2.up hb; replace R25 := R25.up hb; replace HB := uH HB hb; have B6 : Bx w.heap.size w5 gb6 #[.int .i64 0, .int .i64 0, .string ⟨#[]⟩, .bool false] 25 := ⟨hbox, hge⟩; clear hb hbox hg hge; obtain ⟨qB2_0, qB2_1, qB2_2, qB2_3⟩ := cz4' B2; obtain ⟨zB2_0, zB2_1, zB2_2, zB2_3⟩ := fz4' B2; obtain ⟨qB6_0, qB6_1, qB6_2, qB6_3⟩ := cz4' B6; obtain ⟨zB6_0, zB6_1, zB6_2, zB6_3⟩ := fz4' B6; have uN27 := N27.out; have vN27 := Ne.symm N27.out) | ((with_reducible refine gate_dst (N := 7) rfl ?_); refine box_event ?hg (N := 7) ?hd (cs := #[.int .i64 0, .int .i64 0, .int .i64 0, .int .i64 0, .bool false, .string ⟨#[]⟩, .slice none 0 0]) (t := 28) ?hr ?_; (case hd => rfl); (case hg => rfl); (case hr => first | (go_simp; done) | (go_simp; rfl)); clear qB2_0 qB2_1 qB2_2 qB2_3 zB2_0 zB2_1 zB2_2 zB2_3 qB6_0 qB6_1 qB6_2 qB6_3 zB6_0 zB6_1 zB6_2 zB6_3 uN27 vN27; intro gb7 hg w6 hbox hb; have N28 := B2.ne hg; have N29 := B6.ne hg; have hge : w.heap.size ≤ gb7 := Nat.le_trans HB.out.size (Nat.le_of_eq hg.symm); replace B2 := B2.up hb; replace B6 := B6.up hb; replace R25 := R25.up hb; replace HB := uH HB hb; have B7 : Bx w.heap.size w6 gb7 #[.int .i64 0, .int .i64 0, .int .i64 0, .int .i64 0, .bool false, .string ⟨#[]⟩, .slice none 0 0] 28 := ⟨hbox, hge⟩; clear hb hbox hg hge; obtain ⟨qB2_0, qB2_1, qB2_2, qB2_3⟩ := cz4' B2; obtain ⟨zB2_0, zB2_1, zB2_2, zB2_3⟩ := fz4' B2; obtain ⟨qB6_0, qB6_1, qB6_2, qB6_3⟩ := cz4' B6; obtain ⟨zB6_0, zB6_1, zB6_2, zB6_3⟩ := fz4' B6; obtain ⟨qB7_0, qB7_1, qB7_2, qB7_3, qB7_4, qB7_5, qB7_6⟩ := cz7' B7; obtain ⟨zB7_0, zB7_1, zB7_2, zB7_3, zB7_4, zB7_5, zB7_6⟩ := fz7' B7; have uN27 := N27.out; have vN27 := Ne.symm N27.out; have uN28 := N28.out; have vN28 := Ne.symm N28.out; have uN29 := N29.out; have vN29 := Ne.symm N29.out))
 clear qB2_0 qB2_1 qB2_2 qB2_3 zB2_0 zB2_1 zB2_2 zB2_3 qB6_0 qB6_1 qB6_2 qB6_3 zB6_0 zB6_1 zB6_2 zB6_3 qB7_0 qB7_1 qB7_2 qB7_3 qB7_4 qB7_5 qB7_6 zB7_0 zB7_1 zB7_2 zB7_3 zB7_4 zB7_5 zB7_6 uN27 vN27 uN28 vN28 uN29 vN29
 obtain ⟨b_, ho_⟩ := st4 (v0 := .int .i64 t8) (v1 := .int .i64 t9) (v2 := .string t10) (v3 := .bool t11) B6
 have hk := ho_.k
 replace B2 := B2.far hk N27
 replace B7 := B7.far hk ⟨Ne.symm N29.out⟩
 replace R25 := R25.far B6 (by decide) hk
 replace HB := uHset HB ho_ B6
 clear hk ho_ B6
 have B6 := b_
 clear b_
 obtain ⟨b_, ho_⟩ := st7 (v0 := .int .i64 t12) (v1 := .int .i64 t13) (v2 := .int .i64 t14) (v3 := .int .i64 t15) (v4 := .bool t16) (v5 := .string t17) (v6 := .slice A_23 t18.length c_24) B7
 have hk := ho_.k
 replace B2 := B2.far hk N28
 replace B6 := B6.far hk N29
 replace R25 := R25.far B7 (by decide) hk
 replace HB := uHset HB ho_ B7
 clear hk ho_ B7
 have B7 := b_
 clear b_
 generalize (((((((((((w6.setCell ⟨gb6, 0, none⟩ (.int .i64 t8)).setCell ⟨gb6, 1, none⟩ (.int .i64 t9)).setCell ⟨gb6, 2, none⟩ (.string t10)).setCell ⟨gb6, 3, none⟩ (.bool t11)).setCell ⟨gb7, 0, none⟩ (.int .i64 t12)).setCell ⟨gb7, 1, none⟩ (.int .i64 t13)).setCell ⟨gb7, 2, none⟩ (.int .i64 t14)).setCell ⟨gb7, 3, none⟩ (.int .i64 t15)).setCell ⟨gb7, 4, none⟩ (.bool t16)).setCell ⟨gb7, 5, none⟩ (.string t17)).setCell ⟨gb7, 6, none⟩ (.slice A_23 t18.length c_24)) = w7 at B2 B6 B7 R25 HB ⊢
 refine (laws_toOutflow.calls a0_0 a0_1 a0_2 a0_3 t3 t4 t5 t6 _ A7.out).mono ?_
 rintro e w8 ⟨rfl, hb⟩
 replace B2 := B2.up hb
 replace B6 := B6.up hb
 replace B7 := B7.up hb
 replace R25 := R25.up hb
 replace HB := uH HB hb
 clear hb
 go_wp2_with fail
 refine (impl_NextPiece.calls k t3 t4 t5 t6 a1 t8 t9 t10 t11 t12 t13 t14 t15 t16 t17 t18 t19 _ A30.out).mono ?_
 rintro e w9 ⟨v31, rfl, ho0, hb⟩
 obtain ⟨ok32, A_33, c_34, rfl, R35, F36⟩ := Rw.new HB ho0
 have D37 := R25.dis F36
 clear F36
 replace B2 := B2.up hb
 replace B6 := B6.up hb
 replace B7 := B7.up hb
 replace R25 := R25.up hb
 replace HB := uH HB hb
 clear hb ho0
 obtain ⟨qB6_0, qB6_1, qB6_2, qB6_3⟩ := cz4' B6
 obtain ⟨zB6_0, zB6_1, zB6_2, zB6_3⟩ := fz4' B6
 go_wp2_with (first | ((with_reducible refine gate_dst (N := 9) rfl ?_); refine box_event ?hg (N := 9) ?hd (cs := #[.int .i64 0, .int .i64 0, .string ⟨#[]⟩, .bool false]) (t := 25) ?hr ?_; (case hd => rfl); (case hg => rfl); (case hr => first | (go_simp; done) | (go_simp; rfl)); clear qB6_0 qB6_1 qB6_2 qB6_3 zB6_0 zB6_1 zB6_2 zB6_3; intro gb9 hg w10 hbox hb; have N38 := B2.ne hg; have N39 := B6.ne hg; have N40 := B7.ne hg; have hge : w.heap.size ≤ gb9 := Nat.le_trans HB.out.size (Nat.le_of_eq hg.symm); replace B2 := B2.up hb; replace B6 := B6.up hb; replace B7 := B7.up hb; replace R25 := R25.up hb; replace R35 := R35.up hb; replace HB := uH HB hb; have B9 : Bx w.heap.size w10 gb9 #[.int .i64 0, .int .i64 0, .string ⟨#[]⟩, .bool false] 25 := ⟨hbox, hge⟩; clear hb hbox hg hge; obtain ⟨qB6_0, qB6_1, qB6_2, qB6_3⟩ := cz4' B6; obtain ⟨zB6_0, zB6_1, zB6_2, zB6_3⟩ := fz4' B6; obtain ⟨qB9_0, qB9_1, qB9_2, qB9_3⟩ := cz4' B9; obtain ⟨zB9_0, zB9_1, zB9_2, zB9_3⟩ := fz4' B9; have uN39 := N39.out; have vN39 := Ne.symm N39.out) | ((with_reducible refine gate_dst (N := 10) rfl ?_); refine box_event ?hg (N := 10) ?hd (cs := #[.int .i64 0, .int .i64 0, .int .i64 0, .int .i64 0, .bool false, .string ⟨#[]⟩, .slice none 0 0]) (t := 28) ?hr ?_; (case hd => rfl); (case hg => rfl); (case hr => first | (go_simp; done) | (go_simp; rfl)); clear qB6_0 qB6_1 qB6_2 qB6_3 zB6_0 zB6_1 zB6_2 zB6_3 qB9_0 qB9_1 qB9_2 qB9_3 zB9_0 zB9_1 zB9_2 zB9_3 uN39 vN39; intro gb10 hg w11 hbox hb; have N41 := B2.ne hg; have N42 := B6.ne hg; have N43 := B7.ne hg; have N44 := B9.ne hg; have hge : w.heap.size ≤ gb10 := Nat.le_trans HB.out.size (Nat.le_of_eq hg.symm); replace B2 := B2.up hb; replace B6 := B6.up hb; replace B7 := B7.up hb; replace B9 := B9.up hb; replace R25 := R25.up hb; replace R35 := R35.up hb; replace HB := uH HB hb; have B10 : Bx w.heap.size w11 gb10 #[.int .i64 0, .int .i64 0, .int .i64 0, .int .i64 0, .bool false, .string ⟨#[]⟩, .slice none 0 0] 28 := ⟨hbox, hge⟩; clear hb hbox hg hge; obtain ⟨qB6_0, qB6_1, qB6_2, qB6_3⟩ := cz4' B6; obtain ⟨zB6_0, zB6_1, zB6_2, zB6_3⟩ := fz4' B6; obtain ⟨qB9_0, qB9_1, qB9_2, qB9_3⟩ := cz4' B9; obtain ⟨zB9_0, zB9_1, zB9_2, zB9_3⟩ := fz4' B9; obtain ⟨qB10_0, qB10_1, qB10_2, qB10_3, qB10_4, qB10_5, qB10_6⟩ := cz7' B10; obtain ⟨zB10_0, zB10_1, zB10_2, zB10_3, zB10_4, zB10_5, zB10_6⟩ := fz7' B10; have uN39 := N39.out; have vN39 := Ne.symm N39.out; have uN42 := N42.out; have vN42 := Ne.symm N42.out; have uN44 := N44.out; have vN44 := Ne.symm N44.out))
 clear qB6_0 qB6_1 qB6_2 qB6_3 zB6_0 zB6_1 zB6_2 zB6_3 qB9_0 qB9_1 qB9_2 qB9_3 zB9_0 zB9_1 zB9_2 zB9_3 qB10_0 qB10_1 qB10_2 qB10_3 qB10_4 qB10_5 qB10_6 zB10_0 zB10_1 zB10_2 zB10_3 zB10_4 zB10_5 zB10_6 uN39 vN39 uN42 vN42 uN44 vN44
 obtain ⟨b_, ho_⟩ := st4 (v0 := .int .i64 t8) (v1 := .int .i64 t9) (v2 := .string t10) (v3 := .bool t11) B9
 have hk := ho_.k
 replace B2 := B2.far hk N38
 replace B6 := B6.far hk N39
 replace B7 := B7.far hk N40
 replace B10 := B10.far hk ⟨Ne.symm N44.out⟩
 replace R25 := R25.far B9 (by decide) hk
 replace R35 := R35.far B9 (by decide) hk
 replace HB := uHset HB ho_ B9
 clear hk ho_ B9
 have B9 := b_
 clear b_
 obtain ⟨b_, ho_⟩ := st7 (v0 := .int .i64 t12) (v1 := .int .i64 t13) (v2 := .int .i64 t14) (v3 := .int .i64 t15) (v4 := .bool t16) (v5 := .string t17) (v6 := .slice A_33 t18.length c_34) B10
 have hk := ho_.k
 replace B2 := B2.far hk N41
 replace B6 := B6.far hk N42
 replace B7 := B7.far hk N43
 replace B9 := B9.far hk N44
 replace R25 := R25.far B10 (by decide) hk
 replace R35 := R35.far B10 (by decide) hk
 replace HB := uHset HB ho_ B10
 clear hk ho_ B10
 have B10 := b_
 clear b_
 generalize (((((((((((w11.setCell ⟨gb9, 0, none⟩ (.int .i64 t8)).setCell ⟨gb9, 1, none⟩ (.int .i64 t9)).setCell ⟨gb9, 2, none⟩ (.string t10)).setCell ⟨gb9, 3, none⟩ (.bool t11)).setCell ⟨gb10, 0, none⟩ (.int .i64 t12)).setCell ⟨gb10, 1, none⟩ (.int .i64 t13)).setCell ⟨gb10, 2, none⟩ (.int .i64 t14)).setCell ⟨gb10, 3, none⟩ (.int .i64 t15)).setCell ⟨gb10, 4, none⟩ (.bool t16)).setCell ⟨gb10, 5, none⟩ (.string t17)).setCell ⟨gb10, 6, none⟩ (.slice A_33 t18.length c_34)) = w12 at B2 B6 B7 B9 B10 R25 R35 HB ⊢
 refine (laws_eqOutflow.calls t8 t9 t10 t11 t8 t9 t10 t11 true _ A45.out).mono ?_
 rintro e w13 ⟨rfl, hb⟩
 replace B2 := B2.up hb
 replace B6 := B6.up hb
 replace B7 := B7.up hb
 replace B9 := B9.up hb
 replace B10 := B10.up hb
 replace R25 := R25.up hb
 replace R35 := R35.up hb
 replace HB := uH HB hb
 clear hb
 obtain ⟨qB10_0, qB10_1, qB10_2, qB10_3, qB10_4, qB10_5, qB10_6⟩ := cz7' B10
 obtain ⟨zB10_0, zB10_1, zB10_2, zB10_3, zB10_4, zB10_5, zB10_6⟩ := fz7' B10
 obtain ⟨qB7_0, qB7_1, qB7_2, qB7_3, qB7_4, qB7_5, qB7_6⟩ := cz7' B7
 obtain ⟨zB7_0, zB7_1, zB7_2, zB7_3, zB7_4, zB7_5, zB7_6⟩ := fz7' B7
 go_wp2_with fail
 clear qB10_0 qB10_1 qB10_2 qB10_3 qB10_4 qB10_5 qB10_6 zB10_0 zB10_1 zB10_2 zB10_3 zB10_4 zB10_5 zB10_6 qB7_0 qB7_1 qB7_2 qB7_3 qB7_4 qB7_5 qB7_6 zB7_0 zB7_1 zB7_2 zB7_3 zB7_4 zB7_5 zB7_6
 refine (laws_eqFrame.calls k t12 t13 t14 t15 t16 t17 _ _ t18 t12 t13 t14 t15 t16 t17 _ _ t18 true _ R35.readsC R35.readsN R25.readsC R25.readsN A46.out).mono ?_
 rintro e w14 ⟨rfl, hb⟩
 replace B2 := B2.up hb
 replace B6 := B6.up hb
 replace B7 := B7.up hb
 replace B9 := B9.up hb
 replace B10 := B10.up hb
 replace R25 := R25.up hb
 replace R35 := R35.up hb
 replace HB := uH HB hb
 clear hb
 clear B9
 obtain ⟨qB10_0, qB10_1, qB10_2, qB10_3, qB10_4, qB10_5, qB10_6⟩ := cz7' B10
 obtain ⟨zB10_0, zB10_1, zB10_2, zB10_3, zB10_4, zB10_5, zB10_6⟩ := fz7' B10
 go_wp2_with fail
 clear qB10_0 qB10_1 qB10_2 qB10_3 qB10_4 qB10_5 qB10_6 zB10_0 zB10_1 zB10_2 zB10_3 zB10_4 zB10_5 zB10_6
 replace R35 := R35.shrink (NoB.cons B2 (by decide) (NoB.cons B6 (by decide) (NoB.cons B7 (by decide) (NoB.cons B10 (by decide) (NoB.nil)))))
 refine (laws_markFrame.calls k t12 t13 t14 t15 t16 t17 _ _ t18 1 t47 t48 w _ HB.out R35.r A49.out).mono ?_
 rintro e w15 ⟨rfl, ho0, hbM, hk⟩
 have m_ := R35.marked ho0 hk
 replace B2 := B2.off hk (by simp)
 replace B6 := B6.off hk (by simp)
 replace B7 := B7.off hk (by simp)
 replace B10 := B10.off hk (by simp)
 replace R25 := R25.off hk D37
 replace HB := Aside0.mk hbM
 have hl := (Kd.R_reads' m_.r).1
 rw [hl] at m_ B10
 clear hk hbM ho0 hl R35
 have R35 := m_
 clear m_
 obtain ⟨qB10_0, qB10_1, qB10_2, qB10_3, qB10_4, qB10_5, qB10_6⟩ := cz7' B10
 obtain ⟨zB10_0, zB10_1, zB10_2, zB10_3, zB10_4, zB10_5, zB10_6⟩ := fz7' B10
 go_wp2_with fail
 clear qB10_0 qB10_1 qB10_2 qB10_3 qB10_4 qB10_5 qB10_6 zB10_0 zB10_1 zB10_2 zB10_3 zB10_4 zB10_5 zB10_6
 refine (laws_heldFrame.calls k t12 t13 t14 t15 t16 t17 _ _ t48 1 t47 _ R35.readsC R35.readsN A50.out).mono ?_
 rintro e w16 ⟨rfl, hb⟩
 replace B2 := B2.up hb
 replace B6 := B6.up hb
 replace B7 := B7.up hb
 replace B10 := B10.up hb
 replace R25 := R25.up hb
 replace R35 := R35.up hb
 replace HB := uH HB hb
 clear hb
 obtain ⟨qB2_0, qB2_1, qB2_2, qB2_3⟩ := cz4' B2
 obtain ⟨zB2_0, zB2_1, zB2_2, zB2_3⟩ := fz4' B2
 go_wp2_with fail
 clear qB2_0 qB2_1 qB2_2 qB2_3 zB2_0 zB2_1 zB2_2 zB2_3
 refine (laws_toOutflow.calls a0_0 a0_1 a0_2 a0_3 t3 t4 t5 t6 _ A7.out).mono ?_
 rintro e w17 ⟨rfl, hb⟩
 replace B2 := B2.up hb
 replace B6 := B6.up hb
 replace B7 := B7.up hb
 replace B10 := B10.up hb
 replace R25 := R25.up hb
 replace R35 := R35.up hb
 replace HB := uH HB hb
 clear hb
 go_wp2_with fail
 refine (impl_NextPiece.calls k t3 t4 t5 t6 a1 t8 t9 t10 t11 t12 t13 t14 t15 t16 t17 t18 t19 _ A30.out).mono ?_
 rintro e w18 ⟨v51, rfl, ho0, hb⟩
 obtain ⟨ok52, A_53, c_54, rfl, R55, F56⟩ := Rw.new HB ho0
 have D57 := R25.dis F56
 have D58 := R35.dis F56
 clear F56
 replace B2 := B2.up hb
 replace B6 := B6.up hb
 replace B7 := B7.up hb
 replace B10 := B10.up hb
 replace R25 := R25.up hb
 replace R35 := R35.up hb
 replace HB := uH HB hb
 clear hb ho0
 clear B2
 obtain ⟨qB6_0, qB6_1, qB6_2, qB6_3⟩ := cz4' B6
 obtain ⟨zB6_0, zB6_1, zB6_2, zB6_3⟩ := fz4' B6
 go_wp2_with (first | ((with_reducible refine gate_dst (N := 14) rfl ?_); refine box_event ?hg (N := 14) ?hd (cs := #[.int .i64 0, .int .i64 0, .string ⟨#[]⟩, .bool false]) (t := 25) ?hr ?_; (case hd => rfl); (case hg => rfl); (case hr => first | (go_simp; done) | (go_simp; rfl)); clear qB6_0 qB6_1 qB6_2 qB6_3 zB6_0 zB6_1 zB6_2 zB6_3; intro gb14 hg w19 hbox hb; have N59 := B6.ne hg; have N60 := B7.ne hg; have N61 := B10.ne hg; have hge : w.heap.size ≤ gb14 := Nat.le_trans HB.out.size (Nat.le_of_eq hg.symm); replace B6 := B6.up hb; replace B7 := B7.up hb; replace B10 := B10.up hb; replace R25 := R25.up hb; replace R35 := R35.up hb; replace R55 := R55.up hb; replace HB := uH HB hb; have B14 : Bx w.heap.size w19 gb14 #[.int .i64 0, .int .i64 0, .string ⟨#[]⟩, .bool false] 25 := ⟨hbox, hge⟩; clear hb hbox hg hge; obtain ⟨qB6_0, qB6_1, qB6_2, qB6_3⟩ := cz4' B6; obtain ⟨zB6_0, zB6_1, zB6_2, zB6_3⟩ := fz4' B6; obtain ⟨qB14_0, qB14_1, qB14_2, qB14_3⟩ := cz4' B14; obtain ⟨zB14_0, zB14_1, zB14_2, zB14_3⟩ := fz4' B14; have uN59 := N59.out; have vN59 := Ne.symm N59.out) | ((with_reducible refine gate_dst (N := 15) rfl ?_); refine box_event ?hg (N := 15) ?hd (cs := #[.int .i64 0, .int .i64 0, .int .i64 0, .int .i64 0, .bool false, .string ⟨#[]⟩, .slice none 0 0]) (t := 28) ?hr ?_; (case hd => rfl); (case hg => rfl); (case hr => first | (go_simp; done) | (go_simp; rfl)); clear qB6_0 qB6_1 qB6_2 qB6_3 zB6_0 zB6_1 zB6_2 zB6_3 qB14_0 qB14_1 qB14_2 qB14_3 zB14_0 zB14_1 zB14_2 zB14_3 uN59 vN59; intro gb15 hg w20 hbox hb; have N62 := B6.ne hg; have N63 := B7.ne hg; have N64 := B10.ne hg; have N65 := B14.ne hg; have hge : w.heap.size ≤ gb15 := Nat.le_trans HB.out.size (Nat.le_of_eq hg.symm); replace B6 := B6.up hb; replace B7 := B7.up hb; replace B10 := B10.up hb; replace B14 := B14.up hb; replace R25 := R25.up hb; replace R35 := R35.up hb; replace R55 := R55.up hb; replace HB := uH HB hb; have B15 : Bx w.heap.size w20 gb15 #[.int .i64 0, .int .i64 0, .int .i64 0, .int .i64 0, .bool false, .string ⟨#[]⟩, .slice none 0 0] 28 := ⟨hbox, hge⟩; clear hb hbox hg hge; obtain ⟨qB6_0, qB6_1, qB6_2, qB6_3⟩ := cz4' B6; obtain ⟨zB6_0, zB6_1, zB6_2, zB6_3⟩ := fz4' B6; obtain ⟨qB14_0, qB14_1, qB14_2, qB14_3⟩ := cz4' B14; obtain ⟨zB14_0, zB14_1, zB14_2, zB14_3⟩ := fz4' B14; obtain ⟨qB15_0, qB15_1, qB15_2, qB15_3, qB15_4, qB15_5, qB15_6⟩ := cz7' B15; obtain ⟨zB15_0, zB15_1, zB15_2, zB15_3, zB15_4, zB15_5, zB15_6⟩ := fz7' B15; have uN59 := N59.out; have vN59 := Ne.symm N59.out; have uN62 := N62.out; have vN62 := Ne.symm N62.out; have uN65 := N65.out; have vN65 := Ne.symm N65.out))
 clear qB6_0 qB6_1 qB6_2 qB6_3 zB6_0 zB6_1 zB6_2 zB6_3 qB14_0 qB14_1 qB14_2 qB14_3 zB14_0 zB14_1 zB14_2 zB14_3 qB15_0 qB15_1 qB15_2 qB15_3 qB15_4 qB15_5 qB15_6 zB15_0 zB15_1 zB15_2 zB15_3 zB15_4 zB15_5 zB15_6 uN59 vN59 uN62 vN62 uN65 vN65
 obtain ⟨b_, ho_⟩ := st4 (v0 := .int .i64 t8) (v1 := .int .i64 t9) (v2 := .string t10) (v3 := .bool t11) B14
 have hk := ho_.k
 replace B6 := B6.far hk N59
 replace B7 := B7.far hk N60
 replace B10 := B10.far hk N61
 replace B15 := B15.far hk ⟨Ne.symm N65.out⟩
 replace R25 := R25.far B14 (by decide) hk
 replace R35 := R35.far B14 (by decide) hk
 replace R55 := R55.far B14 (by decide) hk
 replace HB := uHset HB ho_ B14
 clear hk ho_ B14
 have B14 := b_
 clear b_
 obtain ⟨b_, ho_⟩ := st7 (v0 := .int .i64 t12) (v1 := .int .i64 t13) (v2 := .int .i64 t14) (v3 := .int .i64 t15) (v4 := .bool t16) (v5 := .string t17) (v6 := .slice A_53 t18.length c_54) B15
 have hk := ho_.k
 replace B6 := B6.far hk N62
 replace B7 := B7.far hk N63
 replace B10 := B10.far hk N64
 replace B14 := B14.far hk N65
 replace R25 := R25.far B15 (by decide) hk
 replace R35 := R35.far B15 (by decide) hk
 replace R55 := R55.far B15 (by decide) hk
 replace HB := uHset HB ho_ B15
 clear hk ho_ B15
 have B15 := b_
 clear b_
 generalize (((((((((((w20.setCell ⟨gb14, 0, none⟩ (.int .i64 t8)).setCell ⟨gb14, 1, none⟩ (.int .i64 t9)).setCell ⟨gb14, 2, none⟩ (.string t10)).setCell ⟨gb14, 3, none⟩ (.bool t11)).setCell ⟨gb15, 0, none⟩ (.int .i64 t12)).setCell ⟨gb15, 1, none⟩ (.int .i64 t13)).setCell ⟨gb15, 2, none⟩ (.int .i64 t14)).setCell ⟨gb15, 3, none⟩ (.int .i64 t15)).setCell ⟨gb15, 4, none⟩ (.bool t16)).setCell ⟨gb15, 5, none⟩ (.string t17)).setCell ⟨gb15, 6, none⟩ (.slice A_53 t18.length c_54)) = w21 at B6 B7 B10 B14 B15 R25 R35 R55 HB ⊢
 refine (laws_eqOutflow.calls t8 t9 t10 t11 t8 t9 t10 t11 true _ A45.out).mono ?_
 rintro e w22 ⟨rfl, hb⟩
 replace B6 := B6.up hb
 replace B7 := B7.up hb
 replace B10 := B10.up hb
 replace B14 := B14.up hb
 replace B15 := B15.up hb
 replace R25 := R25.up hb
 replace R35 := R35.up hb
 replace R55 := R55.up hb
 replace HB := uH HB hb
 clear hb
 obtain ⟨qB15_0, qB15_1, qB15_2, qB15_3, qB15_4, qB15_5, qB15_6⟩ := cz7' B15
 obtain ⟨zB15_0, zB15_1, zB15_2, zB15_3, zB15_4, zB15_5, zB15_6⟩ := fz7' B15
 obtain ⟨qB7_0, qB7_1, qB7_2, qB7_3, qB7_4, qB7_5, qB7_6⟩ := cz7' B7
 obtain ⟨zB7_0, zB7_1, zB7_2, zB7_3, zB7_4, zB7_5, zB7_6⟩ := fz7' B7
 go_wp2_with fail
 clear qB15_0 qB15_1 qB15_2 qB15_3 qB15_4 qB15_5 qB15_6 zB15_0 zB15_1 zB15_2 zB15_3 zB15_4 zB15_5 zB15_6 qB7_0 qB7_1 qB7_2 qB7_3 qB7_4 qB7_5 qB7_6 zB7_0 zB7_1 zB7_2 zB7_3 zB7_4 zB7_5 zB7_6
 refine (laws_eqFrame.calls k t12 t13 t14 t15 t16 t17 _ _ t18 t12 t13 t14 t15 t16 t17 _ _ t18 true _ R55.readsC R55.readsN R25.readsC R25.readsN A46.out).mono ?_
 rintro e w23 ⟨rfl, hb⟩
 replace B6 := B6.up hb
 replace B7 := B7.up hb
 replace B10 := B10.up hb
 replace B14 := B14.up hb
 replace B15 := B15.up hb
 replace R25 := R25.up hb
 replace R35 := R35.up hb
 replace R55 := R55.up hb
 replace HB := uH HB hb
 clear hb
 clear B6 B7 B14 B15
 clear R25 R55
 obtain ⟨qB10_0, qB10_1, qB10_2, qB10_3, qB10_4, qB10_5, qB10_6⟩ := cz7' B10
 obtain ⟨zB10_0, zB10_1, zB10_2, zB10_3, zB10_4, zB10_5, zB10_6⟩ := fz7' B10
 go_wp2_with fail
 clear qB10_0 qB10_1 qB10_2 qB10_3 qB10_4 qB10_5 qB10_6 zB10_0 zB10_1 zB10_2 zB10_3 zB10_4 zB10_5 zB10_6
 refine (laws_heldFrame.calls k t12 t13 t14 t15 t16 t17 _ _ t48 1 t47 _ R35.readsC R35.readsN A50.out).mono ?_
 rintro e w24 ⟨rfl, hb⟩
 replace B10 := B10.up hb
 replace R35 := R35.up hb
 replace HB := uH HB hb
 clear hb
 clear B10
 clear R35
 go_wp2_with fail
 go_ret
 exact ⟨rfl, HB.out⟩
/-- What the callees answer, told once. -/
def laws_FnExactNextPiece.Good (k : Nat) (a0_0 : Int) (a0_1 : Int) (a0_2 : ByteArray) (a0_3 : Bool) (a1 : Int) : Prop := (∃ (t1 : Int), laws_szOutflow.f a0_0 a0_1 a0_2 a0_3 1048576 = some t1 ∧ t1 < 0)
  ∨ (∃ (t1 : Int) (t3 : Int) (t4 : Int) (t5 : ByteArray) (t6 : Bool) (t8 : Int) (t9 : Int) (t10 : ByteArray) (t11 : Bool) (t12 : Int) (t13 : Int) (t14 : Int) (t15 : Int) (t16 : Bool) (t17 : ByteArray) (t18 : List (S203)) (t19 : Bool) (t47 : Int) (t48 : List (S203)), laws_szOutflow.f a0_0 a0_1 a0_2 a0_3 1048576 = some t1 ∧ laws_toOutflow.f a0_0 a0_1 a0_2 a0_3 = some (t3, t4, t5, t6) ∧ spec_NextPiece.f k t3 t4 t5 t6 a1 = some (t8, t9, t10, t11, t12, t13, t14, t15, t16, t17, t18, t19) ∧ impl_NextPiece.f k t3 t4 t5 t6 a1 = some (t8, t9, t10, t11, t12, t13, t14, t15, t16, t17, t18, t19) ∧ laws_eqOutflow.f t8 t9 t10 t11 t8 t9 t10 t11 = some true ∧ laws_eqFrame.f k t12 t13 t14 t15 t16 t17 t18 t12 t13 t14 t15 t16 t17 t18 = some true ∧ laws_markFrame.f k t12 t13 t14 t15 t16 t17 t18 1 = some (t47, t48) ∧ laws_heldFrame.f k t12 t13 t14 t15 t16 t17 t48 1 = some t47 ∧ 0 ≤ t1 ∧ 0 ≤ t47)
open Classical in
noncomputable def laws_FnExactNextPiece.f (k : Nat) (a0_0 : Int) (a0_1 : Int) (a0_2 : ByteArray) (a0_3 : Bool) (a1 : Int) : Option (Bool) := if laws_FnExactNextPiece.Good k a0_0 a0_1 a0_2 a0_3 a1 then some true else none
theorem laws_FnExactNextPiece.of_good {k : Nat} {a0_0 : Int} {a0_1 : Int} {a0_2 : ByteArray} {a0_3 : Bool} {a1 : Int} (h : laws_FnExactNextPiece.Good k a0_0 a0_1 a0_2 a0_3 a1) : laws_FnExactNextPiece.f k a0_0 a0_1 a0_2 a0_3 a1 = some true := by unfold laws_FnExactNextPiece.f; exact if_pos h
theorem laws_FnExactNextPiece.calls (k : Nat) (a0_0 : Int) (a0_1 : Int) (a0_2 : ByteArray) (a0_3 : Bool) (a1 : Int) (r : Bool) (w : World)  (h : laws_FnExactNextPiece.f k a0_0 a0_1 a0_2 a0_3 a1 = some r) :
  Calls Try.prog 3 #[.agg #[.int .i64 a0_0, .int .i64 a0_1, .string a0_2, .bool a0_3], .int .i64 a1] w fun e w' => e = .returned (.bool r) ∧ Below w.heap.size w w' := by
 unfold laws_FnExactNextPiece.f at h
 split at h
 · rename_i hg
   obtain rfl := Option.some.inj h
   rcases hg with ⟨t1, f0, g0⟩ | ⟨t1, t3, t4, t5, t6, t8, t9, t10, t11, t12, t13, t14, t15, t16, t17, t18, t19, t47, t48, f0, f1, f2, f3, f4, f5, f6, f7, g0, g1⟩
   · exact laws_FnExactNextPiece.short0 k a0_0 a0_1 a0_2 a0_3 a1 t1 w  f0 g0
   · exact laws_FnExactNextPiece.long k a0_0 a0_1 a0_2 a0_3 a1 t1 t3 t4 t5 t6 t8 t9 t10 t11 t12 t13 t14 t15 t16 t17 t18 t19 t47 t48 w  f0 f1 f2 f3 f4 f5 f6 f7 g0 g1
 · cases h
end Go.Proofs.Ythkmjfapljmmpaa.PFnExactNextPiece
