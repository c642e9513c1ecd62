/- The reference's bytes: nothing is drawn. -/
import Derived.Test.YtkcdhphhacjkhaaCryMu
namespace Go.Proofs.Ytkcdhphhacjkhaa.B
open Go.RowKit Go.Proofs.YtkcdhphhacjkhaaW.PrintWords Go.Proofs.YtkcdhphhacjkhaaW.PrintLast Go.Proofs.YtkcdhphhacjkhaaW.PrintMore
open Go.Proofs.Ytkcdhphhacjkhaa.AES
open Go.Proofs.Ytkcdhphhacjkhaa
attribute [local go_sem] Go.Proofs.Ytkcdhphhacjkhaa.StoreK.isSome_setCell
set_option linter.unusedVariables false
set_option linter.unusedSimpArgs false
set_option maxHeartbeats 1000000 in
set_option maxRecDepth 100000 in
theorem l3Turn_s1 (c : UInt8) (w : World) : Calls Try.prog 72 #[.int .u8 (c.toNat : Int), .int .u64 1] w fun e w' => e = .returned (.int .u8 ((rot c 1).toNat : Int)) ∧ w' = w := by
  have h := rot1 c
  have HH := Aside0.mk h
  clear h
  go_enter Try.func72, Try.ntmps72
  go_wp2
  go_ret
  refine ⟨?_, rfl⟩
  rw [← HH.out]
  have e1 : shl .u8 (c.toNat : Int) 1 = (c.toNat : Int) * 2 % 256 := IntKind.wrap_u8 _
  have e2 : shr .u8 (c.toNat : Int) 7 = (c.toNat : Int) / 128 := rfl
  rw [e1, e2]
  rfl
set_option maxHeartbeats 1000000 in
set_option maxRecDepth 100000 in
theorem l3Turn_s2 (c : UInt8) (w : World) : Calls Try.prog 72 #[.int .u8 (c.toNat : Int), .int .u64 2] w fun e w' => e = .returned (.int .u8 ((rot c 2).toNat : Int)) ∧ w' = w := by
  have h := rot2 c
  have HH := Aside0.mk h
  clear h
  go_enter Try.func72, Try.ntmps72
  go_wp2
  go_ret
  refine ⟨?_, rfl⟩
  rw [← HH.out]
  have e1 : shl .u8 (c.toNat : Int) 2 = (c.toNat : Int) * 4 % 256 := IntKind.wrap_u8 _
  have e2 : shr .u8 (c.toNat : Int) 6 = (c.toNat : Int) / 64 := rfl
  rw [e1, e2]
  rfl
set_option maxHeartbeats 1000000 in
set_option maxRecDepth 100000 in
theorem l3Turn_s3 (c : UInt8) (w : World) : Calls Try.prog 72 #[.int .u8 (c.toNat : Int), .int .u64 3] w fun e w' => e = .returned (.int .u8 ((rot c 3).toNat : Int)) ∧ w' = w := by
  have h := rot3 c
  have HH := Aside0.mk h
  clear h
  go_enter Try.func72, Try.ntmps72
  go_wp2
  go_ret
  refine ⟨?_, rfl⟩
  rw [← HH.out]
  have e1 : shl .u8 (c.toNat : Int) 3 = (c.toNat : Int) * 8 % 256 := IntKind.wrap_u8 _
  have e2 : shr .u8 (c.toNat : Int) 5 = (c.toNat : Int) / 32 := rfl
  rw [e1, e2]
  rfl
set_option maxHeartbeats 1000000 in
set_option maxRecDepth 100000 in
theorem l3Turn_s4 (c : UInt8) (w : World) : Calls Try.prog 72 #[.int .u8 (c.toNat : Int), .int .u64 4] w fun e w' => e = .returned (.int .u8 ((rot c 4).toNat : Int)) ∧ w' = w := by
  have h := rot4 c
  have HH := Aside0.mk h
  clear h
  go_enter Try.func72, Try.ntmps72
  go_wp2
  go_ret
  refine ⟨?_, rfl⟩
  rw [← HH.out]
  have e1 : shl .u8 (c.toNat : Int) 4 = (c.toNat : Int) * 16 % 256 := IntKind.wrap_u8 _
  have e2 : shr .u8 (c.toNat : Int) 4 = (c.toNat : Int) / 16 := rfl
  rw [e1, e2]
  rfl
set_option maxHeartbeats 2000000 in
set_option maxRecDepth 100000 in
theorem l3Inverse_s (a0 : UInt8) (w : World) : Calls Try.prog 71 #[.int .u8 (a0.toNat : Int)] w fun e w' => e = .returned (.int .u8 ((inv a0).toNat : Int)) ∧ w' = w := by
  go_enter Try.func71, Try.ntmps71
  go_wp2
  go_loopg [0, 3, 4] 255 (fun gg v0 v3 v4 wr => ∃ (n : Nat) (a out : UInt8) (e : Nat), e < 2 ^ n ∧ e < 256 ∧ e ≤ gg ∧ v0 = .int .u8 (a.toNat : Int) ∧ v3 = .int .u8 (out.toNat : Int) ∧ v4 = .int .i64 (e : Int) ∧ Aside0 (qs n out a e = inv a0) ∧ wr = w)
  case atStart => exact ⟨8, a0, 1, 254, by decide, by decide, by decide, rfl, rfl, rfl, ⟨inv_qs a0⟩, rfl⟩
  case round =>
    obtain ⟨n, a, out, e, hen, h256, hgg, rfl, rfl, rfl, HE, rfl⟩ := hrel
    by_cases h0 : e = 0
    · subst h0
      have he := HE.out
      rw [qs_zero] at he
      go_wp2
      go_ret
      exact ⟨by rw [← he]; rfl, rfl⟩
    · obtain ⟨n', rfl⟩ : ∃ n', n = n' + 1 := ⟨n - 1, by
        rcases Nat.eq_zero_or_pos n with h | h
        · subst h; simp at hen; omega
        · omega⟩
      have hne : decide ((0 : Int) < (e : Int)) = true := decide_eq_true (by omega)
      have hne2 : (0 : Int) < (e : Int) := by omega
      obtain ⟨e2, he2⟩ : ∃ e2, e2 = e / 2 := ⟨_, rfl⟩
      have hb2 : e2 < 2 ^ n' ∧ e2 < 256 ∧ e2 < e := by rw [Nat.pow_succ] at hen; omega
      have HB2 := Aside0.mk hb2
      have HGG := Aside0.mk hgg
      have H2 := Aside0.mk (show (e : Int) / 2 = (e2 : Int) by omega)
      have hodd := odd_i64 e h256
      have HE' := Aside0.mk (by have := HE.out; unfold qs at this; rw [← he2] at this; exact this : qs n' (if e &&& 1 = 1 then gmul out a else out) (gmul a a) e2 = inv a0)
      clear hen h256 hgg he2 hb2 HE
      by_cases ho : e &&& 1 = 1
      · have hb1 : Go.bits .and .i64 (e : Int) 1 = 1 := by rw [hodd, ho]; rfl
        rw [if_pos ho] at HE'
        clear hodd ho
        go_wp2_with fail
        refine (l3Mul_s out a _).mono ?_
        rintro e_ w' ⟨rfl, rfl⟩
        go_wp2_with fail
        refine (l3Mul_s a a _).mono ?_
        rintro e_ w' ⟨rfl, rfl⟩
        go_wp2
        go_roundg e2
        case measure => have := HB2.out; have := HGG.out; omega
        case rel => exact ⟨n', gmul a a, gmul out a, e2, HB2.out.1, HB2.out.2.1, Nat.le_refl _, rfl, rfl, by rw [← H2.out], HE', rfl⟩
      · have hb1 : Go.bits .and .i64 (e : Int) 1 = 0 := by
          rw [hodd]
          have h1 : e &&& 1 = e % 2 := Nat.and_one_is_mod _
          have : e &&& 1 = 0 := by omega
          rw [this]; rfl
        rw [if_neg ho] at HE'
        clear hodd ho
        go_wp2_with fail
        refine (l3Mul_s a a _).mono ?_
        rintro e_ w' ⟨rfl, rfl⟩
        go_wp2
        go_roundg e2
        case measure => have := HB2.out; have := HGG.out; omega
        case rel => exact ⟨n', gmul a a, out, e2, HB2.out.1, HB2.out.2.1, Nat.le_refl _, rfl, rfl, by rw [← H2.out], HE', rfl⟩
set_option maxHeartbeats 1000000 in
set_option maxRecDepth 100000 in
theorem l3Sub_s (a : UInt8) (w : World) : Calls Try.prog 56 #[.int .u8 (a.toNat : Int)] w fun e w' => e = .returned (.int .u8 ((sb a).toNat : Int)) ∧ w' = w := by
  have hx : ∀ x y : UInt8, Go.bits .xor .u8 (x.toNat : Int) (y.toNat : Int) = ((x ^^^ y).toNat : Int) := xor8
  have x99 : ∀ x : UInt8, Go.bits .xor .u8 (x.toNat : Int) 99 = ((x ^^^ 99).toNat : Int) := fun x => xor8 x 99
  have HX := Aside0.mk hx
  have HX9 := Aside0.mk x99
  obtain ⟨c, hc⟩ : ∃ c, c = inv a := ⟨_, rfl⟩
  have hfin : sb a = c ^^^ rot c 1 ^^^ rot c 2 ^^^ rot c 3 ^^^ rot c 4 ^^^ 99 := by rw [hc]; rfl
  rw [hfin]
  have HC := Aside0.mk hc
  clear hx x99 hc hfin
  go_enter Try.func56, Try.ntmps56
  go_wp2_with fail
  refine (l3Inverse_s a _).mono ?_
  rintro e w' ⟨rfl, rfl⟩
  rw [← HC.out]
  go_wp2_with fail
  refine (l3Turn_s1 c _).mono ?_
  rintro e w' ⟨rfl, rfl⟩
  go_wp2_with fail
  refine (l3Turn_s2 c _).mono ?_
  rintro e w' ⟨rfl, rfl⟩
  go_wp2_with fail
  refine (l3Turn_s3 c _).mono ?_
  rintro e w' ⟨rfl, rfl⟩
  go_wp2_with fail
  refine (l3Turn_s4 c _).mono ?_
  rintro e w' ⟨rfl, rfl⟩
  go_wp2
  go_ret
  refine ⟨?_, rfl⟩
  rw [← xor8, ← xor8, ← xor8, ← xor8, ← xor8]
  rfl
end Go.Proofs.Ytkcdhphhacjkhaa.B
