/- The cipher of the program, more: contracts by hand. -/
import Derived.Test.YtkcdhphhacjkhaaCryI
namespace Go.Proofs.Ytkcdhphhacjkhaa.B
open Go.RowKit Go.Proofs.YtkcdhphhacjkhaaW.PrintWords Go.Proofs.YtkcdhphhacjkhaaW.PrintLast Go.Proofs.YtkcdhphhacjkhaaW.PrintMore
open Go.Proofs.Ytkcdhphhacjkhaa.AES
open Go.Proofs.Ytkcdhphhacjkhaa
attribute [local go_sem] Go.Proofs.Ytkcdhphhacjkhaa.StoreK.isSome_setCell
set_option linter.unusedVariables false
set_option linter.unusedSimpArgs false
set_option maxHeartbeats 2000000 in
set_option maxRecDepth 100000 in
/-- The product of two bytes: nothing is drawn. -/
theorem mulGf_s (a0 b0 : UInt8) (w : World) : Calls Try.prog 47 #[.int .u8 (a0.toNat : Int), .int .u8 (b0.toNat : Int)] w fun e w' => e = .returned (.int .u8 ((gmul a0 b0).toNat : Int)) ∧ w' = w := by
  go_enter Try.func47, Try.ntmps47
  go_wp2
  go_loopg [0, 1, 5] b0.toNat (fun gg v0 v1 v5 wr => ∃ (n : Nat) (a b out : UInt8), b.toNat < 2 ^ n ∧ b.toNat ≤ gg ∧ v0 = .int .u8 (a.toNat : Int) ∧ v1 = .int .u8 (b.toNat : Int) ∧ v5 = .int .u8 (out.toNat : Int) ∧ Aside0 (gm n out a b = gmul a0 b0) ∧ wr = w)
  case atStart => exact ⟨8, a0, b0, 0, b0.toNat_lt, Nat.le_refl _, rfl, rfl, rfl, ⟨rfl⟩, rfl⟩
  case round =>
    obtain ⟨n, a, b, out, hbn, hgg, rfl, rfl, rfl, HE, rfl⟩ := hrel
    by_cases h0 : b = 0
    · subst h0
      have he := HE.out
      rw [gm_zero] at he
      have hz : ((0 : UInt8).toNat : Int) = 0 := rfl
      rw [hz]
      go_wp2
      go_ret
      exact ⟨by rw [← he]; rfl, rfl⟩
    · have hbz : b.toNat ≠ 0 := fun h => h0 (UInt8.toNat_inj.mp (h.trans rfl))
      obtain ⟨n', rfl⟩ : ∃ n', n = n' + 1 := ⟨n - 1, by
        rcases Nat.eq_zero_or_pos n with h | h
        · subst h; simp at hbn; omega
        · omega⟩
      have hne : ((b.toNat : Int) != 0) = true := by rw [bne_iff_ne]; omega
      have hlt := half_lt b n' hbn
      have hml : (b >>> 1).toNat < b.toNat := by have := half8 b; omega
      have HLT := Aside0.mk hlt
      have HML := Aside0.mk hml
      have HGG := Aside0.mk hgg
      have hand := and8 b 1
      have h128 := and8 a 128
      have HD := Aside0.mk (dbl8 a)
      have HH := Aside0.mk (half8 b)
      clear hbn hlt hml hgg
      by_cases hb : b &&& 1 = 1
      all_goals by_cases ha : a &&& 128 = 0
      all_goals
        have hb1 : Go.bits .and .u8 (b.toNat : Int) 1 = (if b &&& 1 = 1 then 1 else 0) := by
          refine hand.trans ?_
          by_cases h : b &&& 1 = 1
          · rw [if_pos h, h]; rfl
          · rw [if_neg h]
            have h2 : (b &&& 1).toNat = b.toNat % 2 := by rw [UInt8.toNat_and]; exact Nat.and_one_is_mod _
            have h3 : (b &&& 1).toNat ≠ 1 := fun e => h (UInt8.toNat_inj.mp e)
            rcases Nat.mod_two_eq_zero_or_one b.toNat with e | e
            · rw [h2, e]; rfl
            · exact absurd (h2.trans e) h3
        have ha1 : (Go.bits .and .u8 (a.toNat : Int) 128 = 0) = (a &&& 128 = 0) := by
          have h128' : Go.bits .and .u8 (a.toNat : Int) 128 = ((a &&& 128).toNat : Int) := h128
          rw [h128']
          exact propext ⟨fun h => UInt8.toNat_inj.mp (Int.ofNat.inj h), fun h => by rw [h]; rfl⟩
        have HE' := Aside0.mk (by have := HE.out; unfold gm at this; exact this : (if b = 0 then out else gm n' (if b &&& 1 = 1 then out ^^^ a else out) (if a &&& 128 = 0 then a <<< 1 else (a <<< 1) ^^^ 27) (b >>> 1)) = gmul a0 b0)
        first | rw [if_pos hb] at hb1 | rw [if_neg hb] at hb1
        have ha2 : (Go.bits .and .u8 (a.toNat : Int) 128 != 0) = !decide (a &&& 128 = 0) := by
          by_cases h : a &&& 128 = 0
          · rw [decide_eq_true h]; have := ha1.mpr h; rw [this]; rfl
          · rw [decide_eq_false h]
            have hx : ¬ Go.bits .and .u8 (a.toNat : Int) 128 = 0 := fun e => h (ha1.mp e)
            simpa using hx
        first | rw [decide_eq_true ha] at ha2 | rw [decide_eq_false ha] at ha2
        simp only [Bool.not_true, Bool.not_false] at ha2
        rw [if_neg h0] at HE'
        first | rw [if_pos hb] at HE' | rw [if_neg hb] at HE'
        first | rw [if_pos ha] at HE' | rw [if_neg ha] at HE'
        clear ha1 hand h128 h0 hb ha HE
        go_wp2
        go_roundg (b >>> 1).toNat
        case measure => have := HML.out; have := HGG.out; omega
        case rel =>
          refine ⟨n', _, b >>> 1, _, HLT.out, Nat.le_refl _, ?_, by rw [← HH.out], ?_, HE', rfl⟩
          · first | rw [← HD.out] | (rw [← xor8, ← HD.out]; rfl)
          · first | rfl | rw [xor8]
set_option maxHeartbeats 2000000 in
set_option maxRecDepth 100000 in
/-- The product of two bytes: nothing is drawn. -/
theorem l3Mul_s (a0 b0 : UInt8) (w : World) : Calls Try.prog 57 #[.int .u8 (a0.toNat : Int), .int .u8 (b0.toNat : Int)] w fun e w' => e = .returned (.int .u8 ((gmul a0 b0).toNat : Int)) ∧ w' = w := by
  go_enter Try.func57, Try.ntmps57
  go_wp2
  go_loopg [0, 1, 5] b0.toNat (fun gg v0 v1 v5 wr => ∃ (n : Nat) (a b out : UInt8), b.toNat < 2 ^ n ∧ b.toNat ≤ gg ∧ v0 = .int .u8 (a.toNat : Int) ∧ v1 = .int .u8 (b.toNat : Int) ∧ v5 = .int .u8 (out.toNat : Int) ∧ Aside0 (gm n out a b = gmul a0 b0) ∧ wr = w)
  case atStart => exact ⟨8, a0, b0, 0, b0.toNat_lt, Nat.le_refl _, rfl, rfl, rfl, ⟨rfl⟩, rfl⟩
  case round =>
    obtain ⟨n, a, b, out, hbn, hgg, rfl, rfl, rfl, HE, rfl⟩ := hrel
    by_cases h0 : b = 0
    · subst h0
      have he := HE.out
      rw [gm_zero] at he
      have hz : ((0 : UInt8).toNat : Int) = 0 := rfl
      rw [hz]
      go_wp2
      go_ret
      exact ⟨by rw [← he]; rfl, rfl⟩
    · have hbz : b.toNat ≠ 0 := fun h => h0 (UInt8.toNat_inj.mp (h.trans rfl))
      obtain ⟨n', rfl⟩ : ∃ n', n = n' + 1 := ⟨n - 1, by
        rcases Nat.eq_zero_or_pos n with h | h
        · subst h; simp at hbn; omega
        · omega⟩
      have hne : decide ((0 : Int) < (b.toNat : Int)) = true := decide_eq_true (by omega)
      have hlt := half_lt b n' hbn
      have hml : (b >>> 1).toNat < b.toNat := by have := half8 b; omega
      have HLT := Aside0.mk hlt
      have HML := Aside0.mk hml
      have HGG := Aside0.mk hgg
      have hand := and8 b 1
      have h128 := and8 a 128
      have HD := Aside0.mk (dbl8 a)
      have HH := Aside0.mk (half8 b)
      clear hbn hlt hml hgg
      by_cases hb : b &&& 1 = 1
      all_goals by_cases ha : a &&& 128 = 0
      all_goals
        have hb1 : Go.bits .and .u8 (b.toNat : Int) 1 = (if b &&& 1 = 1 then 1 else 0) := by
          refine hand.trans ?_
          by_cases h : b &&& 1 = 1
          · rw [if_pos h, h]; rfl
          · rw [if_neg h]
            have h2 : (b &&& 1).toNat = b.toNat % 2 := by rw [UInt8.toNat_and]; exact Nat.and_one_is_mod _
            have h3 : (b &&& 1).toNat ≠ 1 := fun e => h (UInt8.toNat_inj.mp e)
            rcases Nat.mod_two_eq_zero_or_one b.toNat with e | e
            · rw [h2, e]; rfl
            · exact absurd (h2.trans e) h3
        have ha1 : (Go.bits .and .u8 (a.toNat : Int) 128 = 0) = (a &&& 128 = 0) := by
          have h128' : Go.bits .and .u8 (a.toNat : Int) 128 = ((a &&& 128).toNat : Int) := h128
          rw [h128']
          exact propext ⟨fun h => UInt8.toNat_inj.mp (Int.ofNat.inj h), fun h => by rw [h]; rfl⟩
        have HE' := Aside0.mk (by have := HE.out; unfold gm at this; exact this : (if b = 0 then out else gm n' (if b &&& 1 = 1 then out ^^^ a else out) (if a &&& 128 = 0 then a <<< 1 else (a <<< 1) ^^^ 27) (b >>> 1)) = gmul a0 b0)
        first | rw [if_pos hb] at hb1 | rw [if_neg hb] at hb1
        have ha2 : (Go.bits .and .u8 (a.toNat : Int) 128 != 0) = !decide (a &&& 128 = 0) := by
          by_cases h : a &&& 128 = 0
          · rw [decide_eq_true h]; have := ha1.mpr h; rw [this]; rfl
          · rw [decide_eq_false h]
            have hx : ¬ Go.bits .and .u8 (a.toNat : Int) 128 = 0 := fun e => h (ha1.mp e)
            simpa using hx
        first | rw [decide_eq_true ha] at ha2 | rw [decide_eq_false ha] at ha2
        simp only [Bool.not_true, Bool.not_false] at ha2
        rw [if_neg h0] at HE'
        first | rw [if_pos hb] at HE' | rw [if_neg hb] at HE'
        first | rw [if_pos ha] at HE' | rw [if_neg ha] at HE'
        clear ha1 hand h128 h0 hb ha HE
        go_wp2
        go_roundg (b >>> 1).toNat
        case measure => have := HML.out; have := HGG.out; omega
        case rel =>
          refine ⟨n', _, b >>> 1, _, HLT.out, Nat.le_refl _, ?_, by rw [← HH.out], ?_, HE', rfl⟩
          · first | rw [← HD.out] | (rw [← xor8, ← HD.out]; rfl)
          · first | rfl | rw [xor8]
end Go.Proofs.Ytkcdhphhacjkhaa.B
