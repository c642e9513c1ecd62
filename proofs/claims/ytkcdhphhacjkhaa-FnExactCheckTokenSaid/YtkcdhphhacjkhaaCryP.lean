/- What the printed functions over bytes, words and blocks answer, in plain bytes. -/
import Derived.Test.YtkcdhphhacjkhaaBx0
import Derived.Test.YtkcdhphhacjkhaaBx1
import Derived.Test.YtkcdhphhacjkhaaBx2
import Derived.Test.YtkcdhphhacjkhaaBx3
import Derived.Test.YtkcdhphhacjkhaaBx4
import Derived.Test.YtkcdhphhacjkhaaCryM
import Derived.Test.YtkcdhphhacjkhaaLoopK
namespace Go.Proofs.Ytkcdhphhacjkhaa.B
open Go.RowKit Go.Proofs.YtkcdhphhacjkhaaW.PrintWords Go.Proofs.YtkcdhphhacjkhaaW.PrintLast Go.Proofs.YtkcdhphhacjkhaaW.PrintMore
open Go.Proofs.Ytkcdhphhacjkhaa.AES
open Go.Proofs.Ytkcdhphhacjkhaa
set_option linter.unusedVariables false
set_option linter.unusedSimpArgs false
theorem u8bv (a : UInt8) : BitVec.ofInt 8 (a.toNat : Int) = a.toBitVec := by
  rw [BitVec.ofInt_natCast]; exact by first | exact BitVec.ofNat_toNat _ | (apply BitVec.eq_of_toNat_eq; rw [BitVec.toNat_ofNat]; exact Nat.mod_eq_of_lt (UInt8.toNat_lt _)) | (apply BitVec.eq_of_toNat_eq; rw [BitVec.toNat_ofNat]; exact Nat.mod_eq_of_lt (UInt64.toNat_lt _))
theorem u64bv (a : UInt64) : BitVec.ofInt 64 (a.toNat : Int) = a.toBitVec := by
  rw [BitVec.ofInt_natCast]; exact by first | exact BitVec.ofNat_toNat _ | (apply BitVec.eq_of_toNat_eq; rw [BitVec.toNat_ofNat]; exact Nat.mod_eq_of_lt (UInt8.toNat_lt _)) | (apply BitVec.eq_of_toNat_eq; rw [BitVec.toNat_ofNat]; exact Nat.mod_eq_of_lt (UInt64.toNat_lt _))
theorem w8 (x : Nat) (h : x < 256) : IntKind.u8.wrap (x : Int) = (x : Int) := by rw [IntKind.wrap_u8]; omega
theorem w64u (x : Nat) (h : x < 18446744073709551616) : IntKind.u64.wrap (x : Int) = (x : Int) := by simp [IntKind.wrap, IntKind.bits, IntKind.signed]; omega
theorem xor8 (a b : UInt8) : Go.bits .xor .u8 (a.toNat : Int) (b.toNat : Int) = ((a ^^^ b).toNat : Int) := by
  have e : Go.bits .xor .u8 (a.toNat : Int) (b.toNat : Int) = IntKind.u8.wrap ((BitVec.ofInt 8 (a.toNat : Int) ^^^ BitVec.ofInt 8 (b.toNat : Int)).toNat : Int) := rfl
  rw [e, u8bv, u8bv, ← UInt8.toBitVec_xor]
  exact w8 _ (a ^^^ b).toNat_lt
theorem and8 (a b : UInt8) : Go.bits .and .u8 (a.toNat : Int) (b.toNat : Int) = ((a &&& b).toNat : Int) := by
  have e : Go.bits .and .u8 (a.toNat : Int) (b.toNat : Int) = IntKind.u8.wrap ((BitVec.ofInt 8 (a.toNat : Int) &&& BitVec.ofInt 8 (b.toNat : Int)).toNat : Int) := rfl
  rw [e, u8bv, u8bv, ← UInt8.toBitVec_and]
  exact w8 _ (a &&& b).toNat_lt
theorem or8 (a b : UInt8) : Go.bits .or .u8 (a.toNat : Int) (b.toNat : Int) = ((a ||| b).toNat : Int) := by
  have e : Go.bits .or .u8 (a.toNat : Int) (b.toNat : Int) = IntKind.u8.wrap ((BitVec.ofInt 8 (a.toNat : Int) ||| BitVec.ofInt 8 (b.toNat : Int)).toNat : Int) := rfl
  rw [e, u8bv, u8bv, ← UInt8.toBitVec_or]
  exact w8 _ (a ||| b).toNat_lt
theorem xor64 (a b : UInt64) : Go.bits .xor .u64 (a.toNat : Int) (b.toNat : Int) = ((a ^^^ b).toNat : Int) := by
  have e : Go.bits .xor .u64 (a.toNat : Int) (b.toNat : Int) = IntKind.u64.wrap ((BitVec.ofInt 64 (a.toNat : Int) ^^^ BitVec.ofInt 64 (b.toNat : Int)).toNat : Int) := rfl
  rw [e, u64bv, u64bv, ← UInt64.toBitVec_xor]
  exact w64u _ (a ^^^ b).toNat_lt
theorem and64 (a b : UInt64) : Go.bits .and .u64 (a.toNat : Int) (b.toNat : Int) = ((a &&& b).toNat : Int) := by
  have e : Go.bits .and .u64 (a.toNat : Int) (b.toNat : Int) = IntKind.u64.wrap ((BitVec.ofInt 64 (a.toNat : Int) &&& BitVec.ofInt 64 (b.toNat : Int)).toNat : Int) := rfl
  rw [e, u64bv, u64bv, ← UInt64.toBitVec_and]
  exact w64u _ (a &&& b).toNat_lt
theorem or64 (a b : UInt64) : Go.bits .or .u64 (a.toNat : Int) (b.toNat : Int) = ((a ||| b).toNat : Int) := by
  have e : Go.bits .or .u64 (a.toNat : Int) (b.toNat : Int) = IntKind.u64.wrap ((BitVec.ofInt 64 (a.toNat : Int) ||| BitVec.ofInt 64 (b.toNat : Int)).toNat : Int) := rfl
  rw [e, u64bv, u64bv, ← UInt64.toBitVec_or]
  exact w64u _ (a ||| b).toNat_lt
theorem dbl8 (a : UInt8) : ((a.toNat : Int) * (2 : Int)) % (256 : Int) = ((a <<< 1).toNat : Int) := by
  rw [UInt8.toNat_shiftLeft]
  have : a.toNat <<< ((1 : UInt8).toNat % 8) % 2 ^ 8 = a.toNat * 2 % 256 := by
    rw [show (1 : UInt8).toNat % 8 = 1 from rfl, Nat.shiftLeft_eq]
  rw [this]; omega
theorem half8 (a : UInt8) : (a.toNat : Int) / (2 : Int) = ((a >>> 1).toNat : Int) := by
  rw [UInt8.toNat_shiftRight]
  have : a.toNat >>> ((1 : UInt8).toNat % 8) = a.toNat / 2 := by
    rw [show (1 : UInt8).toNat % 8 = 1 from rfl, Nat.shiftRight_eq_div_pow]
  rw [this]; omega
theorem i8_inj {a b : UInt8} : ((a.toNat : Int) = (b.toNat : Int)) = (a = b) := by
  rw [Int.ofNat_inj]; exact propext UInt8.toNat_inj
theorem ev_mono {α : Type} {g : Nat → Option α} {r : α} (h : Ev g r) : ∃ k, g k = some r := ⟨h.choose, h.choose_spec _ (Nat.le_refl _)⟩
/-- one step of the product: what both loops do -/
theorem half_lt (b : UInt8) (n : Nat) (h : b.toNat < 2 ^ (n + 1)) : (b >>> 1).toNat < 2 ^ n := by
  have := half8 b
  rw [Nat.pow_succ] at h
  omega
theorem mulGf_loop : ∀ (n : Nat) (out a b : UInt8), b.toNat < 2 ^ n → Ev (fun k => impl_mulGf.l0 k (a.toNat : Int) (b.toNat : Int) (out.toNat : Int)) ((gm n out a b).toNat : Int)
  | 0, out, a, b, h => by
    have e : b = 0 := UInt8.toNat_inj.mp (by simp at h; rw [h]; rfl)
    subst e
    refine LoopK.Ev.succ ?_
    simp only [impl_mulGf.l0]
    exact Ev.now _
  | n + 1, out, a, b, h => by
    refine LoopK.Ev.succ ?_
    simp only [impl_mulGf.l0, gm]
    by_cases h0 : b = 0
    · subst h0
      exact Ev.now _
    · have hz : ¬ ((b.toNat : Int) = 0) := fun h => h0 (UInt8.toNat_inj.mp ((Int.ofNat.inj h).trans rfl))
      rw [if_neg h0]
      simp only [hz, if_false]
      have hand := and8 b 1
      have key : ∀ x : UInt8, Ev (fun k => impl_mulGf.j1 k (a.toNat : Int) (b.toNat : Int) (x.toNat : Int)) ((gm n x (if a &&& 128 = 0 then a <<< 1 else (a <<< 1) ^^^ 27) (b >>> 1)).toNat : Int) := fun x => by
        refine LoopK.Ev.succ ?_
        simp only [impl_mulGf.j1, dbl8, half8]
        have h128 := and8 a 128
        by_cases hh : a &&& 128 = 0
        · have e : Go.bits .and .u8 (a.toNat : Int) 128 = 0 := h128.trans (by rw [hh]; rfl)
          simp only [e, if_true, hh]
          exact mulGf_loop n x (a <<< 1) (b >>> 1) (half_lt b n h)
        · have e : ¬ Go.bits .and .u8 (a.toNat : Int) 128 = 0 := fun hc => hh (UInt8.toNat_inj.mp (by have := h128.symm.trans hc; exact Int.ofNat.inj this))
          have ex : Go.bits .xor .u8 ((a <<< 1).toNat : Int) 27 = (((a <<< 1) ^^^ 27).toNat : Int) := xor8 _ 27
          simp only [e, if_false, hh, ex]
          exact mulGf_loop n x ((a <<< 1) ^^^ 27) (b >>> 1) (half_lt b n h)
      by_cases hb : b &&& 1 = 1
      · have e : Go.bits .and .u8 (b.toNat : Int) 1 = 1 := hand.trans (by rw [hb]; rfl)
        simp only [e, if_true, hb, xor8]
        exact key (out ^^^ a)
      · have e : ¬ Go.bits .and .u8 (b.toNat : Int) 1 = 1 := fun hc => hb (UInt8.toNat_inj.mp (by have := hand.symm.trans hc; exact Int.ofNat.inj this))
        simp only [e, if_false, hb]
        exact key out
theorem l3Mul_loop : ∀ (n : Nat) (out a b : UInt8), b.toNat < 2 ^ n → Ev (fun k => spec_l3Mul.l0 k (a.toNat : Int) (b.toNat : Int) (out.toNat : Int)) ((gm n out a b).toNat : Int)
  | 0, out, a, b, h => by
    have e : b = 0 := UInt8.toNat_inj.mp (by simp at h; rw [h]; rfl)
    subst e
    refine LoopK.Ev.succ ?_
    simp only [spec_l3Mul.l0]
    exact Ev.now _
  | n + 1, out, a, b, h => by
    refine LoopK.Ev.succ ?_
    simp only [spec_l3Mul.l0, gm]
    by_cases h0 : b = 0
    · subst h0
      exact Ev.now _
    · have hz : (b.toNat : Int) > 0 := by
        have : b.toNat ≠ 0 := fun h => h0 (UInt8.toNat_inj.mp (by rw [h]; rfl))
        omega
      rw [if_neg h0]
      simp only [hz, if_true]
      have hand := and8 b 1
      have key : ∀ x : UInt8, Ev (fun k => spec_l3Mul.j1 k (a.toNat : Int) (b.toNat : Int) (x.toNat : Int)) ((gm n x (if a &&& 128 = 0 then a <<< 1 else (a <<< 1) ^^^ 27) (b >>> 1)).toNat : Int) := fun x => by
        refine LoopK.Ev.succ ?_
        simp only [spec_l3Mul.j1, dbl8, half8]
        have h128 := and8 a 128
        by_cases hh : a &&& 128 = 0
        · have e : Go.bits .and .u8 (a.toNat : Int) 128 = 0 := h128.trans (by rw [hh]; rfl)
          simp only [e, if_true, hh]
          exact l3Mul_loop n x (a <<< 1) (b >>> 1) (half_lt b n h)
        · have e : ¬ Go.bits .and .u8 (a.toNat : Int) 128 = 0 := fun hc => hh (UInt8.toNat_inj.mp (by have := h128.symm.trans hc; exact Int.ofNat.inj this))
          have ex : Go.bits .xor .u8 ((a <<< 1).toNat : Int) 27 = (((a <<< 1) ^^^ 27).toNat : Int) := xor8 _ 27
          simp only [e, if_false, hh, ex]
          exact l3Mul_loop n x ((a <<< 1) ^^^ 27) (b >>> 1) (half_lt b n h)
      by_cases hb : b &&& 1 = 1
      · have e : Go.bits .and .u8 (b.toNat : Int) 1 = 1 := hand.trans (by rw [hb]; rfl)
        simp only [e, if_true, hb, xor8]
        exact key (out ^^^ a)
      · have e : ¬ Go.bits .and .u8 (b.toNat : Int) 1 = 1 := fun hc => hb (UInt8.toNat_inj.mp (by have := hand.symm.trans hc; exact Int.ofNat.inj this))
        simp only [e, if_false, hb]
        exact key out
theorem mulGf_ev (a b : UInt8) : Ev (fun k => impl_mulGf.f k (a.toNat : Int) (b.toNat : Int)) ((gmul a b).toNat : Int) := mulGf_loop 8 0 a b b.toNat_lt
theorem l3Mul_ev (a b : UInt8) : Ev (fun k => spec_l3Mul.f k (a.toNat : Int) (b.toNat : Int)) ((gmul a b).toNat : Int) := l3Mul_loop 8 0 a b b.toNat_lt
theorem wr64 (n : Int) (h : -9223372036854775808 ≤ n ∧ n ≤ 9223372036854775807) : wrap64 n = n := by unfold wrap64; omega
theorem inverse_loop (a : UInt8) : ∀ (n : Nat) (out : UInt8), n ≤ 254 → Ev (fun k => impl_inverseGf.l0 k (a.toNat : Int) (out.toNat : Int) (254 - (n : Int))) ((ps a n out).toNat : Int)
  | 0, out, h => by
    refine LoopK.Ev.succ ?_
    simp only [impl_inverseGf.l0]
    exact Ev.now _
  | n + 1, out, h => by
    refine LoopK.Ev.succ ?_
    have c : (254 - ((n + 1 : Nat) : Int)) < 254 := by omega
    have w : wrap64 (254 - ((n + 1 : Nat) : Int) + 1) = 254 - (n : Int) := by rw [wr64 _ (by omega)]; omega
    simp only [impl_inverseGf.l0, c, if_true, w, ps]
    exact LoopK.Ev.bind_ (mulGf_ev out a) (inverse_loop a n _ (by omega))
theorem inverseGf_ev (a : UInt8) : Ev (fun k => impl_inverseGf.f k (a.toNat : Int)) ((inv a).toNat : Int) := inverse_loop a 254 1 (by omega)
theorem odd_i64 (e : Nat) (h : e < 256) : Go.bits .and .i64 (e : Int) 1 = ((e &&& 1 : Nat) : Int) := by
  have e1 : Go.bits .and .i64 (e : Int) 1 = IntKind.i64.wrap ((BitVec.ofInt 64 (e : Int) &&& BitVec.ofInt 64 1).toNat : Int) := rfl
  have h' : e &&& 1 ≤ 1 := Nat.and_le_right
  rw [e1, BitVec.ofInt_natCast, BitVec.toNat_and, BitVec.toNat_ofNat, Nat.mod_eq_of_lt (by omega), IntKind.wrap_i64]
  have : (BitVec.ofInt 64 1).toNat = 1 := by decide
  rw [this]
  omega
theorem l3Inverse_loop : ∀ (n : Nat) (out a : UInt8) (e : Nat), e < 2 ^ n → e < 256 → Ev (fun k => spec_l3Inverse.l0 k (a.toNat : Int) (out.toNat : Int) (e : Int)) ((qs n out a e).toNat : Int)
  | 0, out, a, e, h, _ => by
    obtain rfl : e = 0 := by simp at h; exact h
    refine LoopK.Ev.succ ?_
    simp only [spec_l3Inverse.l0]
    exact Ev.now _
  | n + 1, out, a, e, h, h2 => by
    refine LoopK.Ev.succ ?_
    by_cases h0 : e = 0
    · subst h0
      rw [qs_zero]
      simp only [spec_l3Inverse.l0]
      exact Ev.now _
    · have hz : (e : Int) > 0 := by omega
      have hd : (e : Int) / 2 = ((e / 2 : Nat) : Int) := by omega
      rw [Nat.pow_succ] at h
      simp only [spec_l3Inverse.l0, hz, if_true, odd_i64 e h2, qs]
      have key : ∀ x : UInt8, Ev (fun k => spec_l3Inverse.j1 k (a.toNat : Int) (x.toNat : Int) (e : Int)) ((qs n x (gmul a a) (e / 2)).toNat : Int) := fun x => by
        refine LoopK.Ev.succ ?_
        simp only [spec_l3Inverse.j1, hd]
        exact LoopK.Ev.bind_ (l3Mul_ev a a) (l3Inverse_loop n x _ (e / 2) (by omega) (by omega))
      by_cases ho : e &&& 1 = 1
      · simp only [ho, if_true]
        exact LoopK.Ev.bind_ (l3Mul_ev out a) (key _)
      · have : ¬ (((e &&& 1 : Nat) : Int) = 1) := by omega
        simp only [this, if_false, ho]
        exact key _
theorem l3Inverse_ev (a : UInt8) : Ev (fun k => spec_l3Inverse.f k (a.toNat : Int)) ((inv a).toNat : Int) := by
  rw [← inv_qs]
  exact l3Inverse_loop 8 1 a 254 (by decide) (by decide)
theorem shl8 (c n : UInt8) (h : n.toNat < 8) : shl .u8 (c.toNat : Int) (n.toNat : Int) = ((c <<< n).toNat : Int) := by
  unfold shl
  rw [UInt8.toNat_shiftLeft, Int.toNat_natCast, IntKind.wrap_u8, show IntKind.u8.bits = 8 from rfl, Nat.min_eq_left (by omega), Nat.mod_eq_of_lt h, Nat.shiftLeft_eq]
  have e : (2 : Int) ^ n.toNat = ((2 ^ n.toNat : Nat) : Int) := by norm_cast
  rw [e]
  omega
theorem shr8u (c n : UInt8) (h : n.toNat < 8) : shr .u8 (c.toNat : Int) (n.toNat : Int) = ((c >>> n).toNat : Int) := by
  unfold shr
  rw [UInt8.toNat_shiftRight, Int.toNat_natCast, show IntKind.u8.bits = 8 from rfl, Nat.min_eq_left (by omega), Nat.mod_eq_of_lt h, Nat.shiftRight_eq_div_pow]
  have e : (2 : Int) ^ n.toNat = ((2 ^ n.toNat : Nat) : Int) := by norm_cast
  rw [e]
  norm_cast
theorem rot_eq (c n : UInt8) (h : n.toNat < 8) (h8 : (8 - n).toNat < 8) : Go.bits .or .u8 (shl .u8 (c.toNat : Int) (n.toNat : Int)) (shr .u8 (c.toNat : Int) ((8 - n).toNat : Int)) = ((rot c n).toNat : Int) := by
  rw [shl8 c n h, shr8u c (8 - n) h8, or8]
  rfl
theorem rot1 (c : UInt8) : Go.bits .or .u8 (shl .u8 (c.toNat : Int) (1 : Int)) (shr .u8 (c.toNat : Int) (7 : Int)) = ((rot c 1).toNat : Int) := rot_eq c 1 (by decide) (by decide)
theorem rot2 (c : UInt8) : Go.bits .or .u8 (shl .u8 (c.toNat : Int) (2 : Int)) (shr .u8 (c.toNat : Int) (6 : Int)) = ((rot c 2).toNat : Int) := rot_eq c 2 (by decide) (by decide)
theorem rot3 (c : UInt8) : Go.bits .or .u8 (shl .u8 (c.toNat : Int) (3 : Int)) (shr .u8 (c.toNat : Int) (5 : Int)) = ((rot c 3).toNat : Int) := rot_eq c 3 (by decide) (by decide)
theorem rot4 (c : UInt8) : Go.bits .or .u8 (shl .u8 (c.toNat : Int) (4 : Int)) (shr .u8 (c.toNat : Int) (4 : Int)) = ((rot c 4).toNat : Int) := rot_eq c 4 (by decide) (by decide)
theorem rl8 (c : UInt8) : bits_RotateLeft8.f (c.toNat : Int) 1 = some ((rot c 1).toNat : Int) ∧ bits_RotateLeft8.f (c.toNat : Int) 2 = some ((rot c 2).toNat : Int) ∧ bits_RotateLeft8.f (c.toNat : Int) 3 = some ((rot c 3).toNat : Int) ∧ bits_RotateLeft8.f (c.toNat : Int) 4 = some ((rot c 4).toNat : Int) := by
  have a1 : Go.bits .and .u64 (IntKind.u64.wrap (1 : Int)) 7 = 1 := by decide
  have a2 : Go.bits .and .u64 (IntKind.u64.wrap (2 : Int)) 7 = 2 := by decide
  have a3 : Go.bits .and .u64 (IntKind.u64.wrap (3 : Int)) 7 = 3 := by decide
  have a4 : Go.bits .and .u64 (IntKind.u64.wrap (4 : Int)) 7 = 4 := by decide
  have b1 : IntKind.u64.wrap (8 - (1 : Int)) = 7 := by decide
  have b2 : IntKind.u64.wrap (8 - (2 : Int)) = 6 := by decide
  have b3 : IntKind.u64.wrap (8 - (3 : Int)) = 5 := by decide
  have b4 : IntKind.u64.wrap (8 - (4 : Int)) = 4 := by decide
  refine ⟨?_, ?_, ?_, ?_⟩
  · unfold bits_RotateLeft8.f; rw [a1, b1, rot1]; rfl
  · unfold bits_RotateLeft8.f; rw [a2, b2, rot2]; rfl
  · unfold bits_RotateLeft8.f; rw [a3, b3, rot3]; rfl
  · unfold bits_RotateLeft8.f; rw [a4, b4, rot4]; rfl
theorem l3Turn_at (c : UInt8) : spec_l3Turn.f (c.toNat : Int) 1 = some ((rot c 1).toNat : Int) ∧ spec_l3Turn.f (c.toNat : Int) 2 = some ((rot c 2).toNat : Int) ∧ spec_l3Turn.f (c.toNat : Int) 3 = some ((rot c 3).toNat : Int) ∧ spec_l3Turn.f (c.toNat : Int) 4 = some ((rot c 4).toNat : Int) := by
  have b1 : IntKind.u64.wrap (8 - (1 : Int)) = 7 := by decide
  have b2 : IntKind.u64.wrap (8 - (2 : Int)) = 6 := by decide
  have b3 : IntKind.u64.wrap (8 - (3 : Int)) = 5 := by decide
  have b4 : IntKind.u64.wrap (8 - (4 : Int)) = 4 := by decide
  refine ⟨?_, ?_, ?_, ?_⟩
  · unfold spec_l3Turn.f; rw [b1, rot1]; rfl
  · unfold spec_l3Turn.f; rw [b2, rot2]; rfl
  · unfold spec_l3Turn.f; rw [b3, rot3]; rfl
  · unfold spec_l3Turn.f; rw [b4, rot4]; rfl
theorem subByte_ev (a : UInt8) : Ev (fun k => impl_subByte.f k (a.toNat : Int)) ((sb a).toNat : Int) := by
  unfold impl_subByte.f
  refine LoopK.Ev.bind_ (inverseGf_ev a) ?_
  obtain ⟨r1, r2, r3, r4⟩ := rl8 (inv a)
  have w1 : wrap64 ((1 : Int) + 1) = 2 := wr64 _ (by decide)
  have w2 : wrap64 ((2 : Int) + 1) = 3 := wr64 _ (by decide)
  have w3 : wrap64 ((3 : Int) + 1) = 4 := wr64 _ (by decide)
  have w4 : wrap64 ((4 : Int) + 1) = 5 := wr64 _ (by decide)
  have x0 : Go.bits .xor .u8 ((inv a).toNat : Int) 99 = (((inv a) ^^^ 99).toNat : Int) := xor8 _ 99
  rw [x0]
  refine LoopK.Ev.succ ?_
  simp only [impl_subByte.l0, (by decide : ((1 : Int) < 5) = True), if_true, r1, Option.bind_some, xor8, w1]
  refine LoopK.Ev.succ ?_
  simp only [impl_subByte.l0, (by decide : ((2 : Int) < 5) = True), if_true, r2, Option.bind_some, xor8, w2]
  refine LoopK.Ev.succ ?_
  simp only [impl_subByte.l0, (by decide : ((3 : Int) < 5) = True), if_true, r3, Option.bind_some, xor8, w3]
  refine LoopK.Ev.succ ?_
  simp only [impl_subByte.l0, (by decide : ((4 : Int) < 5) = True), if_true, r4, Option.bind_some, xor8, w4]
  refine LoopK.Ev.succ ?_
  simp only [impl_subByte.l0, (by decide : ((5 : Int) < 5) = False), if_false]
  have e : inv a ^^^ 99 ^^^ rot (inv a) 1 ^^^ rot (inv a) 2 ^^^ rot (inv a) 3 ^^^ rot (inv a) 4 = sb a := by
    unfold sb
    generalize inv a = c
    generalize rot c 1 = d1
    generalize rot c 2 = d2
    generalize rot c 3 = d3
    generalize rot c 4 = d4
    ac_rfl
  rw [e]
  exact Ev.now _
theorem l3Sub_ev (a : UInt8) : Ev (fun k => spec_l3Sub.f k (a.toNat : Int)) ((sb a).toNat : Int) := by
  unfold spec_l3Sub.f
  refine LoopK.Ev.bind_ (l3Inverse_ev a) ?_
  obtain ⟨r1, r2, r3, r4⟩ := l3Turn_at (inv a)
  simp only [r1, r2, r3, r4, Option.bind_some, xor8]
  have x99 : Go.bits .xor .u8 (((inv a) ^^^ rot (inv a) 1 ^^^ rot (inv a) 2 ^^^ rot (inv a) 3 ^^^ rot (inv a) 4).toNat : Int) 99 = ((sb a).toNat : Int) := xor8 _ 99
  rw [x99]
  exact Ev.now _
/-! ### the contracts, without fuel -/
theorem mulGf_c (a b : UInt8) (w : World) : Calls Try.prog 47 #[.int .u8 (a.toNat : Int), .int .u8 (b.toNat : Int)] w fun e w' => e = .returned (.int .u8 ((gmul a b).toNat : Int)) ∧ Drawn0 w w' := by
  obtain ⟨k, h⟩ := ev_mono (mulGf_ev a b)
  exact impl_mulGf.calls k _ _ _ w h
theorem l3Mul_c (a b : UInt8) (w : World) : Calls Try.prog 57 #[.int .u8 (a.toNat : Int), .int .u8 (b.toNat : Int)] w fun e w' => e = .returned (.int .u8 ((gmul a b).toNat : Int)) ∧ Drawn0 w w' := by
  obtain ⟨k, h⟩ := ev_mono (l3Mul_ev a b)
  exact spec_l3Mul.calls k _ _ _ w h
theorem subByte_c (a : UInt8) (w : World) : Calls Try.prog 63 #[.int .u8 (a.toNat : Int)] w fun e w' => e = .returned (.int .u8 ((sb a).toNat : Int)) ∧ Drawn0 w w' := by
  obtain ⟨k, h⟩ := ev_mono (subByte_ev a)
  exact impl_subByte.calls k _ _ w h
theorem l3Sub_c (a : UInt8) (w : World) : Calls Try.prog 56 #[.int .u8 (a.toNat : Int)] w fun e w' => e = .returned (.int .u8 ((sb a).toNat : Int)) ∧ Drawn0 w w' := by
  obtain ⟨k, h⟩ := ev_mono (l3Sub_ev a)
  exact spec_l3Sub.calls k _ _ w h
end Go.Proofs.Ytkcdhphhacjkhaa.B
