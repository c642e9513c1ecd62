/- Words of 64 bits, blocks of two words: what the printed functions of the hash of blocks answer, told equal by the commuting product. -/
import Derived.Test.YtkcdhphhacjkhaaCryP
namespace Go.Proofs.Ytkcdhphhacjkhaa.B
open Go.RowKit Go.Proofs.YtkcdhphhacjkhaaW.PrintWords Go.Proofs.YtkcdhphhacjkhaaW.PrintLast Go.Proofs.YtkcdhphhacjkhaaW.PrintMore
open Go.Proofs.Ytkcdhphhacjkhaa.AES
open Go.Proofs.Ytkcdhphhacjkhaa
set_option linter.unusedVariables false
set_option linter.unusedSimpArgs false
theorem half64 (a : UInt64) : (a.toNat : Int) / (2 : Int) = ((a >>> 1).toNat : Int) := by
  rw [UInt64.toNat_shiftRight]
  have : a.toNat >>> ((1 : UInt64).toNat % 64) = a.toNat / 2 := by
    rw [show (1 : UInt64).toNat % 64 = 1 from rfl, Nat.shiftRight_eq_div_pow]
  rw [this]; omega
theorem top64 (a : UInt64) : IntKind.u64.wrap ((a.toNat : Int) * (9223372036854775808 : Int)) = ((a <<< 63).toNat : Int) := by
  rw [UInt64.toNat_shiftLeft]
  have : a.toNat <<< ((63 : UInt64).toNat % 64) % 2 ^ 64 = a.toNat * 9223372036854775808 % 18446744073709551616 := by
    rw [show (63 : UInt64).toNat % 64 = 63 from rfl, Nat.shiftLeft_eq]
  rw [this]
  simp [IntKind.wrap, IntKind.bits, IntKind.signed]
theorem shr64 (c : UInt64) (n : Nat) (h : n < 64) : shr .u64 (c.toNat : Int) (n : Int) = ((c.toNat >>> n : Nat) : Int) := by
  unfold shr
  rw [Int.toNat_natCast, show IntKind.u64.bits = 64 from rfl, Nat.min_eq_left (by omega), Nat.shiftRight_eq_div_pow]
  have e : (2 : Int) ^ n = ((2 ^ n : Nat) : Int) := by norm_cast
  rw [e]
  norm_cast
theorem odd_u64 (x : Nat) (h : x < 18446744073709551616) : Go.bits .and .u64 (x : Int) 1 = ((x % 2 : Nat) : Int) := by
  have e1 : Go.bits .and .u64 (x : Int) 1 = IntKind.u64.wrap ((BitVec.ofInt 64 (x : Int) &&& BitVec.ofInt 64 1).toNat : Int) := rfl
  have : (BitVec.ofInt 64 1).toNat = 1 := by decide
  rw [e1, BitVec.ofInt_natCast, BitVec.toNat_and, BitVec.toNat_ofNat, Nat.mod_eq_of_lt (by omega), this, Nat.and_one_is_mod]
  exact w64u _ (by omega)
/-- Two words as one block. -/
def bv (h l : UInt64) : BitVec 128 := h.toBitVec ++ l.toBitVec
def hiW (v : BitVec 128) : UInt64 := ⟨v.extractLsb' 64 64⟩
def loW (v : BitVec 128) : UInt64 := ⟨v.extractLsb' 0 64⟩
theorem hi_bv (h l : UInt64) : hiW (bv h l) = h := by
  unfold hiW bv
  apply UInt64.toBitVec_inj.mp
  apply BitVec.eq_of_getLsbD_eq
  intro i hi
  rw [BitVec.getLsbD_extractLsb', BitVec.getLsbD_append]
  simp [hi]
theorem lo_bv (h l : UInt64) : loW (bv h l) = l := by
  unfold loW bv
  apply UInt64.toBitVec_inj.mp
  apply BitVec.eq_of_getLsbD_eq
  intro i hi
  rw [BitVec.getLsbD_extractLsb', BitVec.getLsbD_append]
  simp [hi]
theorem bv_w (v : BitVec 128) : bv (hiW v) (loW v) = v := by
  unfold bv hiW loW
  apply BitVec.eq_of_getLsbD_eq
  intro i hi
  rw [BitVec.getLsbD_append]
  by_cases h : i < 64
  · simp [h]
  · simp [h, show i - 64 < 64 by omega, show 64 + (i - 64) = i by omega]
theorem bv_xor (a b c d : UInt64) : bv (a ^^^ c) (b ^^^ d) = bv a b ^^^ bv c d := by
  unfold bv
  apply BitVec.eq_of_getLsbD_eq
  intro i hi
  simp only [BitVec.getLsbD_append, BitVec.getLsbD_xor, UInt64.toBitVec_xor]
  split <;> rfl
theorem msb_bv (h l : UInt64) (i : Nat) (hi : i < 128) : (bv h l).getMsbD i = (if i > 63 then l.toNat.testBit (127 - i) else h.toNat.testBit (63 - i)) := by
  have e : ∀ w : UInt64, w.toNat = w.toBitVec.toNat := fun _ => rfl
  unfold bv
  rw [BitVec.getMsbD_eq_getLsbD, BitVec.getLsbD_append]
  by_cases c : i > 63
  · rw [if_pos c, e l]
    simp only [hi, decide_true, Bool.true_and]
    rw [show 64 + 64 - 1 - i = 127 - i by omega]
    simp only [show 127 - i < 64 by omega, if_true, decide_true, cond_true]
    rfl
  · rw [if_neg c, e h]
    simp only [hi, decide_true, Bool.true_and]
    rw [show 64 + 64 - 1 - i = 127 - i by omega]
    simp only [show ¬ (127 - i < 64) by omega, if_false, decide_false, cond_false]
    rw [show 127 - i - 64 = 63 - i by omega]
    rfl
theorem shift_bv (h l : UInt64) : bv (h >>> 1) (l >>> 1 ||| h <<< 63) = bv h l >>> 1 := by
  have e1 : (h >>> 1).toBitVec = h.toBitVec >>> 1 := rfl
  have e2 : (l >>> 1 ||| h <<< 63).toBitVec = (l.toBitVec >>> 1) ||| (h.toBitVec <<< 63) := rfl
  unfold bv
  rw [e1, e2]
  apply BitVec.eq_of_getLsbD_eq
  intro i hi
  simp only [BitVec.getLsbD_append, BitVec.getLsbD_ushiftRight, BitVec.getLsbD_or, BitVec.getLsbD_shiftLeft]
  by_cases c : i < 64
  · by_cases c2 : i < 63
    · simp [c, c2, show 1 + i < 64 by omega]
    · obtain rfl : i = 63 := by omega
      simp
  · simp [c, show ¬ (1 + i < 64) by omega, show 1 + (i - 64) = 1 + i - 64 by omega]
theorem bit0_bv (h l : UInt64) : (bv h l).getLsbD 0 = decide (l.toNat % 2 = 1) := by
  unfold bv
  rw [BitVec.getLsbD_append]
  simp only [show (0 : Nat) < 64 by omega, if_true, decide_true, cond_true]
  have : l.toBitVec.getLsbD 0 = l.toNat.testBit 0 := rfl
  rw [this, Nat.testBit_zero]
theorem X_bv0 (h l : UInt64) (hl : ¬ l.toNat % 2 = 1) : bv (h >>> 1) (l >>> 1 ||| h <<< 63) = X (bv h l) := by
  rw [X_eq, bit0_bv, decide_eq_false hl, shift_bv]
  simp [sel]
theorem X_bv1 (h l : UInt64) (hl : l.toNat % 2 = 1) : bv ((h >>> 1) ^^^ 16212958658533785600) (l >>> 1 ||| h <<< 63) = X (bv h l) := by
  rw [X_eq, bit0_bv, decide_eq_true hl, ← shift_bv]
  have e : bv ((h >>> 1) ^^^ 16212958658533785600) ((l >>> 1 ||| h <<< 63) ^^^ 0) = bv (h >>> 1) (l >>> 1 ||| h <<< 63) ^^^ bv 16212958658533785600 0 := bv_xor _ _ _ _
  rw [UInt64.xor_zero] at e
  rw [e]
  congr 1
/-- The product of two blocks, as words. -/
def mulW (a b c d : UInt64) : UInt64 × UInt64 := (hiW (mul (bv a b) (bv c d)), loW (mul (bv a b) (bv c d)))
theorem mulW_comm (a b c d : UInt64) : mulW a b c d = mulW c d a b := by unfold mulW; rw [mul_comm]
/-- One more of the sum. -/
def pick (bit : Bool) (o p : BitVec 128) : BitVec 128 := if bit then o ^^^ p else o
theorem xs_pick (n : Nat) (q p : BitVec 128) : xs (n + 1) (fun i => sel (q.getMsbD i) (Xn i p)) = pick (q.getMsbD n) (xs n fun i => sel (q.getMsbD i) (Xn i p)) (Xn n p) := by
  rw [xs, pick]
  cases q.getMsbD n <;> simp [sel]
def rest : Nat → BitVec 128 → BitVec 128 → BitVec 128 → Nat → BitVec 128
  | 0, _, _, o, _ => o
  | n + 1, p, q, o, i => rest n (X p) q (pick (q.getMsbD i) o p) (i + 1)
theorem rest_mul (p q : BitVec 128) : ∀ (n i : Nat), n + i = 128 → rest n (Xn i p) q (xs i fun j => sel (q.getMsbD j) (Xn j p)) i = mul p q
  | 0, i, h => by
    obtain rfl : i = 128 := by omega
    rfl
  | n + 1, i, h => by
    rw [rest, ← xs_pick]
    exact rest_mul p q n (i + 1) (by omega)
theorem byX_at (h l : UInt64) : ∃ a b : UInt64, impl_poly_byX.f (h.toNat : Int) (l.toNat : Int) = some ((a.toNat : Int), (b.toNat : Int)) ∧ bv a b = X (bv h l) := by
  unfold impl_poly_byX.f
  rw [odd_u64 l.toNat l.toNat_lt, half64, half64, top64, or64]
  by_cases c : l.toNat % 2 = 1
  · have e : Go.bits .xor .u64 ((h >>> 1).toNat : Int) 16212958658533785600 = (((h >>> 1) ^^^ 16212958658533785600).toNat : Int) := xor64 _ 16212958658533785600
    refine ⟨(h >>> 1) ^^^ 16212958658533785600, l >>> 1 ||| h <<< 63, ?_, X_bv1 h l c⟩
    rw [if_pos (by omega), e]
  · exact ⟨h >>> 1, l >>> 1 ||| h <<< 63, by rw [if_neg (by omega)], X_bv0 h l c⟩
theorem testBit_odd (x n : Nat) : x.testBit n = decide ((x >>> n) % 2 = 1) := by
  rw [← Nat.testBit_zero, Nat.testBit_shiftRight]; rfl
theorem times_loop : ∀ (n i : Nat), n + i = 128 → ∀ (ph pl qh ql oh ol : UInt64), Ev (fun k => impl_poly_times.l0 k (i : Int) (ph.toNat : Int) (pl.toNat : Int) (qh.toNat : Int) (ql.toNat : Int) (oh.toNat : Int) (ol.toNat : Int))
      (((hiW (rest n (bv ph pl) (bv qh ql) (bv oh ol) i)).toNat : Int), ((loW (rest n (bv ph pl) (bv qh ql) (bv oh ol) i)).toNat : Int))
  | 0, i, hi, ph, pl, qh, ql, oh, ol => by
    obtain rfl : i = 128 := by omega
    refine LoopK.Ev.succ ?_
    rw [rest, hi_bv, lo_bv]
    simp only [impl_poly_times.l0]
    exact Ev.now _
  | n + 1, i, hi, ph, pl, qh, ql, oh, ol => by
    refine LoopK.Ev.succ ?_
    have c : (i : Int) < 128 := by omega
    have hm : Int.tmod (i : Int) 64 = ((i % 64 : Nat) : Int) := by rw [Int.tmod_eq_emod_of_nonneg (by omega)]; omega
    have hw : wrap64 (63 - Int.tmod (i : Int) 64) = ((63 - i % 64 : Nat) : Int) := by rw [hm, wr64 _ (by omega)]; omega
    have hn : (0 : Int) ≤ ((63 - i % 64 : Nat) : Int) := by omega
    have step : ∀ (x : Nat) (hx : x < 18446744073709551616), (bv qh ql).getMsbD i = decide (x % 2 = 1) → Ev (fun k => impl_poly_times.j1 k (x : Int) (i : Int) (ph.toNat : Int) (pl.toNat : Int) (qh.toNat : Int) (ql.toNat : Int) (oh.toNat : Int) (ol.toNat : Int))
        (((hiW (rest (n + 1) (bv ph pl) (bv qh ql) (bv oh ol) i)).toNat : Int), ((loW (rest (n + 1) (bv ph pl) (bv qh ql) (bv oh ol) i)).toNat : Int)) := fun x hx hb => by
      refine LoopK.Ev.succ ?_
      simp only [impl_poly_times.j1, odd_u64 x hx, rest, hb]
      have next : ∀ (a b : UInt64), Ev (fun k => impl_poly_times.j2 k (i : Int) (ph.toNat : Int) (pl.toNat : Int) (qh.toNat : Int) (ql.toNat : Int) (a.toNat : Int) (b.toNat : Int))
          (((hiW (rest n (X (bv ph pl)) (bv qh ql) (bv a b) (i + 1))).toNat : Int), ((loW (rest n (X (bv ph pl)) (bv qh ql) (bv a b) (i + 1))).toNat : Int)) := fun a b => by
        refine LoopK.Ev.succ ?_
        obtain ⟨p1, p2, hp, hx⟩ := byX_at ph pl
        have w1 : wrap64 ((i : Int) + 1) = ((i + 1 : Nat) : Int) := by rw [wr64 _ (by omega)]; omega
        simp only [impl_poly_times.j2, hp, Option.bind_some, ← hx, w1]
        exact times_loop n (i + 1) (by omega) p1 p2 qh ql a b
      by_cases ho : x % 2 = 1
      · have : ((x % 2 : Nat) : Int) = 1 := by omega
        simp only [this, if_true, impl_poly_xor.f, Option.bind_some, xor64, ho, decide_true, pick, ← bv_xor]
        exact next _ _
      · have : ¬ ((x % 2 : Nat) : Int) = 1 := by omega
        simp only [this, if_false, ho, decide_false, pick]
        exact next _ _
    simp only [impl_poly_times.l0, c, if_true, hw, hn]
    have hb := msb_bv qh ql i (by omega)
    by_cases c6 : i > 63
    · have c6' : (i : Int) > 63 := by omega
      rw [if_pos c6, testBit_odd] at hb
      simp only [c6', if_true, shr64 ql _ (show 63 - i % 64 < 64 by omega)]
      rw [show 63 - i % 64 = 127 - i by omega]
      exact step _ (Nat.lt_of_le_of_lt (Nat.shiftRight_le _ _) ql.toNat_lt) hb
    · have c6' : ¬ (i : Int) > 63 := by omega
      rw [if_neg c6, testBit_odd] at hb
      simp only [c6', if_false, shr64 qh _ (show 63 - i % 64 < 64 by omega)]
      rw [show 63 - i % 64 = 63 - i by omega]
      exact step _ (Nat.lt_of_le_of_lt (Nat.shiftRight_le _ _) qh.toNat_lt) hb
theorem times_ev (ph pl qh ql : UInt64) : Ev (fun k => impl_poly_times.f k (ph.toNat : Int) (pl.toNat : Int) (qh.toNat : Int) (ql.toNat : Int)) (((mulW ph pl qh ql).1.toNat : Int), ((mulW ph pl qh ql).2.toNat : Int)) := by
  have h := times_loop 128 0 (by omega) ph pl qh ql 0 0
  have e : bv 0 0 = (0#128) := by decide
  rw [e, show bv ph pl = Xn 0 (bv ph pl) from rfl] at h
  have := rest_mul (bv ph pl) (bv qh ql) 128 0 (by omega)
  rw [show xs 0 (fun j => sel ((bv qh ql).getMsbD j) (Xn j (bv ph pl))) = 0#128 from rfl] at this
  rw [this] at h
  exact h
theorem l5Mul_loop : ∀ (n i : Nat), n + i = 128 → ∀ (qh ql ph pl oh ol : UInt64), Ev (fun k => spec_l5Mul.l0 k (i : Int) (qh.toNat : Int) (ql.toNat : Int) (ph.toNat : Int) (pl.toNat : Int) (oh.toNat : Int) (ol.toNat : Int))
      (((hiW (rest n (bv ph pl) (bv qh ql) (bv oh ol) i)).toNat : Int), ((loW (rest n (bv ph pl) (bv qh ql) (bv oh ol) i)).toNat : Int))
  | 0, i, hi, qh, ql, ph, pl, oh, ol => by
    obtain rfl : i = 128 := by omega
    refine LoopK.Ev.succ ?_
    rw [rest, hi_bv, lo_bv]
    simp only [spec_l5Mul.l0]
    exact Ev.now _
  | n + 1, i, hi, qh, ql, ph, pl, oh, ol => by
    refine LoopK.Ev.succ ?_
    have c : (i : Int) < 128 := by omega
    have step : ∀ (x : Nat) (hx : x < 18446744073709551616), (bv qh ql).getMsbD i = decide (x % 2 = 1) → Ev (fun k => spec_l5Mul.j1 k (i : Int) (x : Int) (qh.toNat : Int) (ql.toNat : Int) (ph.toNat : Int) (pl.toNat : Int) (oh.toNat : Int) (ol.toNat : Int))
        (((hiW (rest (n + 1) (bv ph pl) (bv qh ql) (bv oh ol) i)).toNat : Int), ((loW (rest (n + 1) (bv ph pl) (bv qh ql) (bv oh ol) i)).toNat : Int)) := fun x hx hb => by
      refine LoopK.Ev.succ ?_
      simp only [spec_l5Mul.j1, odd_u64 x hx, rest, hb]
      have next : ∀ (a b : UInt64), Ev (fun k => spec_l5Mul.j2 k (i : Int) (qh.toNat : Int) (ql.toNat : Int) (ph.toNat : Int) (pl.toNat : Int) (a.toNat : Int) (b.toNat : Int))
          (((hiW (rest n (X (bv ph pl)) (bv qh ql) (bv a b) (i + 1))).toNat : Int), ((loW (rest n (X (bv ph pl)) (bv qh ql) (bv a b) (i + 1))).toNat : Int)) := fun a b => by
        refine LoopK.Ev.succ ?_
        have w1 : wrap64 ((i : Int) + 1) = ((i + 1 : Nat) : Int) := by rw [wr64 _ (by omega)]; omega
        simp only [spec_l5Mul.j2, odd_u64 pl.toNat pl.toNat_lt, half64, top64, or64, w1]
        by_cases c : pl.toNat % 2 = 1
        · have c' : ((pl.toNat % 2 : Nat) : Int) = 1 := by omega
          have e : Go.bits .xor .u64 ((ph >>> 1).toNat : Int) 16212958658533785600 = (((ph >>> 1) ^^^ 16212958658533785600).toNat : Int) := xor64 _ 16212958658533785600
          simp only [c', if_true, e]
          rw [← X_bv1 ph pl c]
          exact l5Mul_loop n (i + 1) (by omega) qh ql _ _ a b
        · have c' : ¬ ((pl.toNat % 2 : Nat) : Int) = 1 := by omega
          simp only [c', if_false]
          rw [← X_bv0 ph pl c]
          exact l5Mul_loop n (i + 1) (by omega) qh ql _ _ a b
      by_cases ho : x % 2 = 1
      · have : ((x % 2 : Nat) : Int) = 1 := by omega
        simp only [this, if_true, xor64, ho, decide_true, pick, ← bv_xor]
        exact next _ _
      · have : ¬ ((x % 2 : Nat) : Int) = 1 := by omega
        simp only [this, if_false, ho, decide_false, pick]
        exact next _ _
    have hb := msb_bv qh ql i (by omega)
    have u0 : (0 : Int) ≤ IntKind.u64.wrap (wrap64 (63 - (i : Int))) := by
      simp [IntKind.wrap, IntKind.bits, IntKind.signed]; omega
    by_cases c6 : i > 63
    · have c6' : (i : Int) > 63 := by omega
      rw [if_pos c6, testBit_odd] at hb
      have w1 : IntKind.u64.wrap (wrap64 (127 - (i : Int))) = ((127 - i : Nat) : Int) := by rw [wr64 _ (by omega), show (127 - (i : Int)) = ((127 - i : Nat) : Int) by omega]; exact w64u _ (by omega)
      have hn : (0 : Int) ≤ ((127 - i : Nat) : Int) := by omega
      simp only [spec_l5Mul.l0, c, if_true, u0, c6', w1, hn, shr64 ql _ (show 127 - i < 64 by omega)]
      exact step _ (Nat.lt_of_le_of_lt (Nat.shiftRight_le _ _) ql.toNat_lt) hb
    · have c6' : ¬ (i : Int) > 63 := by omega
      rw [if_neg c6, testBit_odd] at hb
      have w1 : IntKind.u64.wrap (wrap64 (63 - (i : Int))) = ((63 - i : Nat) : Int) := by rw [wr64 _ (by omega), show (63 - (i : Int)) = ((63 - i : Nat) : Int) by omega]; exact w64u _ (by omega)
      have hn : (0 : Int) ≤ ((63 - i : Nat) : Int) := by omega
      simp only [spec_l5Mul.l0, c, if_true, c6', if_false, w1, hn, shr64 qh _ (show 63 - i < 64 by omega)]
      exact step _ (Nat.lt_of_le_of_lt (Nat.shiftRight_le _ _) qh.toNat_lt) hb
theorem l5Mul_ev (qh ql ph pl : UInt64) : Ev (fun k => spec_l5Mul.f k (qh.toNat : Int) (ql.toNat : Int) (ph.toNat : Int) (pl.toNat : Int)) (((mulW ph pl qh ql).1.toNat : Int), ((mulW ph pl qh ql).2.toNat : Int)) := by
  have h := l5Mul_loop 128 0 (by omega) qh ql ph pl 0 0
  have e : bv 0 0 = (0#128) := by decide
  rw [e, show bv ph pl = Xn 0 (bv ph pl) from rfl] at h
  have := rest_mul (bv ph pl) (bv qh ql) 128 0 (by omega)
  rw [show xs 0 (fun j => sel ((bv qh ql).getMsbD j) (Xn j (bv ph pl))) = 0#128 from rfl] at this
  rw [this] at h
  exact h
/-- The number of bytes, the highest one first. -/
def nb : List UInt8 → UInt64 → UInt64
  | [], n => n
  | b :: l, n => nb l ((n <<< 8) ||| b.toUInt64)
theorem shl8u64 (a : UInt64) : IntKind.u64.wrap ((a.toNat : Int) * (256 : Int)) = ((a <<< 8).toNat : Int) := by
  rw [UInt64.toNat_shiftLeft]
  have : a.toNat <<< ((8 : UInt64).toNat % 64) % 2 ^ 64 = a.toNat * 256 % 18446744073709551616 := by
    rw [show (8 : UInt64).toNat % 64 = 8 from rfl, Nat.shiftLeft_eq]
  rw [this]
  simp [IntKind.wrap, IntKind.bits, IntKind.signed]
theorem bt_get (s : ByteArray) (i : Nat) (h : i < s.size) : bt s (i : Int) = ((s.data.toList.getD i 0).toNat : Int) := by
  unfold bt
  rw [Int.toNat_natCast, dif_pos h]
  have : s.data.toList.getD i 0 = s[i] := by
    rw [List.getD_eq_getElem?_getD, List.getElem?_eq_getElem (by simpa using h)]
    rfl
  rw [this]
theorem drop_cons' (l : List UInt8) (i : Nat) (h : i < l.length) : l.drop i = l.getD i 0 :: l.drop (i + 1) := by
  rw [List.getD_eq_getElem?_getD, List.getElem?_eq_getElem h, List.drop_eq_getElem_cons h]
  rfl
theorem numberOf_loop (s : ByteArray) (hs : s.size ≤ 1000) : ∀ (n i : Nat), n + i = s.size → ∀ (x : UInt64), Ev (fun k => impl_numberOf.l0 k s (x.toNat : Int) (s.size : Int) (i : Int)) (((nb (s.data.toList.drop i) x).toNat : Nat) : Int)
  | 0, i, h, x => by
    obtain rfl : i = s.size := by omega
    refine LoopK.Ev.succ ?_
    have : ¬ ((s.size : Int) < (s.size : Int)) := by omega
    simp only [impl_numberOf.l0, this, if_false]
    rw [List.drop_of_length_le (by simp), nb]
    exact Ev.now _
  | n + 1, i, h, x => by
    refine LoopK.Ev.succ ?_
    have c1 : (i : Int) < (s.size : Int) := by omega
    have c2 : (0 : Int) ≤ (i : Int) := by omega
    have w1 : wrap64 ((i : Int) + 1) = ((i + 1 : Nat) : Int) := by rw [wr64 _ (by omega)]; omega
    have w2 : IntKind.u64.wrap (bt s (i : Int)) = ((s.data.toList.getD i 0).toUInt64.toNat : Int) := by
      rw [bt_get s i (by omega), w64u _ (by have := (s.data.toList.getD i 0).toNat_lt; omega)]; rfl
    simp only [impl_numberOf.l0, c1, c2, if_true, w1, w2, shl8u64, or64]
    rw [drop_cons' _ i (by simp; omega), nb]
    exact numberOf_loop s hs n (i + 1) (by omega) _
theorem numberOf_ev (s : ByteArray) (hs : s.size ≤ 1000) : Ev (fun k => impl_numberOf.f k s) (((nb s.data.toList 0).toNat : Nat) : Int) := by
  have := numberOf_loop s hs s.size 0 (by omega) 0
  rw [List.drop_zero] at this
  exact this
/-- The signed reading of a word. -/
def sI (x : UInt64) : Int := wrap64 (x.toNat : Int)
theorem sI_u (x : UInt64) : IntKind.u64.wrap (sI x) = (x.toNat : Int) := by
  have := x.toNat_lt
  unfold sI wrap64
  simp [IntKind.wrap, IntKind.bits, IntKind.signed]
  omega
theorem ofInt_sI (x : UInt64) : BitVec.ofInt 64 (sI x) = x.toBitVec := by
  rw [← u64bv]
  apply BitVec.eq_of_toInt_eq
  rw [BitVec.toInt_ofInt, BitVec.toInt_ofInt]
  have := x.toNat_lt
  unfold sI wrap64
  simp only [Int.bmod]
  omega
theorem or_sI (a b : UInt64) : Go.bits .or .i64 (sI a) (sI b) = sI (a ||| b) := by
  have e : Go.bits .or .i64 (sI a) (sI b) = IntKind.i64.wrap ((BitVec.ofInt 64 (sI a) ||| BitVec.ofInt 64 (sI b)).toNat : Int) := rfl
  rw [e, ofInt_sI, ofInt_sI, ← UInt64.toBitVec_or, IntKind.wrap_i64]
  unfold sI wrap64
  rfl
theorem sI_shl (x : UInt64) : wrap64 (sI x * (256 : Int)) = sI (x <<< 8) := by
  have h := shl8u64 x
  unfold sI
  rw [← h]
  unfold wrap64
  simp [IntKind.wrap, IntKind.bits, IntKind.signed]
  omega
theorem sI_byte (b : UInt8) : wrap64 (b.toNat : Int) = sI b.toUInt64 := rfl
theorem l1Big_loop (s : ByteArray) (hs : s.size ≤ 1000) : ∀ (n i : Nat), n + i = s.size → ∀ (x : UInt64), Ev (fun k => spec_l1Big.l0 k s (sI x) (i : Int)) (sI (nb (s.data.toList.drop i) x))
  | 0, i, h, x => by
    obtain rfl : i = s.size := by omega
    refine LoopK.Ev.succ ?_
    have : ¬ ((s.size : Int) < (s.size : Int)) := by omega
    simp only [spec_l1Big.l0, this, if_false]
    rw [List.drop_of_length_le (by simp), nb]
    exact Ev.now _
  | n + 1, i, h, x => by
    refine LoopK.Ev.succ ?_
    have c1 : (i : Int) < (s.size : Int) := by omega
    have c2 : (0 : Int) ≤ (i : Int) := by omega
    have w1 : wrap64 ((i : Int) + 1) = ((i + 1 : Nat) : Int) := by rw [wr64 _ (by omega)]; omega
    simp only [spec_l1Big.l0, c1, c2, if_true, w1, bt_get s i (by omega), sI_byte, sI_shl, or_sI]
    rw [drop_cons' _ i (by simp; omega), nb]
    exact l1Big_loop s hs n (i + 1) (by omega) _
theorem l1Big_ev (s : ByteArray) (hs : s.size ≤ 1000) : Ev (fun k => spec_l1Big.f k s) (sI (nb s.data.toList 0)) := by
  have := l1Big_loop s hs s.size 0 (by omega) 0
  rw [List.drop_zero, show sI 0 = 0 from wr64 _ (by decide)] at this
  exact this
/-- A block of a text, as two words. -/
def wordH (s : ByteArray) : UInt64 := nb (s.extract 0 8).data.toList 0
def wordL (s : ByteArray) : UInt64 := nb (s.extract 8 s.size).data.toList 0
theorem polyOf_ev (s : ByteArray) (h : s.size = 16) : Ev (fun k => impl_polyOf.f k s) (((wordH s).toNat : Int), ((wordL s).toNat : Int)) := by
  have c : (8 : Int) ≤ (s.size : Int) := by omega
  unfold impl_polyOf.f
  simp only [(by decide : ((0 : Int) ≤ 8) = True), if_true, c]
  exact LoopK.Ev.bind_ (numberOf_ev _ (by simp [ByteArray.size_extract]; omega)) (LoopK.Ev.bind_ (numberOf_ev _ (by simp [ByteArray.size_extract]; omega)) (Ev.now _))
theorem l5Of_ev (s : ByteArray) (h : s.size = 16) : Ev (fun k => spec_l5Of.f k s) (((wordH s).toNat : Int), ((wordL s).toNat : Int)) := by
  have c : (8 : Int) ≤ (s.size : Int) := by omega
  unfold spec_l5Of.f
  simp only [(by decide : ((0 : Int) ≤ 8) = True), if_true, c]
  refine LoopK.Ev.bind_ (l1Big_ev _ (by simp [ByteArray.size_extract]; omega)) (LoopK.Ev.bind_ (l1Big_ev _ (by simp [ByteArray.size_extract]; omega)) ?_)
  simp only [sI_u]
  exact Ev.now _
/-- The hash of blocks: n blocks from place i on. -/
def gh (hh hl : UInt64) (s : ByteArray) : Nat → Nat → UInt64 → UInt64 → UInt64 × UInt64
  | 0, _, yh, yl => (yh, yl)
  | n + 1, i, yh, yl => gh hh hl s n (i + 16) (mulW (yh ^^^ wordH (s.extract i (i + 16))) (yl ^^^ wordL (s.extract i (i + 16))) hh hl).1 (mulW (yh ^^^ wordH (s.extract i (i + 16))) (yl ^^^ wordL (s.extract i (i + 16))) hh hl).2
theorem ghash_loop (hh hl : UInt64) (s : ByteArray) (hs : s.size ≤ 1000000) : ∀ (n i : Nat), 16 * n + i = s.size → ∀ (yh yl : UInt64), Ev (fun k => impl_ghash.l0 k s (i : Int) (hh.toNat : Int) (hl.toNat : Int) (yh.toNat : Int) (yl.toNat : Int)) (((gh hh hl s n i yh yl).1.toNat : Int), ((gh hh hl s n i yh yl).2.toNat : Int))
  | 0, i, h, yh, yl => by
    obtain rfl : i = s.size := by omega
    refine LoopK.Ev.succ ?_
    have : ¬ ((s.size : Int) < (s.size : Int)) := by omega
    simp only [impl_ghash.l0, this, if_false, gh]
    exact Ev.now _
  | n + 1, i, h, yh, yl => by
    refine LoopK.Ev.succ ?_
    have c1 : (i : Int) < (s.size : Int) := by omega
    have c2 : (0 : Int) ≤ (i : Int) := by omega
    have w1 : wrap64 ((i : Int) + 16) = ((i + 16 : Nat) : Int) := by rw [wr64 _ (by omega)]; omega
    have c3 : (i : Int) ≤ ((i + 16 : Nat) : Int) := by omega
    have c4 : ((i + 16 : Nat) : Int) ≤ (s.size : Int) := by omega
    simp only [impl_ghash.l0, c1, c2, c3, c4, if_true, w1, Int.toNat_natCast, gh]
    refine LoopK.Ev.bind_ (polyOf_ev _ (by simp [ByteArray.size_extract]; omega)) ?_
    simp only [impl_poly_xor.f, Option.bind_some, xor64]
    refine LoopK.Ev.bind_ (times_ev _ _ _ _) ?_
    exact ghash_loop hh hl s hs n (i + 16) (by omega) _ _
theorem ghash_ev (hh hl : UInt64) (s : ByteArray) (hs : s.size ≤ 1000000) (hm : s.size % 16 = 0) : Ev (fun k => impl_ghash.f k (hh.toNat : Int) (hl.toNat : Int) s) (((gh hh hl s (s.size / 16) 0 0 0).1.toNat : Int), ((gh hh hl s (s.size / 16) 0 0 0).2.toNat : Int)) :=
  ghash_loop hh hl s hs (s.size / 16) 0 (by omega) 0 0
theorem l5Ghash_loop (hh hl : UInt64) (s : ByteArray) (hs : s.size ≤ 1000000) : ∀ (n i : Nat), 16 * n + i = s.size → ∀ (yh yl : UInt64), Ev (fun k => spec_l5Ghash.l0 k s (i : Int) (yh.toNat : Int) (yl.toNat : Int) (hh.toNat : Int) (hl.toNat : Int)) (((gh hh hl s n i yh yl).1.toNat : Int), ((gh hh hl s n i yh yl).2.toNat : Int))
  | 0, i, h, yh, yl => by
    obtain rfl : i = s.size := by omega
    refine LoopK.Ev.succ ?_
    have : ¬ ((s.size : Int) < (s.size : Int)) := by omega
    simp only [spec_l5Ghash.l0, this, if_false, gh]
    exact Ev.now _
  | n + 1, i, h, yh, yl => by
    refine LoopK.Ev.succ ?_
    have c1 : (i : Int) < (s.size : Int) := by omega
    have c2 : (0 : Int) ≤ (i : Int) := by omega
    have w1 : wrap64 ((i : Int) + 16) = ((i + 16 : Nat) : Int) := by rw [wr64 _ (by omega)]; omega
    have c3 : (i : Int) ≤ ((i + 16 : Nat) : Int) := by omega
    have c4 : ((i + 16 : Nat) : Int) ≤ (s.size : Int) := by omega
    simp only [spec_l5Ghash.l0, c1, c2, c3, c4, if_true, w1, Int.toNat_natCast, gh]
    refine LoopK.Ev.bind_ (l5Of_ev _ (by simp [ByteArray.size_extract]; omega)) ?_
    simp only [xor64]
    refine LoopK.Ev.bind_ (l5Mul_ev _ _ _ _) ?_
    rw [mulW_comm hh hl]
    exact l5Ghash_loop hh hl s hs n (i + 16) (by omega) _ _
theorem l5Ghash_ev (h s : ByteArray) (hh : h.size = 16) (hs : s.size ≤ 1000000) (hm : s.size % 16 = 0) : Ev (fun k => spec_l5Ghash.f k h s) (((gh (wordH h) (wordL h) s (s.size / 16) 0 0 0).1.toNat : Int), ((gh (wordH h) (wordL h) s (s.size / 16) 0 0 0).2.toNat : Int)) := by
  unfold spec_l5Ghash.f
  exact LoopK.Ev.bind_ (l5Of_ev h hh) (l5Ghash_loop _ _ s hs (s.size / 16) 0 (by omega) 0 0)
end Go.Proofs.Ytkcdhphhacjkhaa.B
