/- Texts sealed and opened by the program. -/
import Derived.Test.YtkcdhphhacjkhaaCryS
import Derived.Laws.Cover3
namespace Go.Proofs.Ytkcdhphhacjkhaa.B
open Go.RowKit Go.Proofs.YtkcdhphhacjkhaaW.PrintWords Go.Proofs.YtkcdhphhacjkhaaW.PrintLast Go.Proofs.YtkcdhphhacjkhaaW.PrintMore
open Go.Proofs.Ytkcdhphhacjkhaa.AES
open Go.Proofs.Ytkcdhphhacjkhaa
open Go.Proofs.Ytkcdhphhacjkhaa.QuietK
attribute [local go_sem] Go.Proofs.Ytkcdhphhacjkhaa.StoreK.isSome_setCell min2_int min_two
set_option linter.unusedVariables false
set_option linter.unusedSimpArgs false
theorem ext_tail (a b : ByteArray) : (a ++ b).extract a.size (a ++ b).size = b := by
  apply ByteArray.ext
  have h1 : a.data.extract a.size (a.size + b.size) = #[] := Array.eq_empty_of_size_eq_zero (by
    have : a.data.size = a.size := rfl
    simp)
  have h2 : b.data.extract 0 b.size = b.data := Array.extract_size
  simp [h1, h2]
theorem ext_head (a b : ByteArray) : (a ++ b).extract 0 a.size = a := by
  apply ByteArray.ext
  simp
theorem be_2_4 : nb (strOfNums (be 2 4)).data.toList 0 = 2 := by decide
def zero16 : ByteArray := strOf 16 fun _ => 0
theorem zero16_be : strOfNums (be 0 8) ++ strOfNums (be 0 8) = zero16 := by decide
theorem one4_be : strOfNums (be 1 4) = ⟨#[0, 0, 0, 1]⟩ := by decide
/-- The tag of what is sealed. -/
def hashKey (K : Nat → UInt8) : ByteArray := strOf 16 (enc K (byteAt zero16) 10)
def tagText (beside sealed : ByteArray) : ByteArray := fillS beside ++ fillS sealed ++ (strOfNums (be ((8 * beside.size : Nat) : Int) 8) ++ strOfNums (be ((8 * sealed.size : Nat) : Int) 8))
def tagSum (K : Nat → UInt8) (beside sealed : ByteArray) : ByteArray := textW (ghW (wordH (hashKey K)) (wordL (hashKey K)) (tagText beside sealed))
def tagF (K : Nat → UInt8) (nonce beside sealed : ByteArray) : ByteArray := strOf 16 (fun i => byteAt (tagSum K beside sealed) i ^^^ byteAt (strOf 16 (enc K (byteAt (nonce ++ ⟨#[0, 0, 0, 1]⟩)) 10)) i)
def sealF (K : Nat → UInt8) (nonce beside text : ByteArray) : ByteArray := ctr K nonce text ++ tagF K nonce beside (ctr K nonce text)
theorem ctr_size (K : Nat → UInt8) (hd t : ByteArray) : (ctr K hd t).size = t.size := strOf_size _ _
theorem tagF_size (K : Nat → UInt8) (n b s : ByteArray) : (tagF K n b s).size = 16 := strOf_size _ _
theorem tagText_size (b s : ByteArray) : (tagText b s).size = (fillS b).size + (fillS s).size + 16 := by
  unfold tagText
  simp only [ByteArray.size_append, strOfNums_size, be_length]
theorem tagText_mod (b s : ByteArray) : (tagText b s).size % 16 = 0 := by
  rw [tagText_size, fillS_size, fillS_size]; omega
set_option maxHeartbeats 4000000 in
set_option maxRecDepth 100000 in
theorem turned_c (w : World) (c : Nat) (K : Nat → UInt8) (nonce text : ByteArray) (hC : Ciph w c K) (hn : nonce.size = 12) (ht : text.size ≤ 2000) :
    Calls Try.prog 35 #[.pointer (some ⟨c, 0, none⟩), .string nonce, .string text] w fun e w' => e = .returned (.string (ctr K nonce text)) ∧ Below w.heap.size w w' := by
  have HC := Aside0.mk hC
  obtain ⟨b4, hb4⟩ : ∃ b, b = strOfNums (be 2 4) := ⟨_, rfl⟩
  have hb4s : b4.size = 4 := by rw [hb4, strOfNums_size, be_length]
  have hcat : (9223372036854775807 < nonce.size + b4.size) = False := by rw [hb4s, hn]; simp
  have hst : (nonce ++ b4).size = 16 := by rw [ByteArray.size_append, hb4s, hn]
  have hnb : nb ((nonce ++ b4).extract 12 (nonce ++ b4).size).data.toList 0 = 2 := by
    have := ext_tail nonce b4
    rw [hn] at this
    rw [this, hb4]
    exact be_2_4
  have hhd : (nonce ++ b4).extract 0 12 = nonce := by
    have := ext_head nonce b4
    rwa [hn] at this
  have HST := Aside0.mk hst
  have HNB := Aside0.mk hnb
  have HHD := Aside0.mk hhd
  have HB4 := Aside0.mk hb4
  clear hC hn hb4 hb4s hst hnb hhd
  go_enter Try.func35, Try.ntmps35
  go_wp2_with fail
  refine calls_of_args (args' := #[.int .u64 2, .int .i64 ((4 : Nat) : Int)]) rfl ?_
  refine (bigEndian_c 2 4 (by omega) _).mono ?_
  rintro e w2 ⟨rfl, hb2⟩
  rw [← HB4.out]
  have HB2 := Aside0.mk hb2
  clear hb2
  go_wp2_with fail
  refine (counter_c w2 c K _ text (HC.out.below HB2.out) HST.out HNB.out ht).mono ?_
  rintro e w3 ⟨rfl, hb3⟩
  rw [HHD.out]
  have HB3 := Aside0.mk (HB2.out.trans (hb3.mono HB2.out.size))
  clear hb3
  go_wp2
  go_ret
  exact ⟨rfl, HB3.out⟩
set_option maxHeartbeats 4000000 in
set_option maxRecDepth 100000 in
theorem tag_c (w : World) (c : Nat) (K : Nat → UInt8) (nonce beside sealed_ : ByteArray) (hC : Ciph w c K) (hn : nonce.size = 12) (hb : beside.size ≤ 2000) (hs : sealed_.size ≤ 2000) :
    Calls Try.prog 36 #[.pointer (some ⟨c, 0, none⟩), .string nonce, .string beside, .string sealed_] w fun e w' => e = .returned (.string (tagF K nonce beside sealed_)) ∧ Below w.heap.size w w' := by
  have HC := Aside0.mk hC
  have HN := Aside0.mk hn
  obtain ⟨z8, hz8⟩ : ∃ b, b = strOfNums (be 0 8) := ⟨_, rfl⟩
  have hz8s : z8.size = 8 := by rw [hz8, strOfNums_size, be_length]
  have hcz : (9223372036854775807 < z8.size + z8.size) = False := by rw [hz8s]; simp
  have hzz : z8 ++ z8 = zero16 := by rw [hz8]; exact zero16_be
  have HZ8 := Aside0.mk hz8
  have HZZ := Aside0.mk hzz
  clear hC hn hz8 hz8s hzz
  go_enter Try.func36, Try.ntmps36
  go_wp2_with fail
  refine calls_of_args (args' := #[.int .u64 0, .int .i64 ((8 : Nat) : Int)]) rfl ?_
  refine (bigEndian_c 0 8 (by omega) _).mono ?_
  rintro e w2 ⟨rfl, hb2⟩
  rw [← HZ8.out]
  have HB2 := Aside0.mk hb2
  clear hb2
  go_wp2_with fail
  refine calls_of_args (args' := #[.int .u64 0, .int .i64 ((8 : Nat) : Int)]) rfl ?_
  refine (bigEndian_c 0 8 (by omega) _).mono ?_
  rintro e w3 ⟨rfl, hb3⟩
  rw [← HZ8.out]
  have HB3 := Aside0.mk (HB2.out.trans (hb3.mono HB2.out.size))
  clear hb3 HB2
  go_wp2_with fail
  rw [HZZ.out]
  refine (encrypt_c w3 c K zero16 (strOf_size _ _) (HC.out.below HB3.out)).mono ?_
  rintro e w4 ⟨rfl, hb4⟩
  have HB4 := Aside0.mk (HB3.out.trans (hb4.mono HB3.out.size))
  clear hb4 HB3
  go_wp2_with fail
  refine (polyOf_c (hashKey K) (strOf_size _ _) _).mono ?_
  rintro e w5 ⟨rfl, hb5⟩
  have HB5 := Aside0.mk (HB4.out.trans (hb5.mono HB4.out.size))
  clear hb5 HB4
  go_wp2_with fail
  obtain ⟨hh, hhh⟩ : ∃ x, x = wordH (hashKey K) := ⟨_, rfl⟩
  obtain ⟨hl, hhl⟩ : ∃ x, x = wordL (hashKey K) := ⟨_, rfl⟩
  rw [← hhh, ← hhl]
  obtain ⟨wb, hwb⟩ : ∃ wb, wb = w5.heap.size := ⟨_, rfl⟩
  rw [← hwb]
  have hbk := blk_new w5 (.cells #[Value.int .u64 (hh.toNat : Int), Value.int .u64 (hl.toNat : Int)] 76)
  rw [← hwb] at hbk
  have HQ := Aside0.mk hbk
  have HB6 := Aside0.mk (HB5.out.alloc HB5.out.size (.cells #[Value.int .u64 (hh.toNat : Int), Value.int .u64 (hl.toNat : Int)] 76))
  have HHH := Aside0.mk hhh
  have HHL := Aside0.mk hhl
  clear hbk hwb HB5 hhh hhl
  generalize w5.alloc (.cells #[Value.int .u64 (hh.toNat : Int), Value.int .u64 (hl.toNat : Int)] 76) = w6 at HQ HB6 ⊢
  obtain ⟨s1, hs1⟩ : ∃ b, b = strOfNums (be ((8 * beside.size : Nat) : Int) 8) := ⟨_, rfl⟩
  obtain ⟨s2, hs2⟩ : ∃ b, b = strOfNums (be ((8 * sealed_.size : Nat) : Int) 8) := ⟨_, rfl⟩
  have hs1s : s1.size = 8 := by rw [hs1, strOfNums_size, be_length]
  have hs2s : s2.size = 8 := by rw [hs2, strOfNums_size, be_length]
  have hcs : (9223372036854775807 < s1.size + s2.size) = False := by rw [hs1s, hs2s]; simp
  have hss : (s1 ++ s2).size = 16 := by rw [ByteArray.size_append, hs1s, hs2s]
  have HS1 := Aside0.mk hs1
  have HS2 := Aside0.mk hs2
  have HSS := Aside0.mk hss
  clear hs1 hs2 hs1s hs2s hss
  refine calls_of_args (args' := #[.int .u64 ((8 * beside.size : Nat) : Int), .int .i64 ((8 : Nat) : Int)]) (by rw [Int.natCast_mul]; rfl) ?_
  refine (bigEndian_c _ 8 (by omega) _).mono ?_
  rintro e w7 ⟨rfl, hb7⟩
  rw [← HS1.out]
  have HQ7 := Aside0.mk (blk_below HQ.out hb7)
  have HB7 := Aside0.mk (HB6.out.trans (hb7.mono HB6.out.size))
  clear hb7 HQ HB6
  go_wp2_with fail
  refine calls_of_args (args' := #[.int .u64 ((8 * sealed_.size : Nat) : Int), .int .i64 ((8 : Nat) : Int)]) (by rw [Int.natCast_mul]; rfl) ?_
  refine (bigEndian_c _ 8 (by omega) _).mono ?_
  rintro e w8 ⟨rfl, hb8⟩
  rw [← HS2.out]
  have HQ8 := Aside0.mk (blk_below HQ7.out hb8)
  have HB8 := Aside0.mk (HB7.out.trans (hb8.mono HB7.out.size))
  clear hb8 HQ7 HB7
  go_wp2_with fail
  obtain ⟨sz, hsz⟩ : ∃ b, b = s1 ++ s2 := ⟨_, rfl⟩
  rw [← hsz]
  have hszs : sz.size = 16 := by rw [hsz]; exact HSS.out
  obtain ⟨f1, hf1⟩ : ∃ b, b = fillS beside := ⟨_, rfl⟩
  obtain ⟨f2, hf2⟩ : ∃ b, b = fillS sealed_ := ⟨_, rfl⟩
  have hf1s : f1.size ≤ 2016 ∧ f1.size % 16 = 0 := by rw [hf1, fillS_size]; omega
  have hf2s : f2.size ≤ 2016 ∧ f2.size % 16 = 0 := by rw [hf2, fillS_size]; omega
  have hc1 : (9223372036854775807 < f1.size + f2.size) = False := by simp; omega
  have hc2 : (9223372036854775807 < f1.size + f2.size + sz.size) = False := by simp; omega
  obtain ⟨tt, htt⟩ : ∃ b, b = f1 ++ f2 ++ sz := ⟨_, rfl⟩
  have htts : tt.size ≤ 1000000 ∧ tt.size % 16 = 0 := by rw [htt, ByteArray.size_append, ByteArray.size_append]; omega
  have htte : tt = tagText beside sealed_ := by rw [htt, hf1, hf2, hsz, HS1.out, HS2.out]; rfl
  have HTTE := Aside0.mk htte
  have HTTS := Aside0.mk htts
  have HTT := Aside0.mk htt
  have HF1 := Aside0.mk hf1
  have HF2 := Aside0.mk hf2
  have HSZ := Aside0.mk hsz
  clear htte htts htt hf1 hf2 hsz hszs hf1s hf2s hcs
  have hfil1 : ∀ W, Calls Try.prog 52 #[.string beside] W fun e w' => e = .returned (.string f1) ∧ Below W.heap.size W w' := fun W => by rw [HF1.out]; exact filled_c W beside (by omega)
  have hfil2 : ∀ W, Calls Try.prog 52 #[.string sealed_] W fun e w' => e = .returned (.string f2) ∧ Below W.heap.size W w' := fun W => by rw [HF2.out]; exact filled_c W sealed_ (by omega)
  have hgh : ∀ W, Calls Try.prog 51 #[.agg #[.int .u64 (hh.toNat : Int), .int .u64 (hl.toNat : Int)], .string (f1 ++ f2 ++ sz)] W fun e w' => e = .returned (.agg #[.int .u64 ((ghW hh hl tt).1.toNat : Int), .int .u64 ((ghW hh hl tt).2.toNat : Int)]) ∧ Below W.heap.size W w' := fun W => by rw [← HTT.out]; exact ghash_c hh hl tt HTTS.out.1 HTTS.out.2 W
  obtain ⟨pp, hpp⟩ : ∃ p, p = ghW hh hl tt := ⟨_, rfl⟩
  rw [← hpp] at hgh
  have HPP := Aside0.mk hpp
  clear hpp
  have HFIL1 := Aside0.mk hfil1
  have HFIL2 := Aside0.mk hfil2
  have HGH := Aside0.mk hgh
  clear hfil1 hfil2 hgh
  refine region_quiet (C := fun w' => w'.cell? ⟨wb, 0, none⟩ = some (.int .u64 (hh.toNat : Int)) ∧ w'.cell? ⟨wb, 1, none⟩ = some (.int .u64 (hl.toNat : Int)) ∧ Aside0 (Below w.heap.size w w') ∧ True) (by kernel_rfl) (by kernel_rfl) ?hC ?_
  case hC => exact ⟨(blk_cell HQ8.out 0).trans rfl, (blk_cell HQ8.out 1).trans rfl, ⟨HB8.out.drew⟩, trivial⟩
  repeat (first
    | go_big_quiet_skip
    | (go_big_quiet_want; refine quiet_call ?_ Try.func52 (by kernel_rfl) rfl #[.string beside] rfl (by (try simp only [List.map_toArray, List.map_cons, List.map_nil]); first | done | rfl) ?_ ?_; rotate_left 1; (· (rintro w' ⟨z0, z1, z2, z3⟩; refine (HFIL1.out w').mono ?_; rintro e w'' ⟨rfl, hb⟩; exact ⟨by with_reducible rfl, cb_ z0 hb, cb_ z1 hb, ⟨z2.out.trans (hb.mono z2.out.size)⟩, z3⟩)); simp only [Act.put, List.setIfInBounds_toArray, List.set_cons_zero, List.set_cons_succ, i64_w, i32_w]; go_big_quiet_on)
    | (go_big_quiet_want; refine quiet_call ?_ Try.func52 (by kernel_rfl) rfl #[.string sealed_] rfl (by (try simp only [List.map_toArray, List.map_cons, List.map_nil]); first | done | rfl) ?_ ?_; rotate_left 1; (· (rintro w' ⟨z0, z1, z2, z3⟩; refine (HFIL2.out w').mono ?_; rintro e w'' ⟨rfl, hb⟩; exact ⟨by with_reducible rfl, cb_ z0 hb, cb_ z1 hb, ⟨z2.out.trans (hb.mono z2.out.size)⟩, z3⟩)); simp only [Act.put, List.setIfInBounds_toArray, List.set_cons_zero, List.set_cons_succ, i64_w, i32_w]; go_big_quiet_on)
    | (go_big_quiet_want; refine quiet_call ?_ Try.func51 (by kernel_rfl) rfl #[.agg #[.int .u64 (hh.toNat : Int), .int .u64 (hl.toNat : Int)], .string (f1 ++ f2 ++ sz)] rfl (by (try simp only [List.map_toArray, List.map_cons, List.map_nil]); first | done | rfl) ?_ ?_; rotate_left 1; (· (rintro w' ⟨z0, z1, z2, z3⟩; refine (HGH.out w').mono ?_; rintro e w'' ⟨rfl, hb⟩; exact ⟨by with_reducible rfl, cb_ z0 hb, cb_ z1 hb, ⟨z2.out.trans (hb.mono z2.out.size)⟩, z3⟩)); simp only [Act.put, List.setIfInBounds_toArray, List.set_cons_zero, List.set_cons_succ, i64_w, i32_w]; go_big_quiet_on)
    | (go_big_quiet_want; refine quiet_call ?_ Try.func53 (by kernel_rfl) rfl #[.agg #[.int .u64 (pp.1.toNat : Int), .int .u64 (pp.2.toNat : Int)]] rfl (by (try simp only [List.map_toArray, List.map_cons, List.map_nil]); first | done | rfl) ?_ ?_; rotate_left 1; (· (rintro w' ⟨z0, z1, z2, z3⟩; refine (polyText_c pp w').mono ?_; rintro e w'' ⟨rfl, hb⟩; exact ⟨by with_reducible rfl, cb_ z0 hb, cb_ z1 hb, ⟨z2.out.trans (hb.mono z2.out.size)⟩, z3⟩)); simp only [Act.put, List.setIfInBounds_toArray, List.set_cons_zero, List.set_cons_succ, i64_w, i32_w]; go_big_quiet_on)
    | (go_big_quiet_want; refine quiet_op (v := ?_) ?_ ?_; rotate_left 1; (· (rintro w' ⟨z0, z1, -, -⟩; go_simp; with_reducible rfl)); simp only [Act.put, List.setIfInBounds_toArray, List.set_cons_zero, List.set_cons_succ, i64_w, i32_w]; go_big_quiet_on))
  refine wpQuiet_nil ?_
  rintro w9 ⟨-, -, HB9, -⟩
  have hps : (textW pp).size = 16 := textW_size pp
  have HPS := Aside0.mk hps
  obtain ⟨sm, hsm⟩ : ∃ b, b = textW pp := ⟨_, rfl⟩
  rw [← hsm]
  have HSM := Aside0.mk hsm
  clear hps hsm
  obtain ⟨o4, ho4⟩ : ∃ b, b = strOfNums (be 1 4) := ⟨_, rfl⟩
  have ho4s : o4.size = 4 := by rw [ho4, strOfNums_size, be_length]
  have hco : (9223372036854775807 < nonce.size + o4.size) = False := by rw [ho4s, HN.out]; simp
  have hno : (nonce ++ o4).size = 16 := by rw [ByteArray.size_append, ho4s, HN.out]
  have HO4 := Aside0.mk ho4
  have HNO := Aside0.mk hno
  clear ho4 ho4s hno
  go_wp2_with fail
  refine calls_of_args (args' := #[.int .u64 1, .int .i64 ((4 : Nat) : Int)]) rfl ?_
  refine (bigEndian_c 1 4 (by omega) _).mono ?_
  rintro e w10 ⟨rfl, hb10⟩
  rw [← HO4.out]
  have HB10 := Aside0.mk (HB9.out.trans (hb10.mono HB9.out.size))
  clear hb10 HB9
  go_wp2_with fail
  refine (encrypt_c w10 c K _ HNO.out (HC.out.below HB10.out)).mono ?_
  rintro e w11 ⟨rfl, hb11⟩
  have HB11 := Aside0.mk (HB10.out.trans (hb11.mono HB10.out.size))
  clear hb11 HB10
  go_wp2_with fail
  refine (xored_c w11 sm _ (by rw [HSM.out, HPS.out]; omega) (by rw [HSM.out, HPS.out, strOf_size]; omega)).mono ?_
  rintro e w12 ⟨rfl, hb12⟩
  have HB12 := Aside0.mk (HB11.out.trans (hb12.mono HB11.out.size))
  clear hb12 HB11
  go_wp2
  go_ret
  refine ⟨?_, HB12.out⟩
  have hfin : strOf sm.size (fun i => byteAt sm i ^^^ byteAt (strOf 16 (enc K (byteAt (nonce ++ o4)) 10)) i) = tagF K nonce beside sealed_ := by
    unfold tagF tagSum
    rw [HSM.out, HPS.out, HPP.out, HTTE.out, HHH.out, HHL.out, HO4.out, one4_be]
  rw [← hfin]
  rfl
end Go.Proofs.Ytkcdhphhacjkhaa.B
