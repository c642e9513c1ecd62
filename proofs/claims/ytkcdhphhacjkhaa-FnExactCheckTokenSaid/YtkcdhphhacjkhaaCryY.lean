/- The reference's tag. -/
import Derived.Test.YtkcdhphhacjkhaaCryR
import Derived.Deep.RegionHeld3
namespace Go.Proofs.Ytkcdhphhacjkhaa.B
open Go.RowKit Go.Proofs.YtkcdhphhacjkhaaW.PrintWords Go.Proofs.YtkcdhphhacjkhaaW.PrintLast Go.Proofs.YtkcdhphhacjkhaaW.PrintMore
open Go.Proofs.Ytkcdhphhacjkhaa.AES
open Go.Proofs.Ytkcdhphhacjkhaa
open Go.Proofs.Ytkcdhphhacjkhaa.QuietK
attribute [local go_sem] Go.Proofs.Ytkcdhphhacjkhaa.StoreK.isSome_setCell
set_option linter.unusedVariables false
set_option linter.unusedSimpArgs false
theorem back_run {P : Program} {W : World} (src dst e : TypeId) (g n c : Nat) (f : Nat → UInt8) (hs : P.underlying src = some (.slice e)) (he : P.underlying e = some (.int .u8)) (hd : P.underlying dst = some .string) (hr : RdB W g 0 n f) : (convert src dst (.slice (some ⟨g, 0, none⟩) n c)).run P W = .ok (.string (strOf n f)) W := by
  have hb := run_convert_bytes_back (P := P) W src dst e ⟨g, 0, none⟩ c ((List.range n).map f) hs he hd (fun j hj => by
    rw [Addr.add_lit]
    rw [hr j (by simpa using hj)]
    simp)
  rw [List.length_map, List.length_range] at hb
  simpa [strOf] using hb
theorem Bt {w X Y : World} (h : Below w.heap.size w X) (h' : Below X.heap.size X Y) : Below w.heap.size w Y := h.trans (h'.mono h.size)
set_option maxHeartbeats 40000000 in
set_option maxRecDepth 100000 in
theorem stag_c (w : World) (k : Nat) (K : Nat → UInt8) (nonce beside sealed_ : ByteArray) (hk : KeyR w k K) (hn : nonce.size = 12) (hb : beside.size ≤ 2000) (hs : sealed_.size ≤ 2000) :
    Calls Try.prog 45 #[.pointer (some ⟨k, 0, none⟩), .string nonce, .string beside, .string sealed_] w fun e w' => e = .returned (.string (tagF K nonce beside sealed_)) ∧ Below w.heap.size w w' := by
  obtain ⟨kg, kc, tg, tc, hkc, hbk, hK, hT⟩ := hk
  obtain ⟨hh, hhh⟩ : ∃ x, x = hashKey K := ⟨_, rfl⟩
  rw [← hhh] at hbk
  have hhs : hh.size = 16 := by rw [hhh]; exact strOf_size _ _
  have HQ := Aside0.mk hbk
  have HK := Aside0.mk hK
  have HT := Aside0.mk hT
  have HN := Aside0.mk hn
  have HHH := Aside0.mk hhh
  have HHS := Aside0.mk hhs
  obtain ⟨m1, hm1⟩ : ∃ m, m = 8 * beside.size := ⟨_, rfl⟩
  obtain ⟨m2, hm2⟩ : ∃ m, m = 8 * sealed_.size := ⟨_, rfl⟩
  have W1 := Aside0.mk (mulI (c := 8) (C := 8) rfl hm1 (by omega))
  have W2 := Aside0.mk (mulI (c := 8) (C := 8) rfl hm2 (by omega))
  obtain ⟨s1, hs1⟩ : ∃ b, b = strOfNums (be (m1 : Int) 8) := ⟨_, rfl⟩
  obtain ⟨s2, hs2⟩ : ∃ b, b = strOfNums (be (m2 : Int) 8) := ⟨_, rfl⟩
  have hs1s : s1.size = 8 := by rw [hs1, strOfNums_size, be_length]
  have hs2s : s2.size = 8 := by rw [hs2, strOfNums_size, be_length]
  obtain ⟨f1, hf1⟩ : ∃ b, b = fillS beside := ⟨_, rfl⟩
  obtain ⟨f2, hf2⟩ : ∃ b, b = fillS sealed_ := ⟨_, rfl⟩
  have hf1s : f1.size ≤ 2016 ∧ f1.size % 16 = 0 := by rw [hf1, fillS_size]; omega
  have hf2s : f2.size ≤ 2016 ∧ f2.size % 16 = 0 := by rw [hf2, fillS_size]; omega
  have hc1 : (9223372036854775807 < f1.size + f2.size) = False := by simp; omega
  have hc2 : (9223372036854775807 < f1.size + f2.size + s1.size) = False := by simp; omega
  have hc3 : (9223372036854775807 < f1.size + f2.size + s1.size + s2.size) = False := by simp; omega
  obtain ⟨tt, htt⟩ : ∃ b, b = f1 ++ f2 ++ s1 ++ s2 := ⟨_, rfl⟩
  have htts : tt.size ≤ 1000000 ∧ tt.size % 16 = 0 := by rw [htt]; simp only [ByteArray.size_append]; omega
  have htte : tt = tagText beside sealed_ := by
    rw [htt, hf1, hf2, hs1, hs2, hm1, hm2]
    unfold tagText
    rw [ByteArray.append_assoc]
  have hfil1 : ∀ W, Calls Try.prog 60 #[.string beside] W fun e w' => e = .returned (.string f1) ∧ Below W.heap.size W w' := fun W => by rw [hf1]; exact full_c beside (by omega) W
  have hfil2 : ∀ W, Calls Try.prog 60 #[.string sealed_] W fun e w' => e = .returned (.string f2) ∧ Below W.heap.size W w' := fun W => by rw [hf2]; exact full_c sealed_ (by omega) W
  have hx1 : ∀ W, Calls Try.prog 32 #[.int .i64 (m1 : Int), .int .i64 8] W fun e w' => e = .returned (.string s1) ∧ Below W.heap.size W w' := fun W => by rw [hs1]; exact l1Fixed_c (m1 : Int) 8 (by omega) W
  have hx2 : ∀ W, Calls Try.prog 32 #[.int .i64 (m2 : Int), .int .i64 8] W fun e w' => e = .returned (.string s2) ∧ Below W.heap.size W w' := fun W => by rw [hs2]; exact l1Fixed_c (m2 : Int) 8 (by omega) W
  obtain ⟨pp, hpp⟩ : ∃ p, p = ghW (wordH hh) (wordL hh) tt := ⟨_, rfl⟩
  have hgh : ∀ W, Calls Try.prog 62 #[.string hh, .string tt] W fun e w' => e = .returned (.agg #[.int .u64 (pp.1.toNat : Int), .int .u64 (pp.2.toNat : Int)]) ∧ Below W.heap.size W w' := fun W => by rw [hpp]; exact l5Ghash_c hh tt hhs htts.1 htts.2 W
  have HFIL1 := Aside0.mk hfil1
  have HFIL2 := Aside0.mk hfil2
  have HX1 := Aside0.mk hx1
  have HX2 := Aside0.mk hx2
  have HGH := Aside0.mk hgh
  have HTT := Aside0.mk htt
  have HTTE := Aside0.mk htte
  have HPP := Aside0.mk hpp
  have q0 : w.cell? ⟨k, 0, none⟩ = some (.slice (some ⟨kg, 0, none⟩) 176 kc) := blk_cell hbk 0
  have q1 : w.cell? ⟨k, 1, none⟩ = some (.slice (some ⟨tg, 0, none⟩) 256 tc) := blk_cell hbk 1
  have q2 : w.cell? ⟨k, 2, none⟩ = some (.string hh) := blk_cell hbk 2
  clear hfil1 hfil2 hx1 hx2 hgh htt htte hpp htts hf1 hf2 hs1 hs2 hm1 hm2 hhh hhs hn hK hT hbk hf1s hf2s hs1s hs2s
  go_enter Try.func45, Try.ntmps45
  go_wp2_with fail
  refine (HFIL1.out _).mono ?_
  rintro e w1 ⟨rfl, hb1⟩
  have HB1 := Aside0.mk hb1
  clear hb1
  go_wp2_with fail
  refine (HFIL2.out _).mono ?_
  rintro e w2 ⟨rfl, hb2⟩
  have HB2 := Aside0.mk (HB1.out.trans (hb2.mono HB1.out.size))
  clear hb2 HB1
  obtain ⟨y1, y1'⟩ := W1.out
  obtain ⟨y2, y2'⟩ := W2.out
  go_wp2_with fail
  refine (HX1.out _).mono ?_
  rintro e w3 ⟨rfl, hb3⟩
  have HB3 := Aside0.mk (HB2.out.trans (hb3.mono HB2.out.size))
  clear hb3 HB2
  go_wp2_with fail
  refine (HX2.out _).mono ?_
  rintro e w4 ⟨rfl, hb4⟩
  have HB4 := Aside0.mk (HB3.out.trans (hb4.mono HB3.out.size))
  clear hb4 HB3
  have q2' : w4.cell? ⟨k, 2, none⟩ = some (.string hh) := cb_ q2 HB4.out
  go_wp2_with fail
  clear y1 y1' y2 y2' hc1 hc2 hc3
  rw [← HTT.out]
  refine (HGH.out _).mono ?_
  rintro e w5 ⟨rfl, hb5⟩
  have HB5 := Aside0.mk (HB4.out.trans (hb5.mono HB4.out.size))
  clear hb5 HB4 q2'
  go_wp2_with fail
  refine (told_c pp _).mono ?_
  rintro e w6 ⟨rfl, hb6⟩
  have HB6 := Aside0.mk (HB5.out.trans (hb6.mono HB5.out.size))
  clear hb6 HB5
  go_wp2
  obtain ⟨sm, hsm⟩ : ∃ b, b = textW pp := ⟨_, rfl⟩
  have hsms : sm.size = 16 := by rw [hsm]; exact textW_size pp
  obtain ⟨no, hno⟩ : ∃ b : ByteArray, b = nonce ++ ⟨#[0, 0, 0, 1]⟩ := ⟨_, rfl⟩
  have hnos : no.size = 16 := by
    rw [hno, ByteArray.size_append, HN.out]; rfl
  have hcat : (9223372036854775807 < nonce.size + 4) = False := by rw [HN.out]; simp
  obtain ⟨blk, hblk⟩ : ∃ b, b = strOf 16 (enc K (byteAt no) 10) := ⟨_, rfl⟩
  have hbs : blk.size = 16 := by rw [hblk, strOf_size]
  obtain ⟨B1, C1, hcv1, HBW1⟩ : ∃ (B : World → World) (C : World → Nat), (∀ W : World, (convert 9 56 (.string sm)).run Try.prog W = .ok (.slice (some ⟨W.heap.size, 0, none⟩) 16 (C W)) (B W)) ∧ Aside0 (∀ W : World, RdB (B W) W.heap.size 0 16 (byteAt sm) ∧ Below W.heap.size W (B W)) := by
    refine ⟨fun W => Lib.bytesWorld W 5 sm, fun W => grownCap W sm.size 0 5, fun W => ?_, ⟨fun W => ?_⟩⟩
    · have := Lib.run_convert_string_bytes (P := Try.prog) W 9 56 5 sm Try.underlying9 Try.underlying56 Try.underlying5
      rwa [show (Value.slice (some ⟨W.heap.size, 0, none⟩) sm.size (grownCap W sm.size 0 5)) = (Value.slice (some ⟨W.heap.size, 0, none⟩) 16 (grownCap W sm.size 0 5)) by rw [hsms]] at this
    · have := bytesW_facts W 5 sm
      rw [hsms] at this
      exact ⟨this.1.1, this.2⟩
  obtain ⟨B2, C2, hcv2, HBW2⟩ : ∃ (B : World → World) (C : World → Nat), (∀ W : World, (convert 9 56 (.string blk)).run Try.prog W = .ok (.slice (some ⟨W.heap.size, 0, none⟩) 16 (C W)) (B W)) ∧ Aside0 (∀ W : World, RdB (B W) W.heap.size 0 16 (byteAt blk) ∧ Below W.heap.size W (B W)) := by
    refine ⟨fun W => Lib.bytesWorld W 5 blk, fun W => grownCap W blk.size 0 5, fun W => ?_, ⟨fun W => ?_⟩⟩
    · have := Lib.run_convert_string_bytes (P := Try.prog) W 9 56 5 blk Try.underlying9 Try.underlying56 Try.underlying5
      rwa [show (Value.slice (some ⟨W.heap.size, 0, none⟩) blk.size (grownCap W blk.size 0 5)) = (Value.slice (some ⟨W.heap.size, 0, none⟩) 16 (grownCap W blk.size 0 5)) by rw [hbs]] at this
    · have := bytesW_facts W 5 blk
      rw [hbs] at this
      exact ⟨this.1.1, this.2⟩
  have HD : Aside0 (Below w6.heap.size w6 w6.drew) := ⟨(Below.refl _ _).drew⟩
  have HW : Aside0 (∀ W, Below w.heap.size w W → Calls Try.prog 43 #[.slice (some ⟨kg, 0, none⟩) 176 kc, .slice (some ⟨tg, 0, none⟩) 256 tc, .string no] W fun e w' => e = .returned (.string blk) ∧ Below W.heap.size W w') := ⟨fun W hW => by
    rw [hblk]
    exact l3With_c W kg kc tg tc K no hnos (HK.out.below hW) hkc (HT.out.below hW)⟩
  have HXF : Aside0 (strOf 16 (fun i => byteAt sm i ^^^ byteAt blk i) = tagF K nonce beside sealed_) := ⟨by
    unfold tagF tagSum
    rw [hblk, hno, hsm, HPP.out, HTTE.out, HHH.out]⟩
  rw [← hsm]
  have q0a : w6.drew.cell? ⟨k, 0, none⟩ = some (.slice (some ⟨kg, 0, none⟩) 176 kc) := cb_ q0 (Bt HB6.out HD.out)
  have q1a : w6.drew.cell? ⟨k, 1, none⟩ = some (.slice (some ⟨tg, 0, none⟩) 256 tc) := cb_ q1 (Bt HB6.out HD.out)
  have q0b : (B1 w6.drew).cell? ⟨k, 0, none⟩ = some (.slice (some ⟨kg, 0, none⟩) 176 kc) := cb_ q0a (HBW1.out _).2
  have q1b : (B1 w6.drew).cell? ⟨k, 1, none⟩ = some (.slice (some ⟨tg, 0, none⟩) 256 tc) := cb_ q1a (HBW1.out _).2
  have hno' : nonce ++ (⟨#[0, 0, 0, 1]⟩ : ByteArray) = no := hno.symm
  have HA6 : Aside0 (RdB (B1 w6.drew) w6.heap.size 0 16 (byteAt sm)) := ⟨(HBW1.out w6.drew).1⟩
  have HD6 := Aside0.mk (Bt HB6.out HD.out)
  have HE6 := Aside0.mk (Bt (Bt HB6.out HD.out) (HBW1.out _).2)
  have Q0 := Aside0.mk q0
  have Q1 := Aside0.mk q1
  have hk1 : ∀ (W : World) (p : Addr) (v : Value), W.cell? p = some v → (B1 W).cell? p = some v := fun W p v h => cb_ h (HBW1.out W).2
  have hk2 : ∀ (W : World) (p : Addr) (v : Value), W.cell? p = some v → (B2 W).cell? p = some v := fun W p v h => cb_ h (HBW2.out W).2
  clear hsm hsms hno hnos hblk hbs q0 q1 q2 HFIL1 HFIL2 HX1 HX2 HGH HTT HTTE HPP W1 W2 HK HT HHH HHS HN HQ HB6 HD hb hs hkc
  go_region_with (first
    | (go_at_call 43; first | (with_reducible refine (HW.out _ HD6.out).mono ?_; rintro e w7 ⟨rfl, hb7⟩; have d0 := cb_ q0a hb7; have d1 := cb_ q1a hb7; have H7 := Aside0.mk hb7; clear hb7) | (with_reducible refine (HW.out _ HE6.out).mono ?_; rintro e w7 ⟨rfl, hb7⟩; have d0 := cb_ q0b hb7; have d1 := cb_ q1b hb7; have H7 := Aside0.mk hb7; clear hb7))
    | (go_at_call 58; first
      | (with_reducible refine (l3Xor_c _ _ 0 _ _ 0 _ 16 (byteAt sm) (byteAt blk) (by decide) ((HA6.out.below H7.out).below (HBW2.out _).2) (HBW2.out _).1).mono ?_; rintro e w8 ⟨g, hg, rfl, hr8, hb8⟩; have HB8 := Aside0.mk (Bt (Bt (Bt HE6.out H7.out) (HBW2.out _).2) hb8); have hback := back_run (P := Try.prog) 56 9 5 g 16 16 _ Try.underlying56 Try.underlying5 Try.underlying9 hr8; rw [HXF.out] at hback; have e0 := cb_ Q0.out HB8.out; have e1 := cb_ Q1.out HB8.out; clear hr8 hb8 hg)
      | (with_reducible refine (l3Xor_c _ _ 0 _ _ 0 _ 16 (byteAt sm) (byteAt blk) (by decide) ((HBW1.out _).1.below (HBW2.out _).2) (HBW2.out _).1).mono ?_; rintro e w8 ⟨g, hg, rfl, hr8, hb8⟩; have HB8 := Aside0.mk (Bt (Bt (Bt (Bt HD6.out H7.out) (HBW1.out _).2) (HBW2.out _).2) hb8); have hback := back_run (P := Try.prog) 56 9 5 g 16 16 _ Try.underlying56 Try.underlying5 Try.underlying9 hr8; rw [HXF.out] at hback; have e0 := cb_ Q0.out HB8.out; have e1 := cb_ Q1.out HB8.out; clear hr8 hb8 hg)
      | (with_reducible refine (l3Xor_c _ _ 0 _ _ 0 _ 16 (byteAt sm) (byteAt blk) (by decide) (HBW1.out _).1 ((HBW2.out _).1.below (HBW1.out _).2)).mono ?_; rintro e w8 ⟨g, hg, rfl, hr8, hb8⟩; have HB8 := Aside0.mk (Bt (Bt (Bt (Bt HD6.out H7.out) (HBW2.out _).2) (HBW1.out _).2) hb8); have hback := back_run (P := Try.prog) 56 9 5 g 16 16 _ Try.underlying56 Try.underlying5 Try.underlying9 hr8; rw [HXF.out] at hback; have e0 := cb_ Q0.out HB8.out; have e1 := cb_ Q1.out HB8.out; clear hr8 hb8 hg)))
  all_goals go_wp2
  all_goals
    go_ret
    exact ⟨rfl, HB8.out⟩
end Go.Proofs.Ytkcdhphhacjkhaa.B
