/- Texts sealed and opened by the program. -/
import Derived.Test.YtkcdhphhacjkhaaCryC
import Derived.Test.YtkcdhphhacjkhaaCryT
import Derived.Laws.Cover3
namespace Go.Proofs.Ytkcdhphhacjkhaa.B
open Go.RowKit Go.Proofs.YtkcdhphhacjkhaaW.PrintWords Go.Proofs.YtkcdhphhacjkhaaW.PrintLast Go.Proofs.YtkcdhphhacjkhaaW.PrintMore
open Go.Proofs.Ytkcdhphhacjkhaa.AES
open Go.Proofs.Ytkcdhphhacjkhaa
attribute [local go_sem] Go.Proofs.Ytkcdhphhacjkhaa.StoreK.isSome_setCell min2_int min_two
set_option linter.unusedVariables false
set_option linter.unusedSimpArgs false
/-- A text xored with the blocks of a counter. -/
def ctr (K : Nat → UInt8) (hd text : ByteArray) : ByteArray := strOf text.size (fun i => byteAt text i ^^^ enc K (byteAt (hd ++ strOfNums (be ((2 + i / 16 : Nat) : Int) 4))) 10 (i % 16))
set_option maxHeartbeats 4000000 in
set_option maxRecDepth 100000 in
theorem counter_c (w : World) (c : Nat) (K : Nat → UInt8) (st text : ByteArray) (hC : Ciph w c K) (hs : st.size = 16) (hn : nb (st.extract 12 st.size).data.toList 0 = 2) (ht : text.size ≤ 2000) :
    Calls Try.prog 48 #[.pointer (some ⟨c, 0, none⟩), .string st, .string text] w fun e w' => e = .returned (.string (ctr K (st.extract 0 12) text)) ∧ Below w.heap.size w w' := by
  have HC := Aside0.mk hC
  have HS := Aside0.mk hs
  have HN := Aside0.mk hn
  have hsz : ((st.extract 12 st.size)).size ≤ 1000 := by rw [ByteArray.size_extract]; omega
  have hl1 : (12 : Int) ≤ (st.size : Int) := by omega
  have hl2 : 12 ≤ st.size := by omega
  have hcv := fun W : World => Lib.run_convert_string_bytes (P := Try.prog) W 9 56 5 text Try.underlying9 Try.underlying56 Try.underlying5
  have hnum : ∀ W, Calls Try.prog 29 #[.string (st.extract 12 st.size)] W fun e w' => e = .returned (.int .u64 2) ∧ Drawn0 W w' := fun W => by
    have := numberOf_c (st.extract 12 st.size) hsz W
    rw [hn] at this
    exact this
  obtain ⟨hdr, hhd⟩ : ∃ h, h = st.extract 0 12 := ⟨_, rfl⟩
  have hhs : hdr.size = 12 := by rw [hhd, ByteArray.size_extract]; omega
  have HHD := Aside0.mk hhd
  have HHS := Aside0.mk hhs
  rw [← hhd]
  obtain ⟨R, hR⟩ : ∃ R, R = (fun i => byteAt text i ^^^ enc K (byteAt (hdr ++ strOfNums (be ((2 + i / 16 : Nat) : Int) 4))) 10 (i % 16)) := ⟨_, rfl⟩
  have HR := Aside0.mk hR
  clear hC hs hn hhd hhs hR
  go_enter Try.func48, Try.ntmps48
  go_wp2
  go_region_with (go_at_call 29; refine (hnum _).mono ?_; rintro e w' ⟨rfl, ⟨m, rfl⟩⟩)
  all_goals go_wp2_with fail
  · have HF := (show OwB ((Lib.bytesWorld w.drew 5 text).drewN m) w.heap.size 0 text.size (byteAt text) ∧ Below w.heap.size w ((Lib.bytesWorld w.drew 5 text).drewN m) from ⟨(bytesW_facts w.drew 5 text).1.drawn ⟨m, rfl⟩, below_drawn (((Below.refl w.heap.size w).drew).trans (bytesW_facts w.drew 5 text).2) ⟨m, rfl⟩⟩)
    have HO := Aside0.mk HF.1
    have HB := Aside0.mk HF.2
    clear HF hcv hnum
    obtain ⟨g, hg⟩ : ∃ g, g = w.heap.size := ⟨_, rfl⟩
    have HGE := Aside0.mk hg
    rw [← hg] at HO ⊢
    clear hg
    rw [← HHD.out]
    generalize grownCap w.drew text.size 0 5 = cap
    generalize ((Lib.bytesWorld w.drew 5 text).drewN m) = w1 at HO HB ⊢
    have hwg : w.heap.size ≤ g := Nat.le_of_eq HGE.out.symm
    go_loopg [9, 10] (text.size + 16) (fun gg v9 v10 wr => ∃ j i : Nat, i = 16 * j ∧ i ≤ text.size + 15 ∧ text.size + 16 - i ≤ gg ∧ v10 = .int .i64 (i : Int) ∧ v9 = .int .u32 ((2 + j : Nat) : Int) ∧ Aside0 (OwB wr g 0 text.size (mixA i R (byteAt text))) ∧ Aside0 (Below w.heap.size w wr))
    case atStart => exact ⟨0, 0, rfl, by omega, by omega, rfl, rfl, ⟨by rw [mixA_zero]; exact HO.out⟩, HB⟩
    case round =>
      clear HO HB
      obtain ⟨j, i, hij, hi, hgg, rfl, rfl, HO, HB⟩ := hrel
      by_cases hlt : i < text.size
      · have hd : decide (i < text.size) = true := decide_eq_true hlt
        obtain ⟨i16, hi16⟩ : ∃ q, q = i + 16 := ⟨_, rfl⟩
        obtain ⟨jj, hjj⟩ : ∃ q, q = 2 + j := ⟨_, rfl⟩
        have W16 := Aside0.mk (addL (c := 16) (C := 16) rfl hi16 (by omega))
        have hjb : jj ≤ 1000 := by omega
        have hju : (jj : Int) % 4294967296 = (jj : Int) := by omega
        have hju1 : ((jj : Int) + 1) % 4294967296 = ((2 + (j + 1) : Nat) : Int) := by omega
        rw [← hjj]
        have HIJ := Aside0.mk hij
        have HJJ := Aside0.mk hjj
        have HJU1 := Aside0.mk hju1
        obtain ⟨b4, hb4⟩ : ∃ b, b = strOfNums (be (jj : Int) 4) := ⟨_, rfl⟩
        have hb4s : b4.size = 4 := by rw [hb4, strOfNums_size, be_length]
        have hcat : (9223372036854775807 < hdr.size + b4.size) = False := by
          rw [hb4s, HHS.out]; simp
        have hsb : (hdr ++ b4).size = 16 := by
          rw [ByteArray.size_append, hb4s, HHS.out]
        have HB4 := Aside0.mk hb4
        clear hb4 hb4s
        have HSB := Aside0.mk hsb
        have HI16 := Aside0.mk hi16
        clear hij hjj hi16 hju1 hsb
        go_wp2_with fail
        refine calls_of_args (args' := #[.int .u64 (jj : Int), .int .i64 ((4 : Nat) : Int)]) (by first | rfl | (simp [hju])) ?_
        refine (bigEndian_c (jj : Int) 4 (by omega) _).mono ?_
        rintro e w2 ⟨rfl, hb2⟩
        rw [← HB4.out]
        have HO2 := Aside0.mk (HO.out.below hb2)
        have HB2 := Aside0.mk (HB.out.trans (hb2.mono HB.out.size))
        clear hb2 HO HB
        go_wp2_with fail
        refine (encrypt_c w2 c K _ HSB.out (HC.out.below HB2.out)).mono ?_
        rintro e w3 ⟨rfl, hb3⟩
        have HO3 := Aside0.mk (HO2.out.below hb3)
        have HB3 := Aside0.mk (HB2.out.trans (hb3.mono HB2.out.size))
        clear hb3 HO2 HB2
        obtain ⟨blk, hblk⟩ : ∃ b, b = strOf 16 (enc K (byteAt (hdr ++ b4)) 10) := ⟨_, rfl⟩
        rw [← hblk]
        have HBLK := Aside0.mk hblk
        have hbs : blk.size = 16 := by rw [hblk, strOf_size]
        have HBS := Aside0.mk hbs
        clear hblk hbs
        go_wp2_with fail
        obtain ⟨e, he⟩ : ∃ e, e = if text.size < i16 then text.size else i16 := ⟨_, rfl⟩
        have hie : i ≤ e ∧ e ≤ i + 16 ∧ e ≤ text.size ∧ (e < text.size → e = i + 16) := by
          have := HI16.out
          rw [he]
          split <;> omega
        obtain ⟨hie1, hie2, hie3, hie4⟩ := hie
        have HE4 := Aside0.mk hie4
        have hcase : (text.size < i16 ∧ e = text.size) ∨ (¬ text.size < i16 ∧ e = i16) := by
          by_cases h : text.size < i16
          · exact Or.inl ⟨h, by rw [he, if_pos h]⟩
          · exact Or.inr ⟨h, by rw [he, if_neg h]⟩
        clear he hie4
        obtain ⟨wo, rfl⟩ : ∃ wo : World, wo = w3 := ⟨_, rfl⟩
        rcases hcase with ⟨hmn, hee⟩ | ⟨hmn, hee⟩
        all_goals
          have HEE := Aside0.mk hee
          clear hee
          go_loopg [12] (e + 1) (fun gg v12 wr => ∃ k : Nat, i ≤ k ∧ k ≤ e ∧ e + 1 - k ≤ gg ∧ v12 = .int .i64 (k : Int) ∧ Aside0 (OwB wr g 0 text.size (mixA k R (byteAt text))) ∧ Aside0 (Below w.heap.size w wr))
          case atStart => exact ⟨i, Nat.le_refl _, hie1, by omega, rfl, HO3, HB3⟩
          case round =>
            clear HO3 HB3
            obtain ⟨k, hik, hke, hgk, rfl, HO, HB⟩ := hrel
            by_cases hlk : k < e
            · obtain ⟨q, hq⟩ : ∃ q, q = k - i := ⟨_, rfl⟩
              have hkn : k < text.size := by omega
              have hq16 : q < 16 := by omega
              have hqb : q < blk.size := by rw [HBS.out]; exact hq16
              have hki : (k : Int) - (i : Int) = (q : Int) := by omega
              have WS : Aside0 (IntKind.i64.wrap ((k : Int) - (i : Int)) = (q : Int) ∧ wrap64 ((k : Int) - (i : Int)) = (q : Int)) := ⟨by
                rw [hki]; exact ⟨wi64 _ (by omega), wr64 _ (by omega)⟩⟩
              have hval : byteAt text k ^^^ byteAt blk q = R k := by
                have h1 := HIJ.out
                have h2 := HJJ.out
                rw [HR.out]
                show _ = byteAt text k ^^^ enc K (byteAt (hdr ++ strOfNums (be ((2 + k / 16 : Nat) : Int) 4))) 10 (k % 16)
                rw [HBLK.out, byteAt_strOf _ _ _ hq16, HB4.out, show k / 16 = j by omega, show k % 16 = q by omega, ← h2]
              have HV := Aside0.mk hval
              have c2 : wr.cell? ⟨g, k, none⟩ = some (.int .u8 ((byteAt text k).toNat : Int)) := by
                have := HO.out.1.at0 k hkn
                rwa [mixA_at] at this
              have f2 : wr.frozen? ⟨g, k, none⟩ = false := HO.out.free0 k hkn
              have hke1 : decide (k < e) = true := decide_eq_true hlk
              have hkt : decide (k < text.size) = true := decide_eq_true hkn
              have hki1 : decide (k < i16) = true := decide_eq_true (by have := HI16.out; omega)
              have hki2 : k < i16 := by have := HI16.out; omega
              clear hq hki hval
              obtain ⟨x16, x16'⟩ := W16.out
              go_wp2
              obtain ⟨x1, x1'⟩ := WS.out
              go_still_tail 11, (by kernel_rfl)
              clear x16 x16' x1 x1'
              go_wp2
              go_roundg (e + 1 - (k + 1))
              case measure => omega
              case rel =>
                refine ⟨k + 1, by omega, by omega, by omega, by go_num, ⟨?_⟩, ⟨(HB.out.setCell (by simpa using hwg) _).drew⟩⟩
                rw [byteAt_get blk q hqb, xor8]
                exact (HO.out.step0 hkn (byteAt text k ^^^ byteAt blk q) HV.out).drew
            · first | (have hx : decide (k < text.size) = false := decide_eq_false (by have := HEE.out; omega)) | (have hx : decide (k < i16) = false := decide_eq_false (by have := HEE.out; omega))
              have hx2 : k = e := by omega
              have HX2 := Aside0.mk hx2
              clear hx2 hlk
              obtain ⟨x16, x16'⟩ := W16.out
              go_wp2
              clear x16 x16'
              have h16 : i16 = i + 16 := HI16.out
              have H16 := Aside0.mk h16
              clear h16
              go_roundg (text.size + 16 - i16)
              case measure => have := H16.out; omega
              case rel =>
                have h16 := H16.out
                refine ⟨j + 1, i16, by have := HIJ.out; omega, by omega, by omega, rfl, by rw [show ((jj : Int) + 1) = ((2 + (j + 1) : Nat) : Int) by have := HJJ.out; omega], ⟨HO.out.congr (fun p hp => ?_)⟩, HB⟩
                have h2 := HX2.out
                have h4 := HE4.out
                by_cases hpk : p < k
                · rw [mixA_lt _ _ _ _ hpk, mixA_lt _ _ _ _ (by omega)]
                · rw [mixA_ge _ _ _ _ (by omega), mixA_ge _ _ _ _ (by omega)]
      · have hd : decide (i < text.size) = false := decide_eq_false hlt
        go_wp2_with ((with_reducible refine gate_dst (N := 58) rfl ?_); refine back_event rfl (N := 58) rfl 56 9 5 _ rfl g 0 text.size cap _ rfl Try.underlying56 Try.underlying5 Try.underlying9 HO.out.1 ?_)
        go_ret
        exact ⟨by rw [strOf_congr (fun i hi => mixA_lt _ _ _ _ (by omega)), HR.out]; rfl, HB.out⟩
  · have HF := (show OwB (Lib.bytesWorld (w.drewN (1 + m)) 5 text) w.heap.size 0 text.size (byteAt text) ∧ Below w.heap.size w (Lib.bytesWorld (w.drewN (1 + m)) 5 text) from ⟨(bytesW_facts (w.drewN (1 + m)) 5 text).1, (below_drawn (Below.refl w.heap.size w) ⟨1 + m, rfl⟩).trans (bytesW_facts (w.drewN (1 + m)) 5 text).2⟩)
    have HO := Aside0.mk HF.1
    have HB := Aside0.mk HF.2
    clear HF hcv hnum
    obtain ⟨g, hg⟩ : ∃ g, g = w.heap.size := ⟨_, rfl⟩
    have HGE := Aside0.mk hg
    rw [← hg] at HO ⊢
    clear hg
    rw [← HHD.out]
    generalize grownCap (w.drewN (1 + m)) text.size 0 5 = cap
    generalize (Lib.bytesWorld (w.drewN (1 + m)) 5 text) = w1 at HO HB ⊢
    have hwg : w.heap.size ≤ g := Nat.le_of_eq HGE.out.symm
    go_loopg [9, 10] (text.size + 16) (fun gg v9 v10 wr => ∃ j i : Nat, i = 16 * j ∧ i ≤ text.size + 15 ∧ text.size + 16 - i ≤ gg ∧ v10 = .int .i64 (i : Int) ∧ v9 = .int .u32 ((2 + j : Nat) : Int) ∧ Aside0 (OwB wr g 0 text.size (mixA i R (byteAt text))) ∧ Aside0 (Below w.heap.size w wr))
    case atStart => exact ⟨0, 0, rfl, by omega, by omega, rfl, rfl, ⟨by rw [mixA_zero]; exact HO.out⟩, HB⟩
    case round =>
      clear HO HB
      obtain ⟨j, i, hij, hi, hgg, rfl, rfl, HO, HB⟩ := hrel
      by_cases hlt : i < text.size
      · have hd : decide (i < text.size) = true := decide_eq_true hlt
        obtain ⟨i16, hi16⟩ : ∃ q, q = i + 16 := ⟨_, rfl⟩
        obtain ⟨jj, hjj⟩ : ∃ q, q = 2 + j := ⟨_, rfl⟩
        have W16 := Aside0.mk (addL (c := 16) (C := 16) rfl hi16 (by omega))
        have hjb : jj ≤ 1000 := by omega
        have hju : (jj : Int) % 4294967296 = (jj : Int) := by omega
        have hju1 : ((jj : Int) + 1) % 4294967296 = ((2 + (j + 1) : Nat) : Int) := by omega
        rw [← hjj]
        have HIJ := Aside0.mk hij
        have HJJ := Aside0.mk hjj
        have HJU1 := Aside0.mk hju1
        obtain ⟨b4, hb4⟩ : ∃ b, b = strOfNums (be (jj : Int) 4) := ⟨_, rfl⟩
        have hb4s : b4.size = 4 := by rw [hb4, strOfNums_size, be_length]
        have hcat : (9223372036854775807 < hdr.size + b4.size) = False := by
          rw [hb4s, HHS.out]; simp
        have hsb : (hdr ++ b4).size = 16 := by
          rw [ByteArray.size_append, hb4s, HHS.out]
        have HB4 := Aside0.mk hb4
        clear hb4 hb4s
        have HSB := Aside0.mk hsb
        have HI16 := Aside0.mk hi16
        clear hij hjj hi16 hju1 hsb
        go_wp2_with fail
        refine calls_of_args (args' := #[.int .u64 (jj : Int), .int .i64 ((4 : Nat) : Int)]) (by first | rfl | (simp [hju])) ?_
        refine (bigEndian_c (jj : Int) 4 (by omega) _).mono ?_
        rintro e w2 ⟨rfl, hb2⟩
        rw [← HB4.out]
        have HO2 := Aside0.mk (HO.out.below hb2)
        have HB2 := Aside0.mk (HB.out.trans (hb2.mono HB.out.size))
        clear hb2 HO HB
        go_wp2_with fail
        refine (encrypt_c w2 c K _ HSB.out (HC.out.below HB2.out)).mono ?_
        rintro e w3 ⟨rfl, hb3⟩
        have HO3 := Aside0.mk (HO2.out.below hb3)
        have HB3 := Aside0.mk (HB2.out.trans (hb3.mono HB2.out.size))
        clear hb3 HO2 HB2
        obtain ⟨blk, hblk⟩ : ∃ b, b = strOf 16 (enc K (byteAt (hdr ++ b4)) 10) := ⟨_, rfl⟩
        rw [← hblk]
        have HBLK := Aside0.mk hblk
        have hbs : blk.size = 16 := by rw [hblk, strOf_size]
        have HBS := Aside0.mk hbs
        clear hblk hbs
        go_wp2_with fail
        obtain ⟨e, he⟩ : ∃ e, e = if text.size < i16 then text.size else i16 := ⟨_, rfl⟩
        have hie : i ≤ e ∧ e ≤ i + 16 ∧ e ≤ text.size ∧ (e < text.size → e = i + 16) := by
          have := HI16.out
          rw [he]
          split <;> omega
        obtain ⟨hie1, hie2, hie3, hie4⟩ := hie
        have HE4 := Aside0.mk hie4
        have hcase : (text.size < i16 ∧ e = text.size) ∨ (¬ text.size < i16 ∧ e = i16) := by
          by_cases h : text.size < i16
          · exact Or.inl ⟨h, by rw [he, if_pos h]⟩
          · exact Or.inr ⟨h, by rw [he, if_neg h]⟩
        clear he hie4
        obtain ⟨wo, rfl⟩ : ∃ wo : World, wo = w3 := ⟨_, rfl⟩
        rcases hcase with ⟨hmn, hee⟩ | ⟨hmn, hee⟩
        all_goals
          have HEE := Aside0.mk hee
          clear hee
          go_loopg [12] (e + 1) (fun gg v12 wr => ∃ k : Nat, i ≤ k ∧ k ≤ e ∧ e + 1 - k ≤ gg ∧ v12 = .int .i64 (k : Int) ∧ Aside0 (OwB wr g 0 text.size (mixA k R (byteAt text))) ∧ Aside0 (Below w.heap.size w wr))
          case atStart => exact ⟨i, Nat.le_refl _, hie1, by omega, rfl, HO3, HB3⟩
          case round =>
            clear HO3 HB3
            obtain ⟨k, hik, hke, hgk, rfl, HO, HB⟩ := hrel
            by_cases hlk : k < e
            · obtain ⟨q, hq⟩ : ∃ q, q = k - i := ⟨_, rfl⟩
              have hkn : k < text.size := by omega
              have hq16 : q < 16 := by omega
              have hqb : q < blk.size := by rw [HBS.out]; exact hq16
              have hki : (k : Int) - (i : Int) = (q : Int) := by omega
              have WS : Aside0 (IntKind.i64.wrap ((k : Int) - (i : Int)) = (q : Int) ∧ wrap64 ((k : Int) - (i : Int)) = (q : Int)) := ⟨by
                rw [hki]; exact ⟨wi64 _ (by omega), wr64 _ (by omega)⟩⟩
              have hval : byteAt text k ^^^ byteAt blk q = R k := by
                have h1 := HIJ.out
                have h2 := HJJ.out
                rw [HR.out]
                show _ = byteAt text k ^^^ enc K (byteAt (hdr ++ strOfNums (be ((2 + k / 16 : Nat) : Int) 4))) 10 (k % 16)
                rw [HBLK.out, byteAt_strOf _ _ _ hq16, HB4.out, show k / 16 = j by omega, show k % 16 = q by omega, ← h2]
              have HV := Aside0.mk hval
              have c2 : wr.cell? ⟨g, k, none⟩ = some (.int .u8 ((byteAt text k).toNat : Int)) := by
                have := HO.out.1.at0 k hkn
                rwa [mixA_at] at this
              have f2 : wr.frozen? ⟨g, k, none⟩ = false := HO.out.free0 k hkn
              have hke1 : decide (k < e) = true := decide_eq_true hlk
              have hkt : decide (k < text.size) = true := decide_eq_true hkn
              have hki1 : decide (k < i16) = true := decide_eq_true (by have := HI16.out; omega)
              have hki2 : k < i16 := by have := HI16.out; omega
              clear hq hki hval
              obtain ⟨x16, x16'⟩ := W16.out
              go_wp2
              obtain ⟨x1, x1'⟩ := WS.out
              go_still_tail 11, (by kernel_rfl)
              clear x16 x16' x1 x1'
              go_wp2
              go_roundg (e + 1 - (k + 1))
              case measure => omega
              case rel =>
                refine ⟨k + 1, by omega, by omega, by omega, by go_num, ⟨?_⟩, ⟨(HB.out.setCell (by simpa using hwg) _).drew⟩⟩
                rw [byteAt_get blk q hqb, xor8]
                exact (HO.out.step0 hkn (byteAt text k ^^^ byteAt blk q) HV.out).drew
            · first | (have hx : decide (k < text.size) = false := decide_eq_false (by have := HEE.out; omega)) | (have hx : decide (k < i16) = false := decide_eq_false (by have := HEE.out; omega))
              have hx2 : k = e := by omega
              have HX2 := Aside0.mk hx2
              clear hx2 hlk
              obtain ⟨x16, x16'⟩ := W16.out
              go_wp2
              clear x16 x16'
              have h16 : i16 = i + 16 := HI16.out
              have H16 := Aside0.mk h16
              clear h16
              go_roundg (text.size + 16 - i16)
              case measure => have := H16.out; omega
              case rel =>
                have h16 := H16.out
                refine ⟨j + 1, i16, by have := HIJ.out; omega, by omega, by omega, rfl, by rw [show ((jj : Int) + 1) = ((2 + (j + 1) : Nat) : Int) by have := HJJ.out; omega], ⟨HO.out.congr (fun p hp => ?_)⟩, HB⟩
                have h2 := HX2.out
                have h4 := HE4.out
                by_cases hpk : p < k
                · rw [mixA_lt _ _ _ _ hpk, mixA_lt _ _ _ _ (by omega)]
                · rw [mixA_ge _ _ _ _ (by omega), mixA_ge _ _ _ _ (by omega)]
      · have hd : decide (i < text.size) = false := decide_eq_false hlt
        go_wp2_with ((with_reducible refine gate_dst (N := 58) rfl ?_); refine back_event rfl (N := 58) rfl 56 9 5 _ rfl g 0 text.size cap _ rfl Try.underlying56 Try.underlying5 Try.underlying9 HO.out.1 ?_)
        go_ret
        exact ⟨by rw [strOf_congr (fun i hi => mixA_lt _ _ _ _ (by omega)), HR.out]; rfl, HB.out⟩
end Go.Proofs.Ytkcdhphhacjkhaa.B
