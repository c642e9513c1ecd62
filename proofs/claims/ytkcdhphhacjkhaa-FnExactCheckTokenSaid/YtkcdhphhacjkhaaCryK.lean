/- The reference's keys. -/
import Derived.Test.YtkcdhphhacjkhaaCryD
import Derived.Test.YtkcdhphhacjkhaaCryC
namespace Go.Proofs.Ytkcdhphhacjkhaa.B
open Go.RowKit Go.Proofs.YtkcdhphhacjkhaaW.PrintWords Go.Proofs.YtkcdhphhacjkhaaW.PrintLast Go.Proofs.YtkcdhphhacjkhaaW.PrintMore
open Go.Proofs.Ytkcdhphhacjkhaa.AES
open Go.Proofs.Ytkcdhphhacjkhaa
attribute [local go_sem] Go.Proofs.Ytkcdhphhacjkhaa.StoreK.isSome_setCell
set_option linter.unusedVariables false
set_option linter.unusedSimpArgs false
set_option maxHeartbeats 4000000 in
set_option maxRecDepth 100000 in
/-- The keys of all rounds. -/
theorem l3Keys_c (w : World) (s : ByteArray) (hs : s.size = 16) :
    Calls Try.prog 41 #[.string s] w fun e w' => ∃ g, w.heap.size ≤ g ∧ ∃ c, 176 ≤ c ∧ e = .returned (.slice (some ⟨g, 0, none⟩) 176 c) ∧ RdB w' g 0 176 (keysOf (byteAt s)) ∧ Below w.heap.size w w' := by
  have HS := Aside0.mk hs
  clear hs
  go_enter Try.func41, Try.ntmps41
  go_wp2_with ((with_reducible refine gate_dst (N := 9) rfl ?_); refine conv_event rfl (N := 9) rfl 9 56 5 _ rfl s rfl Try.underlying9 Try.underlying56 Try.underlying5 ?_; intro kg kc w2 hg hc ho hbl2 hsz hblk hcs; have HR := Aside0.mk (RowG.of_bytes ho hblk hcs hc); have H2 := Aside0.mk hbl2; have H3 := Aside0.mk hg; clear ho hbl2 hsz hblk hcs hg hc; rw [HS.out] at HR; rw [HS.out])
  have hwk : w.heap.size ≤ kg := Nat.le_of_eq H3.out.symm
  go_loopg [3, 4, 5] 44 (fun gg v3 v4 v5 wr => ∃ n i i4 kg kc : Nat, i = n + 4 ∧ i4 = 4 * i ∧ i ≤ 44 ∧ 44 - i ≤ gg ∧ v3 = .slice (some ⟨kg, 0, none⟩) i4 kc ∧ v4 = .int .u8 ((kst (byteAt s) n).2.toNat : Int) ∧ v5 = .int .i64 (i : Int) ∧ w.heap.size ≤ kg ∧ Aside0 (RowG wr kg kc i4 (kst (byteAt s) n).1) ∧ Aside0 (Below w.heap.size w wr))
  case atStart => exact ⟨0, 4, 16, kg, kc, rfl, rfl, by omega, by omega, rfl, rfl, rfl, hwk, HR, H2⟩
  case round =>
    clear HR H2 H3 hwk
    obtain ⟨n, i, i4, kg, kc, hin, hi4, hi, hgg, rfl, rfl, rfl, hwk, HR, HB⟩ := hrel
    obtain ⟨F, hF⟩ : ∃ F, F = (kst (byteAt s) n).1 := ⟨_, rfl⟩
    obtain ⟨by_, hby⟩ : ∃ b, b = (kst (byteAt s) n).2 := ⟨_, rfl⟩
    rw [← hF] at HR
    rw [← hby]
    have HF := Aside0.mk hF
    have HBY := Aside0.mk hby
    have HIN := Aside0.mk hin
    by_cases hlt : i < 44
    · obtain ⟨L, hL⟩ : ∃ L, L = 4 * i - 4 := ⟨_, rfl⟩
      have hkcl : i4 ≤ kc := HR.out.1
      have hkl : kg < wr.heap.size := HR.out.lt (by omega)
      have hws : w.heap.size ≤ wr.heap.size := HB.out.size
      have hd : decide ((i : Int) < 44) = true := decide_eq_true (by omega)
      have W1 := Aside0.mk (mulI (c := 4) (C := 4) rfl hi4 (by omega))
      have W2 : Aside0 (IntKind.i64.wrap ((i4 : Int) - 4) = (L : Int) ∧ wrap64 ((i4 : Int) - 4) = (L : Int)) := ⟨by
        have e : (i4 : Int) - 4 = (L : Int) := by omega
        rw [e]; exact ⟨wi64 _ (by omega), wr64 _ (by omega)⟩⟩
      have hLi : (L : Int) ≤ (i4 : Int) := by omega
      have hLn : L ≤ i4 := by omega
      have hLk : ¬ (kc = L) := by omega
      have hL4 : i4 - L = 4 := by omega
      have h04 : 0 < i4 := by omega
      have hL44 : L + 4 ≤ i4 := by omega
      have hkm : (fun k => F (L + k)) = fun k => F (L + k) := rfl
      clear hkm
      have HL := Aside0.mk hL
      have HI4 := Aside0.mk hi4
      clear hin hF hby hL hi4
      by_cases h4 : i % 4 = 0
      · have hm : ((i : Int) % 4 == 0) = true := by rw [beq_iff_eq]; omega
        obtain ⟨x1, x1'⟩ := W1.out
        obtain ⟨x2, x2'⟩ := W2.out
        go_wp2_with ((with_reducible refine gate_dst (N := 22) rfl ?_); refine appGM_event rfl (N := 22) rfl 56 5 _ _ rfl (.int .u8 0) Try.underlying56 info5 rfl wr.heap.size 0 0 (fun _ => 0) kg L 4 (kc - L) (fun k => F (L + k)) rfl rfl ⟨Nat.le_refl _, fun i hi => absurd hi (Nat.not_lt_zero _), fun i hi => absurd hi (Nat.not_lt_zero _)⟩ (by decide) ((HR.out.below h04 ((Below.refl wr.heap.size wr).alloc (Nat.le_refl _) _)).2.2.part0 L 4 hL44) (by decide) (by decide) ?_; intro tb tc w4 hr4 hg4 hk4; have HR4 := Aside0.mk hr4; have HG4 := Aside0.mk hg4; have HK4 := Aside0.mk hk4; clear hr4 hg4 hk4)
        clear x1 x1' x2 x2'
        have hT : ∀ k, tw F i by_ k = (if i % 4 = 0 then (if k = 0 then sb (F (L + 1)) ^^^ by_ else sb (F (L + (k + 1) % 4))) else F (L + k)) := fun k => by unfold tw; rw [HL.out]
        have HT := Aside0.mk hT
        clear hT
        have hkt0 : kg ≠ tb := by
          rcases HK4.out with h | h
          · omega
          · simp at h; omega
        have hsk0 : some kg ≠ some wr.heap.size := by simp; omega
        have HR5 := Aside0.mk ((HR.out.below h04 ((Below.refl wr.heap.size wr).alloc (Nat.le_refl _) (.cells #[] 5))).grown h04 HG4.out hsk0)
        have HB5 := Aside0.mk (below_grown (HB.out.trans (((Below.refl wr.heap.size wr).alloc (Nat.le_refl _) (.cells #[] 5)).mono hws)) HG4.out (by simp; omega) hws)
        have HF4 : Aside0 (RdB w4 tb 0 4 (fun k => F (L + k))) := ⟨HR4.out.2.2.congr (fun k hk => by unfold catA; rw [if_neg (by omega)]; rfl)⟩
        clear HR4 HG4 HK4 HR HB hsk0
        have a0 : w4.cell? ⟨tb, 0, none⟩ = some (.int .u8 ((F L).toNat : Int)) := HF4.out.at0 0 (by decide)
        have a1 : w4.cell? ⟨tb, 1, none⟩ = some (.int .u8 ((F (L + 1)).toNat : Int)) := HF4.out.at0 1 (by decide)
        have a2 : w4.cell? ⟨tb, 2, none⟩ = some (.int .u8 ((F (L + 2)).toNat : Int)) := HF4.out.at0 2 (by decide)
        have a3 : w4.cell? ⟨tb, 3, none⟩ = some (.int .u8 ((F (L + 3)).toNat : Int)) := HF4.out.at0 3 (by decide)
        go_wp2_with fail
        refine wp_region_still_tail 18 (by kernel_rfl) (by kernel_rfl) ?_
        simp only [List.take_succ_cons, List.take_zero, List.drop_succ_cons, List.drop_zero]
        repeat still_step
        still_call (l3Sub_s (F (L + 1)) _)
        repeat still_step
        still_call (l3Sub_s (F (L + 2)) _)
        repeat still_step
        still_call (l3Sub_s (F (L + 3)) _)
        repeat still_step
        still_call (l3Sub_s (F L) _)
        repeat still_step
        refine wpStill_nil ?_
        go_wp2_with fail
        refine calls_of_args (args' := #[.int .u8 (by_.toNat : Int), .int .u8 ((2 : UInt8).toNat : Int)]) rfl ?_
        refine (l3Mul_s by_ 2 _).mono ?_
        rintro e w' ⟨rfl, rfl⟩
        rw [xor8]
        obtain ⟨T, hTT⟩ : ∃ T, T = tw F i by_ := ⟨_, rfl⟩
        have HTT := Aside0.mk hTT
        obtain ⟨tb2, htb2⟩ : ∃ t, t = w4.heap.size := ⟨_, rfl⟩
        rw [← htb2]
        have hbk := blk_new w4 (.cells #[Value.int .u8 ((sb (F (L + 1)) ^^^ by_).toNat : Int), Value.int .u8 ((sb (F (L + 2))).toNat : Int), Value.int .u8 ((sb (F (L + 3))).toNat : Int), Value.int .u8 ((sb (F L)).toNat : Int)] 5)
        rw [← htb2] at hbk
        have HBa := ((Below.refl w4.heap.size w4).alloc (Nat.le_refl _) (.cells #[Value.int .u8 ((sb (F (L + 1)) ^^^ by_).toNat : Int), Value.int .u8 ((sb (F (L + 2))).toNat : Int), Value.int .u8 ((sb (F (L + 3))).toNat : Int), Value.int .u8 ((sb (F L)).toNat : Int)] 5)).drew
        have HM : Aside0 (RdB ((w4.alloc (.cells #[Value.int .u8 ((sb (F (L + 1)) ^^^ by_).toNat : Int), Value.int .u8 ((sb (F (L + 2))).toNat : Int), Value.int .u8 ((sb (F (L + 3))).toNat : Int), Value.int .u8 ((sb (F L)).toNat : Int)] 5)).drew) tb2 0 4 T) := ⟨(show RdB (w4.alloc (.cells #[Value.int .u8 ((sb (F (L + 1)) ^^^ by_).toNat : Int), Value.int .u8 ((sb (F (L + 2))).toNat : Int), Value.int .u8 ((sb (F (L + 3))).toNat : Int), Value.int .u8 ((sb (F L)).toNat : Int)] 5)) tb2 0 4 T from fun k hk => by
          rw [Nat.zero_add, blk_cell hbk k, hTT, HT.out k, if_pos h4]
          rcases (by omega : k = 0 ∨ k = 1 ∨ k = 2 ∨ k = 3) with rfl | rfl | rfl | rfl <;> rfl).drew⟩
        have hkw4 : kg < w4.heap.size := HR5.out.lt h04
        have hkt : kg ≠ tb2 := by omega
        have HR6 := Aside0.mk (HR5.out.below h04 HBa)
        have HB6 := Aside0.mk (HB5.out.trans (HBa.mono HB5.out.size))
        obtain ⟨by2, hby2⟩ : ∃ b, b = gmul by_ 2 := ⟨_, rfl⟩
        have HBB2 : Aside0 (by2 = if i % 4 = 0 then gmul by_ 2 else by_) := ⟨by rw [if_pos h4, hby2]⟩
        rw [← hby2]
        clear hkt0 hTT hby2 HF4 HR5 HB5 a0 a1 a2 a3 hbk HBa htb2 hkw4
        generalize (w4.alloc (.cells #[Value.int .u8 ((sb (F (L + 1)) ^^^ by_).toNat : Int), Value.int .u8 ((sb (F (L + 2))).toNat : Int), Value.int .u8 ((sb (F (L + 3))).toNat : Int), Value.int .u8 ((sb (F L)).toNat : Int)] 5)).drew = w5 at HM HR6 HB6 ⊢
        have HR5 := HR6
        have HB5 := HB6
        clear HR6 HB6
        have HTW : Aside0 ((kst (byteAt s) (n + 1)).2 = by2 ∧ ∀ j, (kst (byteAt s) (n + 1)).1 j = if j < i4 then F j else F (j - 16) ^^^ T (j - i4)) := ⟨by
          have e1 := HIN.out
          have e2 := HI4.out
          have hbb := HBB2.out
          refine ⟨?_, fun j => ?_⟩
          · rw [hbb, HBY.out]
            show (if (n + 4) % 4 = 0 then _ else _) = _
            rw [← e1]
          · show (if j < 4 * (n + 4) then _ else _) = _
            rw [← e1, ← e2, HTT.out, HF.out, HBY.out]⟩
        clear HBY
        go_wp2
        have HR0 : Aside0 (RowG w5 kg kc i4 (fun j => if j < i4 then F j else F (j - 16) ^^^ T (j - i4))) := ⟨HR5.out.congr (fun j hj => by rw [if_pos hj])⟩
        obtain ⟨wo, rfl⟩ : ∃ wo : World, wo = w5 := ⟨_, rfl⟩
        go_loopg [3, 49] 4 (fun gg v3 v49 wr => ∃ k m kg kc : Nat, m = i4 + k ∧ k ≤ 4 ∧ 4 - k ≤ gg ∧ v3 = .slice (some ⟨kg, 0, none⟩) m kc ∧ v49 = .int .i64 (k : Int) ∧ kg ≠ tb2 ∧ w.heap.size ≤ kg ∧ Aside0 (RowG wr kg kc m (fun j => if j < i4 then F j else F (j - 16) ^^^ T (j - i4))) ∧ Aside0 (RdB wr tb2 0 4 T) ∧ Aside0 (Below w.heap.size w wr))
        case atStart => exact ⟨0, i4, kg, kc, rfl, by omega, by omega, rfl, rfl, hkt, hwk, HR0, HM, HB5⟩
        case round =>
          clear HR0 HR5 HB5 hkt hwk HM
          obtain ⟨k, m, kg, kc, hm, hk, hgk, rfl, rfl, hkt, hwk, HR, HM, HB⟩ := hrel
          by_cases hlk : k < 4
          · obtain ⟨q, hq⟩ : ∃ q, q = i4 - 16 := ⟨_, rfl⟩
            obtain ⟨p, hp⟩ : ∃ p, p = q + k := ⟨_, rfl⟩
            have hi4v : i4 = 4 * i := HI4.out
            have hi1 : 4 ≤ i := by have := HIN.out; omega
            have HM1 := Aside0.mk hm
            have X2 : Aside0 (IntKind.i64.wrap ((i4 : Int) - 16) = (q : Int) ∧ wrap64 ((i4 : Int) - 16) = (q : Int)) := ⟨by
              have e : (i4 : Int) - 16 = (q : Int) := by omega
              rw [e]; exact ⟨wi64 _ (by omega), wr64 _ (by omega)⟩⟩
            have X3 := Aside0.mk (addI hp (by omega))
            have hpm : p < m := by omega
            have hpmI : (p : Int) < (m : Int) := by omega
            have hml : m ≤ 1000000 := by omega
            have hm0 : 0 < m := by omega
            have hkI : (k : Int) < 4 := by omega
            have c60 : wr.cell? ⟨kg, p, none⟩ = some (.int .u8 ((F p).toNat : Int)) := by
              have := HR.out.2.2.at0 p hpm
              simp only [show p < i4 by omega, if_true] at this
              exact this
            have c64 := HM.out.at0 k hlk
            have hval : F p ^^^ T k = (if m < i4 then F m else F (m - 16) ^^^ T (m - i4)) := by
              rw [if_neg (by omega), show m - 16 = p by omega, show m - i4 = k by omega]
            have HV := Aside0.mk hval
            have hkw : kg < wr.heap.size := HR.out.lt (by omega)
            have htw : tb2 < wr.heap.size := HM.out.lt (by omega)
            have hww : w.heap.size ≤ wr.heap.size := HB.out.size
            clear hq hp hi4v hval hm hi1
            obtain ⟨x1, x1'⟩ := X2.out
            obtain ⟨x3, x3'⟩ := X3.out
            obtain ⟨x5, x5'⟩ := W1.out
            clear X2 X3
            go_wp2
            go_region_law (refine appG_step rfl 56 5 _ _ rfl (.int .u8 0) Try.underlying56 info5 rfl kg kc m _ wr.heap.size (F p ^^^ T k) rfl rfl (HR.out.below hm0 ((Below.refl wr.heap.size wr).drew.alloc (Nat.le_refl _) _)) hml (by rw [← xor8]; exact blk_cell (blk_new wr.drew _) 0) ?_; intro kg2 kc2 w6 hr6 hg6 hk6; have HR6 := Aside0.mk hr6; have HG6 := Aside0.mk hg6; have HK6 := Aside0.mk hk6; clear hr6 hg6 hk6)
            all_goals clear x1 x1' x3 x3' x5 x5'
            all_goals go_wp2
            all_goals
              go_roundg (4 - (k + 1))
              case measure => omega
              case rel =>
                have hk2 : kg2 ≠ tb2 ∧ w.heap.size ≤ kg2 := by
                  rcases (by rcases HK6.out with h | h; exact Or.inl h; exact Or.inr (by simp at h; omega) : kg2 = kg ∨ wr.heap.size ≤ kg2) with h | h
                  · rw [h]; exact ⟨hkt, hwk⟩
                  · exact ⟨by omega, by omega⟩
                refine ⟨k + 1, m + 1, kg2, kc2, by have := HM1.out; omega, by omega, by omega, rfl, by go_num, hk2.1, hk2.2, ⟨HR6.out.congr (fun j hj => ?_)⟩, ⟨?_⟩, ⟨?_⟩⟩
                · unfold upd
                  by_cases e : j = m
                  · rw [if_pos e, e, HV.out]
                  · rw [if_neg e]
                · exact (HM.out.below ((Below.refl wr.heap.size wr).drew.alloc (Nat.le_refl _) _)).grown HG6.out (by simpa using hkt.symm)
                · exact below_grown (HB.out.trans (((Below.refl wr.heap.size wr).drew.alloc (Nat.le_refl _) _).mono hww)) HG6.out (by simp; omega) hwk
          · obtain rfl : k = 4 := by omega
            have hi4v : i4 = 4 * i := HI4.out
            have hm4 : m = 4 * (i + 1) := by omega
            have HM4 := Aside0.mk hm4
            clear hi4v hm4 hm
            go_wp2
            go_roundg (44 - (i + 1))
            case measure => omega
            case rel =>
              refine ⟨n + 1, i + 1, m, kg, kc, by have := HIN.out; omega, HM4.out, by omega, by omega, rfl, by rw [HTW.out.1], by go_num, hwk, ⟨HR.out.congr (fun j hj => (HTW.out.2 j).symm)⟩, HB⟩
      · have hm : ((i : Int) % 4 == 0) = false := by rw [beq_eq_false_iff_ne]; omega
        obtain ⟨x1, x1'⟩ := W1.out
        obtain ⟨x2, x2'⟩ := W2.out
        go_wp2_with ((with_reducible refine gate_dst (N := 22) rfl ?_); refine appGM_event rfl (N := 22) rfl 56 5 _ _ rfl (.int .u8 0) Try.underlying56 info5 rfl wr.heap.size 0 0 (fun _ => 0) kg L 4 (kc - L) (fun k => F (L + k)) rfl rfl ⟨Nat.le_refl _, fun i hi => absurd hi (Nat.not_lt_zero _), fun i hi => absurd hi (Nat.not_lt_zero _)⟩ (by decide) ((HR.out.below h04 ((Below.refl wr.heap.size wr).alloc (Nat.le_refl _) _)).2.2.part0 L 4 hL44) (by decide) (by decide) ?_; intro tb tc w4 hr4 hg4 hk4; have HR4 := Aside0.mk hr4; have HG4 := Aside0.mk hg4; have HK4 := Aside0.mk hk4; clear hr4 hg4 hk4)
        clear x1 x1' x2 x2'
        have hT : ∀ k, tw F i by_ k = (if i % 4 = 0 then (if k = 0 then sb (F (L + 1)) ^^^ by_ else sb (F (L + (k + 1) % 4))) else F (L + k)) := fun k => by unfold tw; rw [HL.out]
        have HT := Aside0.mk hT
        clear hT
        have hkt0 : kg ≠ tb := by
          rcases HK4.out with h | h
          · omega
          · simp at h; omega
        have hsk0 : some kg ≠ some wr.heap.size := by simp; omega
        have HR5 := Aside0.mk ((HR.out.below h04 ((Below.refl wr.heap.size wr).alloc (Nat.le_refl _) (.cells #[] 5))).grown h04 HG4.out hsk0)
        have HB5 := Aside0.mk (below_grown (HB.out.trans (((Below.refl wr.heap.size wr).alloc (Nat.le_refl _) (.cells #[] 5)).mono hws)) HG4.out (by simp; omega) hws)
        have HF4 : Aside0 (RdB w4 tb 0 4 (fun k => F (L + k))) := ⟨HR4.out.2.2.congr (fun k hk => by unfold catA; rw [if_neg (by omega)]; rfl)⟩
        clear HR4 HG4 HK4 HR HB hsk0
        obtain ⟨T, hTT⟩ : ∃ T, T = tw F i by_ := ⟨_, rfl⟩
        have HTT := Aside0.mk hTT
        have HM : Aside0 (RdB w4 tb 0 4 T) := ⟨HF4.out.congr (fun k hk => by rw [hTT, HT.out k, if_neg h4])⟩
        obtain ⟨by2, hby2⟩ : ∃ b, b = by_ := ⟨_, rfl⟩
        have HBB2 : Aside0 (by2 = if i % 4 = 0 then gmul by_ 2 else by_) := ⟨by rw [if_neg h4, hby2]⟩
        rw [← hby2]
        have hkt := hkt0
        clear hkt0 hTT hby2 HF4
        obtain ⟨w5, rfl⟩ : ∃ w5 : World, w5 = w4 := ⟨_, rfl⟩
        have HTW : Aside0 ((kst (byteAt s) (n + 1)).2 = by2 ∧ ∀ j, (kst (byteAt s) (n + 1)).1 j = if j < i4 then F j else F (j - 16) ^^^ T (j - i4)) := ⟨by
          have e1 := HIN.out
          have e2 := HI4.out
          have hbb := HBB2.out
          refine ⟨?_, fun j => ?_⟩
          · rw [hbb, HBY.out]
            show (if (n + 4) % 4 = 0 then _ else _) = _
            rw [← e1]
          · show (if j < 4 * (n + 4) then _ else _) = _
            rw [← e1, ← e2, HTT.out, HF.out, HBY.out]⟩
        clear HBY
        go_wp2
        have HR0 : Aside0 (RowG w5 kg kc i4 (fun j => if j < i4 then F j else F (j - 16) ^^^ T (j - i4))) := ⟨HR5.out.congr (fun j hj => by rw [if_pos hj])⟩
        obtain ⟨wo, rfl⟩ : ∃ wo : World, wo = w5 := ⟨_, rfl⟩
        go_loopg [3, 49] 4 (fun gg v3 v49 wr => ∃ k m kg kc : Nat, m = i4 + k ∧ k ≤ 4 ∧ 4 - k ≤ gg ∧ v3 = .slice (some ⟨kg, 0, none⟩) m kc ∧ v49 = .int .i64 (k : Int) ∧ kg ≠ tb ∧ w.heap.size ≤ kg ∧ Aside0 (RowG wr kg kc m (fun j => if j < i4 then F j else F (j - 16) ^^^ T (j - i4))) ∧ Aside0 (RdB wr tb 0 4 T) ∧ Aside0 (Below w.heap.size w wr))
        case atStart => exact ⟨0, i4, kg, kc, rfl, by omega, by omega, rfl, rfl, hkt, hwk, HR0, HM, HB5⟩
        case round =>
          clear HR0 HR5 HB5 hkt hwk HM
          obtain ⟨k, m, kg, kc, hm, hk, hgk, rfl, rfl, hkt, hwk, HR, HM, HB⟩ := hrel
          by_cases hlk : k < 4
          · obtain ⟨q, hq⟩ : ∃ q, q = i4 - 16 := ⟨_, rfl⟩
            obtain ⟨p, hp⟩ : ∃ p, p = q + k := ⟨_, rfl⟩
            have hi4v : i4 = 4 * i := HI4.out
            have hi1 : 4 ≤ i := by have := HIN.out; omega
            have HM1 := Aside0.mk hm
            have X2 : Aside0 (IntKind.i64.wrap ((i4 : Int) - 16) = (q : Int) ∧ wrap64 ((i4 : Int) - 16) = (q : Int)) := ⟨by
              have e : (i4 : Int) - 16 = (q : Int) := by omega
              rw [e]; exact ⟨wi64 _ (by omega), wr64 _ (by omega)⟩⟩
            have X3 := Aside0.mk (addI hp (by omega))
            have hpm : p < m := by omega
            have hpmI : (p : Int) < (m : Int) := by omega
            have hml : m ≤ 1000000 := by omega
            have hm0 : 0 < m := by omega
            have hkI : (k : Int) < 4 := by omega
            have c60 : wr.cell? ⟨kg, p, none⟩ = some (.int .u8 ((F p).toNat : Int)) := by
              have := HR.out.2.2.at0 p hpm
              simp only [show p < i4 by omega, if_true] at this
              exact this
            have c64 := HM.out.at0 k hlk
            have hval : F p ^^^ T k = (if m < i4 then F m else F (m - 16) ^^^ T (m - i4)) := by
              rw [if_neg (by omega), show m - 16 = p by omega, show m - i4 = k by omega]
            have HV := Aside0.mk hval
            have hkw : kg < wr.heap.size := HR.out.lt (by omega)
            have htw : tb < wr.heap.size := HM.out.lt (by omega)
            have hww : w.heap.size ≤ wr.heap.size := HB.out.size
            clear hq hp hi4v hval hm hi1
            obtain ⟨x1, x1'⟩ := X2.out
            obtain ⟨x3, x3'⟩ := X3.out
            obtain ⟨x5, x5'⟩ := W1.out
            clear X2 X3
            go_wp2
            go_region_law (refine appG_step rfl 56 5 _ _ rfl (.int .u8 0) Try.underlying56 info5 rfl kg kc m _ wr.heap.size (F p ^^^ T k) rfl rfl (HR.out.below hm0 ((Below.refl wr.heap.size wr).drew.alloc (Nat.le_refl _) _)) hml (by rw [← xor8]; exact blk_cell (blk_new wr.drew _) 0) ?_; intro kg2 kc2 w6 hr6 hg6 hk6; have HR6 := Aside0.mk hr6; have HG6 := Aside0.mk hg6; have HK6 := Aside0.mk hk6; clear hr6 hg6 hk6)
            all_goals clear x1 x1' x3 x3' x5 x5'
            all_goals go_wp2
            all_goals
              go_roundg (4 - (k + 1))
              case measure => omega
              case rel =>
                have hk2 : kg2 ≠ tb ∧ w.heap.size ≤ kg2 := by
                  rcases (by rcases HK6.out with h | h; exact Or.inl h; exact Or.inr (by simp at h; omega) : kg2 = kg ∨ wr.heap.size ≤ kg2) with h | h
                  · rw [h]; exact ⟨hkt, hwk⟩
                  · exact ⟨by omega, by omega⟩
                refine ⟨k + 1, m + 1, kg2, kc2, by have := HM1.out; omega, by omega, by omega, rfl, by go_num, hk2.1, hk2.2, ⟨HR6.out.congr (fun j hj => ?_)⟩, ⟨?_⟩, ⟨?_⟩⟩
                · unfold upd
                  by_cases e : j = m
                  · rw [if_pos e, e, HV.out]
                  · rw [if_neg e]
                · exact (HM.out.below ((Below.refl wr.heap.size wr).drew.alloc (Nat.le_refl _) _)).grown HG6.out (by simpa using hkt.symm)
                · exact below_grown (HB.out.trans (((Below.refl wr.heap.size wr).drew.alloc (Nat.le_refl _) _).mono hww)) HG6.out (by simp; omega) hwk
          · obtain rfl : k = 4 := by omega
            have hi4v : i4 = 4 * i := HI4.out
            have hm4 : m = 4 * (i + 1) := by omega
            have HM4 := Aside0.mk hm4
            clear hi4v hm4 hm
            go_wp2
            go_roundg (44 - (i + 1))
            case measure => omega
            case rel =>
              refine ⟨n + 1, i + 1, m, kg, kc, by have := HIN.out; omega, HM4.out, by omega, by omega, rfl, by rw [HTW.out.1], by go_num, hwk, ⟨HR.out.congr (fun j hj => (HTW.out.2 j).symm)⟩, HB⟩
    · obtain rfl : i = 44 := by omega
      obtain rfl : n = 40 := by omega
      obtain rfl : i4 = 176 := by omega
      go_wp2
      go_ret
      exact ⟨kg, hwk, kc, HR.out.1, rfl, by have := HR.out.2.2; rw [hF] at this; exact this, HB.out⟩
end Go.Proofs.Ytkcdhphhacjkhaa.B
