/- The keys of the cipher, made ready. -/
import Derived.Test.YtkcdhphhacjkhaaCryV
import Derived.Laws.Cover3
namespace Go.Proofs.Ytkcdhphhacjkhaa.B
open Go.RowKit Go.Proofs.YtkcdhphhacjkhaaW.PrintWords Go.Proofs.YtkcdhphhacjkhaaW.PrintLast Go.Proofs.YtkcdhphhacjkhaaW.PrintMore
open Go.Proofs.Ytkcdhphhacjkhaa.AES
open Go.Proofs.Ytkcdhphhacjkhaa
attribute [local go_sem] Go.Proofs.Ytkcdhphhacjkhaa.StoreK.isSome_setCell
set_option linter.unusedVariables false
set_option linter.unusedSimpArgs false
set_option maxHeartbeats 4000000 in
set_option maxRecDepth 100000 in
/-- A cipher is made of a key. -/
theorem cipherOf_c (w : World) (s : ByteArray) (hs : s.size = 16) :
    Calls Try.prog 34 #[.string s] w fun e w' => ∃ c, w.heap.size ≤ c ∧ e = .returned (.pointer (some ⟨c, 0, none⟩)) ∧ Ciph w' c (keysOf (byteAt s)) ∧ Below w.heap.size w w' := by
  have HS := Aside0.mk hs
  clear hs
  go_enter Try.func34, Try.ntmps34
  go_wp2_with fail
  refine (newBox_c _).mono ?_
  rintro e w1 ⟨bx, hbxg, rfl, hbx, hb1⟩
  have HBX := Aside0.mk hbx
  have HB1 := Aside0.mk hb1
  have hbl := hbx.lt (by omega)
  clear hbx hb1
  go_wp2_with ((with_reducible refine gate_dst (N := 11) rfl ?_); refine conv_event rfl (N := 11) rfl 9 56 5 _ rfl s rfl Try.underlying9 Try.underlying56 Try.underlying5 ?_; intro kg kc w2 hg hc ho hbl2 hsz hblk hcs; have HR := Aside0.mk (RowG.of_bytes ho hblk hcs hc); have H2 := Aside0.mk hbl2; have H3 := Aside0.mk hg; have H4 := Aside0.mk hsz; clear ho hbl2 hsz hblk hcs hg hc; rw [HS.out] at HR; rw [HS.out])
  obtain ⟨c, hc⟩ : ∃ c, c = w2.heap.size := ⟨_, rfl⟩
  have hw1 : w.heap.size ≤ w1.heap.size := HB1.out.size
  have hkgs : kg = w1.heap.size := H3.out
  have hsz2 : w2.heap.size = kg + 1 := H4.out
  have hbc : bx ≠ c := by omega
  have hkc : kg ≠ c := by omega
  have hkb : kg ≠ bx := by omega
  have hwc : w.heap.size ≤ c := by omega
  have hwk : w.heap.size ≤ kg := by omega
  rw [← hc]
  have hbk := blk_new w2 (.cells #[Value.pointer (some ⟨bx, 0, none⟩), Value.slice (some ⟨kg, 0, none⟩) 16 kc] 69)
  rw [← hc] at hbk
  have HBa := Below.alloc (Below.refl w2.heap.size w2) (Nat.le_refl _) (.cells #[Value.pointer (some ⟨bx, 0, none⟩), Value.slice (some ⟨kg, 0, none⟩) 16 kc] 69)
  have HP := Aside0.mk hbk
  have HR3 := Aside0.mk (HR.out.below (by omega) HBa)
  have HX3 := Aside0.mk ((HBX.out.below H2.out).below HBa)
  have HB3 := Aside0.mk ((HB1.out.trans (H2.out.mono hw1)).trans (HBa.mono (by omega)))
  clear hbk HBa HBX HB1 HR H2 H3 H4 hkgs hsz2 hc hw1
  generalize w2.alloc (.cells #[Value.pointer (some ⟨bx, 0, none⟩), Value.slice (some ⟨kg, 0, none⟩) 16 kc] 69) = w3 at HP HR3 HX3 HB3 ⊢
  go_loopg [4, 5] 44 (fun gg v4 v5 wr => ∃ n i kg kc : Nat, i = n + 4 ∧ i ≤ 44 ∧ 44 - i ≤ gg ∧ v4 = .int .u8 ((kst (byteAt s) n).2.toNat : Int) ∧ v5 = .int .i64 (i : Int) ∧ kg ≠ c ∧ kg ≠ bx ∧ w.heap.size ≤ kg ∧ Aside0 (wr.heap[c]? = some (.cells #[Value.pointer (some ⟨bx, 0, none⟩), Value.slice (some ⟨kg, 0, none⟩) (4 * i) kc] 69 (0, 0))) ∧ Aside0 (RowG wr kg kc (4 * i) (kst (byteAt s) n).1) ∧ Aside0 (RdB wr bx 0 256 (fun i => sb (UInt8.ofNat i))) ∧ Aside0 (Below w.heap.size w wr))
  case atStart => exact ⟨0, 4, kg, kc, rfl, by omega, by omega, rfl, rfl, hkc, hkb, hwk, HP, HR3, HX3, HB3⟩
  case round =>
    clear HP HR3 HX3 HB3 hkc hkb hwk
    obtain ⟨n, i, kg, kc, hin, hi, hgg, rfl, rfl, hkc, hkb, hwk, HP, HR, HX, HB⟩ := hrel
    obtain ⟨F, hF⟩ : ∃ F, F = (kst (byteAt s) n).1 := ⟨_, rfl⟩
    obtain ⟨by_, hby⟩ : ∃ b, b = (kst (byteAt s) n).2 := ⟨_, rfl⟩
    rw [← hF] at HR
    rw [← hby]
    have HF := Aside0.mk hF
    have HBY := Aside0.mk hby
    have HIN := Aside0.mk hin
    by_cases hlt : i < 44
    · obtain ⟨L, hL⟩ : ∃ L, L = 4 * i - 4 := ⟨_, rfl⟩
      obtain ⟨i4, hi4⟩ : ∃ i4, i4 = 4 * i := ⟨_, rfl⟩
      rw [← hi4] at HP HR
      have hkcl : i4 ≤ kc := HR.out.1
      have hkl : kg < wr.heap.size := HR.out.lt (by omega)
      have hcl : c < wr.heap.size := blk_lt HP.out
      have hbxl : bx < wr.heap.size := HX.out.lt (by omega)
      have hws : w.heap.size ≤ wr.heap.size := HB.out.size
      have hd : decide ((i : Int) < 44) = true := decide_eq_true (by omega)
      have W1 := Aside0.mk (mulI (c := 4) (C := 4) rfl hi4 (by omega))
      have W2 : Aside0 (IntKind.i64.wrap ((i4 : Int) - 4) = (L : Int) ∧ wrap64 ((i4 : Int) - 4) = (L : Int)) := ⟨by
        have e : (i4 : Int) - 4 = (L : Int) := by omega
        rw [e]; exact ⟨wi64 _ (by omega), wr64 _ (by omega)⟩⟩
      have hL0 : (0 : Int) ≤ (L : Int) := by omega
      have hLi : (L : Int) ≤ (i4 : Int) := by omega
      have hLn : L ≤ i4 := by omega
      have hLk : ¬ (kc = L) := by omega
      have hL4 : i4 - L = 4 := by omega
      have c21 : wr.cell? ⟨c, 1, none⟩ = some (.slice (some ⟨kg, 0, none⟩) i4 kc) := blk_cell HP.out 1
      have r0 : wr.cell? ⟨kg, L, none⟩ = some (.int .u8 ((F L).toNat : Int)) := HR.out.2.2.at0 L (by omega)
      have r1 : wr.cell? ⟨kg, L + 1, none⟩ = some (.int .u8 ((F (L + 1)).toNat : Int)) := HR.out.2.2.at0 (L + 1) (by omega)
      have r2 : wr.cell? ⟨kg, L + 2, none⟩ = some (.int .u8 ((F (L + 2)).toNat : Int)) := HR.out.2.2.at0 (L + 2) (by omega)
      have r3 : wr.cell? ⟨kg, L + 3, none⟩ = some (.int .u8 ((F (L + 3)).toNat : Int)) := HR.out.2.2.at0 (L + 3) (by omega)
      have hcv := fun (w : World) (cap : Nat) => run_arrayAt (P := Try.prog) (w := w) 70 5 4 (some ⟨kg, L, none⟩) 4 cap Try.underlying70 (Nat.le_refl _)
      have HL := Aside0.mk hL
      have HI4 := Aside0.mk hi4
      clear hin hF hby hL hi4
      obtain ⟨wb, hwb⟩ : ∃ wb, wb = wr.heap.size := ⟨_, rfl⟩
      have HWB := Aside0.mk hwb
      have hcwb : c ≠ wb := by omega
      have hkwb : kg ≠ wb := by omega
      have hbwb : bx ≠ wb := by omega
      have hwwb : w.heap.size ≤ wb := by omega
      clear hwb
      obtain ⟨w1, w1'⟩ := W1.out
      obtain ⟨w2, w2'⟩ := W2.out
      have hT : ∀ k, tw F i by_ k = (if i % 4 = 0 then (if k = 0 then sb (F (L + 1)) ^^^ by_ else sb (F (L + (k + 1) % 4))) else F (L + k)) := fun k => by unfold tw; rw [HL.out]
      have HT := Aside0.mk hT
      clear hT
      by_cases h4 : i % 4 = 0
      · have hm : ((i : Int) % 4 == 0) = true := by rw [beq_iff_eq]; omega
        have c20 : wr.cell? ⟨c, 0, none⟩ = some (.pointer (some ⟨bx, 0, none⟩)) := blk_cell HP.out 0
        have t0 : wr.cell? ⟨bx, (F L).toNat, none⟩ = some (.int .u8 ((sb (F L)).toNat : Int)) := by
          have := HX.out.at0 (F L).toNat (F L).toNat_lt
          rwa [UInt8.ofNat_toNat] at this
        have t1 : wr.cell? ⟨bx, (F (L + 1)).toNat, none⟩ = some (.int .u8 ((sb (F (L + 1))).toNat : Int)) := by
          have := HX.out.at0 (F (L + 1)).toNat (F (L + 1)).toNat_lt
          rwa [UInt8.ofNat_toNat] at this
        have t2 : wr.cell? ⟨bx, (F (L + 2)).toNat, none⟩ = some (.int .u8 ((sb (F (L + 2))).toNat : Int)) := by
          have := HX.out.at0 (F (L + 2)).toNat (F (L + 2)).toNat_lt
          rwa [UInt8.ofNat_toNat] at this
        have t3 : wr.cell? ⟨bx, (F (L + 3)).toNat, none⟩ = some (.int .u8 ((sb (F (L + 3))).toNat : Int)) := by
          have := HX.out.at0 (F (L + 3)).toNat (F (L + 3)).toNat_lt
          rwa [UInt8.ofNat_toNat] at this
        have b0 : ((F L).toNat : Int) < 256 := by have := (F L).toNat_lt; exact_mod_cast this
        have b1 : ((F (L + 1)).toNat : Int) < 256 := by have := (F (L + 1)).toNat_lt; exact_mod_cast this
        have b2 : ((F (L + 2)).toNat : Int) < 256 := by have := (F (L + 2)).toNat_lt; exact_mod_cast this
        have b3 : ((F (L + 3)).toNat : Int) < 256 := by have := (F (L + 3)).toNat_lt; exact_mod_cast this
        go_wp2_with fail
        rw [← HWB.out]
        have hbk := blk_new wr (.cells #[Value.int .u8 ((F L).toNat : Int), Value.int .u8 ((F (L + 1)).toNat : Int), Value.int .u8 ((F (L + 2)).toNat : Int), Value.int .u8 ((F (L + 3)).toNat : Int)] 70)
        rw [← HWB.out] at hbk
        have HBa := Below.alloc (Below.refl wr.heap.size wr) (Nat.le_refl _) (.cells #[Value.int .u8 ((F L).toNat : Int), Value.int .u8 ((F (L + 1)).toNat : Int), Value.int .u8 ((F (L + 2)).toNat : Int), Value.int .u8 ((F (L + 3)).toNat : Int)] 70)
        have HBA := Aside0.mk HBa
        have HBK := Aside0.mk hbk
        have d20 := Go.Proofs.Ytkcdhphhacjkhaa.QuietK.cb_ c20 HBa
        have e0 := Go.Proofs.Ytkcdhphhacjkhaa.QuietK.cb_ t0 HBa
        have e1 := Go.Proofs.Ytkcdhphhacjkhaa.QuietK.cb_ t1 HBa
        have e2 := Go.Proofs.Ytkcdhphhacjkhaa.QuietK.cb_ t2 HBa
        have e3 := Go.Proofs.Ytkcdhphhacjkhaa.QuietK.cb_ t3 HBa
        have a0 := blk_cell hbk 0
        have a1 := blk_cell hbk 1
        have a2 := blk_cell hbk 2
        have a3 := blk_cell hbk 3
        have f0 := blk_frozen hbk 0
        have f1 := blk_frozen hbk 1
        have f2 := blk_frozen hbk 2
        have f3 := blk_frozen hbk 3
        clear hbk HBa c20 t0 t1 t2 t3 c21 r0 r1 r2 r3 hcv w1 w1' w2 w2'
        generalize wr.alloc (.cells #[Value.int .u8 ((F L).toNat : Int), Value.int .u8 ((F (L + 1)).toNat : Int), Value.int .u8 ((F (L + 2)).toNat : Int), Value.int .u8 ((F (L + 3)).toNat : Int)] 70) = w4 at HBA HBK d20 e0 e1 e2 e3 a0 a1 a2 a3 f0 f1 f2 f3 ⊢
        simp only [List.getElem?_toArray, List.getElem?_cons_zero, List.getElem?_cons_succ] at a0 a1 a2 a3
        go_still_tail 43, (by kernel_rfl)
        go_wp2_with fail
        refine calls_of_args (args' := #[.int .u8 (by_.toNat : Int), .int .u8 ((2 : UInt8).toNat : Int)]) rfl ?_
        refine (mulGf_s by_ 2 _).mono ?_
        rintro e w' ⟨rfl, rfl⟩
        rw [xor8]
        obtain ⟨T, hTT⟩ : ∃ T, T = tw F i by_ := ⟨_, rfl⟩
        have HTT := Aside0.mk hTT
        have HOw : OwB w4 wb 0 4 (fun k => F (L + k)) := ⟨fun k hk => by
          rw [Nat.zero_add, blk_cell HBK.out k]
          rcases (by omega : k = 0 ∨ k = 1 ∨ k = 2 ∨ k = 3) with rfl | rfl | rfl | rfl <;> rfl, fun k hk => blk_frozen HBK.out _⟩
        have hOW := ((((HOw.store0 0 (by omega) (sb (F (L + 1)) ^^^ by_)).store0 1 (by omega) (sb (F (L + 2)))).store0 2 (by omega) (sb (F (L + 3)))).store0 3 (by omega) (sb (F L))).drew
        have HM : Aside0 (RdB (((((w4.setCell ⟨wb, 0, none⟩ (.int .u8 ((sb (F (L + 1)) ^^^ by_).toNat : Int))).setCell ⟨wb, 1, none⟩ (.int .u8 ((sb (F (L + 2))).toNat : Int))).setCell ⟨wb, 2, none⟩ (.int .u8 ((sb (F (L + 3))).toNat : Int))).setCell ⟨wb, 3, none⟩ (.int .u8 ((sb (F L)).toNat : Int))).drew) wb 0 4 T) := ⟨hOW.1.congr (fun k hk => by
          rw [hTT, HT.out k, if_pos h4]
          rcases (by omega : k = 0 ∨ k = 1 ∨ k = 2 ∨ k = 3) with rfl | rfl | rfl | rfl <;> simp [upd])⟩
        have HG45 : w4.grownBy (((((w4.setCell ⟨wb, 0, none⟩ (.int .u8 ((sb (F (L + 1)) ^^^ by_).toNat : Int))).setCell ⟨wb, 1, none⟩ (.int .u8 ((sb (F (L + 2))).toNat : Int))).setCell ⟨wb, 2, none⟩ (.int .u8 ((sb (F (L + 3))).toNat : Int))).setCell ⟨wb, 3, none⟩ (.int .u8 ((sb (F L)).toNat : Int))).drew) (some wb) := grown_drew (grown_set (grown_set (grown_set (grown_set (World.grownBy.refl w4 (some wb)) 0 _) 1 _) 2 _) 3 _)
        have HP5 := Aside0.mk (blk_grown (blk_below HP.out HBA.out) HG45 (by simpa using hcwb))
        have HR5 := Aside0.mk ((HR.out.below (by omega) HBA.out).grown (by omega) HG45 (by simpa using hkwb))
        have HX5 := Aside0.mk ((HX.out.below HBA.out).grown HG45 (by simpa using hbwb))
        have HB5 := Aside0.mk (below_grown (HB.out.trans (HBA.out.mono hws)) HG45 (Nat.le_trans hws HBA.out.size) hwwb)
        obtain ⟨by2, hby2⟩ : ∃ b, b = gmul by_ 2 := ⟨_, rfl⟩
        have HBB2 : Aside0 (by2 = if i % 4 = 0 then gmul by_ 2 else by_) := ⟨by rw [if_pos h4, hby2]⟩
        rw [← hby2]
        clear d20 e0 e1 e2 e3 a0 a1 a2 a3 f0 f1 f2 f3 HOw hOW HBA HBK HP HR HX HB hTT hby2
        generalize ((((w4.setCell ⟨wb, 0, none⟩ (.int .u8 ((sb (F (L + 1)) ^^^ by_).toNat : Int))).setCell ⟨wb, 1, none⟩ (.int .u8 ((sb (F (L + 2))).toNat : Int))).setCell ⟨wb, 2, none⟩ (.int .u8 ((sb (F (L + 3))).toNat : Int))).setCell ⟨wb, 3, none⟩ (.int .u8 ((sb (F L)).toNat : Int))).drew = w5 at HM HG45 HP5 HR5 HX5 HB5 ⊢
        clear HG45
        have HTW : Aside0 ((kst (byteAt s) (n + 1)).2 = by2 ∧ ∀ j, (kst (byteAt s) (n + 1)).1 j = if j < i4 then F j else F (j - 16) ^^^ T (j - i4)) := ⟨by
          have e1 := HIN.out
          have e2 := HI4.out
          have hbb := HBB2.out
          refine ⟨?_, fun j => ?_⟩
          · rw [hbb, HBY.out]
            show (if (n + 4) % 4 = 0 then _ else _) = _
            rw [← e1]
          · show (if j < 4 * (n + 4) then _ else _) = _
            rw [← e1, ← e2, HTT.out, HF.out, HBY.out]⟩
        clear HBY
        have g0 := HM.out.at0 0 (by omega)
        have g1 := HM.out.at0 1 (by omega)
        have g2 := HM.out.at0 2 (by omega)
        have g3 := HM.out.at0 3 (by omega)
        go_wp2
        clear g0 g1 g2 g3
        have hidx : ∀ (k : Nat) (hk : k < 4) (w : World), (Instr.index 70 (.agg #[.int .u8 ((T 0).toNat : Int), .int .u8 ((T 1).toNat : Int), .int .u8 ((T 2).toNat : Int), .int .u8 ((T 3).toNat : Int)]) (.int .i64 (k : Int))).run Try.prog w = .ok (.int .u8 ((T k).toNat : Int)) w := fun k hk w => by
          rcases (by omega : k = 0 ∨ k = 1 ∨ k = 2 ∨ k = 3) with rfl | rfl | rfl | rfl <;> kernel_rfl
        have HIX := Aside0.mk hidx
        clear hidx
        have HR0 : Aside0 (RowG w5 kg kc i4 (fun j => if j < i4 then F j else F (j - 16) ^^^ T (j - i4))) := ⟨HR5.out.congr (fun j hj => by rw [if_pos hj])⟩
        obtain ⟨wo, rfl⟩ : ∃ wo : World, wo = w5 := ⟨_, rfl⟩
        go_loopg [77] 4 (fun gg v77 wr => ∃ k m kg kc : Nat, m = i4 + k ∧ k ≤ 4 ∧ 4 - k ≤ gg ∧ v77 = .int .i64 (k : Int) ∧ kg ≠ c ∧ kg ≠ bx ∧ w.heap.size ≤ kg ∧ Aside0 (wr.heap[c]? = some (.cells #[Value.pointer (some ⟨bx, 0, none⟩), Value.slice (some ⟨kg, 0, none⟩) m kc] 69 (0, 0))) ∧ Aside0 (RowG wr kg kc m (fun j => if j < i4 then F j else F (j - 16) ^^^ T (j - i4))) ∧ Aside0 (RdB wr bx 0 256 (fun i => sb (UInt8.ofNat i))) ∧ Aside0 (Below w.heap.size w wr))
        case atStart => exact ⟨0, i4, kg, kc, rfl, by omega, by omega, rfl, hkc, hkb, hwk, HP5, HR0, HX5, HB5⟩
        case round =>
          clear HP5 HR0 HR5 HX5 HB5 hkc hkb hwk HM
          obtain ⟨k, m, kg, kc, hm, hk, hgk, rfl, hkc, hkb, hwk, HP, HR, HX, HB⟩ := hrel
          by_cases hlk : k < 4
          · have hix := HIX.out k hlk
            obtain ⟨q, hq⟩ : ∃ q, q = i4 - 16 := ⟨_, rfl⟩
            obtain ⟨p, hp⟩ : ∃ p, p = q + k := ⟨_, rfl⟩
            have hi4v : i4 = 4 * i := HI4.out
            have hi1 : 4 ≤ i := by have := HIN.out; omega
            have HM1 := Aside0.mk hm
            have X2 : Aside0 (IntKind.i64.wrap ((i4 : Int) - 16) = (q : Int) ∧ wrap64 ((i4 : Int) - 16) = (q : Int)) := ⟨by
              have e : (i4 : Int) - 16 = (q : Int) := by omega
              rw [e]; exact ⟨wi64 _ (by omega), wr64 _ (by omega)⟩⟩
            have X3 := Aside0.mk (addI hp (by omega))
            have hpm : p < m := by omega
            have hpmI : (p : Int) < (m : Int) := by omega
            have hml : m ≤ 1000000 := by omega
            have hm0 : 0 < m := by omega
            have hsk : some c ≠ some kg := by simpa using hkc.symm
            have c85 : wr.cell? ⟨c, 1, none⟩ = some (.slice (some ⟨kg, 0, none⟩) m kc) := blk_cell HP.out 1
            have c96 : wr.cell? ⟨kg, p, none⟩ = some (.int .u8 ((F p).toNat : Int)) := by
              have := HR.out.2.2.at0 p hpm
              simp only [show p < i4 by omega, if_true] at this
              exact this
            have hval : F p ^^^ T k = (if m < i4 then F m else F (m - 16) ^^^ T (m - i4)) := by
              rw [if_neg (by omega), show m - 16 = p by omega, show m - i4 = k by omega]
            have HV := Aside0.mk hval
            have hkw : kg < wr.heap.size := HR.out.lt (by omega)
            have hcw : c < wr.heap.size := blk_lt HP.out
            have hbw : bx < wr.heap.size := HX.out.lt (by omega)
            have hww : w.heap.size ≤ wr.heap.size := HB.out.size
            clear hq hp hi4v hval hm hi1
            obtain ⟨x1, x1'⟩ := X2.out
            obtain ⟨x3, x3'⟩ := X3.out
            obtain ⟨x5, x5'⟩ := W1.out
            clear X2 X3
            go_wp2
            clear hix
            go_region_law (refine appG_step rfl 56 5 _ _ rfl (.int .u8 0) Try.underlying56 info5 rfl kg kc m _ wr.heap.size (F p ^^^ T k) rfl rfl (HR.out.below hm0 ((Below.refl wr.heap.size wr).drew.alloc (Nat.le_refl _) _)) hml (by rw [← xor8]; exact blk_cell (blk_new wr.drew _) 0) ?_; intro kg2 kc2 w6 hr6 hg6 hk6; have hP6 := blk_grown (blk_alloc (blk_drew HP.out) _) hg6 hsk; have HR6 := Aside0.mk hr6; have HG6 := Aside0.mk hg6; have HP6 := Aside0.mk hP6; have c6 := blk_cell hP6 1; have f6 := blk_frozen hP6 1; have HK6 := Aside0.mk hk6; clear hr6 hg6 hP6 hk6)
            all_goals clear x1 x1' x3 x3' x5 x5'
            all_goals go_wp2
            all_goals
              go_roundg (4 - (k + 1))
              case measure => omega
              case rel =>
                have hk2 : kg2 ≠ c ∧ kg2 ≠ bx ∧ w.heap.size ≤ kg2 := by
                  rcases (by rcases HK6.out with h | h; exact Or.inl h; exact Or.inr (by simp at h; omega) : kg2 = kg ∨ wr.heap.size ≤ kg2) with h | h
                  · rw [h]; exact ⟨hkc, hkb, hwk⟩
                  · exact ⟨by omega, by omega, by omega⟩
                refine ⟨k + 1, m + 1, kg2, kc2, by have := HM1.out; omega, by omega, by omega, by go_num, hk2.1, hk2.2.1, hk2.2.2, ⟨blk_put HP6.out 1 _ rfl⟩, ⟨(HR6.out.move (Below.heap_setCell _ _ _ _ (by simpa using hk2.1))).congr (fun j hj => ?_)⟩, ⟨?_⟩, ⟨?_⟩⟩
                · unfold upd
                  by_cases e : j = m
                  · rw [if_pos e, e, HV.out]
                  · rw [if_neg e]
                · exact ((HX.out.below ((Below.refl wr.heap.size wr).drew.alloc (Nat.le_refl _) _)).grown HG6.out (by simpa using hkb.symm)).far hbc _ _
                · exact (below_grown (HB.out.trans (((Below.refl wr.heap.size wr).drew.alloc (Nat.le_refl _) _).mono hww)) HG6.out (by simp; omega) hwk).setCell (by simpa using hwc) _
          · obtain rfl : k = 4 := by omega
            have hi4v : i4 = 4 * i := HI4.out
            have hm4 : m = 4 * (i + 1) := by omega
            have HM4 := Aside0.mk hm4
            clear hi4v hm4 hm
            go_wp2
            go_roundg (44 - (i + 1))
            case measure => omega
            case rel =>
              refine ⟨n + 1, i + 1, kg, kc, by have := HIN.out; omega, by omega, by omega, by rw [HTW.out.1], by go_num, hkc, hkb, hwk, ⟨by rw [← HM4.out]; exact HP.out⟩, ⟨by rw [← HM4.out]; exact HR.out.congr (fun j hj => (HTW.out.2 j).symm)⟩, HX, HB⟩
      · have hm : ((i : Int) % 4 == 0) = false := by rw [beq_eq_false_iff_ne]; omega
        go_wp2_with fail
        rw [← HWB.out]
        have hbk := blk_new wr (.cells #[Value.int .u8 ((F L).toNat : Int), Value.int .u8 ((F (L + 1)).toNat : Int), Value.int .u8 ((F (L + 2)).toNat : Int), Value.int .u8 ((F (L + 3)).toNat : Int)] 70)
        rw [← HWB.out] at hbk
        have HBa := Below.alloc (Below.refl wr.heap.size wr) (Nat.le_refl _) (.cells #[Value.int .u8 ((F L).toNat : Int), Value.int .u8 ((F (L + 1)).toNat : Int), Value.int .u8 ((F (L + 2)).toNat : Int), Value.int .u8 ((F (L + 3)).toNat : Int)] 70)
        clear c21 r0 r1 r2 r3 hcv w1 w1' w2 w2'
        obtain ⟨T, hTT⟩ : ∃ T, T = tw F i by_ := ⟨_, rfl⟩
        have HTT := Aside0.mk hTT
        have HM : Aside0 (RdB (wr.alloc (.cells #[Value.int .u8 ((F L).toNat : Int), Value.int .u8 ((F (L + 1)).toNat : Int), Value.int .u8 ((F (L + 2)).toNat : Int), Value.int .u8 ((F (L + 3)).toNat : Int)] 70)) wb 0 4 T) := ⟨fun k hk => by
          rw [Nat.zero_add, blk_cell hbk k, hTT, HT.out k, if_neg h4]
          rcases (by omega : k = 0 ∨ k = 1 ∨ k = 2 ∨ k = 3) with rfl | rfl | rfl | rfl <;> rfl⟩
        have hE : F L = T 0 ∧ F (L + 1) = T 1 ∧ F (L + 2) = T 2 ∧ F (L + 3) = T 3 := by
          rw [hTT, HT.out, HT.out, HT.out, HT.out]
          simp [h4]
        obtain ⟨hE0, hE1, hE2, hE3⟩ := hE
        have HP5 := Aside0.mk (blk_below HP.out HBa)
        have HR5 := Aside0.mk (HR.out.below (by omega) HBa)
        have HX5 := Aside0.mk (HX.out.below HBa)
        have HB5 := Aside0.mk (HB.out.trans (HBa.mono hws))
        have HBB2 : Aside0 (by_ = if i % 4 = 0 then gmul by_ 2 else by_) := ⟨by rw [if_neg h4]⟩
        obtain ⟨by2, hby2⟩ : ∃ b, b = by_ := ⟨_, rfl⟩
        have HBB2 : Aside0 (by2 = if i % 4 = 0 then gmul by_ 2 else by_) := ⟨by rw [if_neg h4, hby2]⟩
        rw [← hby2]
        clear hbk HBa HP HR HX HB hTT hby2
        generalize wr.alloc (.cells #[Value.int .u8 ((F L).toNat : Int), Value.int .u8 ((F (L + 1)).toNat : Int), Value.int .u8 ((F (L + 2)).toNat : Int), Value.int .u8 ((F (L + 3)).toNat : Int)] 70) = w5 at HM HP5 HR5 HX5 HB5 ⊢
        simp only [hE0, hE1, hE2, hE3]
        clear hE0 hE1 hE2 hE3
        have HTW : Aside0 ((kst (byteAt s) (n + 1)).2 = by2 ∧ ∀ j, (kst (byteAt s) (n + 1)).1 j = if j < i4 then F j else F (j - 16) ^^^ T (j - i4)) := ⟨by
          have e1 := HIN.out
          have e2 := HI4.out
          have hbb := HBB2.out
          refine ⟨?_, fun j => ?_⟩
          · rw [hbb, HBY.out]
            show (if (n + 4) % 4 = 0 then _ else _) = _
            rw [← e1]
          · show (if j < 4 * (n + 4) then _ else _) = _
            rw [← e1, ← e2, HTT.out, HF.out, HBY.out]⟩
        clear HBY
        have g0 := HM.out.at0 0 (by omega)
        have g1 := HM.out.at0 1 (by omega)
        have g2 := HM.out.at0 2 (by omega)
        have g3 := HM.out.at0 3 (by omega)
        go_wp2
        clear g0 g1 g2 g3
        have hidx : ∀ (k : Nat) (hk : k < 4) (w : World), (Instr.index 70 (.agg #[.int .u8 ((T 0).toNat : Int), .int .u8 ((T 1).toNat : Int), .int .u8 ((T 2).toNat : Int), .int .u8 ((T 3).toNat : Int)]) (.int .i64 (k : Int))).run Try.prog w = .ok (.int .u8 ((T k).toNat : Int)) w := fun k hk w => by
          rcases (by omega : k = 0 ∨ k = 1 ∨ k = 2 ∨ k = 3) with rfl | rfl | rfl | rfl <;> kernel_rfl
        have HIX := Aside0.mk hidx
        clear hidx
        have HR0 : Aside0 (RowG w5 kg kc i4 (fun j => if j < i4 then F j else F (j - 16) ^^^ T (j - i4))) := ⟨HR5.out.congr (fun j hj => by rw [if_pos hj])⟩
        obtain ⟨wo, rfl⟩ : ∃ wo : World, wo = w5 := ⟨_, rfl⟩
        go_loopg [77] 4 (fun gg v77 wr => ∃ k m kg kc : Nat, m = i4 + k ∧ k ≤ 4 ∧ 4 - k ≤ gg ∧ v77 = .int .i64 (k : Int) ∧ kg ≠ c ∧ kg ≠ bx ∧ w.heap.size ≤ kg ∧ Aside0 (wr.heap[c]? = some (.cells #[Value.pointer (some ⟨bx, 0, none⟩), Value.slice (some ⟨kg, 0, none⟩) m kc] 69 (0, 0))) ∧ Aside0 (RowG wr kg kc m (fun j => if j < i4 then F j else F (j - 16) ^^^ T (j - i4))) ∧ Aside0 (RdB wr bx 0 256 (fun i => sb (UInt8.ofNat i))) ∧ Aside0 (Below w.heap.size w wr))
        case atStart => exact ⟨0, i4, kg, kc, rfl, by omega, by omega, rfl, hkc, hkb, hwk, HP5, HR0, HX5, HB5⟩
        case round =>
          clear HP5 HR0 HR5 HX5 HB5 hkc hkb hwk HM
          obtain ⟨k, m, kg, kc, hm, hk, hgk, rfl, hkc, hkb, hwk, HP, HR, HX, HB⟩ := hrel
          by_cases hlk : k < 4
          · have hix := HIX.out k hlk
            obtain ⟨q, hq⟩ : ∃ q, q = i4 - 16 := ⟨_, rfl⟩
            obtain ⟨p, hp⟩ : ∃ p, p = q + k := ⟨_, rfl⟩
            have hi4v : i4 = 4 * i := HI4.out
            have hi1 : 4 ≤ i := by have := HIN.out; omega
            have HM1 := Aside0.mk hm
            have X2 : Aside0 (IntKind.i64.wrap ((i4 : Int) - 16) = (q : Int) ∧ wrap64 ((i4 : Int) - 16) = (q : Int)) := ⟨by
              have e : (i4 : Int) - 16 = (q : Int) := by omega
              rw [e]; exact ⟨wi64 _ (by omega), wr64 _ (by omega)⟩⟩
            have X3 := Aside0.mk (addI hp (by omega))
            have hpm : p < m := by omega
            have hpmI : (p : Int) < (m : Int) := by omega
            have hml : m ≤ 1000000 := by omega
            have hm0 : 0 < m := by omega
            have hsk : some c ≠ some kg := by simpa using hkc.symm
            have c85 : wr.cell? ⟨c, 1, none⟩ = some (.slice (some ⟨kg, 0, none⟩) m kc) := blk_cell HP.out 1
            have c96 : wr.cell? ⟨kg, p, none⟩ = some (.int .u8 ((F p).toNat : Int)) := by
              have := HR.out.2.2.at0 p hpm
              simp only [show p < i4 by omega, if_true] at this
              exact this
            have hval : F p ^^^ T k = (if m < i4 then F m else F (m - 16) ^^^ T (m - i4)) := by
              rw [if_neg (by omega), show m - 16 = p by omega, show m - i4 = k by omega]
            have HV := Aside0.mk hval
            have hkw : kg < wr.heap.size := HR.out.lt (by omega)
            have hcw : c < wr.heap.size := blk_lt HP.out
            have hbw : bx < wr.heap.size := HX.out.lt (by omega)
            have hww : w.heap.size ≤ wr.heap.size := HB.out.size
            clear hq hp hi4v hval hm hi1
            obtain ⟨x1, x1'⟩ := X2.out
            obtain ⟨x3, x3'⟩ := X3.out
            obtain ⟨x5, x5'⟩ := W1.out
            clear X2 X3
            go_wp2
            clear hix
            go_region_law (refine appG_step rfl 56 5 _ _ rfl (.int .u8 0) Try.underlying56 info5 rfl kg kc m _ wr.heap.size (F p ^^^ T k) rfl rfl (HR.out.below hm0 ((Below.refl wr.heap.size wr).drew.alloc (Nat.le_refl _) _)) hml (by rw [← xor8]; exact blk_cell (blk_new wr.drew _) 0) ?_; intro kg2 kc2 w6 hr6 hg6 hk6; have hP6 := blk_grown (blk_alloc (blk_drew HP.out) _) hg6 hsk; have HR6 := Aside0.mk hr6; have HG6 := Aside0.mk hg6; have HP6 := Aside0.mk hP6; have c6 := blk_cell hP6 1; have f6 := blk_frozen hP6 1; have HK6 := Aside0.mk hk6; clear hr6 hg6 hP6 hk6)
            all_goals clear x1 x1' x3 x3' x5 x5'
            all_goals go_wp2
            all_goals
              go_roundg (4 - (k + 1))
              case measure => omega
              case rel =>
                have hk2 : kg2 ≠ c ∧ kg2 ≠ bx ∧ w.heap.size ≤ kg2 := by
                  rcases (by rcases HK6.out with h | h; exact Or.inl h; exact Or.inr (by simp at h; omega) : kg2 = kg ∨ wr.heap.size ≤ kg2) with h | h
                  · rw [h]; exact ⟨hkc, hkb, hwk⟩
                  · exact ⟨by omega, by omega, by omega⟩
                refine ⟨k + 1, m + 1, kg2, kc2, by have := HM1.out; omega, by omega, by omega, by go_num, hk2.1, hk2.2.1, hk2.2.2, ⟨blk_put HP6.out 1 _ rfl⟩, ⟨(HR6.out.move (Below.heap_setCell _ _ _ _ (by simpa using hk2.1))).congr (fun j hj => ?_)⟩, ⟨?_⟩, ⟨?_⟩⟩
                · unfold upd
                  by_cases e : j = m
                  · rw [if_pos e, e, HV.out]
                  · rw [if_neg e]
                · exact ((HX.out.below ((Below.refl wr.heap.size wr).drew.alloc (Nat.le_refl _) _)).grown HG6.out (by simpa using hkb.symm)).far hbc _ _
                · exact (below_grown (HB.out.trans (((Below.refl wr.heap.size wr).drew.alloc (Nat.le_refl _) _).mono hww)) HG6.out (by simp; omega) hwk).setCell (by simpa using hwc) _
          · obtain rfl : k = 4 := by omega
            have hi4v : i4 = 4 * i := HI4.out
            have hm4 : m = 4 * (i + 1) := by omega
            have HM4 := Aside0.mk hm4
            clear hi4v hm4 hm
            go_wp2
            go_roundg (44 - (i + 1))
            case measure => omega
            case rel =>
              refine ⟨n + 1, i + 1, kg, kc, by have := HIN.out; omega, by omega, by omega, by rw [HTW.out.1], by go_num, hkc, hkb, hwk, ⟨by rw [← HM4.out]; exact HP.out⟩, ⟨by rw [← HM4.out]; exact HR.out.congr (fun j hj => (HTW.out.2 j).symm)⟩, HX, HB⟩
    · obtain rfl : i = 44 := by omega
      obtain rfl : n = 40 := by omega
      go_wp2
      go_ret
      exact ⟨c, hwc, rfl, ⟨bx, kg, kc, HP.out, HX.out, by have := HR.out.2.2; rw [hF] at this; exact this⟩, HB.out⟩
end Go.Proofs.Ytkcdhphhacjkhaa.B
