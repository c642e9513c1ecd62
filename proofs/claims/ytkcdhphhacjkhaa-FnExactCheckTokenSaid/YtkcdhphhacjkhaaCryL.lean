/- The reference enciphers a block. -/
import Derived.Test.YtkcdhphhacjkhaaCryK
import Derived.Test.YtkcdhphhacjkhaaCryT
namespace Go.Proofs.Ytkcdhphhacjkhaa.B
open Go.RowKit Go.Proofs.YtkcdhphhacjkhaaW.PrintWords Go.Proofs.YtkcdhphhacjkhaaW.PrintLast Go.Proofs.YtkcdhphhacjkhaaW.PrintMore
open Go.Proofs.Ytkcdhphhacjkhaa.AES
open Go.Proofs.Ytkcdhphhacjkhaa
attribute [local go_sem] Go.Proofs.Ytkcdhphhacjkhaa.StoreK.isSome_setCell
set_option linter.unusedVariables false
set_option linter.unusedSimpArgs false
/-- The columns that are mixed already. -/
def MixRel (w wr : World) (g c : Nat) (F2 : Nat → UInt8) (v : Value) : Prop := (c = 0 ∧ v = .slice none 0 0) ∨ (0 < c ∧ ∃ mg mc, w.heap.size ≤ mg ∧ mg ≠ g ∧ v = .slice (some ⟨mg, 0, none⟩) (4 * c) mc ∧ RowG wr mg mc (4 * c) (mixB F2))
theorem catA_mix (F2 : Nat → UInt8) (c : Nat) (f : Nat → UInt8) (hf : ∀ i, i < 4 * c → f i = mixB F2 i) (i : Nat) (hi : i < 4 * c + 4) : catA (4 * c) f (mixc (fun k => F2 (4 * c + k))) i = mixB F2 i := by
  unfold catA
  by_cases h : i < 4 * c
  · rw [if_pos h, hf i h]
  · rw [if_neg h]
    have := mixB_at F2 c (i - 4 * c) (by omega)
    rw [show 4 * c + (i - 4 * c) = i by omega] at this
    exact this.symm
theorem rd_fb {W : World} {b : Nat} {t : TypeId} (h : W.heap[b]? = some (.cells #[Value.int .u8 2, Value.int .u8 3, Value.int .u8 1, Value.int .u8 1] t (0, 0))) : RdB W b 0 4 fb := fun i hi => by
  rw [Nat.zero_add, blk_cell h i]
  rcases (by omega : i = 0 ∨ i = 1 ∨ i = 2 ∨ i = 3) with rfl | rfl | rfl | rfl <;> rfl
set_option maxHeartbeats 4000000 in
set_option maxRecDepth 100000 in
theorem l3With_c (w : World) (kg kc tg tc : Nat) (K : Nat → UInt8) (s : ByteArray) (hs : s.size = 16) (hK : RdB w kg 0 176 K) (hkc : 176 ≤ kc) (hT : RdB w tg 0 256 (fun i => sb (UInt8.ofNat i))) :
    Calls Try.prog 43 #[.slice (some ⟨kg, 0, none⟩) 176 kc, .slice (some ⟨tg, 0, none⟩) 256 tc, .string s] w fun e w' => e = .returned (.string (strOf 16 (enc K (byteAt s) 10))) ∧ Below w.heap.size w w' := by
  have HS := Aside0.mk hs
  have HK := Aside0.mk hK
  have HT := Aside0.mk hT
  have hk16 : (16 : Int) ≤ (kc : Int) := by omega
  have hk16n : 16 ≤ kc := by omega
  clear hs hK hT
  go_enter Try.func43, Try.ntmps43
  go_wp2_with ((with_reducible refine gate_dst (N := 15) rfl ?_); refine conv_event rfl (N := 15) rfl 9 56 5 _ rfl s rfl Try.underlying9 Try.underlying56 Try.underlying5 ?_; intro bg bc w2 hg hc ho hbl2 hsz hblk hcs; have HO := Aside0.mk ho; have H2 := Aside0.mk hbl2; clear ho hbl2 hsz hblk hcs hg hc; rw [HS.out] at HO; rw [HS.out])
  refine (l3Xor_c w2 bg 0 bc kg 0 kc 16 (byteAt s) K (by omega) HO.out.1 (fun i hi => (HK.out.below H2.out) i (by omega))).mono ?_
  rintro e w3 ⟨sg, hsg, rfl, hr3, hb3⟩
  have HR3 : Aside0 (RdB w3 sg 0 16 (enc K (byteAt s) 0)) := ⟨hr3.congr (fun i hi => by show _ = byteAt s i ^^^ K (16 * 0 + i); rw [show 16 * 0 + i = i by omega])⟩
  have HB3 := Aside0.mk (H2.out.trans (hb3.mono H2.out.size))
  clear hr3 hb3 HO H2 hsg
  go_wp2_with fail
  go_loopg [7, 8] 11 (fun gg v7 v8 wr => ∃ r sg : Nat, 1 ≤ r ∧ r ≤ 11 ∧ 11 - r ≤ gg ∧ v7 = .slice (some ⟨sg, 0, none⟩) 16 16 ∧ v8 = .int .i64 (r : Int) ∧ Aside0 (RdB wr sg 0 16 (enc K (byteAt s) (r - 1))) ∧ Aside0 (Below w.heap.size w wr))
  case atStart => exact ⟨1, sg, by omega, by omega, by omega, rfl, rfl, HR3, HB3⟩
  case round =>
    clear HR3 HB3
    obtain ⟨r, sg, hr1, hr11, hgg, rfl, rfl, HR, HB⟩ := hrel
    by_cases hlt : r ≤ 10
    · have hd : decide ((r : Int) ≤ 10) = true := decide_eq_true (by omega)
      obtain ⟨F, hF⟩ : ∃ F, F = enc K (byteAt s) (r - 1) := ⟨_, rfl⟩
      rw [← hF] at HR
      have HF := Aside0.mk hF
      clear hF
      go_wp2_with ((with_reducible refine gate_dst (N := 23) rfl ?_); refine make_event rfl (N := 23) rfl 56 5 _ _ rfl 16 rfl rfl (by decide) Try.underlying56 info5 ?_; intro g w4 hg ho hb hsz; have HO4 := Aside0.mk ho; have HB4 := Aside0.mk (HB.out.trans (hb.mono HB.out.size)); have HR4 := Aside0.mk (HR.out.below hb); have HG4 := Aside0.mk hg; clear ho hb hsz hg)
      have hgw : w.heap.size ≤ g := by have := HG4.out; have := HB.out.size; omega
      have hgs : sg ≠ g := by have := HG4.out; have := HR.out.lt (by decide); omega
      clear HR HB HG4
      go_loopg [10] 4 (fun gg v10 wr => ∃ c q : Nat, q = 4 * c ∧ c ≤ 4 ∧ 4 - c ≤ gg ∧ v10 = .int .i64 (c : Int) ∧ Aside0 (OwB wr g 0 16 (mixA q (shf (fun i => sb (F i))) (fun _ => 0))) ∧ Aside0 (RdB wr sg 0 16 F) ∧ Aside0 (Below w.heap.size w wr))
      case atStart => exact ⟨0, 0, rfl, by omega, by omega, rfl, ⟨by rw [mixA_zero]; exact HO4.out⟩, HR4, HB4⟩
      case round =>
        clear HO4 HR4 HB4
        obtain ⟨c, q, hq, hc, hgc, rfl, HO, HR, HB⟩ := hrel
        by_cases hlc : c < 4
        · have hd2 : decide ((c : Int) < 4) = true := decide_eq_true (by omega)
          have HQ := Aside0.mk hq
          clear hq
          go_wp2
          obtain ⟨wo, rfl⟩ : ∃ wo : World, wo = wr := ⟨_, rfl⟩
          go_loopg [11] 4 (fun gg v11 wr => ∃ k x : Nat, x = q + k ∧ k ≤ 4 ∧ 4 - k ≤ gg ∧ v11 = .int .i64 (k : Int) ∧ Aside0 (OwB wr g 0 16 (mixA x (shf (fun i => sb (F i))) (fun _ => 0))) ∧ Aside0 (RdB wr sg 0 16 F) ∧ Aside0 (Below w.heap.size w wr))
          case atStart => exact ⟨0, q, rfl, by omega, by omega, rfl, HO, HR, HB⟩
          case round =>
            clear HO HR HB
            obtain ⟨k, x, hx, hk, hgk, rfl, HO, HR, HB⟩ := hrel
            by_cases hlk : k < 4
            · have hxv : x = 4 * c + k := by have := HQ.out; omega
              clear hx
              subst hxv
              have hy : 4 * ((c + k) % 4) + k < 16 := by omega
              have hx16 : 4 * c + k < 16 := by omega
              have cs := HR.out.at0 (4 * ((c + k) % 4) + k) hy
              have ct : wr.cell? ⟨tg, (F (4 * ((c + k) % 4) + k)).toNat, none⟩ = some (.int .u8 ((sb (F (4 * ((c + k) % 4) + k))).toNat : Int)) := by
                have := (HT.out.below HB.out).at0 (F (4 * ((c + k) % 4) + k)).toNat (F (4 * ((c + k) % 4) + k)).toNat_lt
                rwa [UInt8.ofNat_toNat] at this
              have cb : ((F (4 * ((c + k) % 4) + k)).toNat : Int) < 256 := by have := (F (4 * ((c + k) % 4) + k)).toNat_lt; exact_mod_cast this
              have f2 := HO.out.free0 (4 * c + k) hx16
              have c2 := HO.out.1.at0 (4 * c + k) hx16
              have hval : sb (F (4 * ((c + k) % 4) + k)) = shf (fun i => sb (F i)) (4 * c + k) := by
                unfold shf
                rw [show (4 * c + k) / 4 = c by omega, show (4 * c + k) % 4 = k by omega]
              have HV := Aside0.mk hval
              have HX16 := Aside0.mk hx16
              clear hval hy
              rcases (by omega : c = 0 ∨ c = 1 ∨ c = 2 ∨ c = 3) with rfl | rfl | rfl | rfl
              all_goals rcases (by omega : k = 0 ∨ k = 1 ∨ k = 2 ∨ k = 3) with rfl | rfl | rfl | rfl
              all_goals
                simp only [Nat.reduceDiv, Nat.reduceMod, Nat.reduceAdd, Nat.reduceMul] at cs ct cb f2 c2
                go_wp2
                go_roundg (gk - 1)
                case measure => omega
                case rel =>
                  refine ⟨_, _, rfl, ?_, ?_, by go_num, ⟨by have := HQ.out; have h1 := HO.out.step0 HX16.out _ HV.out; exact h1.congr (fun _ _ => by subst this; rfl)⟩, ⟨HR.out.far hgs _ _⟩, ⟨HB.out.setCell (by simpa using hgw) _⟩⟩
                  · decide
                  · exact Nat.le_trans (by decide) (Nat.sub_le_sub_right hgk 1)
            · have hx2 : x = 4 * (c + 1) := by have := HQ.out; omega
              have HX2 := Aside0.mk hx2
              clear hx2 hx
              go_wp2
              go_roundg (4 - (c + 1))
              case measure => omega
              case rel => exact ⟨c + 1, x, HX2.out, by omega, by omega, by go_num, HO, HR, HB⟩
        · have hq16 : q = 16 := by omega
          have HT2 : Aside0 (RdB wr g 0 16 (shf (fun i => sb (F i)))) := ⟨HO.out.1.congr (fun i hi => mixA_lt _ _ _ _ (by omega))⟩
          clear hq16 hq HO HR
          have hkr : 16 * r + 16 ≤ 176 := by omega
          have hfin : ∀ (wz : World) (zg zc : Nat) (X : Nat → UInt8), RdB wz zg 0 16 X → Below w.heap.size w wz → (∀ i, i < 16 → X i = if r = 10 then shf (fun i => sb (F i)) i else mixB (shf (fun i => sb (F i))) i) → Calls Try.prog 58 #[.slice (some ⟨zg, 0, none⟩) 16 zc, .slice (some ⟨kg, 16 * r, none⟩) 16 (kc - 16 * r)] wz fun e w' => ∃ g, e = .returned (.slice (some ⟨g, 0, none⟩) 16 16) ∧ RdB w' g 0 16 (enc K (byteAt s) r) ∧ Below w.heap.size w w' := fun wz zg zc X hX hB hXe => by
            refine (l3Xor_c wz zg 0 zc kg (16 * r) (kc - 16 * r) 16 X (fun i => K (16 * r + i)) (by decide) hX ((HK.out.below hB).part0 (16 * r) 16 hkr)).mono ?_
            rintro e w' ⟨g', hg', he, hr', hb'⟩
            exact ⟨g', he, hr'.congr (fun i hi => by rw [hXe i hi, enc_at K (byteAt s) r hr1 i, ← HF.out]), hB.trans (hb'.mono hB.size)⟩
          have HFIN := Aside0.mk hfin
          clear hfin
          by_cases hr : r < 10
          · have hd3 : decide ((r : Int) < 10) = true := decide_eq_true (by omega)
            go_wp2_with fail
            obtain ⟨F2, hF2⟩ : ∃ F2, F2 = shf (fun i => sb (F i)) := ⟨_, rfl⟩
            rw [← hF2] at HT2
            have HF2 := Aside0.mk hF2
            clear hF2
            go_loopg [12, 13] 4 (fun gg v12 v13 wr => ∃ c : Nat, c ≤ 4 ∧ 4 - c ≤ gg ∧ v13 = .int .i64 (c : Int) ∧ Aside0 (MixRel w wr g c F2 v12) ∧ Aside0 (RdB wr g 0 16 F2) ∧ Aside0 (Below w.heap.size w wr))
            case atStart => exact ⟨0, by omega, by omega, rfl, ⟨Or.inl ⟨rfl, rfl⟩⟩, HT2, HB⟩
            case round =>
              clear HT2 HB
              obtain ⟨c, hc, hgc, rfl, HMX, HT2, HB⟩ := hrel
              by_cases hlc : c < 4
              · have hws : w.heap.size ≤ wr.heap.size := HB.out.size
                have hgwr : g < wr.heap.size := HT2.out.lt (by decide)
                have HA := Aside0.mk ((Below.refl wr.heap.size wr).alloc (Nat.le_refl _) (.cells #[Value.int .u8 2, Value.int .u8 3, Value.int .u8 1, Value.int .u8 1] 5))
                rcases (by omega : c = 0 ∨ c = 1 ∨ c = 2 ∨ c = 3) with rfl | rfl | rfl | rfl
                · have hv : u12 = .slice none 0 0 := by
                    rcases HMX.out with ⟨_, h⟩ | ⟨h, _⟩
                    · exact h
                    · omega
                  subst hv
                  go_wp2_with fail
                  refine (l3Mix_c _ g 0 16 wr.heap.size 4 (fun k => F2 (4 * 0 + k)) ((HT2.out.below HA.out).part0 0 4 (by decide)) (rd_fb (blk_new wr _))).mono ?_
                  rintro e w5 ⟨mg0, hm0, rfl, hr5, hb5⟩
                  have HR5 := Aside0.mk hr5
                  have HB5 := Aside0.mk (HA.out.trans (hb5.mono HA.out.size))
                  clear hr5 hb5 hm0
                  go_wp2_with ((with_reducible refine gate_dst (N := 67) rfl ?_); refine appNil_event rfl (N := 67) rfl 56 5 _ _ rfl (.int .u8 0) Try.underlying56 info5 rfl mg0 0 4 4 _ rfl rfl HR5.out (by decide) (by decide) ?_; intro mg mc w6 hr6 hb6 hg6; have HR6 := Aside0.mk hr6; have HB6 := Aside0.mk (HB5.out.trans (hb6.mono HB5.out.size)); have HG6 := Aside0.mk hg6; clear hr6 hb6 hg6)
                  go_roundg (gk - 1)
                  case measure => omega
                  case rel => exact ⟨1, by decide, Nat.le_trans (by decide) (Nat.sub_le_sub_right hgc 1), by go_num, ⟨Or.inr ⟨by decide, mg, mc, Nat.le_trans hws (Nat.le_trans HB5.out.size HG6.out), by have := HG6.out; have := HB5.out.size; omega, rfl, HR6.out.congr (fun i hi => by have := mixB_at F2 0 i (by omega); rw [show 4 * 0 + i = i by omega] at this; rw [this])⟩⟩, ⟨HT2.out.below HB6.out⟩, ⟨HB.out.trans (HB6.out.mono hws)⟩⟩
                · obtain ⟨mg, mc, hmg, hmgg, hv, hrow⟩ : ∃ mg mc, w.heap.size ≤ mg ∧ mg ≠ g ∧ u12 = .slice (some ⟨mg, 0, none⟩) 4 mc ∧ RowG wr mg mc 4 (mixB F2) := by
                    rcases HMX.out with ⟨h, _⟩ | ⟨_, h⟩
                    · omega
                    · exact h
                  subst hv
                  have HROW := Aside0.mk hrow
                  have hmgl := hrow.lt (by decide)
                  clear hrow
                  go_wp2_with fail
                  refine (l3Mix_c _ g 4 12 wr.heap.size 4 (fun k => F2 (4 * 1 + k)) ((HT2.out.below HA.out).part0 4 4 (by decide)) (rd_fb (blk_new wr _))).mono ?_
                  rintro e w5 ⟨mg0, hm0, rfl, hr5, hb5⟩
                  have HR5 := Aside0.mk hr5
                  have HB5 := Aside0.mk (HA.out.trans (hb5.mono HA.out.size))
                  clear hr5 hb5 hm0
                  go_wp2_with ((with_reducible refine gate_dst (N := 67) rfl ?_); refine appGM_event rfl (N := 67) rfl 56 5 _ _ rfl (.int .u8 0) Try.underlying56 info5 rfl mg mc 4 _ mg0 0 4 4 _ rfl rfl (HROW.out.below (by decide) HB5.out) (by decide) HR5.out (by decide) (by decide) ?_; intro mg2 mc2 w6 hr6 hg6 hk6; have HR6 := Aside0.mk hr6; have HG6 := Aside0.mk hg6; have HK6 := Aside0.mk hk6; clear hr6 hg6 hk6)
                  go_roundg (gk - 1)
                  case measure => omega
                  case rel => exact ⟨2, by decide, Nat.le_trans (by decide) (Nat.sub_le_sub_right hgc 1), by go_num, ⟨Or.inr ⟨by decide, mg2, mc2, by rcases HK6.out with h | h; rw [h]; exact hmg; exact Nat.le_trans hws (Nat.le_trans HB5.out.size h), by rcases HK6.out with h | h; rw [h]; exact hmgg; (have := HB5.out.size; omega), rfl, HR6.out.congr (fun i hi => catA_mix F2 1 _ (fun _ _ => rfl) i hi)⟩⟩, ⟨(HT2.out.below HB5.out).grown HG6.out (by simpa using hmgg.symm)⟩, ⟨below_grown (HB.out.trans (HB5.out.mono hws)) HG6.out (Nat.le_trans hws HB5.out.size) hmg⟩⟩
                · obtain ⟨mg, mc, hmg, hmgg, hv, hrow⟩ : ∃ mg mc, w.heap.size ≤ mg ∧ mg ≠ g ∧ u12 = .slice (some ⟨mg, 0, none⟩) 8 mc ∧ RowG wr mg mc 8 (mixB F2) := by
                    rcases HMX.out with ⟨h, _⟩ | ⟨_, h⟩
                    · omega
                    · exact h
                  subst hv
                  have HROW := Aside0.mk hrow
                  have hmgl := hrow.lt (by decide)
                  clear hrow
                  go_wp2_with fail
                  refine (l3Mix_c _ g 8 8 wr.heap.size 4 (fun k => F2 (4 * 2 + k)) ((HT2.out.below HA.out).part0 8 4 (by decide)) (rd_fb (blk_new wr _))).mono ?_
                  rintro e w5 ⟨mg0, hm0, rfl, hr5, hb5⟩
                  have HR5 := Aside0.mk hr5
                  have HB5 := Aside0.mk (HA.out.trans (hb5.mono HA.out.size))
                  clear hr5 hb5 hm0
                  go_wp2_with ((with_reducible refine gate_dst (N := 67) rfl ?_); refine appGM_event rfl (N := 67) rfl 56 5 _ _ rfl (.int .u8 0) Try.underlying56 info5 rfl mg mc 8 _ mg0 0 4 4 _ rfl rfl (HROW.out.below (by decide) HB5.out) (by decide) HR5.out (by decide) (by decide) ?_; intro mg2 mc2 w6 hr6 hg6 hk6; have HR6 := Aside0.mk hr6; have HG6 := Aside0.mk hg6; have HK6 := Aside0.mk hk6; clear hr6 hg6 hk6)
                  go_roundg (gk - 1)
                  case measure => omega
                  case rel => exact ⟨3, by decide, Nat.le_trans (by decide) (Nat.sub_le_sub_right hgc 1), by go_num, ⟨Or.inr ⟨by decide, mg2, mc2, by rcases HK6.out with h | h; rw [h]; exact hmg; exact Nat.le_trans hws (Nat.le_trans HB5.out.size h), by rcases HK6.out with h | h; rw [h]; exact hmgg; (have := HB5.out.size; omega), rfl, HR6.out.congr (fun i hi => catA_mix F2 2 _ (fun _ _ => rfl) i hi)⟩⟩, ⟨(HT2.out.below HB5.out).grown HG6.out (by simpa using hmgg.symm)⟩, ⟨below_grown (HB.out.trans (HB5.out.mono hws)) HG6.out (Nat.le_trans hws HB5.out.size) hmg⟩⟩
                · obtain ⟨mg, mc, hmg, hmgg, hv, hrow⟩ : ∃ mg mc, w.heap.size ≤ mg ∧ mg ≠ g ∧ u12 = .slice (some ⟨mg, 0, none⟩) 12 mc ∧ RowG wr mg mc 12 (mixB F2) := by
                    rcases HMX.out with ⟨h, _⟩ | ⟨_, h⟩
                    · omega
                    · exact h
                  subst hv
                  have HROW := Aside0.mk hrow
                  have hmgl := hrow.lt (by decide)
                  clear hrow
                  go_wp2_with fail
                  refine (l3Mix_c _ g 12 4 wr.heap.size 4 (fun k => F2 (4 * 3 + k)) ((HT2.out.below HA.out).part0 12 4 (by decide)) (rd_fb (blk_new wr _))).mono ?_
                  rintro e w5 ⟨mg0, hm0, rfl, hr5, hb5⟩
                  have HR5 := Aside0.mk hr5
                  have HB5 := Aside0.mk (HA.out.trans (hb5.mono HA.out.size))
                  clear hr5 hb5 hm0
                  go_wp2_with ((with_reducible refine gate_dst (N := 67) rfl ?_); refine appGM_event rfl (N := 67) rfl 56 5 _ _ rfl (.int .u8 0) Try.underlying56 info5 rfl mg mc 12 _ mg0 0 4 4 _ rfl rfl (HROW.out.below (by decide) HB5.out) (by decide) HR5.out (by decide) (by decide) ?_; intro mg2 mc2 w6 hr6 hg6 hk6; have HR6 := Aside0.mk hr6; have HG6 := Aside0.mk hg6; have HK6 := Aside0.mk hk6; clear hr6 hg6 hk6)
                  go_roundg (gk - 1)
                  case measure => omega
                  case rel => exact ⟨4, by decide, Nat.le_trans (by decide) (Nat.sub_le_sub_right hgc 1), by go_num, ⟨Or.inr ⟨by decide, mg2, mc2, by rcases HK6.out with h | h; rw [h]; exact hmg; exact Nat.le_trans hws (Nat.le_trans HB5.out.size h), by rcases HK6.out with h | h; rw [h]; exact hmgg; (have := HB5.out.size; omega), rfl, HR6.out.congr (fun i hi => catA_mix F2 3 _ (fun _ _ => rfl) i hi)⟩⟩, ⟨(HT2.out.below HB5.out).grown HG6.out (by simpa using hmgg.symm)⟩, ⟨below_grown (HB.out.trans (HB5.out.mono hws)) HG6.out (Nat.le_trans hws HB5.out.size) hmg⟩⟩
              · obtain rfl : c = 4 := by omega
                obtain ⟨mg, mc, hmg, hmgg, hv, hrow⟩ : ∃ mg mc, w.heap.size ≤ mg ∧ mg ≠ g ∧ u12 = .slice (some ⟨mg, 0, none⟩) 16 mc ∧ RowG wr mg mc 16 (mixB F2) := by
                  rcases HMX.out with ⟨h, _⟩ | ⟨_, h⟩
                  · omega
                  · exact h
                subst hv
                have HROW := Aside0.mk hrow
                have HRR := Aside0.mk hr
                clear hrow
                go_wp2_with fail
                refine (HFIN.out wr mg mc _ HROW.out.2.2 HB.out (fun i hi => by rw [if_neg (by have := HRR.out; omega), HF2.out])).mono ?_
                rintro e w9 ⟨sg2, rfl, hr9, hb9⟩
                have HR9 := Aside0.mk hr9
                have HB9 := Aside0.mk hb9
                clear hr9 hb9
                go_wp2
                go_roundg (11 - (r + 1))
                case measure => omega
                case rel => exact ⟨r + 1, sg2, by omega, by omega, by omega, rfl, by go_num, ⟨by rw [Nat.add_sub_cancel]; exact HR9.out⟩, HB9⟩
          · have hd3 : decide ((r : Int) < 10) = false := decide_eq_false (by omega)
            have hr10 : r = 10 := by omega
            have HR10 := Aside0.mk hr10
            clear hr10
            go_wp2_with fail
            refine (HFIN.out wr g 16 _ HT2.out HB.out (fun i hi => by rw [if_pos HR10.out])).mono ?_
            rintro e w9 ⟨sg2, rfl, hr9, hb9⟩
            have HR9 := Aside0.mk hr9
            have HB9 := Aside0.mk hb9
            clear hr9 hb9
            go_wp2
            go_roundg (11 - (r + 1))
            case measure => omega
            case rel => exact ⟨r + 1, sg2, by omega, by omega, by omega, rfl, by go_num, ⟨by rw [Nat.add_sub_cancel]; exact HR9.out⟩, HB9⟩
    · obtain rfl : r = 11 := by omega
      go_wp2_with ((with_reducible refine gate_dst (N := 79) rfl ?_); refine back_event rfl (N := 79) rfl 56 9 5 _ rfl sg 0 16 16 _ rfl Try.underlying56 Try.underlying5 Try.underlying9 HR.out ?_)
      go_ret
      exact ⟨rfl, HB.out⟩
end Go.Proofs.Ytkcdhphhacjkhaa.B
