/- The cipher of the program, more: contracts by hand. -/
import Derived.Test.YtkcdhphhacjkhaaCryE
import Derived.Laws.Cover3
namespace Go.Proofs.Ytkcdhphhacjkhaa.B
open Go.RowKit Go.Proofs.YtkcdhphhacjkhaaW.PrintWords Go.Proofs.YtkcdhphhacjkhaaW.PrintLast Go.Proofs.YtkcdhphhacjkhaaW.PrintMore
open Go.Proofs.Ytkcdhphhacjkhaa.AES
open Go.Proofs.Ytkcdhphhacjkhaa
attribute [local go_sem] Go.Proofs.Ytkcdhphhacjkhaa.StoreK.isSome_setCell
set_option linter.unusedVariables false
set_option linter.unusedSimpArgs false
/-- A cipher that is ready: a table and the keys of all rounds. -/
def Ciph (w : World) (c : Nat) (K : Nat → UInt8) : Prop := ∃ bxg kg kc : Nat, w.heap[c]? = some (.cells #[.pointer (some ⟨bxg, 0, none⟩), .slice (some ⟨kg, 0, none⟩) 176 kc] 69 (0, 0)) ∧ RdB w bxg 0 256 (fun i => sb (UInt8.ofNat i)) ∧ RdB w kg 0 176 K
theorem Ciph.below {w w' : World} {c : Nat} {K : Nat → UInt8} (h : Ciph w c K) (hb : Below w.heap.size w w') : Ciph w' c K := by
  obtain ⟨bxg, kg, kc, h1, h2, h3⟩ := h
  exact ⟨bxg, kg, kc, (hb.block c (blk_lt h1)).trans h1, h2.below hb, h3.below hb⟩
set_option maxHeartbeats 4000000 in
set_option maxRecDepth 100000 in
/-- A block enciphered. -/
theorem encrypt_c (w : World) (c : Nat) (K : Nat → UInt8) (s : ByteArray) (hs : s.size = 16) (hC : Ciph w c K) :
    Calls Try.prog 50 #[.pointer (some ⟨c, 0, none⟩), .string s] w fun e w' => e = .returned (.string (strOf 16 (enc K (byteAt s) 10))) ∧ Below w.heap.size w w' := by
  obtain ⟨bxg, kg, kc, hc, hbx, hK⟩ := hC
  have hcl := blk_lt hc
  have hbl := hbx.lt (by omega)
  have hkl := hK.lt (by omega)
  have HC := Aside0.mk hc
  have HBX := Aside0.mk hbx
  have HK := Aside0.mk hK
  have HS := Aside0.mk hs
  clear hc hbx hK hs
  go_enter Try.func50, Try.ntmps50
  go_wp2_with ((with_reducible refine gate_dst (N := 11) rfl ?_); refine conv_event rfl (N := 11) rfl 9 56 5 _ rfl s rfl Try.underlying9 Try.underlying56 Try.underlying5 ?_; intro g cap w1 hg hc ho hbl hsz hblk hcs; have H1 := Aside0.mk ho; have H2 := Aside0.mk hbl; have H3 := Aside0.mk hg; have H4 := Aside0.mk hc; clear ho hbl hsz hblk hcs hg hc; rw [HS.out] at H1 H4; rw [HS.out])
  have hgc : g ≠ c := by have := H3.out; omega
  have hgkg : g ≠ kg := by have := H3.out; omega
  have hgb : g ≠ bxg := by have := H3.out; omega
  have hwg : w.heap.size ≤ g := by have := H3.out; omega
  refine calls_of_args (args' := #[.pointer (some ⟨c, 0, none⟩), .slice (some ⟨g, 0, none⟩) 16 cap, .int .i64 ((0 : Nat) : Int)]) rfl ?_
  refine (addKey_c w1 c kg kc g cap 0 _ K (byteAt s) ((H2.out.block c hcl).trans HC.out) (HK.out.below H2.out) H1.out hgc hgkg (by omega)).mono ?_
  rintro e w2 ⟨rfl, ho2, hg2⟩
  have HO := Aside0.mk ho2
  have HB := Aside0.mk (below_grown H2.out hg2 H2.out.size hwg)
  clear ho2 hg2 H1 H2 H3
  go_wp2_with fail
  go_loopg [6] 11 (fun gg v6 wr => ∃ r : Nat, 1 ≤ r ∧ r ≤ 11 ∧ 11 - r ≤ gg ∧ v6 = .int .i64 (r : Int) ∧ Aside0 (OwB wr g 0 16 (enc K (byteAt s) (r - 1))) ∧ Aside0 (Below w.heap.size w wr))
  case atStart => exact ⟨1, by omega, by omega, by omega, rfl, HO, HB⟩
  case round =>
    clear HO HB
    obtain ⟨r, hr1, hr11, hgg, rfl, HO, HB⟩ := hrel
    by_cases hlt : r ≤ 10
    · have hd : decide ((r : Int) ≤ 10) = true := decide_eq_true (by omega)
      obtain ⟨F, hF⟩ : ∃ F, F = enc K (byteAt s) (r - 1) := ⟨_, rfl⟩
      rw [← hF] at HO
      have HF := Aside0.mk hF
      clear hF
      go_wp2
      obtain ⟨wo, rfl⟩ : ∃ wo : World, wo = wr := ⟨_, rfl⟩
      have HO0 : Aside0 (OwB wo g 0 16 (mixA 0 (fun i => sb (F i)) F)) := ⟨by rw [mixA_zero]; exact HO.out⟩
      clear HO
      go_loopg [21] 16 (fun gg v21 wr => ∃ i : Nat, i ≤ 16 ∧ 16 - i ≤ gg ∧ v21 = .int .i64 (i : Int) ∧ Aside0 (OwB wr g 0 16 (mixA i (fun i => sb (F i)) F)) ∧ Aside0 (Below w.heap.size w wr))
      case atStart => exact ⟨0, by omega, by omega, rfl, HO0, HB⟩
      case round =>
        clear HO0 HB
        obtain ⟨i, hi, hgk, rfl, HO, HB⟩ := hrel
        by_cases hli : i < 16
        · have c24 : wr.cell? ⟨g, i, none⟩ = some (.int .u8 ((F i).toNat : Int)) := by
            have := HO.out.1.at0 i hli
            rwa [mixA_at] at this
          have f24 : wr.frozen? ⟨g, i, none⟩ = false := HO.out.free0 i hli
          have c31 : wr.cell? ⟨c, 0, none⟩ = some (.pointer (some ⟨bxg, 0, none⟩)) := (HB.out.cell (p := ⟨c, 0, none⟩) hcl).trans (blk_cell HC.out 0)
          have c36 : wr.cell? ⟨bxg, (F i).toNat, none⟩ = some (.int .u8 ((sb (F i)).toNat : Int)) := by
            have := (HBX.out.below HB.out).at0 (F i).toNat (F i).toNat_lt
            rwa [UInt8.ofNat_toNat] at this
          have hx : ((F i).toNat : Int) < 256 := by have := (F i).toNat_lt; omega
          have hx0 : (0 : Int) ≤ ((F i).toNat : Int) := by omega
          go_wp2
          go_roundg (16 - (i + 1))
          case measure => omega
          case rel => exact ⟨i + 1, by omega, by omega, by go_num, ⟨HO.out.step0 hli _ rfl⟩, ⟨HB.out.setCell (by simp only; omega) _⟩⟩
        · obtain rfl : i = 16 := by omega
          have HO1 : Aside0 (OwB wr g 0 16 (fun i => sb (F i))) := ⟨HO.out.congr (fun j hj => mixA_lt _ _ _ _ hj)⟩
          clear HO
          go_wp2_with fail
          refine (shift_c wr g cap _ HO1.out).mono ?_
          rintro e w3 ⟨rfl, ho3, hg3⟩
          obtain ⟨F2, hF2⟩ : ∃ F2, F2 = shf (fun i => sb (F i)) := ⟨_, rfl⟩
          rw [← hF2] at ho3
          have HF2 := Aside0.mk hF2
          have HO3 : Aside0 (OwB w3 g 0 16 (mixA 0 (mixB F2) F2)) := ⟨by rw [mixA_zero]; exact ho3⟩
          have HB3 := Aside0.mk (below_grown HB.out hg3 HB.out.size hwg)
          clear ho3 hg3 hF2 HO1 HB
          go_wp2_with fail
          go_loopg [9] 20 (fun gg v9 wr => ∃ m q : Nat, q = 4 * m ∧ q ≤ 16 ∧ 20 - q ≤ gg ∧ v9 = .int .i64 (q : Int) ∧ (r = 10 → q = 0) ∧ Aside0 (OwB wr g 0 16 (mixA q (mixB F2) F2)) ∧ Aside0 (Below w.heap.size w wr))
          case atStart => exact ⟨0, 0, rfl, by omega, by omega, rfl, fun _ => rfl, HO3, HB3⟩
          case round =>
            clear HO3 HB3
            obtain ⟨m, q, hqm, hq16, hgq, rfl, hr0, HO, HB⟩ := hrel
            by_cases hcond : q < 16 ∧ r < 10
            · obtain ⟨hq, hr⟩ := hcond
              have hd1 : decide ((q : Int) < 16) = true := decide_eq_true (by omega)
              have hd2 : decide ((r : Int) < 10) = true := decide_eq_true (by omega)
              have hq4 : (q : Int) + 4 ≤ 16 := by omega
              obtain ⟨q4, hq4e⟩ : ∃ q4, q4 = q + 4 := ⟨_, rfl⟩
              have W4 := Aside0.mk (addL (c := 4) (C := 4) rfl hq4e (by omega))
              have HM : Aside0 (OwB wr g q 4 (fun k => F2 (q + k))) := ⟨(HO.out.part0 q 4 (by omega)).congr (fun k hk => mixA_ge _ _ _ _ (by omega))⟩
              have hcap : 16 ≤ cap := H4.out
              have hcq : ¬ (cap = q) := by omega
              have hcq4 : q4 ≤ cap := by omega
              have hqq4 : q ≤ q4 := by omega
              have hcI : (q4 : Int) ≤ (cap : Int) := by omega
              have hqI : (q : Int) ≤ (q4 : Int) := by omega
              have hs4 : q4 - q = 4 := by omega
              have HQM := Aside0.mk hqm
              clear hqm hq4e
              go_wp2
              obtain ⟨w4, w4'⟩ := W4.out
              go_region_with (first
                | (go_at_call 67; refine (forth_c _).mono ?_; rintro e w5 ⟨rfl, hb5⟩; have HM5 := OwB.below (w := wr.drew) HM.out.drew hb5; have HB5 := Aside0.mk hb5; clear hb5)
                | (go_at_call 66; refine (mixed_c _ g q _ (fun k => F2 (q + k)) (by assumption)).mono ?_; rintro e w6 ⟨rfl, hm6, hg6, ho6, hf6⟩; have HM6 := Aside0.mk hm6; have HG6 := Aside0.mk hg6; have HO6 := Aside0.mk ho6; have HF6 := Aside0.mk hf6; clear hm6 hg6 ho6 hf6))
              clear w4 w4'
              go_wp2
              have hq' : q = 4 * m := HQM.out
              have HW5 := OwB.below (w := wr.drew) HO.out.drew HB5.out
              go_roundg (20 - (q + 4))
              case measure => omega
              case rel =>
                refine ⟨m + 1, q + 4, by omega, by omega, by omega, by go_num, fun h => by omega, ⟨fun i hi => ?_, fun i hi => ?_⟩, ⟨below_grown (HB.out.drew.trans (HB5.out.mono HB.out.size)) HG6.out (Nat.le_trans HB.out.size HB5.out.size) hwg⟩⟩
                · rw [Nat.zero_add]
                  by_cases hin : q ≤ i ∧ i < q + 4
                  · have h6 := HM6.out.1 (i - q) (by omega)
                    rw [show q + (i - q) = i by omega] at h6
                    rw [h6, mixA_lt _ _ _ _ hin.2]
                    have hm := mixB_at F2 m (i - q) (by omega)
                    rw [← hq', show q + (i - q) = i by omega] at hm
                    rw [hm]
                  · rw [HO6.out i (by omega)]
                    have h5 := HW5.1.at0 i hi
                    rw [h5]
                    by_cases hlq : i < q
                    · rw [mixA_lt _ _ _ _ hlq, mixA_lt _ _ _ _ (by omega)]
                    · rw [mixA_ge _ _ _ _ (by omega), mixA_ge _ _ _ _ (by omega)]
                · rw [Nat.zero_add, HF6.out i]
                  exact HW5.free0 i hi
            · have hq0 : (q = 16 ∧ r ≠ 10 ∧ decide ((q : Int) < 16) = false) ∨ (q = 0 ∧ r = 10 ∧ decide ((q : Int) < 16) = true ∧ decide ((r : Int) < 10) = false) := by
                by_cases e : q < 16
                · exact Or.inr ⟨by omega, by omega, decide_eq_true (by omega), decide_eq_false (by omega)⟩
                · exact Or.inl ⟨by omega, by omega, decide_eq_false (by omega)⟩
              have HX : Aside0 (OwB wr g 0 16 (fun i => if r = 10 then F2 i else mixB F2 i)) := ⟨HO.out.congr (fun i hi => by
                rcases hq0 with ⟨h1, h2, _⟩ | ⟨h1, h2, _, _⟩
                · rw [if_neg h2, mixA_lt _ _ _ _ (by omega)]
                · rw [if_pos h2, mixA_ge _ _ _ _ (by omega)])⟩
              have HR := Aside0.mk hlt
              clear HO hcond hr0 hqm
              rcases hq0 with ⟨h1, h2, h3⟩ | ⟨h1, h2, h3, h4⟩
              all_goals
                clear h1 h2
                go_wp2_with fail
                refine (addKey_c wr c kg kc g cap r _ K _ ((HB.out.block c hcl).trans HC.out) (HK.out.below HB.out) HX.out hgc hgkg HR.out).mono ?_
                rintro e w7 ⟨rfl, ho7, hg7⟩
                have HO7 := Aside0.mk ho7
                have HB7 := Aside0.mk (below_grown HB.out hg7 HB.out.size hwg)
                clear ho7 hg7
                go_wp2
                go_roundg (11 - (r + 1))
                case measure => omega
                case rel =>
                  refine ⟨r + 1, by omega, by have := HR.out; omega, by omega, by go_num, ⟨HO7.out.congr (fun i hi => ?_)⟩, HB7⟩
                  rw [Nat.add_sub_cancel, enc_at _ _ _ hr1, HF2.out, HF.out]
    · obtain rfl : r = 11 := by omega
      go_wp2_with ((with_reducible refine gate_dst (N := 61) rfl ?_); refine back_event rfl (N := 61) rfl 56 9 5 _ rfl g 0 16 cap _ rfl Try.underlying56 Try.underlying5 Try.underlying9 HO.out.1 ?_)
      go_ret
      exact ⟨rfl, HB.out⟩
end Go.Proofs.Ytkcdhphhacjkhaa.B
