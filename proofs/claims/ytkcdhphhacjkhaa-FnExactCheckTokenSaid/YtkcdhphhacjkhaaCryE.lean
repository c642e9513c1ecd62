/- The cipher of the program, more: contracts by hand. -/
import Derived.Test.YtkcdhphhacjkhaaCryJ
import Derived.Laws.Cover3
namespace Go.Proofs.Ytkcdhphhacjkhaa.B
open Go.RowKit Go.Proofs.YtkcdhphhacjkhaaW.PrintWords Go.Proofs.YtkcdhphhacjkhaaW.PrintLast Go.Proofs.YtkcdhphhacjkhaaW.PrintMore
open Go.Proofs.Ytkcdhphhacjkhaa.AES
open Go.Proofs.Ytkcdhphhacjkhaa
attribute [local go_sem] Go.Proofs.Ytkcdhphhacjkhaa.StoreK.isSome_setCell
set_option linter.unusedVariables false
set_option linter.unusedSimpArgs false
set_option maxHeartbeats 2000000 in
set_option maxRecDepth 100000 in
/-- The rows are moved. -/
theorem shift_c (w : World) (g cap : Nat) (f : Nat → UInt8) (hb : OwB w g 0 16 f) :
    Calls Try.prog 65 #[.slice (some ⟨g, 0, none⟩) 16 cap, .int .i64 1] w fun e w' => e = .returned (.tuple #[]) ∧ OwB w' g 0 16 (shf f) ∧ w.grownBy w' (some g) := by
  have HB := Aside0.mk hb
  have hglt := hb.1.lt (by omega)
  obtain ⟨ob, hob⟩ : ∃ ob, ob = w.heap.size := ⟨_, rfl⟩
  have hgo : g ≠ ob := by omega
  have hwo : w.heap.size ≤ ob := by omega
  have c0 := hb.1.at0 0 (by omega)
  have c1 := hb.1.at0 1 (by omega)
  have c2 := hb.1.at0 2 (by omega)
  have c3 := hb.1.at0 3 (by omega)
  have c4 := hb.1.at0 4 (by omega)
  have c5 := hb.1.at0 5 (by omega)
  have c6 := hb.1.at0 6 (by omega)
  have c7 := hb.1.at0 7 (by omega)
  have c8 := hb.1.at0 8 (by omega)
  have c9 := hb.1.at0 9 (by omega)
  have c10 := hb.1.at0 10 (by omega)
  have c11 := hb.1.at0 11 (by omega)
  have c12 := hb.1.at0 12 (by omega)
  have c13 := hb.1.at0 13 (by omega)
  have c14 := hb.1.at0 14 (by omega)
  have c15 := hb.1.at0 15 (by omega)
  have hcv := fun w : World => run_arrayAt (P := Try.prog) (w := w) 98 5 16 (some ⟨g, 0, none⟩) 16 cap Try.underlying98 (Nat.le_refl _)
  clear hb
  go_enter Try.func65, Try.ntmps65
  go_wp2
  clear hcv c0 c1 c2 c3 c4 c5 c6 c7 c8 c9 c10 c11 c12 c13 c14 c15
  rw [← hob]
  have hbk := blk_new w (.cells #[.int .u8 ((f 0).toNat : Int), .int .u8 ((f 1).toNat : Int), .int .u8 ((f 2).toNat : Int), .int .u8 ((f 3).toNat : Int), .int .u8 ((f 4).toNat : Int), .int .u8 ((f 5).toNat : Int), .int .u8 ((f 6).toNat : Int), .int .u8 ((f 7).toNat : Int), .int .u8 ((f 8).toNat : Int), .int .u8 ((f 9).toNat : Int), .int .u8 ((f 10).toNat : Int), .int .u8 ((f 11).toNat : Int), .int .u8 ((f 12).toNat : Int), .int .u8 ((f 13).toNat : Int), .int .u8 ((f 14).toNat : Int), .int .u8 ((f 15).toNat : Int)] 98)
  rw [← hob] at hbk
  have HP := Aside0.mk hbk
  have HG := Aside0.mk (World.grownBy_alloc w (.cells #[.int .u8 ((f 0).toNat : Int), .int .u8 ((f 1).toNat : Int), .int .u8 ((f 2).toNat : Int), .int .u8 ((f 3).toNat : Int), .int .u8 ((f 4).toNat : Int), .int .u8 ((f 5).toNat : Int), .int .u8 ((f 6).toNat : Int), .int .u8 ((f 7).toNat : Int), .int .u8 ((f 8).toNat : Int), .int .u8 ((f 9).toNat : Int), .int .u8 ((f 10).toNat : Int), .int .u8 ((f 11).toNat : Int), .int .u8 ((f 12).toNat : Int), .int .u8 ((f 13).toNat : Int), .int .u8 ((f 14).toNat : Int), .int .u8 ((f 15).toNat : Int)] 98) (some g))
  have HB1 := Aside0.mk (HB.out.below ((Below.refl w.heap.size w).alloc (Nat.le_refl _) (.cells #[.int .u8 ((f 0).toNat : Int), .int .u8 ((f 1).toNat : Int), .int .u8 ((f 2).toNat : Int), .int .u8 ((f 3).toNat : Int), .int .u8 ((f 4).toNat : Int), .int .u8 ((f 5).toNat : Int), .int .u8 ((f 6).toNat : Int), .int .u8 ((f 7).toNat : Int), .int .u8 ((f 8).toNat : Int), .int .u8 ((f 9).toNat : Int), .int .u8 ((f 10).toNat : Int), .int .u8 ((f 11).toNat : Int), .int .u8 ((f 12).toNat : Int), .int .u8 ((f 13).toNat : Int), .int .u8 ((f 14).toNat : Int), .int .u8 ((f 15).toNat : Int)] 98)))
  clear hbk HB hob
  generalize w.alloc (.cells #[.int .u8 ((f 0).toNat : Int), .int .u8 ((f 1).toNat : Int), .int .u8 ((f 2).toNat : Int), .int .u8 ((f 3).toNat : Int), .int .u8 ((f 4).toNat : Int), .int .u8 ((f 5).toNat : Int), .int .u8 ((f 6).toNat : Int), .int .u8 ((f 7).toNat : Int), .int .u8 ((f 8).toNat : Int), .int .u8 ((f 9).toNat : Int), .int .u8 ((f 10).toNat : Int), .int .u8 ((f 11).toNat : Int), .int .u8 ((f 12).toNat : Int), .int .u8 ((f 13).toNat : Int), .int .u8 ((f 14).toNat : Int), .int .u8 ((f 15).toNat : Int)] 98) = w1 at HP HG HB1 ⊢
  go_loopg [11] 16 (fun gg v11 wr => ∃ i : Nat, i ≤ 16 ∧ 16 - i ≤ gg ∧ v11 = .int .i64 i ∧ Aside0 (OwB wr g 0 16 (mixA i (shf f) f)) ∧ Aside0 (RdB wr ob 0 16 f) ∧ Aside0 (w.grownBy wr (some g)))
  case atStart =>
    refine ⟨0, by omega, by omega, rfl, ⟨by rw [mixA_zero]; exact HB1.out⟩, ⟨fun i hi => ?_⟩, HG⟩
    rw [Nat.zero_add, blk_cell HP.out i]
    rcases (by omega : i = 0 ∨ i = 1 ∨ i = 2 ∨ i = 3 ∨ i = 4 ∨ i = 5 ∨ i = 6 ∨ i = 7 ∨ i = 8 ∨ i = 9 ∨ i = 10 ∨ i = 11 ∨ i = 12 ∨ i = 13 ∨ i = 14 ∨ i = 15) with rfl | rfl | rfl | rfl | rfl | rfl | rfl | rfl | rfl | rfl | rfl | rfl | rfl | rfl | rfl | rfl <;> rfl
  case round =>
    obtain ⟨i, hi, hgg, rfl, HO, HP, HG⟩ := hrel
    by_cases hlt : i < 16
    · have hc := HP.out.at0 (4 * ((i / 4 + i % 4) % 4) + i % 4) (by omega)
      have f2 := HO.out.free0 i hlt
      have c2 := HO.out.1.at0 i hlt
      have hn : shf f i = f (4 * ((i / 4 + i % 4) % 4) + i % 4) := rfl
      have HN := Aside0.mk hn
      clear hn
      rcases (by omega : i = 0 ∨ i = 1 ∨ i = 2 ∨ i = 3 ∨ i = 4 ∨ i = 5 ∨ i = 6 ∨ i = 7 ∨ i = 8 ∨ i = 9 ∨ i = 10 ∨ i = 11 ∨ i = 12 ∨ i = 13 ∨ i = 14 ∨ i = 15) with rfl | rfl | rfl | rfl | rfl | rfl | rfl | rfl | rfl | rfl | rfl | rfl | rfl | rfl | rfl | rfl
      all_goals
        simp only [Nat.reduceDiv, Nat.reduceMod, Nat.reduceAdd, Nat.reduceMul] at hc
        go_wp2
        go_roundg (gk - 1)
        case measure => omega
        case rel =>
          refine ⟨_, ?_, ?_, by go_num, ⟨HO.out.step0 hlt _ rfl⟩, ⟨HP.out.far (Ne.symm hgo) _ _⟩, ⟨grown_set HG.out _ _⟩⟩
          · omega
          · omega
    · obtain rfl : i = 16 := by omega
      go_wp2
      go_end0
      exact ⟨rfl, HO.out.congr (fun i hi => mixA_lt _ _ _ _ hi), HG.out⟩
end Go.Proofs.Ytkcdhphhacjkhaa.B
