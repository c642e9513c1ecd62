/- The cipher of the program, more: contracts by hand. -/
import Derived.Test.YtkcdhphhacjkhaaCryMu
namespace Go.Proofs.Ytkcdhphhacjkhaa.B
open Go.RowKit Go.Proofs.YtkcdhphhacjkhaaW.PrintWords Go.Proofs.YtkcdhphhacjkhaaW.PrintLast Go.Proofs.YtkcdhphhacjkhaaW.PrintMore
open Go.Proofs.Ytkcdhphhacjkhaa.AES
open Go.Proofs.Ytkcdhphhacjkhaa
attribute [local go_sem] Go.Proofs.Ytkcdhphhacjkhaa.StoreK.isSome_setCell
set_option linter.unusedVariables false
set_option linter.unusedSimpArgs false
set_option maxHeartbeats 2000000 in
set_option maxRecDepth 100000 in
/-- Four bytes mixed. -/
theorem mixed_c (w : World) (g o cap : Nat) (f : Nat → UInt8) (hb : OwB w g o 4 f) :
    Calls Try.prog 66 #[.slice (some ⟨g, o, none⟩) 4 cap, .agg #[.int .u8 2, .int .u8 3, .int .u8 1, .int .u8 1]] w fun e w' => e = .returned (.tuple #[]) ∧ OwB w' g o 4 (mixc f) ∧ w.grownBy w' (some g) ∧ (∀ i, (i < o ∨ o + 4 ≤ i) → w'.cell? ⟨g, i, none⟩ = w.cell? ⟨g, i, none⟩) ∧ (∀ i, w'.frozen? ⟨g, i, none⟩ = w.frozen? ⟨g, i, none⟩) := by
  have HB := Aside0.mk hb
  have hglt := hb.1.lt (by omega)
  have hidx : ∀ (k : Nat) (hk : k < 4) (w : World), (Instr.index 70 (.agg #[.int .u8 2, .int .u8 3, .int .u8 1, .int .u8 1]) (.int .i64 (k : Int))).run Try.prog w = .ok (.int .u8 ((fb k).toNat : Int)) w := fun k hk w => by
    rcases (by omega : k = 0 ∨ k = 1 ∨ k = 2 ∨ k = 3) with rfl | rfl | rfl | rfl <;> kernel_rfl
  have HI := Aside0.mk hidx
  clear hb hidx
  obtain ⟨pb, hpb⟩ : ∃ pb, pb = w.heap.size := ⟨_, rfl⟩
  obtain ⟨ob, hob⟩ : ∃ ob, ob = w.heap.size + 1 := ⟨_, rfl⟩
  have hop : g ≠ pb := by omega
  have hoo : g ≠ ob := by omega
  have hpo : pb ≠ ob := by omega
  have hwo : w.heap.size ≤ ob := by omega
  go_enter Try.func66, Try.ntmps66
  go_wp2
  rw [← hob, ← hpb]
  have h1 := blk_new w (.cells #[Value.int IntKind.u8 2, Value.int IntKind.u8 3, Value.int IntKind.u8 1, Value.int IntKind.u8 1] 70)
  have hs1 : (w.alloc (.cells #[Value.int IntKind.u8 2, Value.int IntKind.u8 3, Value.int IntKind.u8 1, Value.int IntKind.u8 1] 70)).heap.size = ob := by rw [hob]; simp
  have h2 := blk_new (w.alloc (.cells #[Value.int IntKind.u8 2, Value.int IntKind.u8 3, Value.int IntKind.u8 1, Value.int IntKind.u8 1] 70)) (.cells #[Value.int IntKind.u8 0, Value.int IntKind.u8 0, Value.int IntKind.u8 0, Value.int IntKind.u8 0] 70)
  rw [hs1] at h2
  have HP := Aside0.mk ((Below.heap_alloc (w.alloc (.cells #[Value.int IntKind.u8 2, Value.int IntKind.u8 3, Value.int IntKind.u8 1, Value.int IntKind.u8 1] 70)) (.cells #[Value.int IntKind.u8 0, Value.int IntKind.u8 0, Value.int IntKind.u8 0, Value.int IntKind.u8 0] 70) _ (by simp)).trans h1)
  have HG := Aside0.mk (grown_alloc (World.grownBy_alloc w (.cells #[Value.int IntKind.u8 2, Value.int IntKind.u8 3, Value.int IntKind.u8 1, Value.int IntKind.u8 1] 70) (some g)) (.cells #[Value.int IntKind.u8 0, Value.int IntKind.u8 0, Value.int IntKind.u8 0, Value.int IntKind.u8 0] 70))
  rw [← hpb] at HP
  have HB1 : Aside0 (((w.alloc (.cells #[Value.int IntKind.u8 2, Value.int IntKind.u8 3, Value.int IntKind.u8 1, Value.int IntKind.u8 1] 70)).alloc (.cells #[Value.int IntKind.u8 0, Value.int IntKind.u8 0, Value.int IntKind.u8 0, Value.int IntKind.u8 0] 70)).heap[g]? = w.heap[g]?) := ⟨(((Below.refl w.heap.size w).alloc (Nat.le_refl _) (.cells #[Value.int IntKind.u8 2, Value.int IntKind.u8 3, Value.int IntKind.u8 1, Value.int IntKind.u8 1] 70)).alloc (by simp) (.cells #[Value.int IntKind.u8 0, Value.int IntKind.u8 0, Value.int IntKind.u8 0, Value.int IntKind.u8 0] 70)).block g hglt⟩
  have HO : Aside0 (OwB ((w.alloc (.cells #[Value.int IntKind.u8 2, Value.int IntKind.u8 3, Value.int IntKind.u8 1, Value.int IntKind.u8 1] 70)).alloc (.cells #[Value.int IntKind.u8 0, Value.int IntKind.u8 0, Value.int IntKind.u8 0, Value.int IntKind.u8 0] 70)) ob 0 4 (fun _ => 0)) := ⟨fun i hi => by
      rw [Nat.zero_add, blk_cell h2 i]
      rcases (by omega : i = 0 ∨ i = 1 ∨ i = 2 ∨ i = 3) with rfl | rfl | rfl | rfl <;> rfl, fun i hi => blk_frozen h2 _⟩
  clear h1 h2 hs1 hpb hob
  generalize ((w.alloc (.cells #[Value.int IntKind.u8 2, Value.int IntKind.u8 3, Value.int IntKind.u8 1, Value.int IntKind.u8 1] 70)).alloc (.cells #[Value.int IntKind.u8 0, Value.int IntKind.u8 0, Value.int IntKind.u8 0, Value.int IntKind.u8 0] 70)) = w1 at HP HG HB1 HO ⊢
  go_loopg [9] 4 (fun gg v9 wr => ∃ i : Nat, i ≤ 4 ∧ 4 - i ≤ gg ∧ v9 = .int .i64 i ∧ Aside0 (OwB wr ob 0 4 (mixA i (mixc f) (fun _ => 0))) ∧ Aside0 (wr.heap[pb]? = some (.cells #[Value.int IntKind.u8 2, Value.int IntKind.u8 3, Value.int IntKind.u8 1, Value.int IntKind.u8 1] 70 (0, 0))) ∧ Aside0 (wr.heap[g]? = w.heap[g]?) ∧ Aside0 (w.grownBy wr (some g)))
  case atStart => exact ⟨0, by omega, by omega, rfl, ⟨by rw [mixA_zero]; exact HO.out⟩, HP, HB1, HG⟩
  case round =>
    obtain ⟨i, hi, hgg, rfl, HO, HP, HH, HG⟩ := hrel
    by_cases hlt : i < 4
    · have hd : decide ((i : Int) < 4) = true := decide_eq_true (by omega)
      have p0 : wr.cell? ⟨pb, 0, none⟩ = some (.int .u8 2) := blk_cell HP.out 0
      have p1 : wr.cell? ⟨pb, 1, none⟩ = some (.int .u8 3) := blk_cell HP.out 1
      have p2 : wr.cell? ⟨pb, 2, none⟩ = some (.int .u8 1) := blk_cell HP.out 2
      have p3 : wr.cell? ⟨pb, 3, none⟩ = some (.int .u8 1) := blk_cell HP.out 3
      go_wp2
      clear p0 p1 p2 p3
      have HI2 : Aside0 (OwB wr ob 0 4 (upd (mixA i (mixc f) (fun _ => 0)) i (mixs f i 0))) := ⟨by
        refine HO.out.congr (fun q hq => ?_)
        unfold upd
        by_cases e : q = i
        · rw [if_pos e, e, mixA_at]; rfl
        · rw [if_neg e]⟩
      obtain ⟨wo, rfl⟩ : ∃ wo : World, wo = wr := ⟨_, rfl⟩
      go_loopg [13] 4 (fun gg v13 wr => ∃ k : Nat, k ≤ 4 ∧ 4 - k ≤ gg ∧ v13 = .int .i64 k ∧ Aside0 (OwB wr ob 0 4 (upd (mixA i (mixc f) (fun _ => 0)) i (mixs f i k))) ∧ Aside0 (wr.heap[pb]? = some (.cells #[Value.int IntKind.u8 2, Value.int IntKind.u8 3, Value.int IntKind.u8 1, Value.int IntKind.u8 1] 70 (0, 0))) ∧ Aside0 (wr.heap[g]? = w.heap[g]?) ∧ Aside0 (w.grownBy wr (some g)))
      case atStart => exact ⟨0, by omega, by omega, rfl, HI2, HP, HH, HG⟩
      case round =>
        clear HI2 HO HP HH HG
        obtain ⟨k, hk, hgk, rfl, HO, HP, HH, HG⟩ := hrel
        by_cases hlk : k < 4
        · obtain ⟨q0, hq0⟩ : ∃ q0, q0 = i + k := ⟨_, rfl⟩
          obtain ⟨q, hq⟩ : ∃ q, q = q0 % 4 := ⟨_, rfl⟩
          have hqI : (q : Int) < 4 := by omega
          have hiI : (i : Int) < 4 := by omega
          have X1 := Aside0.mk (addI hq0 (by omega))
          have X2 := Aside0.mk (tmodI (m := 4) (M := 4) rfl hq)
          have c19 : wr.cell? ⟨ob, i, none⟩ = some (.int .u8 ((mixs f i k).toNat : Int)) := by
            have := HO.out.1.at0 i hlt
            unfold upd at this
            rwa [if_pos rfl] at this
          have f19 : wr.frozen? ⟨ob, i, none⟩ = false := HO.out.free0 i hlt
          have c27 : wr.cell? ⟨g, o + q, none⟩ = some (.int .u8 ((f q).toNat : Int)) := (HB.out.move HH.out).1 q (by omega)
          have hix := HI.out k hlk
          have HQ := Aside0.mk hq
          have HQ0 := Aside0.mk hq0
          clear hq hq0
          obtain ⟨x1, x2⟩ := X1.out
          obtain ⟨x3, x4⟩ := X2.out
          clear X1 X2
          go_wp2
          clear hix
          refine wp_region_still_tail 14 (by kernel_rfl) (by kernel_rfl) ?_
          simp only [List.take_succ_cons, List.take_zero, List.drop_succ_cons, List.drop_zero]
          repeat still_step
          still_call (mulGf_s (fb k) (f q) _)
          repeat still_step
          refine wpStill_nil ?_
          go_wp2
          go_roundg (4 - (k + 1))
          case measure => omega
          case rel =>
            refine ⟨k + 1, by omega, by omega, by go_num, ⟨?_⟩, ⟨?_⟩, ⟨(Below.heap_setCell _ _ _ _ (by simpa using hoo)).trans HH.out⟩, ⟨grown_drew (grown_new HG.out hwo _ _)⟩⟩
            · rw [xor8]
              refine (HO.out.store0 i hlt (mixs f i k ^^^ gmul (fb k) (f q))).drew.congr (fun j hj => ?_)
              unfold upd
              by_cases e : j = i
              · rw [if_pos e, if_pos e, mixs, HQ.out, HQ0.out]
              · rw [if_neg e, if_neg e, if_neg e]
            · exact (Below.heap_setCell _ _ _ _ (by simpa using hpo)).trans HP.out
        · obtain rfl : k = 4 := by omega
          go_wp2
          go_roundg (4 - (i + 1))
          case measure => omega
          case rel => exact ⟨i + 1, by omega, by omega, by go_num, ⟨by rw [← mixA_step]; exact HO.out⟩, HP, HH, HG⟩
    · obtain rfl : i = 4 := by omega
      have HO4 : Aside0 (OwB wr ob 0 4 (mixc f)) := ⟨HO.out.congr (fun j hj => mixA_lt _ _ _ _ hj)⟩
      go_wp2_with ((with_reducible refine gate_dst (N := 35) rfl ?_); refine copy_event rfl (N := 35) rfl 56 5 _ _ rfl g o 4 cap ob 0 4 f (mixc f) rfl rfl Try.underlying56 (by kernel_rfl) (HB.out.move HH.out) HO4.out.1 ?_; intro hA hBB; have HA := Aside0.mk hA; have HBB := Aside0.mk hBB; clear hA hBB)
      go_end0
      refine ⟨rfl, HA.out, World.grownBy.trans HG.out HBB.out, fun i hi => ?_, fun i => ?_⟩
      · rw [World.cell?_setCells_out g (cellsOf 4 (mixc f)) o wr ⟨g, i, none⟩ (fun _ _ => by rw [cellsOf_len]; exact hi)]
        exact World.cell?_of_block (a := ⟨g, i, none⟩) HH.out
      · rw [World.frozen?_setCells]
        exact World.frozen?_of_block (a := ⟨g, i, none⟩) HH.out
end Go.Proofs.Ytkcdhphhacjkhaa.B
