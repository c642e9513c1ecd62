/- The cipher of the program: contracts by hand. -/
import Derived.Test.YtkcdhphhacjkhaaCryW
import Derived.Test.YtkcdhphhacjkhaaRep
namespace Go.Proofs.Ytkcdhphhacjkhaa.B
open Go.RowKit Go.Proofs.YtkcdhphhacjkhaaW.PrintWords Go.Proofs.YtkcdhphhacjkhaaW.PrintLast Go.Proofs.YtkcdhphhacjkhaaW.PrintMore
open Go.Proofs.Ytkcdhphhacjkhaa.AES
open Go.Proofs.Ytkcdhphhacjkhaa
attribute [local go_sem] Go.Proofs.Ytkcdhphhacjkhaa.StoreK.isSome_setCell
set_option linter.unusedVariables false
set_option linter.unusedSimpArgs false
set_option maxHeartbeats 1000000 in
set_option maxRecDepth 100000 in
/-- A round's keys are put to a block. -/
theorem addKey_c (w : World) (c kg kc g cap round : Nat) (bx : Value) (K f : Nat → UInt8) (hc : w.heap[c]? = some (.cells #[bx, .slice (some ⟨kg, 0, none⟩) 176 kc] 69 (0, 0))) (hK : RdB w kg 0 176 K) (hb : OwB w g 0 16 f) (h1 : g ≠ c) (h2 : g ≠ kg) (hr : round ≤ 10) :
    Calls Try.prog 64 #[.pointer (some ⟨c, 0, none⟩), .slice (some ⟨g, 0, none⟩) 16 cap, .int .i64 (round : Int)] w fun e w' => e = .returned (.tuple #[]) ∧ OwB w' g 0 16 (fun i => f i ^^^ K (16 * round + i)) ∧ w.grownBy w' (some g) := by
  have HC := Aside0.mk hc
  have HK := Aside0.mk hK
  have HBB := Aside0.mk hb
  obtain ⟨j, hj⟩ : ∃ j, j = 16 * round := ⟨_, rfl⟩
  have HJ := Aside0.mk hj
  have WJ := Aside0.mk (mulI (c := 16) (C := 16) rfl hj (by omega))
  clear hc hK hb hj
  go_enter Try.func64, Try.ntmps64
  go_wp2
  go_loopg [9] 16 (fun gg v9 wr => ∃ k : Nat, k ≤ 16 ∧ 16 - k ≤ gg ∧ v9 = .int .i64 k ∧ Aside0 (OwB wr g 0 16 (mixA k (fun i => f i ^^^ K (16 * round + i)) f)) ∧ Aside0 (w.grownBy wr (some g)))
  case atStart => exact ⟨0, by omega, by omega, rfl, ⟨by rw [mixA_zero]; exact HBB.out⟩, ⟨World.grownBy.refl _ _⟩⟩
  case round =>
    obtain ⟨k, hk, hgg, rfl, HO, HG⟩ := hrel
    by_cases hlt : k < 16
    · obtain ⟨q, hq⟩ : ∃ q, q = j + k := ⟨_, rfl⟩
      have hjv : j = 16 * round := HJ.out
      have hqlt : q < 176 := by omega
      have w2 := addI hq (by omega)
      have WQ := Aside0.mk w2
      clear w2
      have HQ := Aside0.mk hq
      have c0 : wr.cell? ⟨c, 1, none⟩ = some (.slice (some ⟨kg, 0, none⟩) 176 kc) := HG.out.cell (blk_cell HC.out 1) (by simpa using fun h => h1 h.symm)
      have c1 : wr.cell? ⟨kg, q, none⟩ = some (.int .u8 ((K q).toNat : Int)) := HG.out.cell (HK.out.at0 q hqlt) (by simpa using fun h => h2 h.symm)
      have c2 : wr.cell? ⟨g, k, none⟩ = some (.int .u8 ((f k).toNat : Int)) := by
        have := HO.out.1.at0 k hlt
        rwa [mixA_at] at this
      have f2 : wr.frozen? ⟨g, k, none⟩ = false := HO.out.free0 k hlt
      have hqI : (q : Int) < 176 := by omega
      clear hq hjv
      obtain ⟨w1, w1'⟩ := WJ.out
      obtain ⟨w2, w2'⟩ := WQ.out
      go_wp2
      go_still_tail 16, (by kernel_rfl)
      go_wp2
      go_roundg (16 - (k + 1))
      case measure => omega
      case rel =>
        refine ⟨k + 1, by omega, by omega, by go_num, ⟨?_⟩, ⟨grown_drew (grown_set HG.out _ _)⟩⟩
        rw [xor8]
        exact (HO.out.step0 hlt (f k ^^^ K q) (by rw [HQ.out, HJ.out])).drew
    · go_wp2
      go_end0
      exact ⟨rfl, HO.out.congr (fun i hi => mixA_lt _ _ _ _ (by omega)), HG.out⟩
set_option maxHeartbeats 1000000 in
set_option maxRecDepth 100000 in
/-- A text xored with the first bytes of another one. -/
theorem xored_c (w : World) (a b : ByteArray) (ha : a.size ≤ 1000000) (hb : a.size ≤ b.size) :
    Calls Try.prog 54 #[.string a, .string b] w fun e w' => e = .returned (.string (strOf a.size fun i => byteAt a i ^^^ byteAt b i)) ∧ Below w.heap.size w w' := by
  go_enter Try.func54, Try.ntmps54
  go_wp2_with ((with_reducible refine gate_dst (N := 8) rfl ?_); refine conv_event rfl (N := 8) rfl 9 56 5 _ rfl a rfl Try.underlying9 Try.underlying56 Try.underlying5 ?_; intro g c w1 hg hc ho hbl hsz hblk hcs; have H1 := Aside0.mk ho; have H2 := Aside0.mk hbl; have H3 := Aside0.mk hg; clear ho hbl hsz hblk hcs hg hc)
  go_loopg [11] a.size (fun gg v11 wr => ∃ k : Nat, k ≤ a.size ∧ a.size - k ≤ gg ∧ v11 = .int .i64 k ∧ Aside0 (OwB wr g 0 a.size (mixA k (fun i => byteAt a i ^^^ byteAt b i) (byteAt a))) ∧ Aside0 (Below w.heap.size w wr))
  case atStart => exact ⟨0, by omega, by omega, rfl, ⟨by rw [mixA_zero]; exact H1.out⟩, ⟨H2.out⟩⟩
  case round =>
    obtain ⟨k, hk, hgg, rfl, HO, HG⟩ := hrel
    by_cases hlt : k < a.size
    · have c2 : wr.cell? ⟨g, k, none⟩ = some (.int .u8 ((byteAt a k).toNat : Int)) := by
        have := HO.out.1.at0 k hlt
        rwa [mixA_at] at this
      have f2 : wr.frozen? ⟨g, k, none⟩ = false := HO.out.free0 k hlt
      have hkb : k < b.size := by omega
      go_wp2
      go_still_tail 9, (by kernel_rfl)
      go_wp2
      go_roundg (a.size - (k + 1))
      case measure => omega
      case rel =>
        refine ⟨k + 1, by omega, by omega, by go_num, ⟨?_⟩, ⟨?_⟩⟩
        · rw [byteAt_get b k hkb, xor8]
          exact (HO.out.step0 hlt (byteAt a k ^^^ byteAt b k) rfl).drew
        · exact (HG.out.setCell (by have := H3.out; simp only; omega) _).drew
    · have hd : decide (k < a.size) = false := decide_eq_false hlt
      go_wp2_with ((with_reducible refine gate_dst (N := 25) rfl ?_); refine back_event rfl (N := 25) rfl 56 9 5 _ rfl g 0 a.size c _ rfl Try.underlying56 Try.underlying5 Try.underlying9 HO.out.1 ?_)
      go_ret
      exact ⟨by rw [strOf_congr (fun i hi => mixA_lt _ _ _ _ (by omega))]; rfl, HG.out⟩
theorem rep0 (c : Nat) : (⟨(Lib.repeatL [0] c).toArray⟩ : ByteArray) = strOf c fun _ => 0 := by
  unfold strOf
  congr 2
  rw [show (fun _ : Nat => (0 : UInt8)) = Function.const Nat 0 from rfl, List.map_const, List.length_range]
  induction c with
  | zero => rfl
  | succ c ih => rw [List.replicate_succ, ← ih]; rfl
set_option maxHeartbeats 1000000 in
set_option maxRecDepth 100000 in
theorem forth_c (w : World) : Calls Try.prog 67 #[] w fun e w' => e = .returned (.agg #[.int .u8 2, .int .u8 3, .int .u8 1, .int .u8 1]) ∧ Below w.heap.size w w' := by
  go_enter Try.func67, Try.ntmps67
  go_wp2
  exact bodyPost_ret (v := .agg #[.int .u8 2, .int .u8 3, .int .u8 1, .int .u8 1]) (by simp [results, Try.results67, go_sem]) rfl ⟨rfl, (Below.refl _ _).alloc (Nat.le_refl _) _⟩
set_option maxHeartbeats 1000000 in
set_option maxRecDepth 100000 in
theorem filled_c (w : World) (s : ByteArray) (hs : s.size ≤ 1000000) : Calls Try.prog 52 #[.string s] w fun e w' => e = .returned (.string (s ++ strOf ((16 - s.size % 16) % 16) fun _ => 0)) ∧ Below w.heap.size w w' := by
  obtain ⟨c, hc⟩ : ∃ c, c = (16 - s.size % 16) % 16 := ⟨_, rfl⟩
  have h1 : -((s.size : Int) % 16) % 16 = (c : Int) := by omega
  have H1 := Aside0.mk h1
  have hcs : c < 16 := by omega
  have hsum : (9223372036854775807 < s.size + (strOf c fun _ => 0).size) = False := by rw [strOf_size]; simp; omega
  have hsum2 : (9223372036854775807 < s.size + c) = False := by simp; omega
  rw [← hc]
  clear h1 hc
  go_enter Try.func52, Try.ntmps52
  go_wp2_with fail
  refine calls_of_args (args' := #[.string ⟨#[0]⟩, .int .i64 (c : Int)]) (by rw [H1.out]) ?_
  refine (Go.Proofs.Ytkcdhphhacjkhaa.RepLaid.strings_Repeat ⟨#[0]⟩ c _ (by omega) (by show 1 * c ≤ _; omega)).mono ?_
  rintro e w' ⟨rfl, hb⟩
  rw [show (⟨(Lib.repeatL ((⟨#[0]⟩ : ByteArray).data.toList) c).toArray⟩ : ByteArray) = strOf c fun _ => 0 from rep0 c]
  have HB := Aside0.mk hb
  clear hb
  go_wp2
  go_ret
  exact ⟨rfl, HB.out⟩
set_option maxHeartbeats 1000000 in
set_option maxRecDepth 100000 in
/-- The table of the cipher. -/
theorem newBox_c (w : World) :
    Calls Try.prog 46 #[] w fun e w' => ∃ g, w.heap.size ≤ g ∧ e = .returned (.pointer (some ⟨g, 0, none⟩)) ∧ RdB w' g 0 256 (fun i => sb (UInt8.ofNat i)) ∧ Below w.heap.size w w' := by
  go_enter Try.func46, Try.ntmps46
  go_wp2
  obtain ⟨g, hg⟩ : ∃ g, g = w.heap.size := ⟨_, rfl⟩
  have HG := Aside0.mk hg
  have hzs : Try.zeroCells73.size = 512 := by kernel_rfl
  have hz : ∀ i, i < 512 → ((w.alloc (Obj.cells Try.zeroCells73 73)).cell? ⟨g, i, none⟩).isSome = true ∧ (w.alloc (Obj.cells Try.zeroCells73 73)).frozen? ⟨g, i, none⟩ = false := fun i hi => by
    have hb := blk_new w (.cells Try.zeroCells73 73)
    rw [← hg] at hb
    exact ⟨by rw [blk_cell hb i, Array.getElem?_eq_getElem (by omega)]; rfl, blk_frozen hb i⟩
  have HZ := Aside0.mk hz
  have HB := Aside0.mk ((Below.refl w.heap.size w).alloc (Nat.le_refl _) (Obj.cells Try.zeroCells73 73))
  rw [← hg]
  clear hz hzs
  generalize w.alloc (Obj.cells Try.zeroCells73 73) = w1 at HZ HB ⊢
  rw [← hg] at HB
  clear hg
  go_loopg [6] 256 (fun gg v6 wr => ∃ k : Nat, k ≤ 256 ∧ 256 - k ≤ gg ∧ v6 = .int .i64 k ∧ Aside0 (RdB wr g 0 k (fun i => sb (UInt8.ofNat i))) ∧ Aside0 (∀ i, i < 512 → (wr.cell? ⟨g, i, none⟩).isSome = true ∧ wr.frozen? ⟨g, i, none⟩ = false) ∧ Aside0 (Below g w wr))
  case atStart => exact ⟨0, by omega, by omega, rfl, ⟨fun i hi => absurd hi (Nat.not_lt_zero _)⟩, HZ, HB⟩
  case round =>
    obtain ⟨k, hk, hgg, rfl, HO, HA, HBB⟩ := hrel
    by_cases hlt : k < 256
    · obtain ⟨x, rfl⟩ : ∃ x : UInt8, k = x.toNat := ⟨UInt8.ofNat k, by rw [UInt8.toNat_ofNat']; omega⟩
      go_wp2_with fail
      refine (subByte_c x _).mono ?_
      rintro e w2 ⟨rfl, hd⟩
      have HO2 := Aside0.mk (HO.out.drawn hd)
      have HB2 := Aside0.mk (below_drawn HBB.out hd)
      have HA2 : Aside0 (∀ i, i < 512 → (w2.cell? ⟨g, i, none⟩).isSome = true ∧ w2.frozen? ⟨g, i, none⟩ = false) := ⟨by
        obtain ⟨m, rfl⟩ := hd
        exact HA.out⟩
      clear HO HBB HA hd
      obtain ⟨y, hy⟩ : ∃ y, y = sb x := ⟨_, rfl⟩
      rw [← hy]
      have HY := Aside0.mk hy
      clear hy
      have hyl := y.toNat_lt
      have hyI : (y.toNat : Int) < 256 := by omega
      have hy0 : (0 : Int) ≤ (y.toNat : Int) := by omega
      obtain ⟨s1, f1⟩ := HA2.out x.toNat (by omega)
      obtain ⟨s2, f2⟩ := HA2.out (256 + y.toNat) (by omega)
      obtain ⟨v1, s1⟩ := Option.isSome_iff_exists.1 s1
      obtain ⟨v2, s2⟩ := Option.isSome_iff_exists.1 s2
      go_wp2
      go_region
      go_wp2
      go_roundg (256 - (x.toNat + 1))
      case measure => omega
      case rel =>
        refine ⟨x.toNat + 1, by omega, by omega, by go_num, ⟨fun i hi => ?_⟩, ⟨fun i hi => ⟨?_, ?_⟩⟩, ⟨((HB2.out.setCell (by simp) _).setCell (by simp) _).drew⟩⟩
        · rw [World.cell?_drew, World.cell?_setCell_other _ _ _ _ (by intro h; injection h with _ h; omega)]
          by_cases e : i = x.toNat
          · subst e
            rw [Nat.zero_add, World.cell?_setCell_same _ _ _ s1, HY.out]
            simp
          · rw [World.cell?_setCell_other _ _ _ _ (by intro h; injection h with _ h; omega)]
            exact HO2.out i (by omega)
        · exact some_set (some_set (HA2.out i hi).1 _ _) _ _
        · rw [World.frozen?_drew, World.frozen?_setCell, World.frozen?_setCell]
          exact (HA2.out i hi).2
    · go_wp2
      go_ret
      exact ⟨g, by rw [HG.out]; exact Nat.le_refl _, rfl, fun i hi => HO.out i (by omega), HG.out ▸ HBB.out⟩
end Go.Proofs.Ytkcdhphhacjkhaa.B
