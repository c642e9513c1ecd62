/- The reference seals and opens. -/
import Derived.Test.YtkcdhphhacjkhaaCryL
import Derived.Test.YtkcdhphhacjkhaaCryU
namespace Go.Proofs.Ytkcdhphhacjkhaa.B
open Go.RowKit Go.Proofs.YtkcdhphhacjkhaaW.PrintWords Go.Proofs.YtkcdhphhacjkhaaW.PrintLast Go.Proofs.YtkcdhphhacjkhaaW.PrintMore
open Go.Proofs.Ytkcdhphhacjkhaa.AES
open Go.Proofs.Ytkcdhphhacjkhaa
open Go.Proofs.Ytkcdhphhacjkhaa.QuietK
attribute [local go_sem] Go.Proofs.Ytkcdhphhacjkhaa.StoreK.isSome_setCell
set_option linter.unusedVariables false
set_option linter.unusedSimpArgs false
/-- A key with what is made of it once. -/
def KeyR (w : World) (k : Nat) (K : Nat → UInt8) : Prop := ∃ kg kc tg tc : Nat, 176 ≤ kc ∧ w.heap[k]? = some (.cells #[.slice (some ⟨kg, 0, none⟩) 176 kc, .slice (some ⟨tg, 0, none⟩) 256 tc, .string (hashKey K)] 64 (0, 0)) ∧ RdB w kg 0 176 K ∧ RdB w tg 0 256 (fun i => sb (UInt8.ofNat i))
theorem KeyR.below {w w' : World} {k : Nat} {K : Nat → UInt8} (h : KeyR w k K) (hb : Below w.heap.size w w') : KeyR w' k K := by
  obtain ⟨kg, kc, tg, tc, h0, h1, h2, h3⟩ := h
  exact ⟨kg, kc, tg, tc, h0, (hb.block k (blk_lt h1)).trans h1, h2.below hb, h3.below hb⟩
set_option maxHeartbeats 4000000 in
set_option maxRecDepth 100000 in
theorem l5Key_c (w : World) (s : ByteArray) (hs : s.size = 16) :
    Calls Try.prog 30 #[.string s] w fun e w' => ∃ k, w.heap.size ≤ k ∧ e = .returned (.pointer (some ⟨k, 0, none⟩)) ∧ KeyR w' k (keysOf (byteAt s)) ∧ Below w.heap.size w w' := by
  obtain ⟨K, hK⟩ : ∃ K, K = keysOf (byteAt s) := ⟨_, rfl⟩
  have hkey : ∀ W, Calls Try.prog 41 #[.string s] W fun e w' => ∃ g, W.heap.size ≤ g ∧ ∃ c, 176 ≤ c ∧ e = .returned (.slice (some ⟨g, 0, none⟩) 176 c) ∧ RdB w' g 0 176 K ∧ Below W.heap.size W w' := fun W => by rw [hK]; exact l3Keys_c W s hs
  have HKEY := Aside0.mk hkey
  rw [← hK]
  clear hkey hK hs
  go_enter Try.func30, Try.ntmps30
  go_wp2_with fail
  refine (HKEY.out _).mono ?_
  rintro e w1 ⟨kg, hkg, kc, hkc, rfl, hr1, hb1⟩
  have HR1 := Aside0.mk hr1
  have HB1 := Aside0.mk hb1
  clear hr1 hb1 HKEY
  go_wp2_with fail
  refine (l3Table_c _).mono ?_
  rintro e w2 ⟨tg, htg, rfl, hr2, hb2⟩
  have HT2 := Aside0.mk hr2
  have HR2 := Aside0.mk (HR1.out.below hb2)
  have HB2 := Aside0.mk (HB1.out.trans (hb2.mono HB1.out.size))
  clear hr2 hb2 HR1 HB1
  go_wp2_with fail
  obtain ⟨k, hk⟩ : ∃ k, k = w2.heap.size := ⟨_, rfl⟩
  rw [← hk]
  have hwk : w.heap.size ≤ k := by rw [hk]; exact HB2.out.size
  have hbk := blk_new w2 (.cells #[.slice (some ⟨kg, 0, none⟩) 176 kc, .slice (some ⟨tg, 0, none⟩) 256 256, .string ⟨#[]⟩] 64)
  rw [← hk] at hbk
  have HBa := (Below.refl w2.heap.size w2).alloc (Nat.le_refl _) (.cells #[.slice (some ⟨kg, 0, none⟩) 176 kc, .slice (some ⟨tg, 0, none⟩) 256 256, .string ⟨#[]⟩] 64)
  have HQ := Aside0.mk hbk
  have HT3 := Aside0.mk (HT2.out.below HBa)
  have HR3 := Aside0.mk (HR2.out.below HBa)
  have HB3 := Aside0.mk (HB2.out.trans (HBa.mono HB2.out.size))
  have hkgk : kg ≠ k := by have := HR2.out.lt (by decide); omega
  have htgk : tg ≠ k := by have := HT2.out.lt (by decide); omega
  clear hbk HBa hk HT2 HR2 HB2
  generalize w2.alloc (.cells #[.slice (some ⟨kg, 0, none⟩) 176 kc, .slice (some ⟨tg, 0, none⟩) 256 256, .string ⟨#[]⟩] 64) = w3 at HQ HT3 HR3 HB3 ⊢
  obtain ⟨MC, hMC⟩ : ∃ MC, MC = madeCells (Value.int .u8 0).cells 16 := ⟨_, rfl⟩
  have hz16 : ∀ i, i < 16 → MC[i]? = some (.int .u8 0) := fun i hi => by
    have e1 : (Value.int .u8 0).cells = #[Value.int .u8 0] := rfl
    have e2 : (madeCells (Value.int .u8 0).cells 16)[i]? = some (#[Value.int .u8 0][i % 1]!) := by
      unfold madeCells
      rw [e1]
      simp [hi]
    rw [hMC, e2, Nat.mod_one]
    rfl
  have hmk : ∀ W : World, (Instr.makeSlice 56 (.int .i64 16) (.int .i64 16)).run Try.prog W = .ok (.slice (some ⟨W.heap.size, 0, none⟩) 16 16) (W.alloc (.cells MC 5)) := fun W => by
    obtain ⟨i0, hi, hzz⟩ := Option.map_eq_some_iff.1 info5
    simp only [Prod.mk.injEq] at hzz
    obtain ⟨hz0, hz1, hz2⟩ := hzz
    have hr := run_make (P := Try.prog) W 56 5 i0 _ Try.underlying56 hi hz0 .i64 .i64 16 16 (by omega) (by omega) (by rw [hz2]; decide) (by omega)
    rw [hz1] at hr
    rw [hMC]
    exact hr
  have HM3 := Aside0.mk ((Below.refl w3.heap.size w3).alloc (Nat.le_refl _) (.cells MC 5)).drew
  have hcv : (convert 56 9 (.slice (some ⟨w3.heap.size, 0, none⟩) 16 16)).run Try.prog (w3.alloc (.cells MC 5)).drew = .ok (.string zero16) (w3.alloc (.cells MC 5)).drew := by
    have hb := run_convert_bytes_back (P := Try.prog) (w3.alloc (.cells MC 5)).drew 56 9 5 ⟨w3.heap.size, 0, none⟩ 16 ((List.range 16).map fun _ => (0 : UInt8)) Try.underlying56 Try.underlying5 Try.underlying9 (fun j hj => by
      rw [Addr.add_lit, World.cell?_drew, blk_cell (blk_new w3 _) (0 + j), Nat.zero_add, hz16 j (by simpa using hj)]
      simp)
    simpa [zero16, strOf] using hb
  have q0 : w3.cell? ⟨k, 0, none⟩ = some (.slice (some ⟨kg, 0, none⟩) 176 kc) := blk_cell HQ.out 0
  have q1 : w3.cell? ⟨k, 1, none⟩ = some (.slice (some ⟨tg, 0, none⟩) 256 256) := blk_cell HQ.out 1
  have hkl3 : k < w3.heap.size := blk_lt HQ.out
  have hkn3 : k ≠ w3.heap.size := Nat.ne_of_lt hkl3
  clear hMC hz16
  go_region_with (go_at_call 43; refine (l3With_c _ kg kc tg 256 K zero16 (strOf_size _ _) (HR3.out.below HM3.out) hkc (HT3.out.below HM3.out)).mono ?_; rintro e w5 ⟨rfl, hb5⟩; have hq5 := blk_below (blk_below HQ.out HM3.out) hb5; have HB5 := Aside0.mk hb5; have HQ5 := Aside0.mk hq5; have q2 : w5.cell? ⟨k, 2, none⟩ = some (.string ⟨#[]⟩) := blk_cell hq5 2; have f2 := blk_frozen hq5 2; clear hb5 hq5)
  all_goals go_wp2
  all_goals
    go_ret
    exact ⟨k, hwk, rfl, ⟨kg, kc, tg, 256, hkc, blk_put HQ5.out 2 _ rfl, ((HR3.out.below HM3.out).below HB5.out).far hkgk _ _, ((HT3.out.below HM3.out).below HB5.out).far htgk _ _⟩, ((HB3.out.trans (HM3.out.mono HB3.out.size)).trans (HB5.out.mono (Nat.le_trans HB3.out.size HM3.out.size))).setCell (by simpa using hwk) _⟩
end Go.Proofs.Ytkcdhphhacjkhaa.B
