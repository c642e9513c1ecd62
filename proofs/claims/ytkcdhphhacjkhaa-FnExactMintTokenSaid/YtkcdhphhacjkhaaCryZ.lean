/- The reference seals. -/
import Derived.Test.YtkcdhphhacjkhaaCryY
import Derived.Test.YtkcdhphhacjkhaaCryO
namespace Go.Proofs.Ytkcdhphhacjkhaa.B
open Go.RowKit Go.Proofs.YtkcdhphhacjkhaaW.PrintWords Go.Proofs.YtkcdhphhacjkhaaW.PrintLast Go.Proofs.YtkcdhphhacjkhaaW.PrintMore
open Go.Proofs.Ytkcdhphhacjkhaa.AES
open Go.Proofs.Ytkcdhphhacjkhaa
open Go.Proofs.Ytkcdhphhacjkhaa.QuietK
attribute [local go_sem] Go.Proofs.Ytkcdhphhacjkhaa.StoreK.isSome_setCell
set_option linter.unusedVariables false
set_option linter.unusedSimpArgs false
set_option maxHeartbeats 4000000 in
set_option maxRecDepth 100000 in
theorem sseal_c (w : World) (k : Nat) (K : Nat → UInt8) (nonce beside text : ByteArray) (hk : KeyR w k K) (hn : nonce.size = 12) (hb : beside.size ≤ 2000) (ht : text.size ≤ 2000) :
    Calls Try.prog 31 #[.pointer (some ⟨k, 0, none⟩), .string nonce, .string beside, .string text] w fun e w' => e = .returned (.string (sealF K nonce beside text)) ∧ Below w.heap.size w w' := by
  have HK := Aside0.mk hk
  have HN := Aside0.mk hn
  obtain ⟨s, hs⟩ : ∃ s, s = ctr K nonce text := ⟨_, rfl⟩
  have hss : s.size ≤ 2000 := by rw [hs, ctr_size]; exact ht
  obtain ⟨g, hg⟩ : ∃ g, g = tagF K nonce beside s := ⟨_, rfl⟩
  have hgs : g.size = 16 := by rw [hg, tagF_size]
  have hcat : (9223372036854775807 < s.size + g.size) = False := by simp; omega
  have hfin : sealF K nonce beside text = s ++ g := by rw [hg, hs]; rfl
  have HS := Aside0.mk hs
  have HSS := Aside0.mk hss
  have HG := Aside0.mk hg
  rw [hfin]
  clear hk hn hs hss hg hgs hfin
  go_enter Try.func31, Try.ntmps31
  go_wp2_with fail
  refine (count_c w k K nonce text HK.out HN.out ht).mono ?_
  rintro e w1 ⟨rfl, hb1⟩
  rw [← HS.out]
  have HB1 := Aside0.mk hb1
  have HK1 := Aside0.mk (HK.out.below hb1)
  clear hb1
  go_wp2_with fail
  refine (stag_c w1 k K nonce beside s HK1.out HN.out hb HSS.out).mono ?_
  rintro e w2 ⟨rfl, hb2⟩
  rw [← HG.out]
  have HB2 := Aside0.mk (Bt HB1.out hb2)
  clear hb2
  go_wp2
  go_ret
  exact ⟨rfl, HB2.out⟩
/-- A token minted. -/
def first (b : Bool) : ByteArray := if b = true then ⟨#[1]⟩ else ⟨#[0]⟩
def mintF (key nonce address dcid : ByteArray) (time : Int) (new : Bool) : ByteArray := first new ++ nonce ++ sealF (keysOf (byteAt key)) nonce (first new ++ address) (strOfNums (be time 8) ++ dcid)
def sealT (key nonce beside text : ByteArray) : ByteArray := sealF (keysOf (byteAt key)) nonce beside text
def beT (x : Int) (m : Nat) : ByteArray := strOfNums (be x m)
theorem mintF_eq (key nonce address dcid : ByteArray) (time : Int) (new : Bool) : mintF key nonce address dcid time new = first new ++ nonce ++ sealT key nonce (first new ++ address) (beT time 8 ++ dcid) := rfl
theorem beT_size (x : Int) (m : Nat) : (beT x m).size = m := by unfold beT; rw [strOfNums_size, be_length]
theorem sealF_size (K : Nat → UInt8) (n b s : ByteArray) : (sealF K n b s).size = s.size + 16 := by
  unfold sealF
  rw [ByteArray.size_append, ctr_size, tagF_size]
set_option maxHeartbeats 4000000 in
set_option maxRecDepth 100000 in
theorem l10Mint_c (w : World) (key nonce address dcid : ByteArray) (time : Int) (new : Bool) (hk : key.size = 16) (hn : nonce.size = 12) (ha : address.size ≤ 1000) (hd : dcid.size ≤ 1000) :
    Calls Try.prog 17 #[.string key, .string nonce, .string address, .agg #[.string dcid, .int .i64 time, .bool new]] w fun e w' => e = .returned (.string (mintF key nonce address dcid time new)) ∧ Below w.heap.size w w' := by
  have HN := Aside0.mk hn
  have HK := Aside0.mk hk
  obtain ⟨K, hK⟩ : ∃ K, K = keysOf (byteAt key) := ⟨_, rfl⟩
  have HKK := Aside0.mk hK
  obtain ⟨t8, ht8⟩ : ∃ b, b = strOfNums (be time 8) := ⟨_, rfl⟩
  have ht8s : t8.size = 8 := by rw [ht8, strOfNums_size, be_length]
  have hfx : ∀ W, Calls Try.prog 32 #[.int .i64 time, .int .i64 8] W fun e w' => e = .returned (.string t8) ∧ Below W.heap.size W w' := fun W => by rw [ht8]; exact l1Fixed_c time 8 (by omega) W
  have HFX := Aside0.mk hfx
  have HT8 := Aside0.mk ht8
  clear hk hn hK hfx ht8
  have hc1 : (9223372036854775807 < 1 + address.size) = False := by simp; omega
  have hc2 : (9223372036854775807 < t8.size + dcid.size) = False := by simp; omega
  have hc3 : (9223372036854775807 < 1 + nonce.size) = False := by rw [HN.out]; simp
  have hc4 : (9223372036854775807 < 1 + nonce.size + (t8.size + dcid.size + 16)) = False := by rw [HN.out]; simp; omega
  go_enter Try.func17, Try.ntmps17
  have hts : (t8 ++ dcid).size ≤ 2000 := by rw [ByteArray.size_append]; omega
  have htz : (t8 ++ dcid).size = t8.size + dcid.size := ByteArray.size_append ..
  have hbs : (first new ++ address).size ≤ 2000 := by
    rw [ByteArray.size_append]
    have : (first new).size = 1 := by cases new <;> rfl
    omega
  have hbs0 : ((⟨#[0]⟩ : ByteArray) ++ address).size ≤ 2000 := by
    rw [ByteArray.size_append]
    have : (⟨#[0]⟩ : ByteArray).size = 1 := rfl
    omega
  have hbs1 : ((⟨#[1]⟩ : ByteArray) ++ address).size ≤ 2000 := by
    rw [ByteArray.size_append]
    have : (⟨#[1]⟩ : ByteArray).size = 1 := rfl
    omega
  have HTS := Aside0.mk hts
  have HTZ := Aside0.mk htz
  have HBS0 := Aside0.mk hbs0
  have HBS1 := Aside0.mk hbs1
  have HT8S := Aside0.mk ht8s
  have hd' := hd
  have HQ := Aside0.mk (blk_new w (.cells #[.string dcid, .int .i64 time, .bool new] 27))
  have HB := Aside0.mk ((Below.refl w.heap.size w).alloc (Nat.le_refl _) (.cells #[.string dcid, .int .i64 time, .bool new] 27))
  clear hts htz hbs hbs0 hbs1 hc4 ht8s
  cases new
  · obtain ⟨b, hb⟩ : ∃ b, b = w.heap.size := ⟨_, rfl⟩
    have HBE := Aside0.mk hb
    go_wp2
    rw [← hb] at HQ ⊢
    clear hb
    generalize w.alloc (.cells #[.string dcid, .int .i64 time, .bool false] 27) = w0 at HQ HB ⊢
    have c0 : w0.drew.cell? ⟨b, 0, none⟩ = some (.string dcid) := by rw [World.cell?_drew]; exact blk_cell HQ.out 0
    have c1 : w0.drew.cell? ⟨b, 1, none⟩ = some (.int .i64 time) := by rw [World.cell?_drew]; exact blk_cell HQ.out 1
    have HB0 := Aside0.mk HB.out.drew
    go_region_held3 (fun w' => w'.cell? ⟨b, 0, none⟩ = some (.string dcid) ∧ w'.cell? ⟨b, 1, none⟩ = some (.int .i64 time)) (first | assumption | exact ⟨c0, c1⟩ | exact ⟨by assumption, by assumption⟩ | go_keep) (first
      | (go_at_call 30; refine (l5Key_c _ key HK.out).mono ?_; rintro e w1 ⟨k, hkw, rfl, hkr, hb1⟩; rw [← HKK.out] at hkr; have HR1 := Aside0.mk hkr; have d0 := cb_ c0 hb1; have d1 := cb_ c1 hb1; have HB1 := Aside0.mk (Bt HB0.out hb1); clear hb1 hkr hkw)
      | (go_at_call 32; refine (HFX.out _).mono ?_; rintro e w2 ⟨rfl, hb2⟩; have e0 := cb_ d0 hb2; have e1 := cb_ d1 hb2; have HR2 := Aside0.mk (HR1.out.below hb2); have HB2 := Aside0.mk (Bt HB1.out hb2); clear hb2)
      | (go_at_call 31; refine (sseal_c _ _ K nonce _ _ HR2.out HN.out HBS0.out HTS.out).mono ?_; rintro e w3 ⟨rfl, hb3⟩; have HB3 := Aside0.mk (Bt HB2.out hb3); have f0 := cb_ e0 hb3; have f1 := cb_ e1 hb3; clear hb3; obtain ⟨sd, hsd⟩ : ∃ s, s = sealF K nonce ((⟨#[0]⟩ : ByteArray) ++ address) (t8 ++ dcid) := ⟨_, rfl⟩; rw [← hsd]; have hsds : sd.size ≤ 2016 := (by rw [hsd, sealF_size]; have := HTS.out; omega); have hc4 : (9223372036854775807 < 1 + nonce.size + sd.size) = False := (by rw [HN.out]; simp; omega); have HSD := Aside0.mk hsd; clear hsd))
    all_goals go_wp2
    all_goals
      go_ret
      refine ⟨?_, HB3.out⟩
      have hfin : mintF key nonce address dcid time false = (⟨#[0]⟩ : ByteArray) ++ nonce ++ sd := by rw [HSD.out, HKK.out, HT8.out]; rfl
      rw [hfin]
      rfl
  · obtain ⟨b, hb⟩ : ∃ b, b = w.heap.size := ⟨_, rfl⟩
    have HBE := Aside0.mk hb
    go_wp2
    rw [← hb] at HQ ⊢
    clear hb
    generalize w.alloc (.cells #[.string dcid, .int .i64 time, .bool true] 27) = w0 at HQ HB ⊢
    have c0 : w0.drew.cell? ⟨b, 0, none⟩ = some (.string dcid) := by rw [World.cell?_drew]; exact blk_cell HQ.out 0
    have c1 : w0.drew.cell? ⟨b, 1, none⟩ = some (.int .i64 time) := by rw [World.cell?_drew]; exact blk_cell HQ.out 1
    have HB0 := Aside0.mk HB.out.drew
    go_region_held3 (fun w' => w'.cell? ⟨b, 0, none⟩ = some (.string dcid) ∧ w'.cell? ⟨b, 1, none⟩ = some (.int .i64 time)) (first | assumption | exact ⟨c0, c1⟩ | exact ⟨by assumption, by assumption⟩ | go_keep) (first
      | (go_at_call 30; refine (l5Key_c _ key HK.out).mono ?_; rintro e w1 ⟨k, hkw, rfl, hkr, hb1⟩; rw [← HKK.out] at hkr; have HR1 := Aside0.mk hkr; have d0 := cb_ c0 hb1; have d1 := cb_ c1 hb1; have HB1 := Aside0.mk (Bt HB0.out hb1); clear hb1 hkr hkw)
      | (go_at_call 32; refine (HFX.out _).mono ?_; rintro e w2 ⟨rfl, hb2⟩; have e0 := cb_ d0 hb2; have e1 := cb_ d1 hb2; have HR2 := Aside0.mk (HR1.out.below hb2); have HB2 := Aside0.mk (Bt HB1.out hb2); clear hb2)
      | (go_at_call 31; refine (sseal_c _ _ K nonce _ _ HR2.out HN.out HBS1.out HTS.out).mono ?_; rintro e w3 ⟨rfl, hb3⟩; have HB3 := Aside0.mk (Bt HB2.out hb3); have f0 := cb_ e0 hb3; have f1 := cb_ e1 hb3; clear hb3; obtain ⟨sd, hsd⟩ : ∃ s, s = sealF K nonce ((⟨#[1]⟩ : ByteArray) ++ address) (t8 ++ dcid) := ⟨_, rfl⟩; rw [← hsd]; have hsds : sd.size ≤ 2016 := (by rw [hsd, sealF_size]; have := HTS.out; omega); have hc4 : (9223372036854775807 < 1 + nonce.size + sd.size) = False := (by rw [HN.out]; simp; omega); have HSD := Aside0.mk hsd; clear hsd))
    all_goals go_wp2
    all_goals
      go_ret
      refine ⟨?_, HB3.out⟩
      have hfin : mintF key nonce address dcid time true = (⟨#[1]⟩ : ByteArray) ++ nonce ++ sd := by rw [HSD.out, HKK.out, HT8.out]; rfl
      rw [hfin]
      rfl
end Go.Proofs.Ytkcdhphhacjkhaa.B
