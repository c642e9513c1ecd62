/- Texts sealed and opened by the program. -/
import Derived.Test.YtkcdhphhacjkhaaCryU
import Derived.Laws.Cover3
namespace Go.Proofs.Ytkcdhphhacjkhaa.B
open Go.RowKit Go.Proofs.YtkcdhphhacjkhaaW.PrintWords Go.Proofs.YtkcdhphhacjkhaaW.PrintLast Go.Proofs.YtkcdhphhacjkhaaW.PrintMore
open Go.Proofs.Ytkcdhphhacjkhaa.AES
open Go.Proofs.Ytkcdhphhacjkhaa
open Go.Proofs.Ytkcdhphhacjkhaa.QuietK
attribute [local go_sem] Go.Proofs.Ytkcdhphhacjkhaa.StoreK.isSome_setCell min2_int min_two
set_option linter.unusedVariables false
set_option linter.unusedSimpArgs false
set_option maxHeartbeats 4000000 in
set_option maxRecDepth 100000 in
/-- What is sealed by a right key. -/
theorem sealText_c (w : World) (key nonce beside text : ByteArray) (hk : key.size = 16) (hn : nonce.size = 12) (hb : beside.size ≤ 1500) (ht : text.size ≤ 1500) :
    Calls Try.prog 21 #[.string key, .string nonce, .string beside, .string text] w fun e w' => e = .returned (.tuple #[.string (sealF (keysOf (byteAt key)) nonce beside text), .bool true]) ∧ Below w.heap.size w w' := by
  have hok : impl_sealOk.f key nonce beside = some true := by
    unfold impl_sealOk.f impl_isKey.f
    simp [hk, hn]; omega
  obtain ⟨K, hK⟩ : ∃ K, K = keysOf (byteAt key) := ⟨_, rfl⟩
  obtain ⟨s, hs⟩ : ∃ s, s = ctr K nonce text := ⟨_, rfl⟩
  have hss : s.size ≤ 1500 := by rw [hs, ctr_size]; exact ht
  obtain ⟨g, hg⟩ : ∃ g, g = tagF K nonce beside s := ⟨_, rfl⟩
  have hgs : g.size = 16 := by rw [hg, tagF_size]
  have hcat : (9223372036854775807 < s.size + g.size) = False := by simp; omega
  have hfin : sealF (keysOf (byteAt key)) nonce beside text = s ++ g := by rw [hg, hs, hK]; rfl
  have hd1 : decide ((1500 : Int) < (text.size : Int)) = false := decide_eq_false (by omega)
  have hd2 : ¬ ((1500 : Int) < (text.size : Int)) := by omega
  have HK := Aside0.mk hk
  have HN := Aside0.mk hn
  have HOK := Aside0.mk hok
  have HKK := Aside0.mk hK
  have HS := Aside0.mk hs
  have HSS := Aside0.mk hss
  have HG := Aside0.mk hg
  rw [hfin]
  clear hk hn hok hK hs hss hg hgs hfin
  go_enter Try.func21, Try.ntmps21
  go_wp2_with fail
  refine (impl_sealOk.calls key nonce beside true _ HOK.out).mono ?_
  rintro e w1 ⟨rfl, hd⟩
  have HB1 := Aside0.mk (below_drawn (Below.refl w.heap.size w) hd)
  clear hd
  go_wp2_with fail
  refine (cipherOf_c w1 key HK.out).mono ?_
  rintro e w2 ⟨c, hc, rfl, hci, hb2⟩
  rw [← HKK.out] at hci
  have HC := Aside0.mk hci
  have HB2 := Aside0.mk (HB1.out.trans (hb2.mono HB1.out.size))
  clear hb2 hci HB1
  go_wp2_with fail
  refine (turned_c w2 c K nonce text HC.out HN.out (by omega)).mono ?_
  rintro e w3 ⟨rfl, hb3⟩
  rw [← HS.out]
  have HC3 := Aside0.mk (HC.out.below hb3)
  have HB3 := Aside0.mk (HB2.out.trans (hb3.mono HB2.out.size))
  clear hb3 HB2 HC
  go_wp2_with fail
  refine (tag_c w3 c K nonce beside s HC3.out HN.out (by omega) (by have := HSS.out; omega)).mono ?_
  rintro e w4 ⟨rfl, hb4⟩
  rw [← HG.out]
  have HB4 := Aside0.mk (HB3.out.trans (hb4.mono HB3.out.size))
  clear hb4 HB3
  go_wp2
  go_ret2
  exact ⟨rfl, HB4.out⟩
theorem bytes_beq (a b : ByteArray) : (a.toList == b.toList) = decide (a = b) := by
  rw [ByteArray.toList_eq, ByteArray.toList_eq]
  by_cases h : a = b
  · subst h; simp
  · have hne : a.data.toList ≠ b.data.toList := fun e => h (ByteArray.ext (Array.toList_inj.mp e))
    rw [decide_eq_false h]
    exact beq_eq_false_iff_ne.mpr hne
set_option maxHeartbeats 4000000 in
set_option maxRecDepth 100000 in
/-- What is opened by a right key. -/
theorem openText_c (w : World) (key nonce beside sl : ByteArray) (n : Nat) (hk : key.size = 16) (hn : nonce.size = 12) (hb : beside.size ≤ 1500) (hsl : sl.size = n + 16) (ht : n ≤ 1500) (ok : Bool) (hokv : ok = decide (tagF (keysOf (byteAt key)) nonce beside (sl.extract 0 n) = sl.extract n sl.size)) :
    Calls Try.prog 28 #[.string key, .string nonce, .string beside, .string sl] w fun e w' => e = .returned (.tuple #[.string (if ok = true then ctr (keysOf (byteAt key)) nonce (sl.extract 0 n) else ⟨#[]⟩), .bool ok]) ∧ Below w.heap.size w w' := by
  have hok : impl_sealOk.f key nonce beside = some true := by
    unfold impl_sealOk.f impl_isKey.f
    simp [hk, hn]; omega
  obtain ⟨K, hK⟩ : ∃ K, K = keysOf (byteAt key) := ⟨_, rfl⟩
  rw [← hK] at hokv ⊢
  obtain ⟨s, hs⟩ : ∃ s, s = sl.extract 0 n := ⟨_, rfl⟩
  obtain ⟨r, hr⟩ : ∃ r, r = sl.extract n sl.size := ⟨_, rfl⟩
  have hss : s.size = n := by rw [hs, ByteArray.size_extract]; omega
  rw [← hs, ← hr] at hokv
  rw [← hs]
  have hI : (sl.size : Int) - 16 = (n : Int) := by omega
  have WI : Aside0 (IntKind.i64.wrap ((sl.size : Int) - 16) = (n : Int) ∧ wrap64 ((sl.size : Int) - 16) = (n : Int)) := ⟨by rw [hI]; exact ⟨wi64 _ (by omega), wr64 _ (by omega)⟩⟩
  have hin : impl_in.f (n : Int) 0 1500 = some true := by
    unfold impl_in.f
    rw [if_pos (by omega)]
    simp; omega
  have hn0 : n ≤ sl.size := by omega
  have hnI : (n : Int) ≤ (sl.size : Int) := by omega
  have HK := Aside0.mk hk
  have HN := Aside0.mk hn
  have HOK := Aside0.mk hok
  have HKK := Aside0.mk hK
  have HS := Aside0.mk hs
  have HR := Aside0.mk hr
  have HSS := Aside0.mk hss
  have HIN := Aside0.mk hin
  have HV := Aside0.mk hokv
  have HSL := Aside0.mk hsl
  clear hk hn hok hK hs hr hss hin hokv hI hsl
  obtain ⟨x1, x1'⟩ := WI.out
  go_enter Try.func28, Try.ntmps28
  go_wp2_with fail
  clear x1 x1'
  refine (impl_sealOk.calls key nonce beside true _ HOK.out).mono ?_
  rintro e w1 ⟨rfl, hd⟩
  have HB1 := Aside0.mk (below_drawn (Below.refl w.heap.size w) hd)
  clear hd
  go_wp2_with fail
  refine (impl_in.calls _ _ _ true _ HIN.out).mono ?_
  rintro e w1' ⟨rfl, hd⟩
  have HB1' := Aside0.mk (below_drawn HB1.out hd)
  clear hd HB1
  go_wp2_with fail
  refine (cipherOf_c w1' key HK.out).mono ?_
  rintro e w2 ⟨c, hc, rfl, hci, hb2⟩
  rw [← HKK.out] at hci
  have HC := Aside0.mk hci
  have HB2 := Aside0.mk (HB1'.out.trans (hb2.mono HB1'.out.size))
  clear hb2 hci HB1'
  go_wp2_with fail
  obtain ⟨g, hg⟩ : ∃ g, g = tagF K nonce beside s := ⟨_, rfl⟩
  have HG := Aside0.mk hg
  have htag : ∀ W, Ciph W c K → Calls Try.prog 36 #[.pointer (some ⟨c, 0, none⟩), .string nonce, .string beside, .string (sl.extract 0 n)] W fun e w' => e = .returned (.string g) ∧ Below W.heap.size W w' := fun W hC => by
    rw [HG.out, ← HS.out]
    exact tag_c W c K nonce beside s hC HN.out (by omega) (by have := HSS.out; omega)
  have HTAG := Aside0.mk htag
  clear htag hg
  refine region_quiet (C := fun w' => Aside0 (Ciph w' c K) ∧ Aside0 (Below w.heap.size w w') ∧ True) (by kernel_rfl) (by kernel_rfl) ?hC ?_
  case hC => exact ⟨⟨HC.out⟩, ⟨HB2.out.drew⟩, trivial⟩
  repeat (first
    | go_big_quiet_skip
    | (go_big_quiet_want; refine quiet_call ?_ Try.func36 (by kernel_rfl) rfl #[.pointer (some ⟨c, 0, none⟩), .string nonce, .string beside, .string (sl.extract 0 n)] rfl (by (try simp only [List.map_toArray, List.map_cons, List.map_nil]); first | done | rfl) ?_ ?_; rotate_left 1; (· (rintro w' ⟨z0, z1, z2⟩; refine (HTAG.out w' z0.out).mono ?_; rintro e w'' ⟨rfl, hb⟩; exact ⟨by with_reducible rfl, ⟨z0.out.below hb⟩, ⟨z1.out.trans (hb.mono z1.out.size)⟩, z2⟩)); simp only [Act.put, List.setIfInBounds_toArray, List.set_cons_zero, List.set_cons_succ, i64_w, i32_w]; go_big_quiet_on)
    | (go_big_quiet_want; refine quiet_op (v := ?_) ?_ ?_; rotate_left 1; (· (rintro w' ⟨-, -, -⟩; go_simp; with_reducible rfl)); simp only [Act.put, List.setIfInBounds_toArray, List.set_cons_zero, List.set_cons_succ, i64_w, i32_w]; go_big_quiet_on))
  refine wpQuiet_nil ?_
  rintro w9 ⟨HC9, HB9, -⟩
  have he : (g.toList == (sl.extract n sl.size).toList) = ok := by rw [bytes_beq, HV.out, HG.out, ← HR.out]
  have he2 : (g.toList = (sl.extract n sl.size).toList) = (ok = true) := by
    rw [← he]; exact propext beq_iff_eq.symm
  clear HV
  cases ok with
  | false =>
    rw [he, Bool.not_false]
    clear he he2
    go_wp2
    go_ret2
    exact ⟨rfl, HB9.out⟩
  | true =>
    rw [he, Bool.not_true]
    clear he he2
    go_wp2_with fail
    rw [← HS.out]
    refine (turned_c w9 c K nonce s HC9.out HN.out (by have := HSS.out; omega)).mono ?_
    rintro e w10 ⟨rfl, hb10⟩
    have HB10 := Aside0.mk (HB9.out.trans (hb10.mono HB9.out.size))
    clear hb10 HB9
    go_wp2
    go_ret2
    exact ⟨rfl, HB10.out⟩
end Go.Proofs.Ytkcdhphhacjkhaa.B
