/- The reference opens. -/
import Derived.Test.YtkcdhphhacjkhaaCryY
import Derived.Test.YtkcdhphhacjkhaaCryO
import Derived.Test.YtkcdhphhacjkhaaOpenK
import Derived.Deep.AppendLies
import Derived.Test.YtkcdhphhacjkhaaShortK
namespace Go.Proofs.Ytkcdhphhacjkhaa.B
open Go.RowKit Go.Proofs.YtkcdhphhacjkhaaW.PrintWords Go.Proofs.YtkcdhphhacjkhaaW.PrintLast Go.Proofs.YtkcdhphhacjkhaaW.PrintMore
open Go.Proofs.Ytkcdhphhacjkhaa.AES
open Go.Proofs.Ytkcdhphhacjkhaa
open Go.Proofs.Ytkcdhphhacjkhaa.QuietK Go.Proofs.Ytkcdhphhacjkhaa.ShortK
attribute [local go_sem] Go.Proofs.Ytkcdhphhacjkhaa.StoreK.isSome_setCell
set_option linter.unusedVariables false
set_option linter.unusedSimpArgs false
section
variable {P : Program} {ops : Array Oper} {o : Oper} {a : Act} {Q : Exit → Act → World → Prop}
/-- A box is made: a world of which no more is known. -/
theorem al_step {Kc : Act → World → Prop} {W : World} (hgd : o.guard = none) (t : TypeId) (cs : Array Value) (ho : o.op = .alloc t) (hrun : (execOp a.eval o).run P W = .ok (.value (.pointer (some ⟨W.heap.size, 0, none⟩))) (W.alloc (.cells cs t (0, 0))))
    (hk : ∀ g w1, W.heap.size ≤ g → w1.heap[g]? = some (.cells cs t (0, 0)) → Below W.heap.size W w1 → Kc (a.put o.dst (.pointer (some ⟨g, 0, none⟩))) w1) : if Region.wanted o (yielded ops a.tmps) = true then Oper.wp P o a W Kc Q else Kc (a.put o.dst undef) W :=
  event_step (by simp [Region.wanted, hgd]) hrun (hk _ _ (Nat.le_refl _) (blk_new W _) ((Below.refl W.heap.size W).alloc (Nat.le_refl _) _))
end
/-- Is a sealed text whole? -/
def openOk (K : Nat → UInt8) (nonce beside sl : ByteArray) : Bool := decide (tagF K nonce beside (sl.extract 0 (sl.size - 16)) = sl.extract (sl.size - 16) sl.size)
/-- What it opens to. -/
def openS (K : Nat → UInt8) (nonce beside sl : ByteArray) : ByteArray := if openOk K nonce beside sl = true then ctr K nonce (sl.extract 0 (sl.size - 16)) else ⟨#[]⟩
theorem openS_size (K : Nat → UInt8) (nonce beside sl : ByteArray) (h : openOk K nonce beside sl = true) : (openS K nonce beside sl).size = sl.size - 16 := by
  unfold openS
  rw [if_pos h, ctr_size, ByteArray.size_extract]
  omega
def openOkT (key nonce beside sl : ByteArray) : Bool := openOk (keysOf (byteAt key)) nonce beside sl
def openT (key nonce beside sl : ByteArray) : ByteArray := openS (keysOf (byteAt key)) nonce beside sl
/-- A number told in bytes. -/
def numT (s : ByteArray) : Int := ((nb s.data.toList 0).toNat : Int)
def bigT (s : ByteArray) : Int := sI (nb s.data.toList 0)
theorem bigT_eq (s : ByteArray) : bigT s = wrap64 (numT s) := rfl
theorem numT_range (s : ByteArray) : 0 ≤ numT s ∧ numT s < 18446744073709551616 := by
  unfold numT
  have := (nb s.data.toList 0).toNat_lt
  omega
theorem l1Big_c (s : ByteArray) (hs : s.size ≤ 1000) (w : World) : Calls Try.prog 38 #[.string s] w fun e w' => e = .returned (.int .i64 (bigT s)) ∧ Drawn0 w w' := by
  obtain ⟨k, h⟩ := ev_mono (l1Big_ev s hs)
  exact spec_l1Big.calls k _ _ w h
theorem impl_open_c (w : World) (key nonce beside sl : ByteArray) (hk : key.size = 16) (hn : nonce.size = 12) (hb : beside.size ≤ 1500) (h16 : 16 ≤ sl.size) (ht : sl.size ≤ 1516) :
    Calls Try.prog 28 #[.string key, .string nonce, .string beside, .string sl] w fun e w' => e = .returned (.tuple #[.string (openT key nonce beside sl), .bool (openOkT key nonce beside sl)]) ∧ Below w.heap.size w w' := by
  refine (openText_c w key nonce beside sl (sl.size - 16) hk hn hb (by omega) (by omega) (openOkT key nonce beside sl) rfl).mono ?_
  rintro e w' ⟨rfl, h⟩
  exact ⟨rfl, h⟩
set_option maxHeartbeats 4000000 in
set_option maxRecDepth 100000 in
theorem sopen_c (w : World) (k : Nat) (K : Nat → UInt8) (nonce beside sl : ByteArray) (hk : KeyR w k K) (hn : nonce.size = 12) (hb : beside.size ≤ 2000) (h16 : 16 ≤ sl.size) (ht : sl.size ≤ 2000) :
    Calls Try.prog 37 #[.pointer (some ⟨k, 0, none⟩), .string nonce, .string beside, .string sl] w fun e w' => e = .returned (.tuple #[.string (openS K nonce beside sl), .bool (openOk K nonce beside sl)]) ∧ Below w.heap.size w w' := by
  obtain ⟨n, hsn⟩ : ∃ n, n = sl.size - 16 := ⟨_, rfl⟩
  have hsl : sl.size = n + 16 := by omega
  obtain ⟨ok, hok⟩ : ∃ ok, ok = openOk K nonce beside sl := ⟨_, rfl⟩
  have hokv : ok = decide (tagF K nonce beside (sl.extract 0 n) = sl.extract n sl.size) := by rw [hok, hsn]; rfl
  have hs9 : openS K nonce beside sl = if ok = true then ctr K nonce (sl.extract 0 n) else ⟨#[]⟩ := by rw [hok, hsn]; rfl
  rw [hs9, ← hok]
  clear hs9 hok hsn
  obtain ⟨s, hs⟩ : ∃ s, s = sl.extract 0 n := ⟨_, rfl⟩
  obtain ⟨r, hr⟩ : ∃ r, r = sl.extract n sl.size := ⟨_, rfl⟩
  have hss : s.size = n := by rw [hs, ByteArray.size_extract]; omega
  rw [← hs, ← hr] at hokv
  rw [← hs]
  have hI : (sl.size : Int) - 16 = (n : Int) := by omega
  have WI : Aside0 (IntKind.i64.wrap ((sl.size : Int) - 16) = (n : Int) ∧ wrap64 ((sl.size : Int) - 16) = (n : Int)) := ⟨by rw [hI]; exact ⟨wi64 _ (by omega), wr64 _ (by omega)⟩⟩
  have hn0 : n ≤ sl.size := by omega
  have hnI : (n : Int) ≤ (sl.size : Int) := by omega
  have hneg : decide ((n : Int) < 0) = false := decide_eq_false (by omega)
  have HN := Aside0.mk hn
  have HK := Aside0.mk hk
  have HS := Aside0.mk hs
  have HR := Aside0.mk hr
  have HSS := Aside0.mk hss
  have HV := Aside0.mk hokv
  have HSL := Aside0.mk hsl
  clear hn hk hs hr hss hokv hI hsl
  obtain ⟨x1, x1'⟩ := WI.out
  go_enter Try.func37, Try.ntmps37
  go_wp2
  clear x1 x1'
  obtain ⟨g, hg⟩ : ∃ g, g = tagF K nonce beside s := ⟨_, rfl⟩
  have HG := Aside0.mk hg
  have htag : ∀ W, KeyR W k K → Calls Try.prog 45 #[.pointer (some ⟨k, 0, none⟩), .string nonce, .string beside, .string (sl.extract 0 n)] W fun e w' => e = .returned (.string g) ∧ Below W.heap.size W w' := fun W hC => by
    rw [HG.out, ← HS.out]
    exact stag_c W k K nonce beside s hC HN.out hb (by have := HSS.out; omega)
  have HTAG := Aside0.mk htag
  clear htag hg
  refine region_quiet (C := fun w' => Aside0 (KeyR w' k K) ∧ Aside0 (Below w.heap.size w w') ∧ True) (by kernel_rfl) (by kernel_rfl) ?hC ?_
  case hC => exact ⟨⟨HK.out.below (Below.refl _ _).drew⟩, ⟨(Below.refl _ _).drew⟩, trivial⟩
  repeat (first
    | go_big_quiet_skip
    | (go_big_quiet_want; refine quiet_call ?_ Try.func45 (by kernel_rfl) rfl #[.pointer (some ⟨k, 0, none⟩), .string nonce, .string beside, .string (sl.extract 0 n)] rfl (by (try simp only [List.map_toArray, List.map_cons, List.map_nil]); first | done | rfl) ?_ ?_; rotate_left 1; (· (rintro w' ⟨z0, z1, z2⟩; refine (HTAG.out w' z0.out).mono ?_; rintro e w'' ⟨rfl, hb⟩; exact ⟨by with_reducible rfl, ⟨z0.out.below hb⟩, ⟨z1.out.trans (hb.mono z1.out.size)⟩, z2⟩)); simp only [Act.put, List.setIfInBounds_toArray, List.set_cons_zero, List.set_cons_succ, i64_w, i32_w]; go_big_quiet_on)
    | (go_big_quiet_want; refine quiet_op (v := ?_) ?_ ?_; rotate_left 1; (· (rintro w' ⟨-, -, -⟩; go_simp; with_reducible rfl)); simp only [Act.put, List.setIfInBounds_toArray, List.set_cons_zero, List.set_cons_succ, i64_w, i32_w]; go_big_quiet_on))
  refine wpQuiet_nil ?_
  rintro w9 ⟨HC9, HB9, -⟩
  have he : (g.toList == (sl.extract n sl.size).toList) = ok := by rw [bytes_beq, HV.out, HG.out, ← HR.out]
  have he2 : (g.toList != (sl.extract n sl.size).toList) = !ok := by rw [← he]; rfl
  clear HV
  cases ok with
  | false =>
    first | rw [he2] | rw [he]
    simp only [Bool.not_false]
    clear he he2
    go_wp2
    go_ret2
    exact ⟨rfl, HB9.out⟩
  | true =>
    first | rw [he2] | rw [he]
    simp only [Bool.not_true]
    clear he he2
    go_wp2_with fail
    rw [← HS.out]
    refine (count_c w9 k K nonce s HC9.out HN.out (by have := HSS.out; omega)).mono ?_
    rintro e w10 ⟨rfl, hb10⟩
    have HB10 := Aside0.mk (HB9.out.trans (hb10.mono HB9.out.size))
    clear hb10 HB9
    go_wp2
    go_ret2
    exact ⟨rfl, HB10.out⟩
set_option maxHeartbeats 2000000 in
set_option maxRecDepth 100000 in
theorem l1Big_s (s : ByteArray) (hs : s.size ≤ 1000) (w : World) : Calls Try.prog 38 #[.string s] w fun e w' => e = .returned (.int .i64 (bigT s)) ∧ w' = w := by
  go_enter Try.func38, Try.ntmps38
  go_wp2
  go_loopg [3, 4] s.size (fun gg v3 v4 wr => ∃ (i : Nat) (x : UInt64), i ≤ s.size ∧ s.size - i ≤ gg ∧ v3 = .int .i64 (sI x) ∧ v4 = .int .i64 (i : Int) ∧ Aside0 (nb (s.data.toList.drop i) x = nb s.data.toList 0) ∧ wr = w)
  case atStart => exact ⟨0, 0, by omega, by omega, by rw [show sI 0 = 0 from by simp [sI, wrap64]], rfl, ⟨rfl⟩, rfl⟩
  case round =>
    obtain ⟨i, x, hi, hg, rfl, rfl, HX, rfl⟩ := hrel
    by_cases hlt : i < s.size
    · have hd : decide (i < s.size) = true := decide_eq_true hlt
      have w1 : wrap64 ((i : Int) + 1) = ((i + 1 : Nat) : Int) := by rw [wr64 _ (by omega)]; omega
      have hb : (s[i].toNat : Int) = ((s.data.toList.getD i 0).toNat : Int) := by rw [byteAt_get s i hlt]; rfl
      have hstep : nb (s.data.toList.drop (i + 1)) (x <<< 8 ||| (s.data.toList.getD i 0).toUInt64) = nb s.data.toList 0 := by
        rw [← HX.out, drop_cons' s.data.toList i (by simpa using hlt)]
        rfl
      have HST := Aside0.mk hstep
      obtain ⟨y, hy⟩ : ∃ y, y = s.data.toList.getD i 0 := ⟨_, rfl⟩
      have HY := Aside0.mk hy
      have hval : Go.bits .or .i64 (wrap64 (sI x * (256 : Int))) (wrap64 (y.toNat : Int)) = sI (x <<< 8 ||| y.toUInt64) := by rw [sI_byte, sI_shl, or_sI]
      rw [← hy] at hb
      clear hstep hy HX
      go_wp2
      go_roundg (s.size - (i + 1))
      case measure => omega
      case rel => exact ⟨i + 1, x <<< 8 ||| y.toUInt64, by omega, by omega, by first | rfl | (rw [← hval]; rfl) | (rw [hb, ← hval]; rfl), by go_num, ⟨by rw [HY.out]; exact HST.out⟩, rfl⟩
    · have hd : decide (i < s.size) = false := decide_eq_false hlt
      have he : nb s.data.toList 0 = x := by
        rw [← HX.out, List.drop_eq_nil_of_le (by simpa using (by omega : s.size ≤ i))]
        rfl
      go_wp2
      go_ret
      refine ⟨?_, rfl⟩
      unfold bigT
      rw [he]
      rfl
/-- What a token says, once it is in form. -/
def chkF (address token : ByteArray) (now life : Int) : List ByteArray → ByteArray × Int × Bool × Int
  | [] => (⟨#[]⟩, 0, false, 3)
  | k :: ks => if openOkT k (token.extract 1 13) (token.extract 0 1 ++ address) (token.extract 13 token.size) = true then
      (if bigT ((openT k (token.extract 1 13) (token.extract 0 1 ++ address) (token.extract 13 token.size)).extract 0 8) > now ∨ bigT ((openT k (token.extract 1 13) (token.extract 0 1 ++ address) (token.extract 13 token.size)).extract 0 8) < 0 ∨ now - bigT ((openT k (token.extract 1 13) (token.extract 0 1 ++ address) (token.extract 13 token.size)).extract 0 8) > life then (⟨#[]⟩, 0, false, 4)
       else ((openT k (token.extract 1 13) (token.extract 0 1 ++ address) (token.extract 13 token.size)).extract 8 (openT k (token.extract 1 13) (token.extract 0 1 ++ address) (token.extract 13 token.size)).size, bigT ((openT k (token.extract 1 13) (token.extract 0 1 ++ address) (token.extract 13 token.size)).extract 0 8), bt token 0 == 1, 0))
      else chkF address token now life ks
def checkF (address token : ByteArray) (now life : Int) (ks : List ByteArray) : ByteArray × Int × Bool × Int :=
  if (37 ≤ token.size ∧ token.size ≤ 57) ∧ bt token 0 ≤ 1 then chkF address token now life ks else (⟨#[]⟩, 0, false, 2)
set_option maxHeartbeats 4000000 in
set_option maxRecDepth 100000 in
theorem l10Check_c (w : World) (A : Option Addr) (c : Nat) (ks : List ByteArray) (address token : ByteArray) (now life : Int) (r1 : ByteArray) (r2 : Int) (r3 : Bool) (r4 : Int) (hr : Kd.C Kd.string w A ks.length ks) (hks : ∀ k ∈ ks, k.size = 16) (ha : address.size ≤ 1000) (hnow : 0 ≤ now ∧ now ≤ 1000000000) (hlife : 0 ≤ life ∧ life ≤ 1000000) (h : checkF address token now life ks = (r1, r2, r3, r4)) :
    Calls Try.prog 24 #[.slice A ks.length c, .string address, .string token, .int .i64 now, .int .i64 life] w fun e w' => e = .returned (.tuple #[.agg #[.string r1, .int .i64 r2, .bool r3], .int .i64 r4]) ∧ Below w.heap.size w w' := by
  have hbig := hr.2.1
  have HR := Aside0.mk hr
  have HKS := Aside0.mk hks
  have HH := Aside0.mk h
  clear hr hks h
  obtain ⟨gb, hgb⟩ : ∃ b, b = w.heap.size := ⟨_, rfl⟩
  have BK := Aside0.mk (blk_new w (.cells #[.string (⟨#[]⟩ : ByteArray), .int .i64 0, .bool false] 27))
  have HB := Aside0.mk ((Below.refl w.heap.size w).alloc (Nat.le_refl _) (.cells #[.string (⟨#[]⟩ : ByteArray), .int .i64 0, .bool false] 27))
  have GE : Aside0 (w.heap.size ≤ gb) := ⟨by omega⟩
  go_enter Try.func24, Try.ntmps24
  go_upto_region 1 with (fail)
  rw [← hgb] at BK ⊢
  clear hgb
  generalize w.alloc (.cells #[.string (⟨#[]⟩ : ByteArray), .int .i64 0, .bool false] 27) = w1 at BK HB ⊢
  by_cases hin : 37 ≤ token.size ∧ token.size ≤ 57
  · have hl1 : spec_l1In.f (token.size : Int) 37 57 = some true := by
      unfold spec_l1In.f
      rw [if_pos (by omega)]
      simp; omega
    have hx0 : ∀ h : 0 < token.size, ((token[0]'h).toNat : Int) = bt token 0 := bt_at token 0
    have q0 : (0 < token.size) = True := eq_true (by omega)
    have q0i : (0 < (token.size : Int)) = True := eq_true (by omega)
    by_cases hb0 : bt token 0 ≤ 1
    · have hd0 : decide (1 < bt token 0) = false := decide_eq_false (by omega)
      have hchk : chkF address token now life ks = (r1, r2, r3, r4) := by
        have := HH.out
        unfold checkF at this
        rwa [if_pos ⟨hin, hb0⟩] at this
      have HCH := Aside0.mk hchk
      clear hchk HH
      go_wp2_with fail
      refine (spec_l1In.calls _ _ _ true _ hl1).mono ?_
      rintro e w2 ⟨rfl, hd⟩
      have hbd : Below w1.heap.size w1 w2 := below_drawn (Below.refl _ _) hd
      have BK2 := Aside0.mk (blk_below BK.out hbd)
      have HB2 := Aside0.mk (Bt HB.out hbd)
      clear hd hbd BK HB
      go_wp2
      clear hl1 hd0
      go_loopg [29] ks.length (fun gg v29 wr => ∃ kk : Nat, kk ≤ ks.length ∧ ks.length - kk ≤ gg ∧ v29 = .int .i64 (kk : Int) ∧ Aside0 (wr.heap[gb]? = some (.cells #[.string (⟨#[]⟩ : ByteArray), .int .i64 0, .bool false] 27 (0, 0))) ∧ Aside0 (Below w.heap.size w wr) ∧ Aside0 (chkF address token now life (ks.drop kk) = (r1, r2, r3, r4)))
      case atStart => exact ⟨0, by omega, by omega, rfl, BK2, HB2, HCH⟩
      case round =>
        clear BK2 HB2 HCH
        obtain ⟨kk, hkk, hg, rfl, BK, HB, HC⟩ := hrel
        by_cases hlt : kk < ks.length
        · have hltz : (kk : Int) < (ks.length : Int) := by omega
          obtain ⟨ad, eA, hx1⟩ := Kd.at_string (Kd.C_below HR.out HB.out) (kk : Int) (by omega) hltz
          have hy : rdOf ByteArray.empty ks kk = ks.getD kk ByteArray.empty := by unfold rdOf; rw [Int.toNat_natCast]
          have hgd : ks.getD kk ByteArray.empty = ks[kk] := by rw [List.getD_eq_getElem?_getD, List.getElem?_eq_getElem hlt]; rfl
          have hys : (rdOf ByteArray.empty ks kk).size = 16 := by rw [hy, hgd]; exact HKS.out _ (List.getElem_mem hlt)
          have hdr : ks.drop kk = rdOf ByteArray.empty ks kk :: ks.drop (kk + 1) := by rw [hy, hgd]; exact List.drop_eq_getElem_cons hlt
          have HC' := HC.out
          rw [hdr] at HC'
          subst eA
          rw [Int.toNat_natCast] at hx1
          generalize rdOf ByteArray.empty ks kk = y at hx1 hys HC'
          clear hy hgd hdr HC
          unfold chkF at HC'
          have HC := Aside0.mk HC'
          have HY := Aside0.mk hys
          clear HC' hys
          have hop : ∀ (W : World) (k : Nat), KeyR W k (keysOf (byteAt y)) → Calls Try.prog 37 #[.pointer (some ⟨k, 0, none⟩), .string (token.extract 1 13), .string (token.extract 0 1 ++ address), .string (token.extract 13 token.size)] W fun e w' => e = .returned (.tuple #[.string (openT y (token.extract 1 13) (token.extract 0 1 ++ address) (token.extract 13 token.size)), .bool (openOkT y (token.extract 1 13) (token.extract 0 1 ++ address) (token.extract 13 token.size))]) ∧ Below W.heap.size W w' := fun W k hK =>
            sopen_c W k _ _ _ _ hK (by rw [ByteArray.size_extract]; omega) (by rw [ByteArray.size_append, ByteArray.size_extract]; omega) (by rw [ByteArray.size_extract]; omega) (by rw [ByteArray.size_extract]; omega)
          have hsz : openOkT y (token.extract 1 13) (token.extract 0 1 ++ address) (token.extract 13 token.size) = true → (openT y (token.extract 1 13) (token.extract 0 1 ++ address) (token.extract 13 token.size)).size = token.size - 29 := fun h => by
            unfold openT
            rw [openS_size _ _ _ _ h, ByteArray.size_extract]; omega
          obtain ⟨ok, hok⟩ : ∃ b, b = openOkT y (token.extract 1 13) (token.extract 0 1 ++ address) (token.extract 13 token.size) := ⟨_, rfl⟩
          obtain ⟨s, hs⟩ : ∃ b, b = openT y (token.extract 1 13) (token.extract 0 1 ++ address) (token.extract 13 token.size) := ⟨_, rfl⟩
          have HC' := HC.out
          rw [← hok, ← hs] at hsz HC'
          rw [← hok, ← hs] at hop
          have HC2 := Aside0.mk HC'
          have HOP := Aside0.mk hop
          have HSZ := Aside0.mk hsz
          clear hok hs hop hsz HC HC'
          have e1 : 13 ≤ token.size := by omega
          have e1i : (13 : Int) ≤ (token.size : Int) := by omega
          have e2 : 1 ≤ token.size := by omega
          have e2i : (1 : Int) ≤ (token.size : Int) := by omega
          have hcat : (9223372036854775807 < (token.extract 0 1 ++ address).size) = False := by
            rw [ByteArray.size_append, ByteArray.size_extract]; simp; omega
          have hcat2 : (9223372036854775807 < (token.extract 0 1).size + address.size) = False := by
            rw [ByteArray.size_extract]; simp; omega
          have hcat3 : (9223372036854775807 < min 1 token.size + address.size) = False := by simp; omega
          go_wp2
          clear hx1
          have BKd : Aside0 (wr.drew.heap[gb]? = some (.cells #[.string (⟨#[]⟩ : ByteArray), .int .i64 0, .bool false] 27 (0, 0))) := ⟨BK.out⟩
          have HBd := Aside0.mk HB.out.drew
          go_cut [14, 15] (fun v14 v15 wc => v14 = .string s ∧ v15 = .bool ok ∧ Aside0 (wc.heap[gb]? = some (.cells #[.string (⟨#[]⟩ : ByteArray), .int .i64 0, .bool false] 27 (0, 0))) ∧ Aside0 (Below w.heap.size w wc))
          case first =>
            go_region_with (first
              | (go_at_call 30; with_reducible refine (l5Key_c _ y HY.out).mono ?_; rintro e w3 ⟨k, hkw, rfl, hkr, hb3⟩; have HR3 := Aside0.mk hkr; have HB3 := Aside0.mk (Bt HBd.out hb3); have BK3 := Aside0.mk (blk_below BKd.out hb3); clear hb3 hkr hkw)
              | (go_at_call 37; with_reducible refine (HOP.out _ k HR3.out).mono ?_; rintro e w4 ⟨rfl, hb4⟩; have HB4 := Aside0.mk (Bt HB3.out hb4); have BK4 := Aside0.mk (blk_below BK3.out hb4); clear hb4))
            all_goals (
              go_wp2
              go_meet
              case rel => exact ⟨rfl, rfl, BK4, HB4⟩)
          case rest =>
            clear hcat hcat2 hcat3 e1 e1i HOP BKd HBd
            obtain ⟨rfl, rfl, BK4, HB4⟩ := hcut
            clear BK HB
            cases ok with
            | false =>
              go_wp2
              go_roundg (ks.length - (kk + 1))
              case measure => omega
              case rel =>
                have hc := HC2.out
                rw [if_neg (by decide)] at hc
                exact ⟨kk + 1, by omega, by omega, by go_num, BK4, HB4, ⟨hc⟩⟩
            | true =>
              have hc := HC2.out
              rw [if_pos rfl] at hc
              have hsz := HSZ.out rfl
              have HC5 := Aside0.mk hc
              clear hc HC2 HSZ
              obtain ⟨T, hT⟩ : ∃ T, T = bigT (s.extract 0 8) := ⟨_, rfl⟩
              rw [← hT] at HC5
              have hbig8 : ∀ W, Calls Try.prog 38 #[.string (s.extract 0 8)] W fun e w' => e = .returned (.int .i64 T) ∧ w' = W := fun W => by
                rw [hT]
                exact l1Big_s _ (by rw [ByteArray.size_extract]; omega) W
              have HBIG := Aside0.mk hbig8
              have e3 : 8 ≤ s.size := by omega
              have e3i : (8 : Int) ≤ (s.size : Int) := by omega
              clear hbig8 hT hsz
              go_wp2
              go_cut [16] (fun v16 w8 => ∃ b : Nat, v16 = .pointer (some ⟨b, 0, none⟩) ∧ Aside0 (w8.heap[b]? = some (.cells #[.string (s.extract 8 s.size), .int .i64 T, .bool (bt token 0 == 1)] 27 (0, 0))) ∧ Aside0 (w8.heap[gb]? = some (.cells #[.string (⟨#[]⟩ : ByteArray), .int .i64 0, .bool false] 27 (0, 0))) ∧ Aside0 (Below w.heap.size w w8))
              case first =>
                have HQ8 : Aside0 ((wc.alloc (.cells #[.string (s.extract 8 s.size), .int .i64 T, .bool (bt token 0 == 1)] 27)).drew.heap[wc.heap.size]? = some (.cells #[.string (s.extract 8 s.size), .int .i64 T, .bool (bt token 0 == 1)] 27 (0, 0))) := ⟨blk_new wc _⟩
                have HBA : Aside0 (Below wc.heap.size wc (wc.alloc (.cells #[.string (s.extract 8 s.size), .int .i64 T, .bool (bt token 0 == 1)] 27)).drew) := ⟨((Below.refl wc.heap.size wc).alloc (Nat.le_refl _) _).drew⟩
                have BK8 := Aside0.mk (blk_below BK4.out HBA.out)
                have HB8 := Aside0.mk (Bt HB4.out HBA.out)
                clear HBA
                go_region_law (first
                  | (refine al_step rfl 27 #[.string (⟨#[]⟩ : ByteArray), .int .i64 0, .bool false] rfl (by first | (go_simp; done) | (go_simp; rfl)) ?_; intro b w6 hb6 hbox hbl; have HQ := Aside0.mk hbox; have GB := Aside0.mk (hb6); have HL6 := Aside0.mk hbl; clear hb6 hbox hbl; obtain ⟨c0, c1, c2⟩ := cz3 HQ; obtain ⟨f0, f1, f2⟩ := fz3 HQ)
                  | (go_simp; go_at_call 38; refine (HBIG.out _).mono ?_; rintro e w5 ⟨rfl, rfl⟩))
                all_goals (
                  go_wp2
                  go_meet
                  case rel => exact ⟨wc.heap.size, rfl, HQ8, BK8, HB8⟩)
              case rest =>
                obtain ⟨b, rfl, HQ8, BK8, HB8⟩ := hcut
                clear BK4 HB4 HBIG e3 e3i
                obtain ⟨c0, c1, c2⟩ := cz3 HQ8
                obtain ⟨g0, g1, g2⟩ := cz3 BK8
                obtain ⟨f0, f1, f2⟩ := fz3 BK8
                rcases (by omega : now < T ∨ (T ≤ now ∧ T < 0) ∨ (T ≤ now ∧ 0 ≤ T ∧ life < now - T) ∨ (T ≤ now ∧ 0 ≤ T ∧ now - T ≤ life)) with h | h | h | h
                · have hc := HC5.out
                  rw [if_pos (Or.inl h)] at hc
                  simp only [Prod.mk.injEq] at hc
                  obtain ⟨rfl, rfl, rfl, rfl⟩ := hc
                  have d1 : decide (now < T) = true := decide_eq_true h
                  clear h HC5
                  go_wp2
                  refine bodyPost_ret (results_ct rfl _ _ gb 27 #[.string (⟨#[]⟩ : ByteArray), .int .i64 0, .bool false] (0, 0) _ rfl (by (with_reducible repeat (first | refine bN ?_ _ | refine bD ?_ | refine bA ?_ _)); refine blk_put (cs := #[.string (⟨#[]⟩ : ByteArray), .int .i64 0, .bool false]) ?_ 2 _ rfl; (with_reducible repeat (first | refine bN ?_ _ | refine bD ?_ | refine bA ?_ _)); refine blk_put (cs := #[.string (⟨#[]⟩ : ByteArray), .int .i64 0, .bool false]) ?_ 1 _ rfl; (with_reducible repeat (first | refine bN ?_ _ | refine bD ?_ | refine bA ?_ _)); refine blk_put (cs := #[.string (⟨#[]⟩ : ByteArray), .int .i64 0, .bool false]) ?_ 0 _ rfl; (with_reducible repeat (first | refine bN ?_ _ | refine bD ?_ | refine bA ?_ _)); exact BK8.out) Try.underlying27 rfl (by kernel_rfl)) rfl ?_
                  exact ⟨by first | rfl | (simp; done), by repeat (first | (with_reducible first | exact HB8.out | apply below_alloc | apply pw_below_drewN | apply below_drew1 | refine below_set ?_ GE.out) | exact HB8.out)⟩
                · have hc := HC5.out
                  rw [if_pos (Or.inr (Or.inl h.2))] at hc
                  simp only [Prod.mk.injEq] at hc
                  obtain ⟨rfl, rfl, rfl, rfl⟩ := hc
                  have d1 : decide (now < T) = false := decide_eq_false (by omega)
                  have d2 : decide (T < 0) = true := decide_eq_true h.2
                  clear h HC5
                  go_wp2
                  refine bodyPost_ret (results_ct rfl _ _ gb 27 #[.string (⟨#[]⟩ : ByteArray), .int .i64 0, .bool false] (0, 0) _ rfl (by (with_reducible repeat (first | refine bN ?_ _ | refine bD ?_ | refine bA ?_ _)); refine blk_put (cs := #[.string (⟨#[]⟩ : ByteArray), .int .i64 0, .bool false]) ?_ 2 _ rfl; (with_reducible repeat (first | refine bN ?_ _ | refine bD ?_ | refine bA ?_ _)); refine blk_put (cs := #[.string (⟨#[]⟩ : ByteArray), .int .i64 0, .bool false]) ?_ 1 _ rfl; (with_reducible repeat (first | refine bN ?_ _ | refine bD ?_ | refine bA ?_ _)); refine blk_put (cs := #[.string (⟨#[]⟩ : ByteArray), .int .i64 0, .bool false]) ?_ 0 _ rfl; (with_reducible repeat (first | refine bN ?_ _ | refine bD ?_ | refine bA ?_ _)); exact BK8.out) Try.underlying27 rfl (by kernel_rfl)) rfl ?_
                  exact ⟨by first | rfl | (simp; done), by repeat (first | (with_reducible first | exact HB8.out | apply below_alloc | apply pw_below_drewN | apply below_drew1 | refine below_set ?_ GE.out) | exact HB8.out)⟩
                · have hc := HC5.out
                  rw [if_pos (Or.inr (Or.inr h.2.2))] at hc
                  simp only [Prod.mk.injEq] at hc
                  obtain ⟨rfl, rfl, rfl, rfl⟩ := hc
                  have d1 : decide (now < T) = false := decide_eq_false (by omega)
                  have d2 : decide (T < 0) = false := decide_eq_false (by omega)
                  have d3 : decide (life < now - T) = true := decide_eq_true h.2.2
                  have d4 : wrap64 (now - T) = now - T := wr64 _ (by omega)
                  clear h HC5
                  go_wp2
                  refine bodyPost_ret (results_ct rfl _ _ gb 27 #[.string (⟨#[]⟩ : ByteArray), .int .i64 0, .bool false] (0, 0) _ rfl (by (with_reducible repeat (first | refine bN ?_ _ | refine bD ?_ | refine bA ?_ _)); refine blk_put (cs := #[.string (⟨#[]⟩ : ByteArray), .int .i64 0, .bool false]) ?_ 2 _ rfl; (with_reducible repeat (first | refine bN ?_ _ | refine bD ?_ | refine bA ?_ _)); refine blk_put (cs := #[.string (⟨#[]⟩ : ByteArray), .int .i64 0, .bool false]) ?_ 1 _ rfl; (with_reducible repeat (first | refine bN ?_ _ | refine bD ?_ | refine bA ?_ _)); refine blk_put (cs := #[.string (⟨#[]⟩ : ByteArray), .int .i64 0, .bool false]) ?_ 0 _ rfl; (with_reducible repeat (first | refine bN ?_ _ | refine bD ?_ | refine bA ?_ _)); exact BK8.out) Try.underlying27 rfl (by kernel_rfl)) rfl ?_
                  exact ⟨by first | rfl | (simp; done), by repeat (first | (with_reducible first | exact HB8.out | apply below_alloc | apply pw_below_drewN | apply below_drew1 | refine below_set ?_ GE.out) | exact HB8.out)⟩
                · have hc := HC5.out
                  rw [if_neg (by omega)] at hc
                  simp only [Prod.mk.injEq] at hc
                  obtain ⟨rfl, rfl, rfl, rfl⟩ := hc
                  have d1 : decide (now < T) = false := decide_eq_false (by omega)
                  have d2 : decide (T < 0) = false := decide_eq_false (by omega)
                  have d3 : decide (life < now - T) = false := decide_eq_false (by omega)
                  have d4 : wrap64 (now - T) = now - T := wr64 _ (by omega)
                  clear h HC5
                  go_wp2
                  refine bodyPost_ret (results_ct rfl _ _ gb 27 #[.string (s.extract 8 s.size), .int .i64 T, .bool (bt token 0 == 1)] (0, 0) _ rfl (by (with_reducible repeat (first | refine bN ?_ _ | refine bD ?_ | refine bA ?_ _)); refine blk_put (cs := #[.string (s.extract 8 s.size), .int .i64 T, .bool false]) ?_ 2 _ rfl; (with_reducible repeat (first | refine bN ?_ _ | refine bD ?_ | refine bA ?_ _)); refine blk_put (cs := #[.string (s.extract 8 s.size), .int .i64 0, .bool false]) ?_ 1 _ rfl; (with_reducible repeat (first | refine bN ?_ _ | refine bD ?_ | refine bA ?_ _)); refine blk_put (cs := #[.string (⟨#[]⟩ : ByteArray), .int .i64 0, .bool false]) ?_ 0 _ rfl; (with_reducible repeat (first | refine bN ?_ _ | refine bD ?_ | refine bA ?_ _)); exact BK8.out) Try.underlying27 rfl (by kernel_rfl)) rfl ?_
                  exact ⟨by first | rfl | (simp; done), by repeat (first | (with_reducible first | exact HB8.out | apply below_alloc | apply pw_below_drewN | apply below_drew1 | refine below_set ?_ GE.out) | exact HB8.out)⟩
        · have hltz : ¬ (kk : Int) < (ks.length : Int) := by omega
          have hc := HC.out
          rw [List.drop_eq_nil_of_le (by omega)] at hc
          simp only [chkF, Prod.mk.injEq] at hc
          obtain ⟨rfl, rfl, rfl, rfl⟩ := hc
          clear HC
          have hd : decide (kk < ks.length) = false := decide_eq_false (by omega)
          obtain ⟨g0, g1, g2⟩ := cz3 BK
          obtain ⟨f0, f1, f2⟩ := fz3 BK
          go_wp2
          refine bodyPost_ret (results_ct rfl _ _ gb 27 #[.string (⟨#[]⟩ : ByteArray), .int .i64 0, .bool false] (0, 0) _ rfl (by (with_reducible repeat (first | refine bN ?_ _ | refine bD ?_ | refine bA ?_ _)); refine blk_put (cs := #[.string (⟨#[]⟩ : ByteArray), .int .i64 0, .bool false]) ?_ 2 _ rfl; (with_reducible repeat (first | refine bN ?_ _ | refine bD ?_ | refine bA ?_ _)); refine blk_put (cs := #[.string (⟨#[]⟩ : ByteArray), .int .i64 0, .bool false]) ?_ 1 _ rfl; (with_reducible repeat (first | refine bN ?_ _ | refine bD ?_ | refine bA ?_ _)); refine blk_put (cs := #[.string (⟨#[]⟩ : ByteArray), .int .i64 0, .bool false]) ?_ 0 _ rfl; (with_reducible repeat (first | refine bN ?_ _ | refine bD ?_ | refine bA ?_ _)); exact BK.out) Try.underlying27 rfl (by kernel_rfl)) rfl ?_
          exact ⟨by first | rfl | (simp; done), by repeat (first | (with_reducible first | exact HB.out | apply below_alloc | apply pw_below_drewN | apply below_drew1 | refine below_set ?_ GE.out) | exact HB.out)⟩
    · have hd0 : decide (1 < bt token 0) = true := decide_eq_true (by omega)
      have hc := HH.out
      unfold checkF at hc
      rw [if_neg (fun h => hb0 h.2)] at hc
      simp only [Prod.mk.injEq] at hc
      obtain ⟨rfl, rfl, rfl, rfl⟩ := hc
      clear HH
      go_wp2_with fail
      refine (spec_l1In.calls _ _ _ true _ hl1).mono ?_
      rintro e w2 ⟨rfl, hd⟩
      have hbd : Below w1.heap.size w1 w2 := below_drawn (Below.refl _ _) hd
      have BK2 := Aside0.mk (blk_below BK.out hbd)
      have HB2 := Aside0.mk (Bt HB.out hbd)
      clear hd hbd BK HB
      obtain ⟨g0, g1, g2⟩ := cz3 BK2
      obtain ⟨f0, f1, f2⟩ := fz3 BK2
      go_wp2
      refine bodyPost_ret (results_ct rfl _ _ gb 27 #[.string (⟨#[]⟩ : ByteArray), .int .i64 0, .bool false] (0, 0) _ rfl (by (with_reducible repeat (first | refine bN ?_ _ | refine bD ?_ | refine bA ?_ _)); refine blk_put (cs := #[.string (⟨#[]⟩ : ByteArray), .int .i64 0, .bool false]) ?_ 2 _ rfl; (with_reducible repeat (first | refine bN ?_ _ | refine bD ?_ | refine bA ?_ _)); refine blk_put (cs := #[.string (⟨#[]⟩ : ByteArray), .int .i64 0, .bool false]) ?_ 1 _ rfl; (with_reducible repeat (first | refine bN ?_ _ | refine bD ?_ | refine bA ?_ _)); refine blk_put (cs := #[.string (⟨#[]⟩ : ByteArray), .int .i64 0, .bool false]) ?_ 0 _ rfl; (with_reducible repeat (first | refine bN ?_ _ | refine bD ?_ | refine bA ?_ _)); exact BK2.out) Try.underlying27 rfl (by kernel_rfl)) rfl ?_
      exact ⟨by first | rfl | (simp; done), by repeat (first | (with_reducible first | exact HB2.out | apply below_alloc | apply pw_below_drewN | apply below_drew1 | refine below_set ?_ GE.out) | exact HB2.out)⟩
  · have hl1 : spec_l1In.f (token.size : Int) 37 57 = some false := by
      unfold spec_l1In.f
      split
      · simp; omega
      · rfl
    have hc := HH.out
    unfold checkF at hc
    rw [if_neg (fun h => hin h.1)] at hc
    simp only [Prod.mk.injEq] at hc
    obtain ⟨rfl, rfl, rfl, rfl⟩ := hc
    clear HH
    go_wp2_with fail
    refine (spec_l1In.calls _ _ _ false _ hl1).mono ?_
    rintro e w2 ⟨rfl, hd⟩
    have hbd : Below w1.heap.size w1 w2 := below_drawn (Below.refl _ _) hd
    have BK2 := Aside0.mk (blk_below BK.out hbd)
    have HB2 := Aside0.mk (Bt HB.out hbd)
    clear hd hbd BK HB
    obtain ⟨g0, g1, g2⟩ := cz3 BK2
    obtain ⟨f0, f1, f2⟩ := fz3 BK2
    go_wp2
    refine bodyPost_ret (results_ct rfl _ _ gb 27 #[.string (⟨#[]⟩ : ByteArray), .int .i64 0, .bool false] (0, 0) _ rfl (by (with_reducible repeat (first | refine bN ?_ _ | refine bD ?_ | refine bA ?_ _)); refine blk_put (cs := #[.string (⟨#[]⟩ : ByteArray), .int .i64 0, .bool false]) ?_ 2 _ rfl; (with_reducible repeat (first | refine bN ?_ _ | refine bD ?_ | refine bA ?_ _)); refine blk_put (cs := #[.string (⟨#[]⟩ : ByteArray), .int .i64 0, .bool false]) ?_ 1 _ rfl; (with_reducible repeat (first | refine bN ?_ _ | refine bD ?_ | refine bA ?_ _)); refine blk_put (cs := #[.string (⟨#[]⟩ : ByteArray), .int .i64 0, .bool false]) ?_ 0 _ rfl; (with_reducible repeat (first | refine bN ?_ _ | refine bD ?_ | refine bA ?_ _)); exact BK2.out) Try.underlying27 rfl (by kernel_rfl)) rfl ?_
    exact ⟨by first | rfl | (simp; done), by repeat (first | (with_reducible first | exact HB2.out | apply below_alloc | apply pw_below_drewN | apply below_drew1 | refine below_set ?_ GE.out) | exact HB2.out)⟩
end Go.Proofs.Ytkcdhphhacjkhaa.B
