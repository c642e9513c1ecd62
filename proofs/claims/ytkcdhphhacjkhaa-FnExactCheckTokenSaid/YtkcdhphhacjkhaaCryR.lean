/- The reference seals and opens. -/
import Derived.Test.YtkcdhphhacjkhaaCryQ
import Derived.Lib.BufferRead
namespace Go.Proofs.Ytkcdhphhacjkhaa.B
open Go.RowKit Go.Proofs.YtkcdhphhacjkhaaW.PrintWords Go.Proofs.YtkcdhphhacjkhaaW.PrintLast Go.Proofs.YtkcdhphhacjkhaaW.PrintMore
open Go.Proofs.Ytkcdhphhacjkhaa.AES
open Go.Proofs.Ytkcdhphhacjkhaa
open Go.Proofs.Ytkcdhphhacjkhaa.QuietK
attribute [local go_sem] Go.Proofs.Ytkcdhphhacjkhaa.StoreK.isSome_setCell
set_option linter.unusedVariables false
set_option linter.unusedSimpArgs false
/-- A text that grows from nothing. -/
def OutR (w wr : World) (m : Nat) (R : Nat → UInt8) (v : Value) : Prop := (m = 0 ∧ v = .slice none 0 0) ∨ (0 < m ∧ ∃ mg mc, w.heap.size ≤ mg ∧ v = .slice (some ⟨mg, 0, none⟩) m mc ∧ RowG wr mg mc m R)
theorem OutR.below {w wr w' : World} {m : Nat} {R : Nat → UInt8} {v : Value} (h : OutR w wr m R v) (hb : Below wr.heap.size wr w') : OutR w w' m R v := by
  rcases h with h | ⟨h0, mg, mc, h1, h2, h3⟩
  · exact Or.inl h
  · exact Or.inr ⟨h0, mg, mc, h1, h2, h3.below h0 hb⟩
section
variable {P : Program} {ops : Array Oper} {o : Oper} {a : Act} {Q : Exit → Act → World → Prop}
theorem OutR.append {w W : World} {t ty e : TypeId} {i : TypeInfo} {z : Value} (ht : P.underlying t = some (.slice e)) (hi : P.info? e = some i) (hz : i.zero = some z) (hsize : i.size = 1) (hby : i.bytes = 1) (hzs : z.cells.size = 1)
    {m : Nat} {R : Nat → UInt8} {v : Value} (h : OutR w W m R v) (hw : w.heap.size ≤ W.heap.size) (hn : m ≤ 1000000) {b : Nat} {x : UInt8} (hx : W.cell? ⟨b, 0, none⟩ = some (.int .u8 (x.toNat : Int))) (hR : x = R m) :
    ∃ v' w', (Builtin.append_ #[t, t] ty #[v, .slice (some ⟨b, 0, none⟩) 1 1]).run P W = .ok v' w' ∧ OutR w w' (m + 1) R v' ∧ Below w.heap.size W w' := by
  have hxv : RdB W b 0 1 (fun _ => x) := fun i hi => by
    rw [show 0 + i = 0 by omega]; exact hx
  rcases h with ⟨rfl, rfl⟩ | ⟨h0, mg, mc, h1, rfl, h3⟩
  · obtain ⟨v', w', hr, how, hg, _⟩ := run_append_own (P := P) W W.heap.size t ty e i z 1 1 ht hi hz hsize hby hzs (by omega) (.slice none 0 0) 0 [] (World.ownsRow_nil _ _ _ _) ⟨b, 0, none⟩ 1 1 (cellsOf 1 (fun _ => x)) (by rw [cellsOf_len, Nat.mul_one]) hxv.news (cellsOf_one 1 _) (by unfold maxLen; omega) (by omega) (Nat.le_refl _)
    have how' : w'.ownsRow W.heap.size e 1 v' (0 + 1) (cellsOf 0 (fun _ => x) ++ cellsOf 1 (fun _ => x)) := how
    obtain ⟨g', cap', rfl, hge, hrow⟩ := own_G (base := 0) how' (by omega)
    refine ⟨_, w', hr, Or.inr ⟨by omega, g', cap', by omega, rfl, hrow.congr (fun i hi => ?_)⟩, ⟨hg.os, hg.tape, hg.output, hg.size, fun k hk => hg.block k (by omega) (by simp [Value.ownBlock])⟩⟩
    rw [show i = 0 by omega, ← hR]
    unfold catA
    split <;> rfl
  · obtain ⟨g', cap', w', hr, hr1, hr2, hr3, _⟩ := run_append_G (P := P) (W := W) (ty := ty) ht hi hz hsize hby hzs h3 hn hx
    refine ⟨_, w', hr, Or.inr ⟨by omega, g', cap', by omega, rfl, hr1.congr (fun i hi => ?_)⟩, ⟨hr2.os, hr2.tape, hr2.output, hr2.size, fun k hk => hr2.block k (by omega) (by simp; omega)⟩⟩
    unfold upd
    by_cases e : i = m
    · rw [if_pos e, e, hR]
    · rw [if_neg e]
theorem appO_step {Kc : Act → World → Prop} {w W : World} (hgd : o.guard = none) (t e : TypeId) (x y : Operand) (ho : o.op = .call { callee := .builtin .append, args := #[x, y], argTypes := #[t, t] }) (z : Value) (ht : P.underlying t = some (.slice e)) (hinfo : (P.info? e).map (fun i => (i.zero, i.size, i.bytes)) = some (some z, 1, 1)) (hzs : z.cells.size = 1)
    (v : Value) (m : Nat) (R : Nat → UInt8) (b : Nat) (vx : UInt8) (hx : a.eval x = v) (hy : a.eval y = .slice (some ⟨b, 0, none⟩) 1 1) (h : OutR w W m R v) (hw : w.heap.size ≤ W.heap.size) (hn : m ≤ 1000000) (hv : W.cell? ⟨b, 0, none⟩ = some (.int .u8 (vx.toNat : Int))) (hR : vx = R m)
    (hk : ∀ v' w', OutR w w' (m + 1) R v' → Below w.heap.size W w' → Kc (a.put o.dst v') w') : if Region.wanted o (yielded ops a.tmps) = true then Oper.wp P o a W Kc Q else Kc (a.put o.dst undef) W := by
  obtain ⟨i0, hi, hzz⟩ := Option.map_eq_some_iff.1 hinfo
  simp only [Prod.mk.injEq] at hzz
  obtain ⟨hz0, hz1, hz2⟩ := hzz
  obtain ⟨v', w', hr, h1, h2⟩ := h.append (P := P) (ty := o.type) ht hi hz0 hz1 hz2 hzs hw hn hv hR
  refine event_step (v := v') (w1 := w') (by simp [Region.wanted, hgd]) ?_ (hk v' w' h1 h2)
  unfold execOp
  simp only [ho, resolve, invoke, builtin, Sem.run_bind, Sem.run_pure, Result.andThen_ok, List.map_toArray, List.map_cons, List.map_nil, hx, hy, hr]
end
set_option maxHeartbeats 4000000 in
set_option maxRecDepth 100000 in
theorem count_c (w : World) (k : Nat) (K : Nat → UInt8) (nonce text : ByteArray) (hk : KeyR w k K) (hn : nonce.size = 12) (ht : text.size ≤ 2000) :
    Calls Try.prog 44 #[.pointer (some ⟨k, 0, none⟩), .string nonce, .string text] w fun e w' => e = .returned (.string (ctr K nonce text)) ∧ Below w.heap.size w w' := by
  obtain ⟨kg, kc, tg, tc, hkc, hbk, hK, hT⟩ := hk
  obtain ⟨R, hR⟩ : ∃ R, R = (fun i => byteAt text i ^^^ enc K (byteAt (nonce ++ strOfNums (be ((2 + i / 16 : Nat) : Int) 4))) 10 (i % 16)) := ⟨_, rfl⟩
  have HR := Aside0.mk hR
  have HQ := Aside0.mk hbk
  have HK := Aside0.mk hK
  have HT := Aside0.mk hT
  have HN := Aside0.mk hn
  clear hbk hK hT hn hR
  go_enter Try.func44, Try.ntmps44
  go_wp2
  go_loopg [7, 8] (text.size + 16) (fun gg v7 v8 wr => ∃ j i : Nat, i = 16 * j ∧ i ≤ text.size + 15 ∧ text.size + 16 - i ≤ gg ∧ v8 = .int .i64 (i : Int) ∧ Aside0 (OutR w wr (min i text.size) R v7) ∧ Aside0 (Below w.heap.size w wr))
  case atStart => exact ⟨0, 0, rfl, by omega, by omega, rfl, ⟨Or.inl ⟨by simp, rfl⟩⟩, ⟨Below.refl _ _⟩⟩
  case round =>
    obtain ⟨j, i, hij, hi, hgg, rfl, HO, HB⟩ := hrel
    by_cases hlt : i < text.size
    · have hd : decide (i < text.size) = true := decide_eq_true hlt
      obtain ⟨i16, hi16⟩ : ∃ q, q = i + 16 := ⟨_, rfl⟩
      obtain ⟨jj, hjj⟩ : ∃ q, q = 2 + j := ⟨_, rfl⟩
      have W16 := Aside0.mk (addL (c := 16) (C := 16) rfl hi16 (by omega))
      have hdv : (i : Int).tdiv 16 = (j : Int) := by rw [Int.tdiv_eq_ediv_of_nonneg (by omega)]; omega
      have WJJ : Aside0 (IntKind.i64.wrap (2 + (j : Int)) = (jj : Int) ∧ wrap64 (2 + (j : Int)) = (jj : Int)) := ⟨by
        rw [show (2 : Int) + (j : Int) = (jj : Int) by omega]; exact ⟨wi64 _ (by omega), wr64 _ (by omega)⟩⟩
      have HIJ := Aside0.mk hij
      have HJJ := Aside0.mk hjj
      have HI16 := Aside0.mk hi16
      rw [Nat.min_eq_left (Nat.le_of_lt hlt)] at HO
      obtain ⟨b4, hb4⟩ : ∃ b, b = strOfNums (be (jj : Int) 4) := ⟨_, rfl⟩
      have hb4s : b4.size = 4 := by rw [hb4, strOfNums_size, be_length]
      have hcat : (9223372036854775807 < nonce.size + b4.size) = False := by
        rw [hb4s, HN.out]; simp
      have hsb : (nonce ++ b4).size = 16 := by
        rw [ByteArray.size_append, hb4s, HN.out]
      have HB4 := Aside0.mk hb4
      have HSB := Aside0.mk hsb
      have hfx : ∀ W, Calls Try.prog 32 #[.int .i64 (jj : Int), .int .i64 4] W fun e w' => e = .returned (.string b4) ∧ Below W.heap.size W w' := fun W => by rw [HB4.out]; exact l1Fixed_c (jj : Int) 4 (by omega) W
      have HFX := Aside0.mk hfx
      obtain ⟨blk, hblk⟩ : ∃ b, b = strOf 16 (enc K (byteAt (nonce ++ b4)) 10) := ⟨_, rfl⟩
      have HBLK := Aside0.mk hblk
      have hbs : blk.size = 16 := by rw [hblk, strOf_size]
      have HBS := Aside0.mk hbs
      have hwith : ∀ W, Below wr.heap.size wr W → Calls Try.prog 43 #[.slice (some ⟨kg, 0, none⟩) 176 kc, .slice (some ⟨tg, 0, none⟩) 256 tc, .string (nonce ++ b4)] W fun e w' => e = .returned (.string blk) ∧ Below W.heap.size W w' := fun W hW => by
        have hWw := HB.out.trans (hW.mono HB.out.size)
        rw [HBLK.out]
        exact l3With_c W kg kc tg tc K _ HSB.out (HK.out.below hWw) hkc (HT.out.below hWw)
      have HWITH := Aside0.mk hwith
      have r0 : wr.cell? ⟨k, 0, none⟩ = some (.slice (some ⟨kg, 0, none⟩) 176 kc) := blk_cell (blk_below HQ.out HB.out) 0
      have r1 : wr.cell? ⟨k, 1, none⟩ = some (.slice (some ⟨tg, 0, none⟩) 256 tc) := blk_cell (blk_below HQ.out HB.out) 1
      clear hfx hwith hblk hbs hsb hb4 hb4s hij hjj hi16
      go_wp2
      refine region_quiet (C := fun w' => w'.cell? ⟨k, 0, none⟩ = some (.slice (some ⟨kg, 0, none⟩) 176 kc) ∧ w'.cell? ⟨k, 1, none⟩ = some (.slice (some ⟨tg, 0, none⟩) 256 tc) ∧ Aside0 (Below wr.heap.size wr w') ∧ True) (by kernel_rfl) (by kernel_rfl) ?hC ?_
      case hC => exact ⟨by simpa using r0, by simpa using r1, ⟨(Below.refl _ _).drew⟩, trivial⟩
      have hjb : j ≤ 200 := by have := HIJ.out; omega
      have y2 : wrap64 (j : Int) = (j : Int) := wr64 _ (by omega)
      obtain ⟨y1, y1'⟩ := WJJ.out
      repeat (first
        | go_big_quiet_skip
        | (go_big_quiet_want; refine quiet_call ?_ Try.func32 (by kernel_rfl) rfl #[.int .i64 (jj : Int), .int .i64 4] rfl (by (try simp only [List.map_toArray, List.map_cons, List.map_nil]); first | done | rfl) ?_ ?_; rotate_left 1; (· (rintro w' ⟨z0, z1, z2, z3⟩; refine (HFX.out w').mono ?_; rintro e w'' ⟨rfl, hb⟩; exact ⟨by with_reducible rfl, cb_ z0 hb, cb_ z1 hb, ⟨z2.out.trans (hb.mono z2.out.size)⟩, z3⟩)); simp only [Act.put, List.setIfInBounds_toArray, List.set_cons_zero, List.set_cons_succ, i64_w, i32_w]; go_big_quiet_on)
        | (go_big_quiet_want; refine quiet_call ?_ Try.func43 (by kernel_rfl) rfl #[.slice (some ⟨kg, 0, none⟩) 176 kc, .slice (some ⟨tg, 0, none⟩) 256 tc, .string (nonce ++ b4)] rfl (by (try simp only [List.map_toArray, List.map_cons, List.map_nil]); first | done | rfl) ?_ ?_; rotate_left 1; (· (rintro w' ⟨z0, z1, z2, z3⟩; refine (HWITH.out w' z2.out).mono ?_; rintro e w'' ⟨rfl, hb⟩; exact ⟨by with_reducible rfl, cb_ z0 hb, cb_ z1 hb, ⟨z2.out.trans (hb.mono z2.out.size)⟩, z3⟩)); simp only [Act.put, List.setIfInBounds_toArray, List.set_cons_zero, List.set_cons_succ, i64_w, i32_w]; go_big_quiet_on)
        | (go_big_quiet_want; refine quiet_op (v := ?_) ?_ ?_; rotate_left 1; (· (rintro w' ⟨z0, z1, -, -⟩; go_simp; with_reducible rfl)); simp only [Act.put, List.setIfInBounds_toArray, List.set_cons_zero, List.set_cons_succ, i64_w, i32_w]; go_big_quiet_on))
      refine wpQuiet_nil ?_
      rintro w9 ⟨-, -, HB9, -⟩
      clear y1 y1' y2 r0 r1
      have HO9 := Aside0.mk (HO.out.below HB9.out)
      have HBB := Aside0.mk (HB.out.trans (HB9.out.mono HB.out.size))
      clear HB9 HO HB
      go_wp2
      go_loopg [7, 10] 17 (fun gg v7 v10 wr => ∃ q p : Nat, p = i + q ∧ q ≤ 16 ∧ p ≤ text.size ∧ 17 - q ≤ gg ∧ v10 = .int .i64 (q : Int) ∧ Aside0 (OutR w wr p R v7) ∧ Aside0 (Below w.heap.size w wr))
      case atStart => exact ⟨0, i, rfl, by omega, by omega, by omega, rfl, HO9, HBB⟩
      case round =>
        clear HO9 HBB
        obtain ⟨q, p, hp, hq, hpt, hgk, rfl, HO, HB⟩ := hrel
        by_cases hq16 : q < 16
        · have hdq : decide (q < 16) = true := decide_eq_true hq16
          have WP := Aside0.mk (addI hp (by omega))
          have HP := Aside0.mk hp
          by_cases hpl : p < text.size
          · have hdp : decide (p < text.size) = true := decide_eq_true hpl
            have hqb : q < blk.size := by rw [HBS.out]; exact hq16
            have hval : byteAt text p ^^^ byteAt blk q = R p := by
              have h1 := HIJ.out
              have h2 := HJJ.out
              rw [HR.out]
              show _ = byteAt text p ^^^ enc K (byteAt (nonce ++ strOfNums (be ((2 + p / 16 : Nat) : Int) 4))) 10 (p % 16)
              rw [HBLK.out, byteAt_strOf _ _ _ hq16, HB4.out, show p / 16 = j by omega, show p % 16 = q by omega, ← h2]
            have HV := Aside0.mk hval
            have hwz := HB.out.size
            have hpm : p ≤ 1000000 := by omega
            clear hp hval
            obtain ⟨x1, x1'⟩ := WP.out
            obtain ⟨x16, x16'⟩ := W16.out
            go_wp2
            go_region_law (refine appO_step (w := w) rfl 56 5 _ _ rfl (.int .u8 0) Try.underlying56 info5 rfl u7 p R wr.heap.size (byteAt text p ^^^ byteAt blk q) rfl rfl (HO.out.below ((Below.refl wr.heap.size wr).drew.alloc (Nat.le_refl _) _)) (by simp; omega) hpm (by rw [← xor8, ← byteAt_get text p hpl, ← byteAt_get blk q hqb]; exact blk_cell (blk_new wr.drew _) 0) HV.out ?_; intro v7' w6 hr6 hg6; have HR6 := Aside0.mk hr6; have HG6 := Aside0.mk hg6; clear hr6 hg6)
            all_goals clear x1 x1' x16 x16'
            all_goals go_wp2
            all_goals
              go_roundg (17 - (q + 1))
              case measure => omega
              case rel =>
                exact ⟨q + 1, p + 1, by have := HP.out; omega, by omega, by omega, by omega, by go_num, HR6, ⟨(HB.out.trans (((Below.refl wr.heap.size wr).drew.alloc (Nat.le_refl _) _).mono HB.out.size)).trans HG6.out⟩⟩
          · have hdp : decide (p < text.size) = false := decide_eq_false hpl
            clear hp
            obtain ⟨x1, x1'⟩ := WP.out
            obtain ⟨x16, x16'⟩ := W16.out
            go_wp2
            clear x1 x1' x16 x16'
            go_roundg (text.size + 16 - i16)
            case measure => have := HI16.out; omega
            case rel =>
              have h16 := HI16.out
              refine ⟨j + 1, i16, by have := HIJ.out; omega, by omega, by omega, rfl, ⟨?_⟩, HB⟩
              rw [show min i16 text.size = p by have := HP.out; omega]
              exact HO.out
        · have hdq : decide (q < 16) = false := decide_eq_false hq16
          obtain ⟨x16, x16'⟩ := W16.out
          go_wp2
          clear x16 x16'
          go_roundg (text.size + 16 - i16)
          case measure => have := HI16.out; omega
          case rel =>
            have h16 := HI16.out
            refine ⟨j + 1, i16, by have := HIJ.out; omega, by omega, by omega, rfl, ⟨?_⟩, HB⟩
            rw [show min i16 text.size = p by have := hp; omega]
            exact HO.out
    · have hd : decide (i < text.size) = false := decide_eq_false hlt
      rw [Nat.min_eq_right (by omega)] at HO
      rcases HO.out with ⟨h0, rfl⟩ | ⟨h0, mg, mc, h1, rfl, h3⟩
      · have HB := HB.out
        have hcv : (convert 56 9 (.slice none 0 0)).run Try.prog wr = .ok (.string ⟨#[]⟩) wr := Lib.run_convert_nil_bytes wr _ _ _ 0 Try.underlying56 Try.underlying5 Try.underlying9
        go_wp2
        go_ret
        refine ⟨?_, by first | exact HB | exact HB.drew⟩
        have : ctr K nonce text = ⟨#[]⟩ := by unfold ctr; rw [h0]; rfl
        rw [this]
        rfl
      · have H3 := Aside0.mk h3
        clear h3
        go_wp2_with ((with_reducible refine gate_dst (N := 57) rfl ?_); refine back_event rfl (N := 57) rfl 56 9 5 _ rfl mg 0 text.size mc _ rfl Try.underlying56 Try.underlying5 Try.underlying9 H3.out.2.2 ?_)
        go_ret
        exact ⟨by rw [HR.out]; rfl, HB.out⟩
end Go.Proofs.Ytkcdhphhacjkhaa.B
