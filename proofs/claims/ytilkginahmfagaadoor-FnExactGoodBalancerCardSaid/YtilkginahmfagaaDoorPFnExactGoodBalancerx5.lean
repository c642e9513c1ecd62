-- Written by a program of this session (wip/xprint.py).
import Derived.Test.YtilkginahmfagaaDoorPFnExactGoodBalancerx0
import Derived.Test.YtilkginahmfagaaDoorPFnExactGoodBalancerx4
namespace Go.Proofs.YtilkginahmfagaaDoor.PFnExactGoodBalancer
open Go.RowKit Go.Proofs.YtilkginahmfagaaDoorW.PrintWords Go.Proofs.YtilkginahmfagaaDoorW.PrintLast Go.Proofs.YtilkginahmfagaaDoorW.PrintMore
open Go.Proofs.YtilkginahmfagaaDoor.ShortK (bN bD bA sA sZ sS mR mB bX bLt bS cz2 fz2 cx2 cz3 fz3 cx3 cz4 fz4 cx4 cz5 fz5 cx5 cz6 fz6 cx6 cz7 fz7 cx7 cz8 fz8 cx8 cz9 fz9 cx9 cz10 fz10 cx10 cz11 fz11 cx11 cz12 fz12 cx12)
attribute [local go_sem] Go.Proofs.YtilkginahmfagaaDoor.StoreK.isSome_setCell max2_int min2_int max_two min_two max_three min_three max_four min_four   -- for this text's walks alone
set_option linter.unusedVariables false
set_option linter.unusedSimpArgs false

/-! ### impl_GoodTable: function 31 -/
open Go.Proofs.YtilkginahmfagaaDoor.QuietK Go.Proofs.YtilkginahmfagaaDoor.SetK
/-- The servers from number i on, n of them. -/
def gsrv (srv : Int) (l : List S93) : Nat → Int → Option Bool
  | 0, _ => some true
  | n + 1, i =>
    if ((rd_T93 l i).f0.size : Int) = srv then
      if 0 < i ∧ Op.bytesLess (rd_T93 l (i - 1)).f0.toList (rd_T93 l i).f0.toList = false then some false
      else (impl_GoodBackend.f (rd_T93 l i).f1).bind fun g => if g = true then (if (rd_T93 l i).f1.data.toList ∈ (l.take i.toNat).map (fun a => a.f1.data.toList) then some false else gsrv srv l n (i + 1)) else some false
    else some false
def gtail (s0 s1 s2 : Int) (s3 : ByteArray) (s4 : Bool) (n s6 : Int) : Option Bool :=
  (impl_GoodConfig.f s0 s1 s2 s3 s4).bind fun a => if a = true then (impl_in.f s0 0 2).bind fun b => if b = true then (if n ≤ 12 then impl_in.f s6 0 1000000000 else some false) else some false else some false
def impl_Entry_good.f (s0 s1 s2 : Int) (s3 : ByteArray) (s4 : Bool) (s5 : List S93) (s6 : Int) : Option Bool :=
  if (s5.length : Int) ≤ 9223372036854775807 then (gsrv s1 s5 s5.length 0).bind fun b => if b = true then gtail s0 s1 s2 s3 s4 s5.length s6 else some false else none
theorem names_next {P : Program} {k e : TypeId} {w : World} {b : Nat} {l : List S93} {i : Int} (h0 : 0 ≤ i) (h1 : i < (l.length : Int)) (h : Names P k e w b (i.toNat + 1) ((l.take i.toNat).map (fun a => a.f1.data.toList) ++ [(rd_T93 l i).f1.data.toList])) :
    Names P k e w b (i + 1).toNat ((l.take (i + 1).toNat).map (fun a => a.f1.data.toList)) := by
  have e1 : (i + 1).toNat = i.toNat + 1 := by omega
  have hlt : i.toNat < l.length := by omega
  rw [e1, List.take_add_one, List.map_append]
  have e2 : l[i.toNat]? = some (rd_T93 l i) := by
    unfold rd_T93
    rw [List.getD_eq_getElem?_getD, List.getElem?_eq_getElem hlt]
    rfl
  rw [e2]
  exact h
theorem gback_size {x : ByteArray} (h : impl_GoodBackend.f x = some true) : x.size ≤ maxLen := by
  obtain ⟨t, h1, h2⟩ := Option.bind_eq_some_iff.mp h
  cases t with
  | false => exact absurd (Option.some.inj h2) (by decide)
  | true =>
    unfold impl_in.f at h1
    split at h1
    · have := of_decide_eq_true (Option.some.inj h1)
      unfold maxLen
      omega
    · cases h1
set_option maxHeartbeats 4000000 in
set_option maxRecDepth 100000 in
theorem impl_Entry_good.calls (g : Nat) (s0 s1 s2 : Int) (s3 : ByteArray) (s4 : Bool) (s5 : List S93) (s6 : Int) (r : Bool) (w : World) (A5 : Option Addr) (c5 : Nat)
    (hb0 : w.heap[g]? = some (.cells #[.int .i64 s0, .int .i64 s1, .int .i64 s2, .string s3, .bool s4, .slice A5 s5.length c5, .int .i64 s6] 90 (0, 0))) (hr5 : Kd.C k93 w A5 s5.length s5) (hc5 : s5.length ≤ c5)
    (h : impl_Entry_good.f s0 s1 s2 s3 s4 s5 s6 = some r) :
    Calls Tryd.prog 69 #[.pointer (some ⟨g, 0, none⟩)] w fun e w' => e = .returned (.bool r) ∧ Below w.heap.size w w' := by
  unfold impl_Entry_good.f at h
  by_cases hlen : (s5.length : Int) ≤ 9223372036854775807
  case neg => rw [if_neg hlen] at h; cases h
  rw [if_pos hlen] at h
  obtain ⟨b, h1, h2⟩ := Option.bind_eq_some_iff.mp h
  have HA := Aside0.mk h1
  have HT := Aside0.mk h2
  have HL := Aside0.mk hlen
  have HC := Aside0.mk hb0
  have HR := Aside0.mk hr5
  have hg := blk_lt hb0
  clear h h1 h2 hlen hb0 hr5
  have hmm := @run_makeMap Tryd.prog
  obtain ⟨q0, q1, q2, q3, q4, q5, q6⟩ := Go.Proofs.YtilkginahmfagaaDoor.ShortK.cz7 HC
  go_enter Tryd.func69, Tryd.ntmps69
  go_wp2_with fail
  go_loopg [12] s5.length (fun kq v12 w' => ∃ (i : Int), v12 = .int .i64 i ∧ Aside0 (gsrv s1 s5 kq i = some b) ∧ Aside0 (i + kq = s5.length ∧ 0 ≤ i) ∧ Aside0 (Names Tryd.prog 9 4 w' w.heap.size i.toNat ((s5.take i.toNat).map (fun a => a.f1.data.toList))) ∧ Aside0 (Below w.heap.size w w'))
  case atStart => exact ⟨0, rfl, HA, ⟨⟨by omega, by omega⟩⟩, ⟨Names.made _⟩, ⟨below_alloc (Below.refl _ _) _⟩⟩
  case round =>
    clear HA q0 q1 q2 q3 q4 q5 q6
    obtain ⟨i, rfl, HA, HI, HN, HB⟩ := hrel
    obtain ⟨hi1, hi0⟩ := HI.out
    clear HI
    cases gk with
    | zero =>
      have hd : decide (i < (s5.length : Int)) = false := decide_eq_false (by omega)
      have hbt : b = true := (Option.some.inj HA.out).symm
      subst hbt
      have H := HT.out
      rw [if_pos rfl] at H
      unfold gtail at H
      obtain ⟨a1, G1, H⟩ := Option.bind_eq_some_iff.mp H
      have HH := Aside0.mk H
      have HG1 := Aside0.mk G1
      have QC := Aside0.mk (blk_below HC.out HB.out)
      clear H G1 HT HA hi1 hi0
      obtain ⟨q0, q1, q2, q3, q4, q5, q6⟩ := Go.Proofs.YtilkginahmfagaaDoor.ShortK.cz7 QC
      go_wp2_with fail
      refine (impl_GoodConfig.calls s0 s1 s2 s3 s4 a1 _ HG1.out).mono ?_
      rintro e w1 ⟨rfl, hb1⟩
      have HB1 := Aside0.mk (HB.out.trans (hb1.mono HB.out.size))
      have QC1 := Aside0.mk (blk_below QC.out hb1)
      clear hb1 q0 q1 q2 q3 q4 q5 q6 HB QC
      obtain ⟨q0, q1, q2, q3, q4, q5, q6⟩ := Go.Proofs.YtilkginahmfagaaDoor.ShortK.cz7 QC1
      have H := HH.out
      clear HH
      cases a1 with
      | false =>
        rw [if_neg (by decide)] at H
        obtain rfl := Option.some.inj H
        go_wp2
        go_ret
        exact ⟨rfl, by first | exact HB1.out | exact pw_below_drewN HB1.out _⟩
      | true =>
        rw [if_pos rfl] at H
        obtain ⟨a2, G2, H⟩ := Option.bind_eq_some_iff.mp H
        have HH := Aside0.mk H
        have HG2 := Aside0.mk G2
        clear H G2
        go_wp2_with fail
        refine (impl_in.calls s0 0 2 a2 _ HG2.out).mono ?_
        rintro e w2 ⟨rfl, ⟨nd, rfl⟩⟩
        have H := HH.out
        clear HH
        cases a2 with
        | false =>
          rw [if_neg (by decide)] at H
          obtain rfl := Option.some.inj H
          go_wp2
          go_ret
          exact ⟨rfl, by first | exact HB1.out | exact pw_below_drewN HB1.out _⟩
        | true =>
          rw [if_pos rfl] at H
          by_cases hl : (s5.length : Int) ≤ 12
          · rw [if_pos hl] at H
            have hl1 : decide ((s5.length : Int) ≤ 12) = true := decide_eq_true hl
            have HH := Aside0.mk H
            clear H hl
            go_wp2_with fail
            refine (impl_in.calls s6 0 1000000000 r _ HH.out).mono ?_
            rintro e w2 ⟨rfl, ⟨nd2, rfl⟩⟩
            go_wp2
            go_ret
            exact ⟨rfl, by first | exact HB1.out | exact pw_below_drewN HB1.out _⟩
          · rw [if_neg hl] at H
            have hl1 : decide ((s5.length : Int) ≤ 12) = false := decide_eq_false hl
            obtain rfl := Option.some.inj H
            clear hl
            go_wp2
            go_ret
            exact ⟨rfl, by first | exact HB1.out | exact pw_below_drewN HB1.out _⟩
    | succ n =>
      have hi2 : i < (s5.length : Int) := by omega
      have hd : decide (i < (s5.length : Int)) = true := decide_eq_true hi2
      obtain ⟨ad, e5, hx0, hx1⟩ := at_T93 HR.out i hi0 hi2
      subst e5
      replace hx0 := (HB.out.cell (World.block_lt_of_cell? w _ hx0)).trans hx0
      replace hx1 := (HB.out.cell (World.block_lt_of_cell? w _ hx1)).trans hx1
      have p1 := eq_true hi0
      have p2 := eq_true hi2
      have HI := Aside0.mk hi1
      have HWI := Aside0.mk (show wrap64 (i + 1) = i + 1 from by unfold wrap64; have := HL.out; omega)
      clear hi0 hi2 hi1
      go_wp2_with (first | ((with_reducible refine gate_dst (N := 5) rfl ?_); (try (refine gate_guard (by rfl) ?_; dsimp only)); refine box_event ?hg (N := 5) ?hd (cs := #[.string ⟨#[]⟩, .string ⟨#[]⟩]) (t := 93) ?hr ?_; (case hd => rfl); (case hg => rfl); (case hr => first | (go_simp; done) | (go_simp; rfl)); intro gb hgb w8 hbox hb; have HX := Aside0.mk hbox; have HB8 := Aside0.mk (HB.out.trans (hb.mono HB.out.size)); have HGW := Aside0.mk (show w.heap.size ≤ gb from by rw [hgb]; exact HB.out.size); have HNE := Aside0.mk (show gb ≠ w.heap.size from by rw [hgb]; exact Nat.ne_of_gt HN.out.lt); have HGB := Aside0.mk hgb; have HN8 := Aside0.mk (HN.out.below hb); clear HN HB hb hbox hgb; obtain ⟨hz0, hz1⟩ := Go.Proofs.YtilkginahmfagaaDoor.ShortK.cz2 HX; obtain ⟨hf0, hf1⟩ := Go.Proofs.YtilkginahmfagaaDoor.ShortK.fz2 HX))
      go_cut [55] (fun v55 wc => ∃ (q : Bool), v55 = .bool q ∧ Aside0 ((q = true ∧ b = false) ∨ (q = false ∧ gsrv s1 s5 n (i + 1) = some b ∧ (rd_T93 s5 i).f1.size ≤ maxLen)) ∧ Aside0 (wc.heap[gb]? = some (.cells #[.string (rd_T93 s5 i).f0, .string (rd_T93 s5 i).f1] 93 (0, 0))) ∧ Aside0 (Names Tryd.prog 9 4 wc w.heap.size i.toNat ((s5.take i.toNat).map (fun a => a.f1.data.toList))) ∧ Aside0 (Below w.heap.size w wc))
      case first =>
        have HX9 : ((w8.setCell ⟨gb, 0, none⟩ (.string (rd_T93 s5 i).f0)).setCell ⟨gb, 1, none⟩ (.string (rd_T93 s5 i).f1)).heap[gb]? = some (.cells #[.string (rd_T93 s5 i).f0, .string (rd_T93 s5 i).f1] 93 (0, 0)) := blk_put (cs := #[.string (rd_T93 s5 i).f0, .string (⟨#[]⟩ : ByteArray)]) (blk_put (cs := #[.string (⟨#[]⟩ : ByteArray), .string (⟨#[]⟩ : ByteArray)]) HX.out 0 _ rfl) 1 _ rfl
        have hgw : w.heap.size ≤ gb := HGW.out
        have HB9 : Below w.heap.size w ((w8.setCell ⟨gb, 0, none⟩ (.string (rd_T93 s5 i).f0)).setCell ⟨gb, 1, none⟩ (.string (rd_T93 s5 i).f1)) := below_set (below_set HB8.out hgw) hgw
        have HN9 : Names Tryd.prog 9 4 ((w8.setCell ⟨gb, 0, none⟩ (.string (rd_T93 s5 i).f0)).setCell ⟨gb, 1, none⟩ (.string (rd_T93 s5 i).f1)) w.heap.size i.toNat ((s5.take i.toNat).map (fun a => a.f1.data.toList)) :=
          HN8.out.block ((Below.heap_setCell _ _ _ _ (Ne.symm HNE.out)).trans (Below.heap_setCell _ _ _ _ (Ne.symm HNE.out)))
        have HC9 := blk_below HC.out HB9
        have hpv : 0 < i → ((w8.setCell ⟨gb, 0, none⟩ (.string (rd_T93 s5 i).f0)).setCell ⟨gb, 1, none⟩ (.string (rd_T93 s5 i).f1)).cell? (ad.add ((i - 1).toNat * 2)) = some (.string (rd_T93 s5 (i - 1)).f0) := fun h => by
          obtain ⟨ad', e5, h0, h1⟩ := at_T93 HR.out (i - 1) (by omega) (by have := HI.out; omega)
          injection e5 with e5
          subst e5
          exact cb_ h0 HB9
        generalize ((w8.setCell ⟨gb, 0, none⟩ (.string (rd_T93 s5 i).f0)).setCell ⟨gb, 1, none⟩ (.string (rd_T93 s5 i).f1)) = W at HX9 HB9 HN9 HC9 hpv ⊢
        have QX := Aside0.mk HX9
        have QB := Aside0.mk HB9
        have QN := Aside0.mk HN9
        have QC := Aside0.mk HC9
        clear hz0 hz1 hf0 hf1 HX HN8 HB8 HGB hx0 hx1 HX9 HB9 HN9 HC9
        have H := HA.out
        clear HA
        unfold gsrv at H
        have wi : IntKind.i64.wrap (i - 1) = i - 1 := by rw [i64_w]; unfold wrap64; have := HI.out; have := HL.out; have := of_eq_true p1; omega
        obtain ⟨j, hj⟩ : ∃ j : Int, i - 1 = j := ⟨_, rfl⟩
        have hjb : 0 < i → 0 ≤ j ∧ j < (s5.length : Int) := fun h => by have := HI.out; omega
        have HJ := Aside0.mk hjb
        clear hjb
        rw [hj] at hpv H
        replace wi := wi.trans hj
        have wi2 : wrap64 (i - 1) = j := (i64_w _).symm.trans wi
        generalize hF0 : (rd_T93 s5 i).f0 = f0 at H QX ⊢
        generalize hF1 : (rd_T93 s5 i).f1 = f1 at H QX ⊢
        generalize hP0 : (rd_T93 s5 j).f0 = pv at H hpv ⊢
        have HF0 := Aside0.mk hF0
        have HF1 := Aside0.mk hF1
        clear hF0 hF1 hP0 hj
        have HHV := Aside0.mk hpv
        clear hpv
        generalize hseen : (s5.take i.toNat).map (fun a => a.f1.data.toList) = seen at H QN ⊢
        have HSEEN := Aside0.mk hseen
        clear hseen
        have hcases : (((f0.size : Int) != s1) = true ∧ Aside0 ((true = true ∧ b = false) ∨ (true = false ∧ gsrv s1 s5 n (i + 1) = some b ∧ f1.size ≤ maxLen))) ∨ ((f0.size : Int) = s1 ∧ 0 < i ∧ (0 ≤ j) = True ∧ (j < (s5.length : Int)) = True ∧ Op.bytesLess pv.toList f0.toList = false ∧ Aside0 ((true = true ∧ b = false) ∨ (true = false ∧ gsrv s1 s5 n (i + 1) = some b ∧ f1.size ≤ maxLen))) ∨
            ((f0.size : Int) = s1 ∧ (decide (0 < i) = false ∨ (0 < i ∧ (0 ≤ j) = True ∧ (j < (s5.length : Int)) = True ∧ Op.bytesLess pv.toList f0.toList = true)) ∧ ((Aside0 (impl_GoodBackend.f f1 = some false) ∧ Aside0 ((true = true ∧ b = false) ∨ (true = false ∧ gsrv s1 s5 n (i + 1) = some b ∧ f1.size ≤ maxLen))) ∨ (Aside0 (impl_GoodBackend.f f1 = some true) ∧ f1.size ≤ maxLen ∧ ((f1.data.toList ∈ seen ∧ Aside0 ((true = true ∧ b = false) ∨ (true = false ∧ gsrv s1 s5 n (i + 1) = some b ∧ f1.size ≤ maxLen))) ∨ (¬ f1.data.toList ∈ seen ∧ Aside0 ((false = true ∧ b = false) ∨ (false = false ∧ gsrv s1 s5 n (i + 1) = some b ∧ f1.size ≤ maxLen))))))) := by
          by_cases c1 : (f0.size : Int) = s1
          case neg => rw [if_neg c1] at H; exact Or.inl ⟨bne_iff_ne.mpr c1, ⟨Or.inl ⟨rfl, (Option.some.inj H).symm⟩⟩⟩
          case pos =>
            rw [if_pos c1] at H
            by_cases c2 : 0 < i ∧ Op.bytesLess pv.toList f0.toList = false
            case pos => rw [if_pos c2] at H; exact Or.inr (Or.inl ⟨c1, c2.1, eq_true (HJ.out c2.1).1, eq_true (HJ.out c2.1).2, c2.2, ⟨Or.inl ⟨rfl, (Option.some.inj H).symm⟩⟩⟩)
            case neg =>
              rw [if_neg c2] at H
              obtain ⟨gv, G, H⟩ := Option.bind_eq_some_iff.mp H
              refine Or.inr (Or.inr ⟨c1, ?_, ?_⟩)
              · by_cases h : 0 < i
                · exact Or.inr ⟨h, eq_true (HJ.out h).1, eq_true (HJ.out h).2, by cases hh : Op.bytesLess pv.toList f0.toList with | true => rfl | false => exact absurd ⟨h, hh⟩ c2⟩
                · exact Or.inl (decide_eq_false h)
              · cases gv with
                | false => rw [if_neg (by decide)] at H; exact Or.inl ⟨⟨G⟩, ⟨Or.inl ⟨rfl, (Option.some.inj H).symm⟩⟩⟩
                | true =>
                  rw [if_pos rfl] at H
                  have hs := gback_size G
                  refine Or.inr ⟨⟨G⟩, hs, ?_⟩
                  by_cases cm : f1.data.toList ∈ seen
                  · rw [if_pos cm] at H; exact Or.inl ⟨cm, ⟨Or.inl ⟨rfl, (Option.some.inj H).symm⟩⟩⟩
                  · rw [if_neg cm] at H; exact Or.inr ⟨cm, ⟨Or.inr ⟨rfl, H, hs⟩⟩⟩
        clear H
        rcases hcases with ⟨c1, HQ⟩ | ⟨c1, c2, p3, p4, c3, HQ⟩ | ⟨c1, c2 | ⟨c2, p3, p4, c3⟩, ⟨HGV, HQ⟩ | ⟨HGV, hsz, ⟨cm, HQ⟩ | ⟨cm, HQ⟩⟩⟩
        all_goals (
          refine region_quiet (C := fun w' => w'.cell? ⟨gb, 0, none⟩ = some (.string f0) ∧ w'.cell? ⟨gb, 1, none⟩ = some (.string f1) ∧ w'.cell? ⟨g, 1, none⟩ = some (.int .i64 s1) ∧ w'.cell? ⟨g, 5, none⟩ = some (.slice (some ad) s5.length c5) ∧ (0 < i → w'.cell? (ad.add (j.toNat * 2)) = some (.string pv)) ∧ Names Tryd.prog 9 4 w' w.heap.size i.toNat seen ∧ Aside0 (w'.heap[gb]? = some (.cells #[.string f0, .string f1] 93 (0, 0))) ∧ Aside0 (Below w.heap.size w w')) (by kernel_rfl) (by kernel_rfl) ?hC ?_
          case hC => exact ⟨(blk_cell QX.out 0).trans rfl, (blk_cell QX.out 1).trans rfl, (blk_cell QC.out 1).trans rfl, (blk_cell QC.out 5).trans rfl, HHV.out, QN.out, QX, ⟨below_drew QB.out⟩⟩
          repeat (first
            | go_big_quiet_skip
            | (go_big_quiet_want; refine quiet_call ?_ Tryd.func70 (by kernel_rfl) rfl #[.string f1] rfl (by (try simp only [List.map_toArray, List.map_cons, List.map_nil]); first | done | rfl) ?_ ?_; rotate_left 1; (· (rintro w' ⟨z0, z1, z2, z3, z4, z5, z6, z7⟩; refine (impl_GoodBackend.calls _ _ w' HGV.out).mono ?_; rintro e w'' ⟨rfl, hb⟩; exact ⟨by with_reducible rfl, cb_ z0 hb, cb_ z1 hb, cb_ z2 hb, cb_ z3 hb, fun h => cb_ (z4 h) hb, z5.below hb, ⟨blk_below z6.out hb⟩, ⟨z7.out.trans (hb.mono z7.out.size)⟩⟩)); simp only [Act.put, List.setIfInBounds_toArray, List.set_cons_zero, List.set_cons_succ, i64_w, i32_w]; go_big_quiet_on)
            | (go_big_quiet_want; refine quiet_op (v := ?_) ?_ ?_; rotate_left 1; (· (rintro w' ⟨z0, z1, z2, z3, z4, z5, -, -⟩; (try have z4 := z4 c2); clear z5; go_simp; with_reducible rfl)); simp only [Act.put, List.setIfInBounds_toArray, List.set_cons_zero, List.set_cons_succ, i64_w, i32_w]; go_big_quiet_on)
            | (go_big_quiet_want; refine quiet_op (v := ?_) ?_ ?_; rotate_left 1; (· (rintro w' ⟨-, -, -, -, -, z5, -, -⟩; have z6 := look_run Tryd.underlying9 Tryd.underlying4 Tryd.underlying124 (by kernel_rfl) z5 f1 hsz; (try rw [decide_eq_true cm] at z6); (try rw [decide_eq_false cm] at z6);  clear z5; go_simp; with_reducible rfl)); simp only [Act.put, List.setIfInBounds_toArray, List.set_cons_zero, List.set_cons_succ, i64_w, i32_w]; go_big_quiet_on))
          refine wpQuiet_nil ?_
          rintro w' ⟨-, -, -, -, -, z5, z6, z7⟩
          obtain ⟨hF0⟩ := HF0
          obtain ⟨hF1⟩ := HF1
          obtain ⟨hSN⟩ := HSEEN
          subst hF0
          subst hF1
          subst hSN
          go_wp2
          go_meet
          case rel => exact ⟨_, rfl, ⟨by have h_ := HQ.out; first | exact h_ | simpa using h_⟩, z6, ⟨z5⟩, z7⟩)
      case rest =>
        clear HA
        obtain ⟨q, rfl, HD, HX, HN, HB⟩ := hcut
        have hD := HD.out
        clear HD
        rcases hD with ⟨rfl, rfl⟩ | ⟨rfl, HA, hsz⟩
        · have HT := HT.out
          rw [if_neg (by decide)] at HT
          obtain rfl := Option.some.inj HT
          go_wp2
          go_ret
          exact ⟨rfl, HB.out⟩
        · obtain ⟨hz0, hz1⟩ := Go.Proofs.YtilkginahmfagaaDoor.ShortK.cz2 HX
          have hlt : i.toNat < maxLen := by unfold maxLen; have := HI.out; have := HL.out; omega
          have HA' := Aside0.mk HA
          clear HA
          go_wp2_with (refine wpList_put rfl (.tmp 56) (.tmp 58) (.const (.bool true)) 124 rfl Tryd.underlying9 Tryd.underlying4 Tryd.underlying124 w.heap.size i.toNat _ rfl HN.out hlt (rd_T93 s5 i).f1 rfl hsz rfl ?_; intro w9 hN9 hg9; have HN9 := Aside0.mk hN9; have HB9 := Aside0.mk (HB.out.grown hg9 HB.out.size (fun j hj => by cases hj; exact Nat.le_refl _)); clear hN9 hg9)
          go_roundg n
          case measure => omega
          case rel => exact ⟨i + 1, by first | rfl | (simp; done) | (rw [HWI.out]), HA', ⟨⟨by have := HI.out; omega, by have := of_eq_true p1; omega⟩⟩, ⟨names_next (of_eq_true p1) (of_eq_true p2) HN9.out⟩, HB9⟩
/-- The entries from number i on, n of them. -/
def gtab (l : List S90) : Nat → Int → Option Bool
  | 0, _ => some (decide ((l.length : Int) ≤ 3))
  | n + 1, i => (impl_Entry_good.f (rd_T90 l i).f0.f0 (rd_T90 l i).f0.f1 (rd_T90 l i).f0.f2 (rd_T90 l i).f0.f3 (rd_T90 l i).f0.f4 (rd_T90 l i).f1 (rd_T90 l i).f2).bind fun g =>
    if g = true then (if 0 < i ∧ (rd_T90 l i).f0.f0 ≤ (rd_T90 l (i - 1)).f0.f0 then some false else gtab l n (i + 1)) else some false
def impl_GoodTable.f (l : List S90) : Option Bool := if (l.length : Int) ≤ 9223372036854775807 then gtab l l.length 0 else none
set_option maxHeartbeats 4000000 in
set_option maxRecDepth 100000 in
theorem impl_GoodTable.calls (A0_0 : Option Addr) (c0_0 : Nat) (l : List (S90)) (r : Bool) (w : World) (hr0_0 : Kd.C k90 w A0_0 l.length l) (hc0_0 : l.length ≤ c0_0) (h : impl_GoodTable.f l = some r) :
    Calls Tryd.prog 31 #[.agg #[.slice A0_0 l.length c0_0]] w fun e w' => e = .returned (.bool r) ∧ Below w.heap.size w w' := by
  unfold impl_GoodTable.f at h
  by_cases hlen : (l.length : Int) ≤ 9223372036854775807
  case neg => rw [if_neg hlen] at h; cases h
  rw [if_pos hlen] at h
  have hu32 := Tryd.underlying32
  have hu90 := Tryd.underlying90
  have hu87 := Tryd.underlying87
  have hu93 := Tryd.underlying93
  have HA := Aside0.mk h
  have HL := Aside0.mk hlen
  have HR := Aside0.mk hr0_0
  clear h hlen hr0_0
  have HB := Aside0.mk (Below.refl w.heap.size w)
  go_enter Tryd.func31, Tryd.ntmps31
  go_wp2_with (first | ((with_reducible refine gate_dst (N := 1) rfl ?_); (try (refine gate_guard (by rfl) ?_; dsimp only)); refine box_event ?hg (N := 1) ?hd (cs := #[.slice A0_0 l.length c0_0]) (t := 32) ?hr ?_; (case hd => rfl); (case hg => rfl); (case hr => first | (go_simp; done) | (go_simp; rfl)); intro g1 hg1 w2 hbox hb; have HBOX := Aside0.mk hbox; have HB2 := Aside0.mk (HB.out.trans (hb.mono HB.out.size)); have HG1 := Aside0.mk (show w.heap.size ≤ g1 from by rw [hg1]; exact Nat.le_refl _); clear hbox hb hg1; have hz0 : w2.cell? ⟨g1, 0, none⟩ = some (.slice A0_0 l.length c0_0) := (blk_cell HBOX.out 0).trans rfl))
  go_loopg [8] l.length (fun kq v8 w' => ∃ (i : Int), v8 = .int .i64 i ∧ Aside0 (gtab l kq i = some r) ∧ Aside0 (i + kq = l.length ∧ 0 ≤ i) ∧ Aside0 (w'.heap[g1]? = some (.cells #[.slice A0_0 l.length c0_0] 32 (0, 0))) ∧ Aside0 (Below w.heap.size w w'))
  case atStart => exact ⟨0, rfl, HA, ⟨⟨by omega, by omega⟩⟩, HBOX, HB2⟩
  case round =>
    clear HA HB2 HBOX hz0
    obtain ⟨i, rfl, HA, HI, HBOX, HB⟩ := hrel
    obtain ⟨hi1, hi0⟩ := HI.out
    clear HI
    cases gk with
    | zero =>
      have hd : decide (i < (l.length : Int)) = false := decide_eq_false (by omega)
      have H := HA.out
      have hz0 : wr.cell? ⟨g1, 0, none⟩ = some (.slice A0_0 l.length c0_0) := (blk_cell HBOX.out 0).trans rfl
      obtain rfl := Option.some.inj H
      clear H HA hi1 hi0
      go_wp2
      go_ret
      exact ⟨rfl, HB.out⟩
    | succ n =>
      have hi2 : i < (l.length : Int) := by omega
      have hd : decide (i < (l.length : Int)) = true := decide_eq_true hi2
      obtain ⟨ad, A5, c5, e5, hx0, hx1, hx2, hx3, hx4, hx5, hx6, hl5, hk5⟩ := at_T90 HR.out i hi0 hi2
      subst e5
      replace hx0 := cb_ hx0 HB.out
      replace hx1 := cb_ hx1 HB.out
      replace hx2 := cb_ hx2 HB.out
      replace hx3 := cb_ hx3 HB.out
      replace hx4 := cb_ hx4 HB.out
      replace hx5 := cb_ hx5 HB.out
      replace hx6 := cb_ hx6 HB.out
      have hpv0 : 0 < i → w.cell? (ad.add ((i - 1).toNat * 7)) = some (.int .i64 (rd_T90 l (i - 1)).f0.f0) := fun h => by
        have hlt : i - 1 < (l.length : Int) := by omega
        have hge : 0 ≤ i - 1 := by omega
        obtain ⟨ad', A', c', e5, h0, _⟩ := at_T90 HR.out (i - 1) hge hlt
        injection e5 with e5
        subst e5
        exact h0
      have HPV := Aside0.mk hpv0
      clear hpv0
      have HL5 := Aside0.mk hl5
      have HK5 := Aside0.mk hk5
      have p1 := eq_true hi0
      have p2 := eq_true hi2
      have HI := Aside0.mk hi1
      have HWI := Aside0.mk (show wrap64 (i + 1) = i + 1 from by unfold wrap64; have := HL.out; omega)
      clear hi0 hi2 hi1 hl5 hk5
      go_wp2_with (first | ((with_reducible refine gate_dst (N := 4) rfl ?_); (try (refine gate_guard (by rfl) ?_; dsimp only)); refine box_event ?hg (N := 4) ?hd (cs := #[.int .i64 0, .int .i64 0, .int .i64 0, .string (⟨#[]⟩ : ByteArray), .bool false, .slice none 0 0, .int .i64 0]) (t := 90) ?hr ?_; (case hd => rfl); (case hg => rfl); (case hr => first | (go_simp; done) | (go_simp; rfl)); intro gb hgb w8 hbox hb; have HX := Aside0.mk hbox; have HB8 := Aside0.mk (HB.out.trans (hb.mono HB.out.size)); have HGW := Aside0.mk (show w.heap.size ≤ gb from by rw [hgb]; exact HB.out.size); have HNE := Aside0.mk (show g1 ≠ gb from by rw [hgb]; exact Nat.ne_of_lt (blk_lt HBOX.out)); have HBOX8 := Aside0.mk (blk_below HBOX.out hb); clear HBOX HB hb hbox hgb; obtain ⟨hz0, hz1, hz2, hz3, hz4, hz5, hz6⟩ := Go.Proofs.YtilkginahmfagaaDoor.ShortK.cz7 HX; obtain ⟨hf0, hf1, hf2, hf3, hf4, hf5, hf6⟩ := Go.Proofs.YtilkginahmfagaaDoor.ShortK.fz7 HX))
      go_cut [32] (fun v32 wc => ∃ (q : Bool), v32 = .bool q ∧ Aside0 ((q = true ∧ r = false) ∨ (q = false ∧ gtab l n (i + 1) = some r)) ∧ Aside0 (wc.heap[g1]? = some (.cells #[.slice (some ad) l.length c0_0] 32 (0, 0))) ∧ Aside0 (Below w.heap.size w wc))
      case first =>
        have hgw : w.heap.size ≤ gb := HGW.out
        have hQX : (((((((w8.setCell ⟨gb, 0, none⟩ (.int .i64 (rd_T90 l i).f0.f0)).setCell ⟨gb, 1, none⟩ (.int .i64 (rd_T90 l i).f0.f1)).setCell ⟨gb, 2, none⟩ (.int .i64 (rd_T90 l i).f0.f2)).setCell ⟨gb, 3, none⟩ (.string (rd_T90 l i).f0.f3)).setCell ⟨gb, 4, none⟩ (.bool (rd_T90 l i).f0.f4)).setCell ⟨gb, 5, none⟩ (.slice A5 (rd_T90 l i).f1.length c5)).setCell ⟨gb, 6, none⟩ (.int .i64 (rd_T90 l i).f2)).heap[gb]? = some (.cells #[.int .i64 (rd_T90 l i).f0.f0, .int .i64 (rd_T90 l i).f0.f1, .int .i64 (rd_T90 l i).f0.f2, .string (rd_T90 l i).f0.f3, .bool (rd_T90 l i).f0.f4, .slice A5 (rd_T90 l i).f1.length c5, .int .i64 (rd_T90 l i).f2] 90 (0, 0)) := (blk_put (cs := #[.int .i64 (rd_T90 l i).f0.f0, .int .i64 (rd_T90 l i).f0.f1, .int .i64 (rd_T90 l i).f0.f2, .string (rd_T90 l i).f0.f3, .bool (rd_T90 l i).f0.f4, .slice A5 (rd_T90 l i).f1.length c5, .int .i64 0]) (blk_put (cs := #[.int .i64 (rd_T90 l i).f0.f0, .int .i64 (rd_T90 l i).f0.f1, .int .i64 (rd_T90 l i).f0.f2, .string (rd_T90 l i).f0.f3, .bool (rd_T90 l i).f0.f4, .slice none 0 0, .int .i64 0]) (blk_put (cs := #[.int .i64 (rd_T90 l i).f0.f0, .int .i64 (rd_T90 l i).f0.f1, .int .i64 (rd_T90 l i).f0.f2, .string (rd_T90 l i).f0.f3, .bool false, .slice none 0 0, .int .i64 0]) (blk_put (cs := #[.int .i64 (rd_T90 l i).f0.f0, .int .i64 (rd_T90 l i).f0.f1, .int .i64 (rd_T90 l i).f0.f2, .string (⟨#[]⟩ : ByteArray), .bool false, .slice none 0 0, .int .i64 0]) (blk_put (cs := #[.int .i64 (rd_T90 l i).f0.f0, .int .i64 (rd_T90 l i).f0.f1, .int .i64 0, .string (⟨#[]⟩ : ByteArray), .bool false, .slice none 0 0, .int .i64 0]) (blk_put (cs := #[.int .i64 (rd_T90 l i).f0.f0, .int .i64 0, .int .i64 0, .string (⟨#[]⟩ : ByteArray), .bool false, .slice none 0 0, .int .i64 0]) (blk_put (cs := #[.int .i64 0, .int .i64 0, .int .i64 0, .string (⟨#[]⟩ : ByteArray), .bool false, .slice none 0 0, .int .i64 0]) HX.out 0 _ rfl) 1 _ rfl) 2 _ rfl) 3 _ rfl) 4 _ rfl) 5 _ rfl) 6 _ rfl)
        have hQB : Below w.heap.size w (((((((w8.setCell ⟨gb, 0, none⟩ (.int .i64 (rd_T90 l i).f0.f0)).setCell ⟨gb, 1, none⟩ (.int .i64 (rd_T90 l i).f0.f1)).setCell ⟨gb, 2, none⟩ (.int .i64 (rd_T90 l i).f0.f2)).setCell ⟨gb, 3, none⟩ (.string (rd_T90 l i).f0.f3)).setCell ⟨gb, 4, none⟩ (.bool (rd_T90 l i).f0.f4)).setCell ⟨gb, 5, none⟩ (.slice A5 (rd_T90 l i).f1.length c5)).setCell ⟨gb, 6, none⟩ (.int .i64 (rd_T90 l i).f2)) := (below_set (below_set (below_set (below_set (below_set (below_set (below_set HB8.out hgw) hgw) hgw) hgw) hgw) hgw) hgw)
        have hQ1 : (((((((w8.setCell ⟨gb, 0, none⟩ (.int .i64 (rd_T90 l i).f0.f0)).setCell ⟨gb, 1, none⟩ (.int .i64 (rd_T90 l i).f0.f1)).setCell ⟨gb, 2, none⟩ (.int .i64 (rd_T90 l i).f0.f2)).setCell ⟨gb, 3, none⟩ (.string (rd_T90 l i).f0.f3)).setCell ⟨gb, 4, none⟩ (.bool (rd_T90 l i).f0.f4)).setCell ⟨gb, 5, none⟩ (.slice A5 (rd_T90 l i).f1.length c5)).setCell ⟨gb, 6, none⟩ (.int .i64 (rd_T90 l i).f2)).heap[g1]? = some (.cells #[.slice (some ad) l.length c0_0] 32 (0, 0)) := (blk_far (blk_far (blk_far (blk_far (blk_far (blk_far (blk_far HBOX8.out HNE.out _) HNE.out _) HNE.out _) HNE.out _) HNE.out _) HNE.out _) HNE.out _)
        have hpv : 0 < i → (((((((w8.setCell ⟨gb, 0, none⟩ (.int .i64 (rd_T90 l i).f0.f0)).setCell ⟨gb, 1, none⟩ (.int .i64 (rd_T90 l i).f0.f1)).setCell ⟨gb, 2, none⟩ (.int .i64 (rd_T90 l i).f0.f2)).setCell ⟨gb, 3, none⟩ (.string (rd_T90 l i).f0.f3)).setCell ⟨gb, 4, none⟩ (.bool (rd_T90 l i).f0.f4)).setCell ⟨gb, 5, none⟩ (.slice A5 (rd_T90 l i).f1.length c5)).setCell ⟨gb, 6, none⟩ (.int .i64 (rd_T90 l i).f2)).cell? (ad.add ((i - 1).toNat * 7)) = some (.int .i64 (rd_T90 l (i - 1)).f0.f0) := fun h => cb_ (HPV.out h) hQB
        generalize (((((((w8.setCell ⟨gb, 0, none⟩ (.int .i64 (rd_T90 l i).f0.f0)).setCell ⟨gb, 1, none⟩ (.int .i64 (rd_T90 l i).f0.f1)).setCell ⟨gb, 2, none⟩ (.int .i64 (rd_T90 l i).f0.f2)).setCell ⟨gb, 3, none⟩ (.string (rd_T90 l i).f0.f3)).setCell ⟨gb, 4, none⟩ (.bool (rd_T90 l i).f0.f4)).setCell ⟨gb, 5, none⟩ (.slice A5 (rd_T90 l i).f1.length c5)).setCell ⟨gb, 6, none⟩ (.int .i64 (rd_T90 l i).f2)) = W at hQX hQB hQ1 hpv ⊢
        have QX := Aside0.mk hQX
        have QB := Aside0.mk hQB
        have Q1 := Aside0.mk hQ1
        have QG := Aside0.mk HGW.out
        clear hz0 hz1 hz2 hz3 hz4 hz5 hz6 hf0 hf1 hf2 hf3 hf4 hf5 hf6 hx0 hx1 hx2 hx3 hx4 hx5 hx6 HX HB8 HBOX8 hQX hQB hQ1 hgw
        have H := HA.out
        clear HA
        unfold gtab at H
        have wi : IntKind.i64.wrap (i - 1) = i - 1 := by rw [i64_w]; unfold wrap64; have := HI.out; have := HL.out; have := of_eq_true p1; omega
        obtain ⟨j, hj⟩ : ∃ j : Int, i - 1 = j := ⟨_, rfl⟩
        have hjb : 0 < i → 0 ≤ j ∧ j < (l.length : Int) := fun h => by have := HI.out; omega
        have HJ := Aside0.mk hjb
        rw [hj] at hpv H
        replace wi := wi.trans hj
        have wi2 : wrap64 (i - 1) = j := (i64_w _).symm.trans wi
        have HHV := Aside0.mk hpv
        clear hpv hjb hj
        have hcases : (Aside0 (impl_Entry_good.f (rd_T90 l i).f0.f0 (rd_T90 l i).f0.f1 (rd_T90 l i).f0.f2 (rd_T90 l i).f0.f3 (rd_T90 l i).f0.f4 (rd_T90 l i).f1 (rd_T90 l i).f2 = some false) ∧ Aside0 ((true = true ∧ r = false) ∨ (true = false ∧ gtab l n (i + 1) = some r))) ∨
            (Aside0 (impl_Entry_good.f (rd_T90 l i).f0.f0 (rd_T90 l i).f0.f1 (rd_T90 l i).f0.f2 (rd_T90 l i).f0.f3 (rd_T90 l i).f0.f4 (rd_T90 l i).f1 (rd_T90 l i).f2 = some true) ∧ ((decide (0 < i) = false ∧ Aside0 ((false = true ∧ r = false) ∨ (false = false ∧ gtab l n (i + 1) = some r))) ∨
              (0 < i ∧ (0 ≤ j) = True ∧ (j < (l.length : Int)) = True ∧ ((decide ((rd_T90 l i).f0.f0 ≤ (rd_T90 l j).f0.f0) = true ∧ Aside0 ((true = true ∧ r = false) ∨ (true = false ∧ gtab l n (i + 1) = some r))) ∨ (decide ((rd_T90 l i).f0.f0 ≤ (rd_T90 l j).f0.f0) = false ∧ Aside0 ((false = true ∧ r = false) ∨ (false = false ∧ gtab l n (i + 1) = some r))))))) := by
          obtain ⟨gv, G, H⟩ := Option.bind_eq_some_iff.mp H
          cases gv with
          | false => rw [if_neg (by decide)] at H; exact Or.inl ⟨⟨G⟩, ⟨Or.inl ⟨rfl, (Option.some.inj H).symm⟩⟩⟩
          | true =>
            rw [if_pos rfl] at H
            refine Or.inr ⟨⟨G⟩, ?_⟩
            by_cases h0 : 0 < i
            · refine Or.inr ⟨h0, eq_true (HJ.out h0).1, eq_true (HJ.out h0).2, ?_⟩
              by_cases h1 : (rd_T90 l i).f0.f0 ≤ (rd_T90 l j).f0.f0
              · rw [if_pos ⟨h0, h1⟩] at H; exact Or.inl ⟨decide_eq_true h1, ⟨Or.inl ⟨rfl, (Option.some.inj H).symm⟩⟩⟩
              · rw [if_neg (fun h => h1 h.2)] at H; exact Or.inr ⟨decide_eq_false h1, ⟨Or.inr ⟨rfl, H⟩⟩⟩
            · rw [if_neg (fun h => h0 h.1)] at H; exact Or.inl ⟨decide_eq_false h0, ⟨Or.inr ⟨rfl, H⟩⟩⟩
        clear H
        rcases hcases with ⟨HGV, HQ⟩ | ⟨HGV, ⟨c2, HQ⟩ | ⟨c2, p3, p4, ⟨c3, HQ⟩ | ⟨c3, HQ⟩⟩⟩
        all_goals (
          refine region_quiet (C := fun w' => w'.cell? ⟨gb, 0, none⟩ = some (.int .i64 (rd_T90 l i).f0.f0) ∧ w'.cell? ⟨g1, 0, none⟩ = some (.slice (some ad) l.length c0_0) ∧ (0 < i → w'.cell? (ad.add (j.toNat * 7)) = some (.int .i64 (rd_T90 l j).f0.f0)) ∧ Aside0 (w'.heap[gb]? = some (.cells #[.int .i64 (rd_T90 l i).f0.f0, .int .i64 (rd_T90 l i).f0.f1, .int .i64 (rd_T90 l i).f0.f2, .string (rd_T90 l i).f0.f3, .bool (rd_T90 l i).f0.f4, .slice A5 (rd_T90 l i).f1.length c5, .int .i64 (rd_T90 l i).f2] 90 (0, 0))) ∧ Aside0 (w'.heap[g1]? = some (.cells #[.slice (some ad) l.length c0_0] 32 (0, 0))) ∧ Aside0 (Below w.heap.size w w')) (by kernel_rfl) (by kernel_rfl) ?hC ?_
          case hC => exact ⟨(blk_cell QX.out 0).trans rfl, (blk_cell Q1.out 0).trans rfl, HHV.out, QX, Q1, ⟨below_drew QB.out⟩⟩
          repeat (first
            | go_big_quiet_skip
            | (go_big_quiet_want; refine quiet_call ?_ Tryd.func69 (by kernel_rfl) rfl #[.pointer (some ⟨gb, 0, none⟩)] rfl (by (try simp only [List.map_toArray, List.map_cons, List.map_nil]); first | done | rfl) ?_ ?_; rotate_left 1; (· (rintro w' ⟨z0, z1, z2, z3, z4, z5⟩; refine (impl_Entry_good.calls gb (rd_T90 l i).f0.f0 (rd_T90 l i).f0.f1 (rd_T90 l i).f0.f2 (rd_T90 l i).f0.f3 (rd_T90 l i).f0.f4 (rd_T90 l i).f1 (rd_T90 l i).f2 _ w' A5 c5 z3.out (Kd.C_below HK5.out z5.out) HL5.out HGV.out).mono ?_; rintro e w'' ⟨rfl, hb⟩; exact ⟨by with_reducible rfl, cb_ z0 hb, cb_ z1 hb, fun h => cb_ (z2 h) hb, ⟨blk_below z3.out hb⟩, ⟨blk_below z4.out hb⟩, ⟨z5.out.trans (hb.mono z5.out.size)⟩⟩)); simp only [Act.put, List.setIfInBounds_toArray, List.set_cons_zero, List.set_cons_succ, i64_w, i32_w]; go_big_quiet_on)
            | (go_big_quiet_want; refine quiet_op (v := ?_) ?_ ?_; rotate_left 1; (· (rintro w' ⟨z0, z1, z2, -, -, -⟩; (try have z2 := z2 c2); go_simp; with_reducible rfl)); simp only [Act.put, List.setIfInBounds_toArray, List.set_cons_zero, List.set_cons_succ, i64_w, i32_w]; go_big_quiet_on))
          refine wpQuiet_nil ?_
          rintro w' ⟨-, -, -, z3, z4, z5⟩
          go_wp2
          go_meet
          case rel => exact ⟨_, rfl, ⟨by have h_ := HQ.out; first | exact h_ | simpa using h_⟩, z4, z5⟩)
      case rest =>
        clear HA
        obtain ⟨q, rfl, HD, HBOX, HB⟩ := hcut
        have hD := HD.out
        clear HD
        rcases hD with ⟨rfl, rfl⟩ | ⟨rfl, HA⟩
        · go_wp2
          go_ret
          exact ⟨rfl, HB.out⟩
        · have HA' := Aside0.mk HA
          clear HA
          go_wp2
          go_roundg n
          case measure => omega
          case rel => exact ⟨i + 1, by first | rfl | (simp; done) | (rw [HWI.out]), HA', ⟨⟨by have := HI.out; omega, by have := of_eq_true p1; omega⟩⟩, HBOX, HB⟩

/-! ### impl_GoodLive: function 32 -/
mutual
def impl_GoodLive.l0 : Nat → List ByteArray → List ByteArray → Int → Int → Option (Bool)
 | 0, _, _, _, _ => none
 | k + 1, x0, x5, x6, x7 => if x7 < x6 then (if 0 ≤ x7 then (if x7 < (x5.length : Int) then ((impl_GoodBackend.f (rdOf ByteArray.empty x5 x7)).bind fun t205 => (if t205 = true then (if x7 > 0 then (if 0 ≤ (wrap64 (x7 - 1)) then (if (wrap64 (x7 - 1)) < (x0.length : Int) then (impl_GoodLive.j1 k x0 x5 x6 x7 (!(Op.bytesLess ((rdOf ByteArray.empty x0 (wrap64 (x7 - 1))).toList) ((rdOf ByteArray.empty x5 x7).toList)))) else (none)) else (none)) else (impl_GoodLive.j1 k x0 x5 x6 x7 false)) else (impl_GoodLive.j1 k x0 x5 x6 x7 true))) else (none)) else (none)) else (some (decide ((x0.length : Int) ≤ 12)))
def impl_GoodLive.j1 : Nat → List ByteArray → List ByteArray → Int → Int → Bool → Option (Bool)
 | 0, _, _, _, _, _ => none
 | k + 1, x0, x5, x6, x7, x27 => if x27 = true then (some false) else (impl_GoodLive.l0 k x0 x5 x6 (wrap64 (x7 + 1)))
end
def impl_GoodLive.f (k : Nat) (l0 : List ByteArray) : Option (Bool) := impl_GoodLive.l0 k l0 l0 (l0.length : Int) 0
theorem impl_GoodLive.mono_l : ∀ k, (∀ y0 y1 y2 y3, LeO (impl_GoodLive.l0 k y0 y1 y2 y3) (impl_GoodLive.l0 (k + 1) y0 y1 y2 y3)) ∧ (∀ y0 y1 y2 y3 y4, LeO (impl_GoodLive.j1 k y0 y1 y2 y3 y4) (impl_GoodLive.j1 (k + 1) y0 y1 y2 y3 y4))
 | 0 => ⟨fun _ _ _ _ r h => by simp [impl_GoodLive.l0] at h, fun _ _ _ _ _ r h => by simp [impl_GoodLive.j1] at h⟩
 | k + 1 => by
  obtain ⟨ih0, ih1⟩ := impl_GoodLive.mono_l k
  refine ⟨?_, ?_⟩
  ·intro y0 y1 y2 y3
   unfold impl_GoodLive.l0
   repeat' first
   | (with_reducible exact ih0 _ _ _ _)
   | (with_reducible exact ih1 _ _ _ _ _)
   | (with_reducible exact LeO.refl _)
   | (with_reducible exact LeO.none _)
   | (with_reducible refine LeO.ite ?_ ?_)
   | (with_reducible refine LeO.bind ?_ (fun _ => ?_))
   | exact ih0 _ _ _ _
   | exact ih1 _ _ _ _ _
   | exact LeO.none _
   | refine LeO.ite ?_ ?_
   | refine LeO.bind ?_ (fun _ => ?_)
  ·intro y0 y1 y2 y3 y4
   unfold impl_GoodLive.j1
   repeat' first
   | (with_reducible exact ih0 _ _ _ _)
   | (with_reducible exact ih1 _ _ _ _ _)
   | (with_reducible exact LeO.refl _)
   | (with_reducible exact LeO.none _)
   | (with_reducible refine LeO.ite ?_ ?_)
   | (with_reducible refine LeO.bind ?_ (fun _ => ?_))
   | exact ih0 _ _ _ _
   | exact ih1 _ _ _ _ _
   | exact LeO.none _
   | refine LeO.ite ?_ ?_
   | refine LeO.bind ?_ (fun _ => ?_)
theorem impl_GoodLive.mono : ∀ a0 k, LeO (impl_GoodLive.f k a0) (impl_GoodLive.f (k + 1) a0) := by
 intro a0 k
 obtain ⟨ih0, ih1⟩ := impl_GoodLive.mono_l k
 unfold impl_GoodLive.f
 repeat' first
   | (with_reducible exact ih0 _ _ _ _)
   | (with_reducible exact ih1 _ _ _ _ _)
   | (with_reducible exact LeO.refl _)
   | (with_reducible exact LeO.none _)
   | (with_reducible refine LeO.ite ?_ ?_)
   | (with_reducible refine LeO.bind ?_ (fun _ => ?_))
   | exact ih0 _ _ _ _
   | exact ih1 _ _ _ _ _
   | exact LeO.none _
   | refine LeO.ite ?_ ?_
   | refine LeO.bind ?_ (fun _ => ?_)
set_option maxHeartbeats 64000000 in
set_option maxRecDepth 100000 in
theorem impl_GoodLive.calls (k : Nat) (A0 : Option Addr) (c0 : Nat) (l0 : List ByteArray) (r : Bool) (w : World) (hr0 : Kd.C Kd.string w A0 l0.length l0) (hc0 : l0.length ≤ c0) (h : impl_GoodLive.f k l0 = some r) :
  Calls Tryd.prog 32 #[.slice A0 l0.length c0] w fun e w' => e = .returned (.bool r) ∧ Below w.heap.size w w' := by
 have HR0 := Aside0.mk hr0
 have HC0 := Aside0.mk hc0
 clear hr0 hc0
 have HB := Aside0.mk (Below.refl w.heap.size w)
 have H : (impl_GoodLive.l0 k l0 l0 (l0.length : Int) 0) = some r := h
 clear h
 have H' := Aside0.mk H
 clear H
 go_enter Tryd.func32, Tryd.ntmps32
 go_wp2
 go_loopg [7] k (fun kq v7 w' => ∃ (x7_1 : Int), v7 = .int .i64 x7_1 ∧ Aside0 (impl_GoodLive.l0 kq l0 l0 (l0.length : Int) x7_1 = some r) ∧ Aside0 (kq ≤ k) ∧ Aside0 (Below w.heap.size w w'))
 case atStart => exact ⟨(0), (by first | rfl | (simp; done) | (simp [*]; done)), H', ⟨Nat.le_refl _⟩, ⟨by repeat (first | (with_reducible first | exact HB.out | apply below_alloc | apply pw_below_drewN | apply below_drew1) | exact HB.out)⟩⟩
 case round =>
  clear H'
  obtain ⟨x7_1, rfl, HA, HK1, HB⟩ := hrel
  cases gk with
  | zero => exact absurd HA.out (by simp [impl_GoodLive.l0])
  | succ k1 =>
   have H := HA.out
   clear HA
   simp only [impl_GoodLive.l0] at H
   by_cases c2 : x7_1 < (l0.length : Int)
   ·rw [if_pos c2] at H
    have c2b0 : decide (x7_1 < (l0.length : Int)) = true := decide_eq_true c2
    clear c2
    by_cases c3 : 0 ≤ x7_1
    ·rw [if_pos c3] at H
     have c3b0 : decide (0 ≤ x7_1) = true := decide_eq_true c3
     clear c3
     by_cases c4 : x7_1 < (l0.length : Int)
     ·rw [if_pos c4] at H
      have c4b0 : decide (x7_1 < (l0.length : Int)) = true := decide_eq_true c4
      clear c4
      have HC5 := Aside0.mk H
      clear H
      have p204 : 0 ≤ (x7_1 : Int) := of_decide_eq_true (by first | (with_reducible assumption) | assumption)
      have q204 : x7_1 < (l0.length : Int) := of_decide_eq_true (by first | (with_reducible assumption) | assumption)
      obtain ⟨ad204, e204, hx204_0⟩ := Kd.at_string HR0.out x7_1 p204 q204
      cases e204
      replace hx204_0 := (HB.out.cell (World.block_lt_of_cell? w _ hx204_0)).trans hx204_0
      replace p204 := eq_true p204
      replace q204 := eq_true q204
      go_upto_region 4 with (fail)
      go_cut [27] (fun v27 wc => ∃ (kq : Nat) (x27_4 : Bool), v27 = .bool x27_4 ∧ Aside0 (impl_GoodLive.j1 kq l0 l0 (l0.length : Int) x7_1 x27_4 = some r) ∧ Aside0 (kq ≤ k1) ∧ Aside0 (Below w.heap.size w wc))
      case first =>
       have H := HC5.out
       clear HC5
       replace H := Option.bind_eq_some_iff.mp H
       obtain ⟨t205, A60, H⟩ := H
       replace H : (if t205 = true then (if x7_1 > 0 then (if 0 ≤ (wrap64 (x7_1 - 1)) then (if (wrap64 (x7_1 - 1)) < (l0.length : Int) then (impl_GoodLive.j1 k1 l0 l0 (l0.length : Int) x7_1 (!(Op.bytesLess ((rdOf ByteArray.empty l0 (wrap64 (x7_1 - 1))).toList) ((rdOf ByteArray.empty l0 x7_1).toList)))) else (none)) else (none)) else (impl_GoodLive.j1 k1 l0 l0 (l0.length : Int) x7_1 false)) else (impl_GoodLive.j1 k1 l0 l0 (l0.length : Int) x7_1 true)) = some r := H
       have A6 := Aside0.mk A60
       clear A60
       by_cases c7 : t205 = true
       ·subst c7
        have H1 : (if x7_1 > 0 then (if 0 ≤ (wrap64 (x7_1 - 1)) then (if (wrap64 (x7_1 - 1)) < (l0.length : Int) then (impl_GoodLive.j1 k1 l0 l0 (l0.length : Int) x7_1 (!(Op.bytesLess ((rdOf ByteArray.empty l0 (wrap64 (x7_1 - 1))).toList) ((rdOf ByteArray.empty l0 x7_1).toList)))) else (none)) else (none)) else (impl_GoodLive.j1 k1 l0 l0 (l0.length : Int) x7_1 false)) = some r := by rw [if_pos rfl] at H; exact H
        clear H
        have H := H1
        clear H1
        by_cases c8 : x7_1 > 0
        ·rw [if_pos c8] at H
         have c8b0 : decide (0 < x7_1) = true := decide_eq_true c8
         clear c8
         (first | rw [c8b0] | (simp only [i64_w, i32_w]; rw [c8b0]) | skip)
         obtain ⟨ji9, hji9⟩ : ∃ j_ : Int, (wrap64 (x7_1 - 1)) = j_ := ⟨_, rfl⟩
         replace H : (if 0 ≤ (ji9) then (if (ji9) < (l0.length : Int) then (impl_GoodLive.j1 k1 l0 l0 (l0.length : Int) x7_1 (!(Op.bytesLess ((rdOf ByteArray.empty l0 (ji9)).toList) ((rdOf ByteArray.empty l0 x7_1).toList)))) else (none)) else (none)) = some r := by first | (rw [hji9] at H; exact H) | (simp only [hji9] at H ⊢; exact H)
         (try rw [hji9] at A6)
         have hji9w : (IntKind.i64.wrap (x7_1 - 1)) = ji9 := (i64_w _).trans hji9
         by_cases c10 : 0 ≤ (ji9)
         ·rw [if_pos c10] at H
          have c10b0 : decide (0 ≤ (ji9)) = true := decide_eq_true c10
          clear c10
          by_cases c11 : (ji9) < (l0.length : Int)
          ·rw [if_pos c11] at H
           have c11b0 : decide ((ji9) < (l0.length : Int)) = true := decide_eq_true c11
           clear c11
           have H' := Aside0.mk H
           clear H
           go_wp2_with (first | ((with_reducible refine gate_callee (f := 70) rfl ?_); refine goesL_ (some 13) rfl rfl Tryd.func70 (by kernel_rfl) rfl #[.string (rdOf ByteArray.empty l0 x7_1)] rfl (by (try simp only [List.map_toArray, List.map_cons, List.map_nil]); first | done | rfl | (simp only [List.length_drop, List.length_take]; rfl)) ?_; (with_reducible refine (impl_GoodBackend.calls (rdOf ByteArray.empty l0 x7_1) true _ A6.out).mono ?_); rintro e w12 ⟨rfl, hb⟩; refine ⟨_, rfl, ?_⟩; have n0_ := bS HB hb; clear HB; have HB := n0_; clear n0_; (try clear hb); (try clear hb2); (try clear hk); (try clear hi); have p206 : 0 ≤ ((ji9) : Int) := of_decide_eq_true (by first | (with_reducible assumption) | assumption); have q206 : (ji9) < (l0.length : Int) := of_decide_eq_true (by first | (with_reducible assumption) | assumption); obtain ⟨ad206, e206, hx206_0⟩ := Kd.at_string HR0.out (ji9) p206 q206; obtain rfl : ad204 = ad206 := (by injection e206); replace hx206_0 := (HB.out.cell (World.block_lt_of_cell? w _ hx206_0)).trans hx206_0; replace p206 := eq_true p206; replace q206 := eq_true q206))
           go_meet
           case rel => exact ⟨_, (!(Op.bytesLess ((rdOf ByteArray.empty l0 (ji9)).toList) ((rdOf ByteArray.empty l0 x7_1).toList))), (by first | rfl | (simp; done) | (simp only [← hji9] <;> (first | rfl | (simp; done))) | (simp only [← hji9, i64_w] <;> (first | rfl | (simp; done))) | (simp [*]; done)), H', ⟨by have := HK1.out; first | omega | exact Nat.le_refl _⟩, ⟨by repeat (first | (with_reducible first | exact HB.out | apply below_alloc | apply pw_below_drewN | apply below_drew1) | exact HB.out)⟩⟩
          ·rw [if_neg c11] at H
           exact absurd H (by simp)
         ·rw [if_neg c10] at H
          exact absurd H (by simp)
        ·rw [if_neg c8] at H
         have c8b0 : decide (0 < x7_1) = false := decide_eq_false c8
         clear c8
         (first | rw [c8b0] | (simp only [i64_w, i32_w]; rw [c8b0]) | skip)
         have H' := Aside0.mk H
         clear H
         go_wp2_with (first | ((with_reducible refine gate_callee (f := 70) rfl ?_); refine goesL_ (some 13) rfl rfl Tryd.func70 (by kernel_rfl) rfl #[.string (rdOf ByteArray.empty l0 x7_1)] rfl (by (try simp only [List.map_toArray, List.map_cons, List.map_nil]); first | done | rfl | (simp only [List.length_drop, List.length_take]; rfl)) ?_; (with_reducible refine (impl_GoodBackend.calls (rdOf ByteArray.empty l0 x7_1) true _ A6.out).mono ?_); rintro e w13 ⟨rfl, hb⟩; refine ⟨_, rfl, ?_⟩; have n0_ := bS HB hb; clear HB; have HB := n0_; clear n0_; (try clear hb); (try clear hb2); (try clear hk); (try clear hi)))
         go_meet
         case rel => exact ⟨_, (false), (by first | rfl | (simp; done) | (simp [*]; done)), H', ⟨by have := HK1.out; first | omega | exact Nat.le_refl _⟩, ⟨by repeat (first | (with_reducible first | exact HB.out | apply below_alloc | apply pw_below_drewN | apply below_drew1) | exact HB.out)⟩⟩
       ·replace c7 := Bool.eq_false_iff.mpr c7
        subst c7
        have H1 : (impl_GoodLive.j1 k1 l0 l0 (l0.length : Int) x7_1 true) = some r := by rw [if_neg (show ¬ (false = true) by decide)] at H; exact H
        clear H
        have H := H1
        clear H1
        have H' := Aside0.mk H
        clear H
        go_wp2_with (first | ((with_reducible refine gate_callee (f := 70) rfl ?_); refine goesL_ (some 13) rfl rfl Tryd.func70 (by kernel_rfl) rfl #[.string (rdOf ByteArray.empty l0 x7_1)] rfl (by (try simp only [List.map_toArray, List.map_cons, List.map_nil]); first | done | rfl | (simp only [List.length_drop, List.length_take]; rfl)) ?_; (with_reducible refine (impl_GoodBackend.calls (rdOf ByteArray.empty l0 x7_1) false _ A6.out).mono ?_); rintro e w14 ⟨rfl, hb⟩; refine ⟨_, rfl, ?_⟩; have n0_ := bS HB hb; clear HB; have HB := n0_; clear n0_; (try clear hb); (try clear hb2); (try clear hk); (try clear hi)))
        go_meet
        case rel => exact ⟨_, (true), (by first | rfl | (simp; done) | (simp [*]; done)), H', ⟨by have := HK1.out; first | omega | exact Nat.le_refl _⟩, ⟨by repeat (first | (with_reducible first | exact HB.out | apply below_alloc | apply pw_below_drewN | apply below_drew1) | exact HB.out)⟩⟩
      case rest =>
       clear HC5
       try clear c1
       try clear c2
       try clear c2b0
       try clear p2
       try clear q2
       try clear hx2
       try clear c3
       try clear c3b0
       try clear c4
       try clear c4b0
       try clear p6
       try clear c7
       try clear c8
       try clear c8b0
       try clear c10
       try clear c10b0
       try clear c11
       try clear c11b0
       try clear hx204_0
       try clear hx206_0
       try clear p204
       try clear p206
       try clear q204
       try clear q206
       obtain ⟨kq, x27_4, rfl, HA, HJ4, HB⟩ := hcut
       cases kq with
       | zero => exact absurd HA.out (by simp [impl_GoodLive.j1])
       | succ kj4 =>
        have H := HA.out
        clear HA
        simp only [impl_GoodLive.j1] at H
        by_cases c15 : x27_4 = true
        ·subst c15
         have H1 : (some false) = some r := by rw [if_pos rfl] at H; exact H
         clear H
         have H := H1
         clear H1
         obtain rfl := Option.some.inj H
         go_wp2
         go_ret
         exact ⟨by first | rfl | (simp [errW_none, errW_some] <;> rfl) | (simp [*, errW_none, errW_some] <;> rfl), by repeat (first | (with_reducible first | exact HB.out | apply below_alloc | apply pw_below_drewN | apply below_drew1) | exact HB.out)⟩
        ·replace c15 := Bool.eq_false_iff.mpr c15
         subst c15
         have H1 : (impl_GoodLive.l0 kj4 l0 l0 (l0.length : Int) (wrap64 (x7_1 + 1))) = some r := by rw [if_neg (show ¬ (false = true) by decide)] at H; exact H
         clear H
         have H := H1
         clear H1
         have H' := Aside0.mk H
         clear H
         go_wp2
         go_roundg kj4
         case measure => have := HK1.out; have := HJ4.out; omega
         case rel => exact ⟨(wrap64 (x7_1 + 1)), (by first | rfl | (simp; done) | (simp [*]; done)), H', ⟨by have := HK1.out; have := HJ4.out; omega⟩, ⟨by repeat (first | (with_reducible first | exact HB.out | apply below_alloc | apply pw_below_drewN | apply below_drew1) | exact HB.out)⟩⟩
     ·rw [if_neg c4] at H
      exact absurd H (by simp)
    ·rw [if_neg c3] at H
     exact absurd H (by simp)
   ·rw [if_neg c2] at H
    have c2b0 : decide (x7_1 < (l0.length : Int)) = false := decide_eq_false c2
    clear c2
    obtain rfl := Option.some.inj H
    go_wp2
    go_ret
    exact ⟨by first | rfl | (simp [errW_none, errW_some] <;> rfl) | (simp [*, errW_none, errW_some] <;> rfl), by repeat (first | (with_reducible first | exact HB.out | apply below_alloc | apply pw_below_drewN | apply below_drew1) | exact HB.out)⟩

/-! ### impl_isVersion: function 34 -/
def impl_isVersion.f (a0 : Int) : Option (Bool) := (impl_in.f a0 1 4294967295).bind fun t207 => (some t207)
set_option maxHeartbeats 64000000 in
set_option maxRecDepth 100000 in
theorem impl_isVersion.calls (a0 : Int) (r : Bool) (w : World) (h : impl_isVersion.f a0 = some r) :
  Calls Tryd.prog 34 #[.int .i64 a0] w fun e w' => e = .returned (.bool r) ∧ Drawn0 w w' := by
 have H : ((impl_in.f a0 1 4294967295).bind fun t207 => (some t207)) = some r := h
 clear h
 replace H := Option.bind_eq_some_iff.mp H
 obtain ⟨t207, A20, H⟩ := H
 replace H : (some t207) = some r := H
 have A2 := Aside0.mk A20
 clear A20
 obtain rfl := Option.some.inj H
 go_enter Tryd.func34, Tryd.ntmps34
 go_wp2_with (first | ((with_reducible refine gate_callee (f := 33) rfl ?_); refine goesL_ (some 4) rfl rfl Tryd.func33 (by kernel_rfl) rfl #[.int .i64 a0, .int .i64 1, .int .i64 4294967295] rfl (by (try simp only [List.map_toArray, List.map_cons, List.map_nil]); first | done | rfl | (simp only [List.length_drop, List.length_take]; rfl)) ?_; (with_reducible refine (impl_in.calls a0 1 4294967295 t207 _ A2.out).mono ?_); rintro e w' ⟨rfl, ⟨nd, rfl⟩⟩; refine ⟨_, rfl, ?_⟩))
 go_ret
 exact ⟨by first | rfl | (simp; done) | (simp [*]; done), by repeat (first | exact Drawn0.refl _ | apply Drawn0.step)⟩

/-! ### impl_GoodBalancer: function 10 -/
def impl_GoodBalancer.j0 : Nat → Bool → List (S90) → List ByteArray → Int → Bool → List ByteArray → Int → Int → Option (Bool)
 | 0, _, _, _, _, _, _, _, _ => none
 | k + 1, x3, x209000, x209001, x209002, x209003, x209004, x209005, x209006 => (impl_GoodTable.f x209000).bind fun t210 => (if t210 = true then ((impl_GoodLive.f k x209001).bind fun t211 => (if t211 = true then ((impl_in.f x209002 1 20).bind fun t212 => (if t212 = true then (if x3 = true then ((impl_in.f x209005 0 1000000).bind fun t213 => (if t213 = true then ((impl_isVersion.f x209006).bind fun t214 => (some t214)) else (some false))) else (some false)) else (some false))) else (some false))) else (some false))
def impl_GoodBalancer.f (k : Nat) (l0_0 : List (S90)) (l0_1 : List ByteArray) (a0_2 : Int) (a0_3 : Bool) (l0_4 : List ByteArray) (a0_5 : Int) (a0_6 : Int) : Option (Bool) := if a0_3 = true then ((impl_tokenKeysOk.f l0_4).bind fun t209 => (impl_GoodBalancer.j0 k t209 l0_0 l0_1 a0_2 a0_3 l0_4 a0_5 a0_6)) else (impl_GoodBalancer.j0 k ((l0_4.length : Int) == 0) l0_0 l0_1 a0_2 a0_3 l0_4 a0_5 a0_6)
theorem impl_GoodBalancer.mono_l : ∀ k, (∀ y0 y1 y2 y3 y4 y5 y6 y7, LeO (impl_GoodBalancer.j0 k y0 y1 y2 y3 y4 y5 y6 y7) (impl_GoodBalancer.j0 (k + 1) y0 y1 y2 y3 y4 y5 y6 y7))
 | 0 => fun _ _ _ _ _ _ _ _ r h => by simp [impl_GoodBalancer.j0] at h
 | k + 1 => by
  have ih0 := impl_GoodBalancer.mono_l k
  ·intro y0 y1 y2 y3 y4 y5 y6 y7
   unfold impl_GoodBalancer.j0
   repeat' first
   | (with_reducible exact ih0 _ _ _ _ _ _ _ _)
   | (with_reducible exact impl_GoodLive.mono _ _)
   | (with_reducible exact LeO.refl _)
   | (with_reducible exact LeO.none _)
   | (with_reducible refine LeO.ite ?_ ?_)
   | (with_reducible refine LeO.bind ?_ (fun _ => ?_))
   | exact ih0 _ _ _ _ _ _ _ _
   | exact impl_GoodLive.mono _ _
   | exact LeO.none _
   | refine LeO.ite ?_ ?_
   | refine LeO.bind ?_ (fun _ => ?_)
theorem impl_GoodBalancer.mono : ∀ a0 a1 a2 a3 a4 a5 a6 k, LeO (impl_GoodBalancer.f k a0 a1 a2 a3 a4 a5 a6) (impl_GoodBalancer.f (k + 1) a0 a1 a2 a3 a4 a5 a6) := by
 intro a0 a1 a2 a3 a4 a5 a6 k
 have ih0 := impl_GoodBalancer.mono_l k
 unfold impl_GoodBalancer.f
 repeat' first
   | (with_reducible exact ih0 _ _ _ _ _ _ _ _)
   | (with_reducible exact impl_GoodLive.mono _ _)
   | (with_reducible exact LeO.refl _)
   | (with_reducible exact LeO.none _)
   | (with_reducible refine LeO.ite ?_ ?_)
   | (with_reducible refine LeO.bind ?_ (fun _ => ?_))
   | exact ih0 _ _ _ _ _ _ _ _
   | exact impl_GoodLive.mono _ _
   | exact LeO.none _
   | refine LeO.ite ?_ ?_
   | refine LeO.bind ?_ (fun _ => ?_)
set_option maxHeartbeats 64000000 in
set_option maxRecDepth 100000 in
theorem impl_GoodBalancer.calls (k : Nat) (A0_0 : Option Addr) (c0_0 : Nat) (l0_0 : List (S90)) (A0_1 : Option Addr) (c0_1 : Nat) (l0_1 : List ByteArray) (a0_2 : Int) (a0_3 : Bool) (A0_4 : Option Addr) (c0_4 : Nat) (l0_4 : List ByteArray) (a0_5 : Int) (a0_6 : Int) (r : Bool) (w : World) (hr0_0 : Kd.C k90 w A0_0 l0_0.length l0_0) (hc0_0 : l0_0.length ≤ c0_0) (hr0_1 : Kd.C Kd.string w A0_1 l0_1.length l0_1) (hc0_1 : l0_1.length ≤ c0_1) (hr0_4 : Kd.C Kd.string w A0_4 l0_4.length l0_4) (hc0_4 : l0_4.length ≤ c0_4) (h : impl_GoodBalancer.f k l0_0 l0_1 a0_2 a0_3 l0_4 a0_5 a0_6 = some r) :
  Calls Tryd.prog 10 #[.agg #[.slice A0_0 l0_0.length c0_0, .slice A0_1 l0_1.length c0_1, .int .i64 a0_2, .bool a0_3, .slice A0_4 l0_4.length c0_4, .int .i64 a0_5, .int .i64 a0_6]] w fun e w' => e = .returned (.bool r) ∧ Below w.heap.size w w' := by
 have hu34 := Tryd.underlying34
 have hu32 := Tryd.underlying32
 have HR0_0 := Aside0.mk hr0_0
 have HC0_0 := Aside0.mk hc0_0
 clear hr0_0 hc0_0
 have HR0_1 := Aside0.mk hr0_1
 have HC0_1 := Aside0.mk hc0_1
 clear hr0_1 hc0_1
 have HR0_4 := Aside0.mk hr0_4
 have HC0_4 := Aside0.mk hc0_4
 clear hr0_4 hc0_4
 have HB := Aside0.mk (Below.refl w.heap.size w)
 have H : (if a0_3 = true then ((impl_tokenKeysOk.f l0_4).bind fun t209 => (impl_GoodBalancer.j0 k t209 l0_0 l0_1 a0_2 a0_3 l0_4 a0_5 a0_6)) else (impl_GoodBalancer.j0 k ((l0_4.length : Int) == 0) l0_0 l0_1 a0_2 a0_3 l0_4 a0_5 a0_6)) = some r := h
 clear h
 have HC2 := Aside0.mk H
 clear H
 go_enter Tryd.func10, Tryd.ntmps10
 go_upto_if 9 with (first | ((with_reducible refine gate_dst (N := 1) rfl ?_); refine box_event ?hg (N := 1) ?hd (cs := #[.slice A0_0 l0_0.length c0_0, .slice A0_1 l0_1.length c0_1, .int .i64 a0_2, .bool a0_3, .slice A0_4 l0_4.length c0_4, .int .i64 a0_5, .int .i64 a0_6]) (t := 34) ?hr ?_; (case hd => rfl); (case hg => rfl); (case hr => first | (go_simp; done) | (go_simp; rfl)); intro gb208 hg w3 hbox hb; have n0_ := bS HB hb; have n1_ := Aside0.mk (hbox); have n2_ := Aside0.mk ((by rw [hg]; exact (below_size (by repeat (first | (with_reducible first | exact HB.out | apply below_alloc | apply pw_below_drewN | apply below_drew1) | exact HB.out))) : w.heap.size ≤ gb208)); have n3_ := n2_; clear HB; have HB := n0_; have BK208 := n1_; have GW208 := n2_; have GE208 := n3_; clear n0_ n1_ n2_ n3_; clear hb hbox hg; obtain ⟨hcz4_0, hcz4_1, hcz4_2, hcz4_3, hcz4_4, hcz4_5, hcz4_6⟩ := cz7 BK208; obtain ⟨hfz4_0, hfz4_1, hfz4_2, hfz4_3, hfz4_4, hfz4_5, hfz4_6⟩ := fz7 BK208))
 (try simp only [Act.put, sA, sZ, sS])
 go_cut [3] (fun v3 wc => ∃ (kq : Nat) (x3_1 : Bool), v3 = .bool x3_1 ∧ Aside0 (impl_GoodBalancer.j0 kq x3_1 l0_0 l0_1 a0_2 a0_3 l0_4 a0_5 a0_6 = some r) ∧ Aside0 (kq ≤ k) ∧ Aside0 (wc.heap[gb208]? = some (.cells #[(.slice A0_0 l0_0.length c0_0), (.slice A0_1 l0_1.length c0_1), .int .i64 a0_2, .bool a0_3, (.slice A0_4 l0_4.length c0_4), .int .i64 a0_5, .int .i64 a0_6] 34 (0, 0))) ∧ Aside0 (Below w.heap.size w wc))
 case first =>
  have H := HC2.out
  clear HC2
  by_cases c5 : a0_3 = true
  ·subst c5
   have H1 : ((impl_tokenKeysOk.f l0_4).bind fun t209 => (impl_GoodBalancer.j0 k t209 l0_0 l0_1 a0_2 true l0_4 a0_5 a0_6)) = some r := by rw [if_pos rfl] at H; exact H
   clear H
   have H := H1
   clear H1
   replace H := Option.bind_eq_some_iff.mp H
   obtain ⟨t209, A60, H⟩ := H
   replace H : (impl_GoodBalancer.j0 k t209 l0_0 l0_1 a0_2 true l0_4 a0_5 a0_6) = some r := H
   have A6 := Aside0.mk A60
   clear A60
   have H' := Aside0.mk H
   clear H
   obtain ⟨hcz7_0, hcz7_1, hcz7_2, hcz7_3, hcz7_4, hcz7_5, hcz7_6⟩ := cz7 BK208
   obtain ⟨hfz7_0, hfz7_1, hfz7_2, hfz7_3, hfz7_4, hfz7_5, hfz7_6⟩ := fz7 BK208
   go_wp2_with (first | ((with_reducible refine gate_callee (f := 30) rfl ?_); refine goesL_ (some 12) rfl rfl Tryd.func30 (by kernel_rfl) rfl #[.slice A0_4 l0_4.length c0_4] rfl (by (try simp only [List.map_toArray, List.map_cons, List.map_nil]); first | done | rfl | (simp only [List.length_drop, List.length_take]; rfl)) ?_; (with_reducible refine (impl_tokenKeysOk.calls _ _ l0_4 t209 _ ?side1 ?side2 A6.out).mono ?_); (case side1 => repeat (first | exact (Kd.C_below HR0_4.out HB.out) | (with_reducible refine Kd.C_alloc ?_ _) | (with_reducible refine Kd.C_drewN ?_ _) | (with_reducible refine Kd.C_drew ?_))); (case side2 => exact HC0_4.out); rintro e w8 ⟨rfl, hb⟩; refine ⟨_, rfl, ?_⟩; have n0_ := bX BK208 hb; have n1_ := bS HB hb; clear BK208; clear HB; have BK208 := n0_; have HB := n1_; clear n0_ n1_; (try clear hb); (try clear hb2); (try clear hk); (try clear hi)))
   go_meet
   case rel => exact ⟨_, (t209), (by first | rfl | (simp; done) | (simp [*]; done)), H', ⟨by first | omega | exact Nat.le_refl _⟩, ⟨by (with_reducible repeat (first | refine bN ?_ _ | refine bD ?_ | refine bA ?_ _)); exact BK208.out⟩, ⟨by repeat (first | (with_reducible first | exact HB.out | apply below_alloc | apply pw_below_drewN | apply below_drew1 | refine below_set ?_ GE208.out) | exact HB.out)⟩⟩
  ·replace c5 := Bool.eq_false_iff.mpr c5
   subst c5
   have H1 : (impl_GoodBalancer.j0 k ((l0_4.length : Int) == 0) l0_0 l0_1 a0_2 false l0_4 a0_5 a0_6) = some r := by rw [if_neg (show ¬ (false = true) by decide)] at H; exact H
   clear H
   have H := H1
   clear H1
   have H' := Aside0.mk H
   clear H
   go_wp2
   go_meet
   case rel => exact ⟨_, (((l0_4.length : Int) == 0)), (by first | rfl | (simp; done) | (simp [*]; done)), H', ⟨by first | omega | exact Nat.le_refl _⟩, ⟨by (with_reducible repeat (first | refine bN ?_ _ | refine bD ?_ | refine bA ?_ _)); exact BK208.out⟩, ⟨by repeat (first | (with_reducible first | exact HB.out | apply below_alloc | apply pw_below_drewN | apply below_drew1 | refine below_set ?_ GE208.out) | exact HB.out)⟩⟩
 case rest =>
  clear HC2
  try clear c1
  try clear p2
  try clear c3
  try clear c5
  try clear hcz4_0
  try clear hcz4_1
  try clear hcz4_2
  try clear hcz4_3
  try clear hcz4_4
  try clear hcz4_5
  try clear hcz4_6
  try clear hcz7_0
  try clear hcz7_1
  try clear hcz7_2
  try clear hcz7_3
  try clear hcz7_4
  try clear hcz7_5
  try clear hcz7_6
  try clear hfz4_0
  try clear hfz4_1
  try clear hfz4_2
  try clear hfz4_3
  try clear hfz4_4
  try clear hfz4_5
  try clear hfz4_6
  try clear hfz7_0
  try clear hfz7_1
  try clear hfz7_2
  try clear hfz7_3
  try clear hfz7_4
  try clear hfz7_5
  try clear hfz7_6
  obtain ⟨kq, x3_1, rfl, HA, HJ1, BK208, HB⟩ := hcut
  cases kq with
  | zero => exact absurd HA.out (by simp [impl_GoodBalancer.j0])
  | succ kj1 =>
   have H := HA.out
   clear HA
   simp only [impl_GoodBalancer.j0] at H
   replace H := Option.bind_eq_some_iff.mp H
   obtain ⟨t210, A90, H⟩ := H
   replace H : (if t210 = true then ((impl_GoodLive.f kj1 l0_1).bind fun t211 => (if t211 = true then ((impl_in.f a0_2 1 20).bind fun t212 => (if t212 = true then (if x3_1 = true then ((impl_in.f a0_5 0 1000000).bind fun t213 => (if t213 = true then ((impl_isVersion.f a0_6).bind fun t214 => (some t214)) else (some false))) else (some false)) else (some false))) else (some false))) else (some false)) = some r := H
   have A9 := Aside0.mk A90
   clear A90
   by_cases c10 : t210 = true
   ·subst c10
    have H1 : ((impl_GoodLive.f kj1 l0_1).bind fun t211 => (if t211 = true then ((impl_in.f a0_2 1 20).bind fun t212 => (if t212 = true then (if x3_1 = true then ((impl_in.f a0_5 0 1000000).bind fun t213 => (if t213 = true then ((impl_isVersion.f a0_6).bind fun t214 => (some t214)) else (some false))) else (some false)) else (some false))) else (some false))) = some r := by rw [if_pos rfl] at H; exact H
    clear H
    have H := H1
    clear H1
    replace H := Option.bind_eq_some_iff.mp H
    obtain ⟨t211, A110, H⟩ := H
    replace H : (if t211 = true then ((impl_in.f a0_2 1 20).bind fun t212 => (if t212 = true then (if x3_1 = true then ((impl_in.f a0_5 0 1000000).bind fun t213 => (if t213 = true then ((impl_isVersion.f a0_6).bind fun t214 => (some t214)) else (some false))) else (some false)) else (some false))) else (some false)) = some r := H
    have A11 := Aside0.mk A110
    clear A110
    by_cases c12 : t211 = true
    ·subst c12
     have H1 : ((impl_in.f a0_2 1 20).bind fun t212 => (if t212 = true then (if x3_1 = true then ((impl_in.f a0_5 0 1000000).bind fun t213 => (if t213 = true then ((impl_isVersion.f a0_6).bind fun t214 => (some t214)) else (some false))) else (some false)) else (some false))) = some r := by rw [if_pos rfl] at H; exact H
     clear H
     have H := H1
     clear H1
     replace H := Option.bind_eq_some_iff.mp H
     obtain ⟨t212, A130, H⟩ := H
     replace H : (if t212 = true then (if x3_1 = true then ((impl_in.f a0_5 0 1000000).bind fun t213 => (if t213 = true then ((impl_isVersion.f a0_6).bind fun t214 => (some t214)) else (some false))) else (some false)) else (some false)) = some r := H
     have A13 := Aside0.mk A130
     clear A130
     by_cases c14 : t212 = true
     ·subst c14
      have H1 : (if x3_1 = true then ((impl_in.f a0_5 0 1000000).bind fun t213 => (if t213 = true then ((impl_isVersion.f a0_6).bind fun t214 => (some t214)) else (some false))) else (some false)) = some r := by rw [if_pos rfl] at H; exact H
      clear H
      have H := H1
      clear H1
      by_cases c15 : x3_1 = true
      ·subst c15
       have H1 : ((impl_in.f a0_5 0 1000000).bind fun t213 => (if t213 = true then ((impl_isVersion.f a0_6).bind fun t214 => (some t214)) else (some false))) = some r := by rw [if_pos rfl] at H; exact H
       clear H
       have H := H1
       clear H1
       replace H := Option.bind_eq_some_iff.mp H
       obtain ⟨t213, A160, H⟩ := H
       replace H : (if t213 = true then ((impl_isVersion.f a0_6).bind fun t214 => (some t214)) else (some false)) = some r := H
       have A16 := Aside0.mk A160
       clear A160
       by_cases c17 : t213 = true
       ·subst c17
        have H1 : ((impl_isVersion.f a0_6).bind fun t214 => (some t214)) = some r := by rw [if_pos rfl] at H; exact H
        clear H
        have H := H1
        clear H1
        replace H := Option.bind_eq_some_iff.mp H
        obtain ⟨t214, A180, H⟩ := H
        replace H : (some t214) = some r := H
        have A18 := Aside0.mk A180
        clear A180
        obtain rfl := Option.some.inj H
        obtain ⟨hcz19_0, hcz19_1, hcz19_2, hcz19_3, hcz19_4, hcz19_5, hcz19_6⟩ := cz7 BK208
        obtain ⟨hfz19_0, hfz19_1, hfz19_2, hfz19_3, hfz19_4, hfz19_5, hfz19_6⟩ := fz7 BK208
        go_wp2_with (first | ((with_reducible refine gate_callee (f := 31) rfl ?_); refine goesL_ (some 15) rfl rfl Tryd.func31 (by kernel_rfl) rfl #[.agg #[.slice A0_0 l0_0.length c0_0]] rfl (by (try simp only [List.map_toArray, List.map_cons, List.map_nil]); first | done | rfl | (simp only [List.length_drop, List.length_take]; rfl)) ?_; (with_reducible refine (impl_GoodTable.calls _ _ l0_0 true _ ?side1 ?side2 A9.out).mono ?_); (case side1 => repeat (first | exact (Kd.C_below HR0_0.out HB.out) | (with_reducible refine Kd.C_alloc ?_ _) | (with_reducible refine Kd.C_drewN ?_ _) | (with_reducible refine Kd.C_drew ?_))); (case side2 => exact HC0_0.out); rintro e w20 ⟨rfl, hb⟩; refine ⟨_, rfl, ?_⟩; have n0_ := bX BK208 hb; have n1_ := bS HB hb; clear BK208; clear HB; have BK208 := n0_; have HB := n1_; clear n0_ n1_; (try clear hb); (try clear hb2); (try clear hk); (try clear hi); obtain ⟨hcz21_0, hcz21_1, hcz21_2, hcz21_3, hcz21_4, hcz21_5, hcz21_6⟩ := cz7 BK208; obtain ⟨hfz21_0, hfz21_1, hfz21_2, hfz21_3, hfz21_4, hfz21_5, hfz21_6⟩ := fz7 BK208) | (go_at_call 32; (with_reducible refine (impl_GoodLive.calls kj1 _ _ l0_1 true _ ?side1 ?side2 A11.out).mono ?_); (case side1 => repeat (first | exact (Kd.C_below HR0_1.out HB.out) | (with_reducible refine Kd.C_alloc ?_ _) | (with_reducible refine Kd.C_drewN ?_ _) | (with_reducible refine Kd.C_drew ?_))); (case side2 => exact HC0_1.out); rintro e w22 ⟨rfl, hb⟩; have n0_ := bX BK208 hb; have n1_ := bS HB hb; clear BK208; clear HB; have BK208 := n0_; have HB := n1_; clear n0_ n1_; (try clear hb); (try clear hb2); (try clear hk); (try clear hi); obtain ⟨hcz23_0, hcz23_1, hcz23_2, hcz23_3, hcz23_4, hcz23_5, hcz23_6⟩ := cz7 BK208; obtain ⟨hfz23_0, hfz23_1, hfz23_2, hfz23_3, hfz23_4, hfz23_5, hfz23_6⟩ := fz7 BK208) | (go_at_call 33; (with_reducible refine (impl_in.calls a0_2 1 20 true _ A13.out).mono ?_); rintro e w' ⟨rfl, ⟨nd, rfl⟩⟩) | (go_at_call 33; (with_reducible refine (impl_in.calls a0_5 0 1000000 true _ A16.out).mono ?_); rintro e w' ⟨rfl, ⟨nd, rfl⟩⟩) | (go_at_call 34; (with_reducible refine (impl_isVersion.calls a0_6 t214 _ A18.out).mono ?_); rintro e w' ⟨rfl, ⟨nd, rfl⟩⟩))
        go_ret
        exact ⟨by first | rfl | (simp [errW_none, errW_some] <;> rfl) | (simp [*, errW_none, errW_some] <;> rfl), by repeat (first | (with_reducible first | exact HB.out | apply below_alloc | apply pw_below_drewN | apply below_drew1 | refine below_set ?_ GE208.out) | exact HB.out)⟩
       ·replace c17 := Bool.eq_false_iff.mpr c17
        subst c17
        have H1 : (some false) = some r := by rw [if_neg (show ¬ (false = true) by decide)] at H; exact H
        clear H
        have H := H1
        clear H1
        obtain rfl := Option.some.inj H
        obtain ⟨hcz24_0, hcz24_1, hcz24_2, hcz24_3, hcz24_4, hcz24_5, hcz24_6⟩ := cz7 BK208
        obtain ⟨hfz24_0, hfz24_1, hfz24_2, hfz24_3, hfz24_4, hfz24_5, hfz24_6⟩ := fz7 BK208
        go_wp2_with (first | ((with_reducible refine gate_callee (f := 31) rfl ?_); refine goesL_ (some 15) rfl rfl Tryd.func31 (by kernel_rfl) rfl #[.agg #[.slice A0_0 l0_0.length c0_0]] rfl (by (try simp only [List.map_toArray, List.map_cons, List.map_nil]); first | done | rfl | (simp only [List.length_drop, List.length_take]; rfl)) ?_; (with_reducible refine (impl_GoodTable.calls _ _ l0_0 true _ ?side1 ?side2 A9.out).mono ?_); (case side1 => repeat (first | exact (Kd.C_below HR0_0.out HB.out) | (with_reducible refine Kd.C_alloc ?_ _) | (with_reducible refine Kd.C_drewN ?_ _) | (with_reducible refine Kd.C_drew ?_))); (case side2 => exact HC0_0.out); rintro e w25 ⟨rfl, hb⟩; refine ⟨_, rfl, ?_⟩; have n0_ := bX BK208 hb; have n1_ := bS HB hb; clear BK208; clear HB; have BK208 := n0_; have HB := n1_; clear n0_ n1_; (try clear hb); (try clear hb2); (try clear hk); (try clear hi); obtain ⟨hcz26_0, hcz26_1, hcz26_2, hcz26_3, hcz26_4, hcz26_5, hcz26_6⟩ := cz7 BK208; obtain ⟨hfz26_0, hfz26_1, hfz26_2, hfz26_3, hfz26_4, hfz26_5, hfz26_6⟩ := fz7 BK208) | (go_at_call 32; (with_reducible refine (impl_GoodLive.calls kj1 _ _ l0_1 true _ ?side1 ?side2 A11.out).mono ?_); (case side1 => repeat (first | exact (Kd.C_below HR0_1.out HB.out) | (with_reducible refine Kd.C_alloc ?_ _) | (with_reducible refine Kd.C_drewN ?_ _) | (with_reducible refine Kd.C_drew ?_))); (case side2 => exact HC0_1.out); rintro e w27 ⟨rfl, hb⟩; have n0_ := bX BK208 hb; have n1_ := bS HB hb; clear BK208; clear HB; have BK208 := n0_; have HB := n1_; clear n0_ n1_; (try clear hb); (try clear hb2); (try clear hk); (try clear hi); obtain ⟨hcz28_0, hcz28_1, hcz28_2, hcz28_3, hcz28_4, hcz28_5, hcz28_6⟩ := cz7 BK208; obtain ⟨hfz28_0, hfz28_1, hfz28_2, hfz28_3, hfz28_4, hfz28_5, hfz28_6⟩ := fz7 BK208) | (go_at_call 33; (with_reducible refine (impl_in.calls a0_2 1 20 true _ A13.out).mono ?_); rintro e w' ⟨rfl, ⟨nd, rfl⟩⟩) | (go_at_call 33; (with_reducible refine (impl_in.calls a0_5 0 1000000 false _ A16.out).mono ?_); rintro e w' ⟨rfl, ⟨nd, rfl⟩⟩))
        go_ret
        exact ⟨by first | rfl | (simp [errW_none, errW_some] <;> rfl) | (simp [*, errW_none, errW_some] <;> rfl), by repeat (first | (with_reducible first | exact HB.out | apply below_alloc | apply pw_below_drewN | apply below_drew1 | refine below_set ?_ GE208.out) | exact HB.out)⟩
      ·replace c15 := Bool.eq_false_iff.mpr c15
       subst c15
       have H1 : (some false) = some r := by rw [if_neg (show ¬ (false = true) by decide)] at H; exact H
       clear H
       have H := H1
       clear H1
       obtain rfl := Option.some.inj H
       obtain ⟨hcz29_0, hcz29_1, hcz29_2, hcz29_3, hcz29_4, hcz29_5, hcz29_6⟩ := cz7 BK208
       obtain ⟨hfz29_0, hfz29_1, hfz29_2, hfz29_3, hfz29_4, hfz29_5, hfz29_6⟩ := fz7 BK208
       go_wp2_with (first | ((with_reducible refine gate_callee (f := 31) rfl ?_); refine goesL_ (some 15) rfl rfl Tryd.func31 (by kernel_rfl) rfl #[.agg #[.slice A0_0 l0_0.length c0_0]] rfl (by (try simp only [List.map_toArray, List.map_cons, List.map_nil]); first | done | rfl | (simp only [List.length_drop, List.length_take]; rfl)) ?_; (with_reducible refine (impl_GoodTable.calls _ _ l0_0 true _ ?side1 ?side2 A9.out).mono ?_); (case side1 => repeat (first | exact (Kd.C_below HR0_0.out HB.out) | (with_reducible refine Kd.C_alloc ?_ _) | (with_reducible refine Kd.C_drewN ?_ _) | (with_reducible refine Kd.C_drew ?_))); (case side2 => exact HC0_0.out); rintro e w30 ⟨rfl, hb⟩; refine ⟨_, rfl, ?_⟩; have n0_ := bX BK208 hb; have n1_ := bS HB hb; clear BK208; clear HB; have BK208 := n0_; have HB := n1_; clear n0_ n1_; (try clear hb); (try clear hb2); (try clear hk); (try clear hi); obtain ⟨hcz31_0, hcz31_1, hcz31_2, hcz31_3, hcz31_4, hcz31_5, hcz31_6⟩ := cz7 BK208; obtain ⟨hfz31_0, hfz31_1, hfz31_2, hfz31_3, hfz31_4, hfz31_5, hfz31_6⟩ := fz7 BK208) | (go_at_call 32; (with_reducible refine (impl_GoodLive.calls kj1 _ _ l0_1 true _ ?side1 ?side2 A11.out).mono ?_); (case side1 => repeat (first | exact (Kd.C_below HR0_1.out HB.out) | (with_reducible refine Kd.C_alloc ?_ _) | (with_reducible refine Kd.C_drewN ?_ _) | (with_reducible refine Kd.C_drew ?_))); (case side2 => exact HC0_1.out); rintro e w32 ⟨rfl, hb⟩; have n0_ := bX BK208 hb; have n1_ := bS HB hb; clear BK208; clear HB; have BK208 := n0_; have HB := n1_; clear n0_ n1_; (try clear hb); (try clear hb2); (try clear hk); (try clear hi); obtain ⟨hcz33_0, hcz33_1, hcz33_2, hcz33_3, hcz33_4, hcz33_5, hcz33_6⟩ := cz7 BK208; obtain ⟨hfz33_0, hfz33_1, hfz33_2, hfz33_3, hfz33_4, hfz33_5, hfz33_6⟩ := fz7 BK208) | (go_at_call 33; (with_reducible refine (impl_in.calls a0_2 1 20 true _ A13.out).mono ?_); rintro e w' ⟨rfl, ⟨nd, rfl⟩⟩))
       go_ret
       exact ⟨by first | rfl | (simp [errW_none, errW_some] <;> rfl) | (simp [*, errW_none, errW_some] <;> rfl), by repeat (first | (with_reducible first | exact HB.out | apply below_alloc | apply pw_below_drewN | apply below_drew1 | refine below_set ?_ GE208.out) | exact HB.out)⟩
     ·replace c14 := Bool.eq_false_iff.mpr c14
      subst c14
      have H1 : (some false) = some r := by rw [if_neg (show ¬ (false = true) by decide)] at H; exact H
      clear H
      have H := H1
      clear H1
      obtain rfl := Option.some.inj H
      obtain ⟨hcz34_0, hcz34_1, hcz34_2, hcz34_3, hcz34_4, hcz34_5, hcz34_6⟩ := cz7 BK208
      obtain ⟨hfz34_0, hfz34_1, hfz34_2, hfz34_3, hfz34_4, hfz34_5, hfz34_6⟩ := fz7 BK208
      go_wp2_with (first | ((with_reducible refine gate_callee (f := 31) rfl ?_); refine goesL_ (some 15) rfl rfl Tryd.func31 (by kernel_rfl) rfl #[.agg #[.slice A0_0 l0_0.length c0_0]] rfl (by (try simp only [List.map_toArray, List.map_cons, List.map_nil]); first | done | rfl | (simp only [List.length_drop, List.length_take]; rfl)) ?_; (with_reducible refine (impl_GoodTable.calls _ _ l0_0 true _ ?side1 ?side2 A9.out).mono ?_); (case side1 => repeat (first | exact (Kd.C_below HR0_0.out HB.out) | (with_reducible refine Kd.C_alloc ?_ _) | (with_reducible refine Kd.C_drewN ?_ _) | (with_reducible refine Kd.C_drew ?_))); (case side2 => exact HC0_0.out); rintro e w35 ⟨rfl, hb⟩; refine ⟨_, rfl, ?_⟩; have n0_ := bX BK208 hb; have n1_ := bS HB hb; clear BK208; clear HB; have BK208 := n0_; have HB := n1_; clear n0_ n1_; (try clear hb); (try clear hb2); (try clear hk); (try clear hi); obtain ⟨hcz36_0, hcz36_1, hcz36_2, hcz36_3, hcz36_4, hcz36_5, hcz36_6⟩ := cz7 BK208; obtain ⟨hfz36_0, hfz36_1, hfz36_2, hfz36_3, hfz36_4, hfz36_5, hfz36_6⟩ := fz7 BK208) | (go_at_call 32; (with_reducible refine (impl_GoodLive.calls kj1 _ _ l0_1 true _ ?side1 ?side2 A11.out).mono ?_); (case side1 => repeat (first | exact (Kd.C_below HR0_1.out HB.out) | (with_reducible refine Kd.C_alloc ?_ _) | (with_reducible refine Kd.C_drewN ?_ _) | (with_reducible refine Kd.C_drew ?_))); (case side2 => exact HC0_1.out); rintro e w37 ⟨rfl, hb⟩; have n0_ := bX BK208 hb; have n1_ := bS HB hb; clear BK208; clear HB; have BK208 := n0_; have HB := n1_; clear n0_ n1_; (try clear hb); (try clear hb2); (try clear hk); (try clear hi); obtain ⟨hcz38_0, hcz38_1, hcz38_2, hcz38_3, hcz38_4, hcz38_5, hcz38_6⟩ := cz7 BK208; obtain ⟨hfz38_0, hfz38_1, hfz38_2, hfz38_3, hfz38_4, hfz38_5, hfz38_6⟩ := fz7 BK208) | (go_at_call 33; (with_reducible refine (impl_in.calls a0_2 1 20 false _ A13.out).mono ?_); rintro e w' ⟨rfl, ⟨nd, rfl⟩⟩))
      go_ret
      exact ⟨by first | rfl | (simp [errW_none, errW_some] <;> rfl) | (simp [*, errW_none, errW_some] <;> rfl), by repeat (first | (with_reducible first | exact HB.out | apply below_alloc | apply pw_below_drewN | apply below_drew1 | refine below_set ?_ GE208.out) | exact HB.out)⟩
    ·replace c12 := Bool.eq_false_iff.mpr c12
     subst c12
     have H1 : (some false) = some r := by rw [if_neg (show ¬ (false = true) by decide)] at H; exact H
     clear H
     have H := H1
     clear H1
     obtain rfl := Option.some.inj H
     obtain ⟨hcz39_0, hcz39_1, hcz39_2, hcz39_3, hcz39_4, hcz39_5, hcz39_6⟩ := cz7 BK208
     obtain ⟨hfz39_0, hfz39_1, hfz39_2, hfz39_3, hfz39_4, hfz39_5, hfz39_6⟩ := fz7 BK208
     go_wp2_with (first | ((with_reducible refine gate_callee (f := 31) rfl ?_); refine goesL_ (some 15) rfl rfl Tryd.func31 (by kernel_rfl) rfl #[.agg #[.slice A0_0 l0_0.length c0_0]] rfl (by (try simp only [List.map_toArray, List.map_cons, List.map_nil]); first | done | rfl | (simp only [List.length_drop, List.length_take]; rfl)) ?_; (with_reducible refine (impl_GoodTable.calls _ _ l0_0 true _ ?side1 ?side2 A9.out).mono ?_); (case side1 => repeat (first | exact (Kd.C_below HR0_0.out HB.out) | (with_reducible refine Kd.C_alloc ?_ _) | (with_reducible refine Kd.C_drewN ?_ _) | (with_reducible refine Kd.C_drew ?_))); (case side2 => exact HC0_0.out); rintro e w40 ⟨rfl, hb⟩; refine ⟨_, rfl, ?_⟩; have n0_ := bX BK208 hb; have n1_ := bS HB hb; clear BK208; clear HB; have BK208 := n0_; have HB := n1_; clear n0_ n1_; (try clear hb); (try clear hb2); (try clear hk); (try clear hi); obtain ⟨hcz41_0, hcz41_1, hcz41_2, hcz41_3, hcz41_4, hcz41_5, hcz41_6⟩ := cz7 BK208; obtain ⟨hfz41_0, hfz41_1, hfz41_2, hfz41_3, hfz41_4, hfz41_5, hfz41_6⟩ := fz7 BK208) | (go_at_call 32; (with_reducible refine (impl_GoodLive.calls kj1 _ _ l0_1 false _ ?side1 ?side2 A11.out).mono ?_); (case side1 => repeat (first | exact (Kd.C_below HR0_1.out HB.out) | (with_reducible refine Kd.C_alloc ?_ _) | (with_reducible refine Kd.C_drewN ?_ _) | (with_reducible refine Kd.C_drew ?_))); (case side2 => exact HC0_1.out); rintro e w42 ⟨rfl, hb⟩; have n0_ := bX BK208 hb; have n1_ := bS HB hb; clear BK208; clear HB; have BK208 := n0_; have HB := n1_; clear n0_ n1_; (try clear hb); (try clear hb2); (try clear hk); (try clear hi)))
     go_ret
     exact ⟨by first | rfl | (simp [errW_none, errW_some] <;> rfl) | (simp [*, errW_none, errW_some] <;> rfl), by repeat (first | (with_reducible first | exact HB.out | apply below_alloc | apply pw_below_drewN | apply below_drew1 | refine below_set ?_ GE208.out) | exact HB.out)⟩
   ·replace c10 := Bool.eq_false_iff.mpr c10
    subst c10
    have H1 : (some false) = some r := by rw [if_neg (show ¬ (false = true) by decide)] at H; exact H
    clear H
    have H := H1
    clear H1
    obtain rfl := Option.some.inj H
    obtain ⟨hcz43_0, hcz43_1, hcz43_2, hcz43_3, hcz43_4, hcz43_5, hcz43_6⟩ := cz7 BK208
    obtain ⟨hfz43_0, hfz43_1, hfz43_2, hfz43_3, hfz43_4, hfz43_5, hfz43_6⟩ := fz7 BK208
    go_wp2_with (first | ((with_reducible refine gate_callee (f := 31) rfl ?_); refine goesL_ (some 15) rfl rfl Tryd.func31 (by kernel_rfl) rfl #[.agg #[.slice A0_0 l0_0.length c0_0]] rfl (by (try simp only [List.map_toArray, List.map_cons, List.map_nil]); first | done | rfl | (simp only [List.length_drop, List.length_take]; rfl)) ?_; (with_reducible refine (impl_GoodTable.calls _ _ l0_0 false _ ?side1 ?side2 A9.out).mono ?_); (case side1 => repeat (first | exact (Kd.C_below HR0_0.out HB.out) | (with_reducible refine Kd.C_alloc ?_ _) | (with_reducible refine Kd.C_drewN ?_ _) | (with_reducible refine Kd.C_drew ?_))); (case side2 => exact HC0_0.out); rintro e w44 ⟨rfl, hb⟩; refine ⟨_, rfl, ?_⟩; have n0_ := bX BK208 hb; have n1_ := bS HB hb; clear BK208; clear HB; have BK208 := n0_; have HB := n1_; clear n0_ n1_; (try clear hb); (try clear hb2); (try clear hk); (try clear hi)))
    go_ret
    exact ⟨by first | rfl | (simp [errW_none, errW_some] <;> rfl) | (simp [*, errW_none, errW_some] <;> rfl), by repeat (first | (with_reducible first | exact HB.out | apply below_alloc | apply pw_below_drewN | apply below_drew1 | refine below_set ?_ GE208.out) | exact HB.out)⟩

end Go.Proofs.YtilkginahmfagaaDoor.PFnExactGoodBalancer
