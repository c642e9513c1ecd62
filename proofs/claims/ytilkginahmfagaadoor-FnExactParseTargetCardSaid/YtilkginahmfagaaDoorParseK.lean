/- The contracts of impl.ParseTarget and of its law. -/
import Derived.Test.YtilkginahmfagaaDoorPFnExactParseTargetx2
import Derived.Test.YtilkginahmfagaaDoorPathK
import Derived.Test.YtilkginahmfagaaDoorAtoi
namespace Go.Proofs.YtilkginahmfagaaDoor.PFnExactParseTarget
open Go.RowKit Go.Proofs.YtilkginahmfagaaDoorW.PrintWords Go.Proofs.YtilkginahmfagaaDoorW.PrintLast Go.Proofs.YtilkginahmfagaaDoorW.PrintMore
attribute [local go_sem] Go.Proofs.YtilkginahmfagaaDoor.StoreK.isSome_setCell max2_int min2_int max_two min_two max_three min_three max_four min_four
set_option linter.unusedVariables false
set_option linter.unusedSimpArgs false
set_option maxHeartbeats 1600000 in
set_option maxRecDepth 100000 in
theorem parse_bad (path rest host last p t : ByteArray) (c : Bool) (port : Int) (w : World)  (h1 : strings_TrimPrefix.f path pathHead = some rest) (h2 : ∀ W, Below w.heap.size w W → Calls Tryd.prog 49 #[.string rest, .string slash] W fun e w' => e = .returned (.tuple #[.string host, .string last, .bool c]) ∧ Below W.heap.size W w') (h3 : strings_TrimSuffix.f last slash = some p) (h4 : ∀ W, Below w.heap.size w W → Calls Tryd.prog 50 #[.string p] W fun e w' => (∃ ev, e = .returned (.tuple #[.int .i64 port, ev])) ∧ Below W.heap.size W w') (h5 : ∀ W, Below w.heap.size w W → Calls Tryd.prog 52 #[.string host, .int .i64 port] W fun e w' => e = .returned (.tuple #[.string t, .bool false]) ∧ Below W.heap.size W w') :
    Calls Tryd.prog 18 #[.string path] w fun e w' => e = .returned (.tuple #[.string ⟨#[]⟩, .int .i64 0, .bool false]) ∧ Below w.heap.size w w' := by
  have H1 := Aside0.mk h1
  have H2 := Aside0.mk h2
  have H3 := Aside0.mk h3
  have H4 := Aside0.mk h4
  have H5 := Aside0.mk h5
  clear h1 h2 h3 h4 h5
  go_enter Tryd.func18, Tryd.ntmps18
  go_wp2_with fail
  refine (strings_TrimPrefix.calls path pathHead rest _ H1.out).mono ?_
  rintro e w1 ⟨rfl, ⟨nd, rfl⟩⟩
  have HB1 := Aside0.mk (pw_below_drewN (Below.refl w.heap.size w) nd)
  go_wp2_with fail
  refine (H2.out _ HB1.out).mono ?_
  rintro e w2 ⟨rfl, hb⟩
  have HB2 := Aside0.mk (below_step HB1.out hb)
  clear hb
  go_wp2_with fail
  refine (strings_TrimSuffix.calls last slash p _ H3.out).mono ?_
  rintro e w3 ⟨rfl, ⟨nd3, rfl⟩⟩
  have HB3 := Aside0.mk (pw_below_drewN HB2.out nd3)
  go_wp2_with fail
  refine (H4.out _ HB3.out).mono ?_
  rintro e w4 ⟨⟨ev, rfl⟩, hb⟩
  have HB4 := Aside0.mk (below_step HB3.out hb)
  clear hb
  go_wp2_with fail
  refine (H5.out _ HB4.out).mono ?_
  rintro e w5 ⟨rfl, hb⟩
  have HB5 := Aside0.mk (below_step HB4.out hb)
  clear hb
  go_wp2
  go_ret3
  exact ⟨rfl, HB5.out⟩
set_option maxHeartbeats 1600000 in
set_option maxRecDepth 100000 in
theorem parse_other (path rest host last p t : ByteArray) (c : Bool) (port : Int) (w : World) (hne : (t.toList == path.toList) = false) (h1 : strings_TrimPrefix.f path pathHead = some rest) (h2 : ∀ W, Below w.heap.size w W → Calls Tryd.prog 49 #[.string rest, .string slash] W fun e w' => e = .returned (.tuple #[.string host, .string last, .bool c]) ∧ Below W.heap.size W w') (h3 : strings_TrimSuffix.f last slash = some p) (h4 : ∀ W, Below w.heap.size w W → Calls Tryd.prog 50 #[.string p] W fun e w' => (∃ ev, e = .returned (.tuple #[.int .i64 port, ev])) ∧ Below W.heap.size W w') (h5 : ∀ W, Below w.heap.size w W → Calls Tryd.prog 52 #[.string host, .int .i64 port] W fun e w' => e = .returned (.tuple #[.string t, .bool true]) ∧ Below W.heap.size W w') :
    Calls Tryd.prog 18 #[.string path] w fun e w' => e = .returned (.tuple #[.string ⟨#[]⟩, .int .i64 0, .bool false]) ∧ Below w.heap.size w w' := by
  have H1 := Aside0.mk h1
  have H2 := Aside0.mk h2
  have H3 := Aside0.mk h3
  have H4 := Aside0.mk h4
  have H5 := Aside0.mk h5
  clear h1 h2 h3 h4 h5
  go_enter Tryd.func18, Tryd.ntmps18
  go_wp2_with fail
  refine (strings_TrimPrefix.calls path pathHead rest _ H1.out).mono ?_
  rintro e w1 ⟨rfl, ⟨nd, rfl⟩⟩
  have HB1 := Aside0.mk (pw_below_drewN (Below.refl w.heap.size w) nd)
  go_wp2_with fail
  refine (H2.out _ HB1.out).mono ?_
  rintro e w2 ⟨rfl, hb⟩
  have HB2 := Aside0.mk (below_step HB1.out hb)
  clear hb
  go_wp2_with fail
  refine (strings_TrimSuffix.calls last slash p _ H3.out).mono ?_
  rintro e w3 ⟨rfl, ⟨nd3, rfl⟩⟩
  have HB3 := Aside0.mk (pw_below_drewN HB2.out nd3)
  go_wp2_with fail
  refine (H4.out _ HB3.out).mono ?_
  rintro e w4 ⟨⟨ev, rfl⟩, hb⟩
  have HB4 := Aside0.mk (below_step HB3.out hb)
  clear hb
  go_wp2_with fail
  refine (H5.out _ HB4.out).mono ?_
  rintro e w5 ⟨rfl, hb⟩
  have HB5 := Aside0.mk (below_step HB4.out hb)
  clear hb
  go_wp2
  go_ret3
  exact ⟨rfl, HB5.out⟩
set_option maxHeartbeats 1600000 in
set_option maxRecDepth 100000 in
theorem parse_ok (path rest host last p t : ByteArray) (c : Bool) (port : Int) (w : World) (hne : (t.toList == path.toList) = true) (h1 : strings_TrimPrefix.f path pathHead = some rest) (h2 : ∀ W, Below w.heap.size w W → Calls Tryd.prog 49 #[.string rest, .string slash] W fun e w' => e = .returned (.tuple #[.string host, .string last, .bool c]) ∧ Below W.heap.size W w') (h3 : strings_TrimSuffix.f last slash = some p) (h4 : ∀ W, Below w.heap.size w W → Calls Tryd.prog 50 #[.string p] W fun e w' => (∃ ev, e = .returned (.tuple #[.int .i64 port, ev])) ∧ Below W.heap.size W w') (h5 : ∀ W, Below w.heap.size w W → Calls Tryd.prog 52 #[.string host, .int .i64 port] W fun e w' => e = .returned (.tuple #[.string t, .bool true]) ∧ Below W.heap.size W w') :
    Calls Tryd.prog 18 #[.string path] w fun e w' => e = .returned (.tuple #[.string host, .int .i64 port, .bool true]) ∧ Below w.heap.size w w' := by
  have H1 := Aside0.mk h1
  have H2 := Aside0.mk h2
  have H3 := Aside0.mk h3
  have H4 := Aside0.mk h4
  have H5 := Aside0.mk h5
  clear h1 h2 h3 h4 h5
  go_enter Tryd.func18, Tryd.ntmps18
  go_wp2_with fail
  refine (strings_TrimPrefix.calls path pathHead rest _ H1.out).mono ?_
  rintro e w1 ⟨rfl, ⟨nd, rfl⟩⟩
  have HB1 := Aside0.mk (pw_below_drewN (Below.refl w.heap.size w) nd)
  go_wp2_with fail
  refine (H2.out _ HB1.out).mono ?_
  rintro e w2 ⟨rfl, hb⟩
  have HB2 := Aside0.mk (below_step HB1.out hb)
  clear hb
  go_wp2_with fail
  refine (strings_TrimSuffix.calls last slash p _ H3.out).mono ?_
  rintro e w3 ⟨rfl, ⟨nd3, rfl⟩⟩
  have HB3 := Aside0.mk (pw_below_drewN HB2.out nd3)
  go_wp2_with fail
  refine (H4.out _ HB3.out).mono ?_
  rintro e w4 ⟨⟨ev, rfl⟩, hb⟩
  have HB4 := Aside0.mk (below_step HB3.out hb)
  clear hb
  go_wp2_with fail
  refine (H5.out _ HB4.out).mono ?_
  rintro e w5 ⟨rfl, hb⟩
  have HB5 := Aside0.mk (below_step HB4.out hb)
  clear hb
  go_wp2
  go_ret3
  exact ⟨rfl, HB5.out⟩
set_option maxHeartbeats 1600000 in
set_option maxRecDepth 100000 in
theorem law_two (a0 : ByteArray) (w : World) (r1 : ByteArray) (r2 : Int) (r3 : Bool) (hs : a0.size ≤ 1048576) (h1 : Calls Tryd.prog 17 #[.string a0] w fun e w' => e = .returned (.tuple #[.string r1, .int .i64 r2, .bool r3]) ∧ Below w.heap.size w w')
    (h2 : ∀ W, Below w.heap.size w W → Calls Tryd.prog 18 #[.string a0] W fun e w' => e = .returned (.tuple #[.string r1, .int .i64 r2, .bool r3]) ∧ Below W.heap.size W w') :
    Calls Tryd.prog 5 #[.string a0] w fun e w' => e = .returned (.bool true) ∧ Below w.heap.size w w' := by
  have H1 := Aside0.mk h1
  have H2 := Aside0.mk h2
  have d1 : decide ((a0.size : Int) > 1048576) = false := decide_eq_false (by omega)
  clear h1 h2 hs
  go_enter Tryd.func5, Tryd.ntmps5
  go_wp2_with fail
  refine (H1.out).mono ?_
  rintro e w1 ⟨rfl, hb⟩
  have HB := Aside0.mk hb
  clear hb H1
  go_wp2_with fail
  refine (H2.out w1 HB.out).mono ?_
  rintro e w2 ⟨rfl, hb⟩
  have HB2 := Aside0.mk (below_step HB.out hb)
  clear hb
  go_wp2
  go_ret
  exact ⟨rfl, HB2.out⟩
set_option maxHeartbeats 1600000 in
set_option maxRecDepth 100000 in
theorem law_big (a0 : ByteArray) (w : World) (hs : 1048576 < a0.size) : Calls Tryd.prog 5 #[.string a0] w fun e w' => e = .returned (.bool true) ∧ Below w.heap.size w w' := by
  have d1 : decide ((a0.size : Int) > 1048576) = true := decide_eq_true (by omega)
  clear hs
  go_enter Tryd.func5, Tryd.ntmps5
  go_wp2
  go_ret
  exact ⟨rfl, Below.refl _ _⟩
/-- What the world must hold: the library's table of powers, the length that IndexString asks, the two errors' variables. -/
structure Env (w : World) : Prop where
  tab : Lib.TabIs Tryd.prog w "internal/strconv.uint64pow10" .u64 Lib.pow10Tab
  ml : ∃ m, w.cell? ⟨0, 0, none⟩ = some (.int .i64 m)
  es : ∃ ev, w.cell? ⟨1, 0, none⟩ = some ev ∧ (ev = .nilIface ∨ ∃ te pe, ev = .iface te pe)
  er : ∃ ev, w.cell? ⟨2, 0, none⟩ = some ev ∧ (ev = .nilIface ∨ ∃ te pe, ev = .iface te pe)
theorem cell_lt {w : World} {g : Nat} {v : Value} (h : w.cell? ⟨g, 0, none⟩ = some v) : g < w.heap.size := by
  rcases Nat.lt_or_ge g w.heap.size with h1 | h1
  · exact h1
  · exfalso
    unfold World.cell? at h
    rw [Array.getElem?_eq_none (by simpa using h1)] at h
    simp at h
theorem cell_below {w W : World} {g : Nat} {v : Value} (h : w.cell? ⟨g, 0, none⟩ = some v) (hb : Below w.heap.size w W) : W.cell? ⟨g, 0, none⟩ = some v := (hb.cell (p := ⟨g, 0, none⟩) (cell_lt h)).trans h
theorem Env.below {w W : World} (h : Env w) (hb : Below w.heap.size w W) : Env W where
  tab := ((Lib.tabBelow_of_tabIs h.tab).on hb).here
  ml := h.ml.elim fun m hm => ⟨m, cell_below hm hb⟩
  es := h.es.elim fun m hm => ⟨m, cell_below hm.1 hb, hm.2⟩
  er := h.er.elim fun m hm => ⟨m, cell_below hm.1 hb, hm.2⟩
def hostOf (rest : ByteArray) : ByteArray := ⟨(Lib.cut rest.data.toList slash.data.toList).1.toArray⟩
def lastOf (rest : ByteArray) : ByteArray := ⟨(Lib.cut rest.data.toList slash.data.toList).2.1.toArray⟩
/-- The number that strconv.Atoi answers. -/
def atoiVal (s : ByteArray) : Int := match Lib.atoiAll s.data.toList with | .ok v => v | .«syntax» => 0 | .range => Lib.atoiSat s.data.toList
theorem cut_calls (rest : ByteArray) (hs : rest.size < 4294967281) (W : World) (hE : Env W) : Calls Tryd.prog 49 #[.string rest, .string slash] W fun e w' => e = .returned (.tuple #[.string (hostOf rest), .string (lastOf rest), .bool (Lib.cut rest.data.toList slash.data.toList).2.2]) ∧ Below W.heap.size W w' := by
  obtain ⟨m, hm⟩ := hE.ml
  refine (AtoiLaid.strings_Cut rest slash m W hs hm).mono ?_
  rintro e w' ⟨rfl, n, rfl⟩
  exact ⟨rfl, pw_below_drewN (Below.refl _ _) n⟩
theorem atoi_calls (s : ByteArray) (hs : s.size ≤ 1048576) (W : World) (hE : Env W) : Calls Tryd.prog 50 #[.string s] W fun e w' => (∃ ev, e = .returned (.tuple #[.int .i64 (atoiVal s), ev])) ∧ Below W.heap.size W w' := by
  unfold atoiVal
  cases h : Lib.atoiAll s.data.toList with
  | ok v =>
    refine (AtoiLaid.strconv_Atoi_ok s (by omega) v h W).mono ?_
    rintro e w' ⟨rfl, rfl | ⟨t, rfl⟩⟩
    · exact ⟨⟨_, rfl⟩, Below.refl _ _⟩
    · exact ⟨⟨_, rfl⟩, Lib.bytesWorld_below _ _ _⟩
  | «syntax» =>
    obtain ⟨ev, h1, h2⟩ := hE.es
    refine (AtoiLaid.strconv_Atoi_syntax s (by omega) h ev W h1 h2).mono ?_
    rintro e w' ⟨N, rfl, _, _, hb⟩
    exact ⟨⟨_, rfl⟩, hb⟩
  | range =>
    obtain ⟨ev, h1, h2⟩ := hE.er
    refine (AtoiLaid.strconv_Atoi_range s (by omega) h ev W h1 h2).mono ?_
    rintro e w' ⟨N, rfl, _, _, hb⟩
    exact ⟨⟨_, rfl⟩, hb⟩
def bad : ByteArray × Int × Bool := (⟨#[]⟩, 0, false)
/-- What is asked of the callees, told once. -/
def laws_FnExactParseTarget.Good (k : Nat) (a0 : ByteArray) : Prop := 1048576 < a0.size ∨ (a0.size ≤ 1048576 ∧ ∃ rest p, strings_TrimPrefix.f a0 pathHead = some rest ∧ rest.size ≤ 1048576 ∧ strings_TrimSuffix.f (lastOf rest) slash = some p ∧ p.size ≤ 1048576 ∧
  ((impl_isHost.f (hostOf rest) = some false ∧ spec_ParseTarget.f k a0 = some bad) ∨ (impl_isHost.f (hostOf rest) = some true ∧ impl_isPort.f (atoiVal p) = some false ∧ spec_ParseTarget.f k a0 = some bad) ∨
   (impl_isHost.f (hostOf rest) = some true ∧ impl_isPort.f (atoiVal p) = some true ∧ (hostOf rest).size ≤ 60 ∧ (1 ≤ atoiVal p ∧ atoiVal p ≤ 65535) ∧
    (((((pathOf (hostOf rest) ⟨(Lib.itoa (atoiVal p)).toArray⟩).toList == a0.toList) = false) ∧ spec_ParseTarget.f k a0 = some bad) ∨ ((((pathOf (hostOf rest) ⟨(Lib.itoa (atoiVal p)).toArray⟩).toList == a0.toList) = true) ∧ spec_ParseTarget.f k a0 = some (hostOf rest, atoiVal p, true))))))
theorem laws_FnExactParseTarget.calls (k : Nat) (a0 : ByteArray) (w : World) (ht : Env w) (h : laws_FnExactParseTarget.Good k a0) :
    Calls Tryd.prog 5 #[.string a0] w fun e w' => e = .returned (.bool true) ∧ Below w.heap.size w w' := by
  rcases h with h | ⟨hs, rest, p, h1, hr, h3, hp, h4⟩
  · exact law_big a0 w h
  · have hcut := fun W0 (hE0 : Env W0) W (hb : Below W0.heap.size W0 W) => cut_calls rest (by omega) W (hE0.below hb)
    have hatoi := fun W0 (hE0 : Env W0) W (hb : Below W0.heap.size W0 W) => atoi_calls p hp W (hE0.below hb)
    rcases h4 with ⟨g1, g2⟩ | ⟨g1, g2, g3⟩ | ⟨g1, g2, g3, g4, ⟨g5, g6⟩ | ⟨g5, g6⟩⟩
    · exact law_two a0 w _ _ _ hs ((spec_ParseTarget.calls k a0 _ _ _ w g2).mono fun e w' hh => ⟨hh.1, by first | exact hh.2 | exact hh.2.below⟩) (fun W hb => parse_bad a0 rest _ _ p _ _ _ W h1 (hcut W (ht.below hb)) h3 (hatoi W (ht.below hb)) (fun W2 hb2 => path_bad1 _ _ W2 g1))
    · exact law_two a0 w _ _ _ hs ((spec_ParseTarget.calls k a0 _ _ _ w g3).mono fun e w' hh => ⟨hh.1, by first | exact hh.2 | exact hh.2.below⟩) (fun W hb => parse_bad a0 rest _ _ p _ _ _ W h1 (hcut W (ht.below hb)) h3 (hatoi W (ht.below hb)) (fun W2 hb2 => path_bad2 _ _ W2 g1 g2))
    · exact law_two a0 w _ _ _ hs ((spec_ParseTarget.calls k a0 _ _ _ w g6).mono fun e w' hh => ⟨hh.1, by first | exact hh.2 | exact hh.2.below⟩) (fun W hb => parse_other a0 rest _ _ p _ _ _ W g5 h1 (hcut W (ht.below hb)) h3 (hatoi W (ht.below hb)) (fun W2 hb2 => path_ok W2.heap.size _ _ W2 (Lib.tabBelow_of_tabIs ((ht.below hb).below hb2).tab) (Nat.le_refl _) g1 g2 g3 g4))
    · exact law_two a0 w _ _ _ hs ((spec_ParseTarget.calls k a0 _ _ _ w g6).mono fun e w' hh => ⟨hh.1, by first | exact hh.2 | exact hh.2.below⟩) (fun W hb => parse_ok a0 rest _ _ p _ _ _ W g5 h1 (hcut W (ht.below hb)) h3 (hatoi W (ht.below hb)) (fun W2 hb2 => path_ok W2.heap.size _ _ W2 (Lib.tabBelow_of_tabIs ((ht.below hb).below hb2).tab) (Nat.le_refl _) g1 g2 g3 g4))
end Go.Proofs.YtilkginahmfagaaDoor.PFnExactParseTarget
