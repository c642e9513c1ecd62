/- The contracts of impl.TargetPath, of spec.TargetPath and of their law, where the library's table of powers of ten lies as its initialiser lays it. -/
import Derived.Test.YtilkginahmfagaaDoorPFnExactParseTargetx1
import Derived.Test.YtilkginahmfagaaDoorPFnExactParseTargetx2
import Derived.Test.YtilkginahmfagaaDoorItoa
import Derived.Lib.AppendIntMem
import Derived.Lib.ItoaLen
namespace Go.Proofs.YtilkginahmfagaaDoor.PFnExactParseTarget
open Go.RowKit Go.Proofs.YtilkginahmfagaaDoorW.PrintWords Go.Proofs.YtilkginahmfagaaDoorW.PrintLast Go.Proofs.YtilkginahmfagaaDoorW.PrintMore
attribute [local go_sem] Go.Proofs.YtilkginahmfagaaDoor.StoreK.isSome_setCell max2_int min2_int max_two min_two max_three min_three max_four min_four
set_option linter.unusedVariables false
set_option linter.unusedSimpArgs false
def pathHead : ByteArray := ⟨#[47, 46, 119, 101, 108, 108, 45, 107, 110, 111, 119, 110, 47, 109, 97, 115, 113, 117, 101, 47, 117, 100, 112, 47]⟩
def slash : ByteArray := ⟨#[47]⟩
/-- A world to which blocks were added. -/
theorem below_grow (w : World) (k : Nat) (os : Array Obj) : Below w.heap.size w (Go.Sort.grow (w.drewN k) os) :=
  ⟨rfl, rfl, rfl, by simp [Go.Sort.grow, World.drewN], fun i hi => by
    simp only [Go.Sort.grow, World.drewN]
    rw [Array.getElem?_append_left hi]⟩
def pathOf (h : ByteArray) (n : ByteArray) : ByteArray := ((pathHead ++ h) ++ slash ++ n) ++ slash
abbrev Tab (B : Nat) (w : World) : Prop := Lib.TabBelow Tryd.prog B w "internal/strconv.uint64pow10" .u64 Lib.pow10Tab
set_option maxHeartbeats 1600000 in
set_option maxRecDepth 100000 in
theorem path_bad1 (a0 : ByteArray) (a1 : Int) (w : World) (h : impl_isHost.f a0 = some false) :
    Calls Tryd.prog 52 #[.string a0, .int .i64 a1] w fun e w' => e = .returned (.tuple #[.string ⟨#[]⟩, .bool false]) ∧ Below w.heap.size w w' := by
  have HA := Aside0.mk h
  clear h
  go_enter Tryd.func52, Tryd.ntmps52
  go_wp2_with fail
  refine (impl_isHost.calls a0 false _ HA.out).mono ?_
  rintro e w1 ⟨rfl, ⟨nd, rfl⟩⟩
  go_wp2
  go_ret2
  exact ⟨rfl, pw_below_drewN (Below.refl _ _) nd⟩
set_option maxHeartbeats 1600000 in
set_option maxRecDepth 100000 in
theorem path_bad2 (a0 : ByteArray) (a1 : Int) (w : World) (h : impl_isHost.f a0 = some true) (h2 : impl_isPort.f a1 = some false) :
    Calls Tryd.prog 52 #[.string a0, .int .i64 a1] w fun e w' => e = .returned (.tuple #[.string ⟨#[]⟩, .bool false]) ∧ Below w.heap.size w w' := by
  have HA := Aside0.mk h
  have HA2 := Aside0.mk h2
  clear h h2
  go_enter Tryd.func52, Tryd.ntmps52
  go_wp2_with fail
  refine (impl_isHost.calls a0 true _ HA.out).mono ?_
  rintro e w1 ⟨rfl, ⟨nd, rfl⟩⟩
  go_wp2_with fail
  refine (impl_isPort.calls a1 false _ HA2.out).mono ?_
  rintro e w2 ⟨rfl, ⟨nd2, rfl⟩⟩
  go_wp2
  go_ret2
  exact ⟨rfl, pw_below_drewN (Below.refl _ _) _⟩
set_option maxHeartbeats 1600000 in
set_option maxRecDepth 100000 in
theorem path_ok (B : Nat) (a0 : ByteArray) (a1 : Int) (w : World) (ht : Tab B w) (hB : B ≤ w.heap.size) (h : impl_isHost.f a0 = some true) (h2 : impl_isPort.f a1 = some true) (hs : a0.size ≤ 60) (h1 : 1 ≤ a1 ∧ a1 ≤ 65535) :
    Calls Tryd.prog 52 #[.string a0, .int .i64 a1] w fun e w' => e = .returned (.tuple #[.string (pathOf a0 ⟨(Lib.itoa a1).toArray⟩), .bool true]) ∧ Below w.heap.size w w' := by
  have HA := Aside0.mk h
  have HA2 := Aside0.mk h2
  have HT := Aside0.mk ht
  have HBB := Aside0.mk hB
  have H1 := Aside0.mk h1
  have hl := Lib.itoa_length_le a1 (by omega) (by omega)
  obtain ⟨it, hit⟩ : ∃ it : ByteArray, it = ⟨(Lib.itoa a1).toArray⟩ := ⟨_, rfl⟩
  have hits : it.size ≤ 21 := by rw [hit]; exact hl
  have HIT := Aside0.mk hit
  rw [← hit]
  clear h h2 ht hB h1 hl hit
  have s1 : (9223372036854775807 < 24 + a0.size) = False := eq_false (by omega)
  have s2 : (9223372036854775807 < 24 + a0.size + 1) = False := eq_false (by omega)
  have s3 : (9223372036854775807 < 24 + a0.size + 1 + it.size) = False := eq_false (by omega)
  have s4 : (9223372036854775807 < 24 + a0.size + 1 + it.size + 1) = False := eq_false (by omega)
  clear hs hits
  go_enter Tryd.func52, Tryd.ntmps52
  go_wp2_with fail
  refine (impl_isHost.calls a0 true _ HA.out).mono ?_
  rintro e w1 ⟨rfl, ⟨nd, rfl⟩⟩
  go_wp2_with fail
  refine (impl_isPort.calls a1 true _ HA2.out).mono ?_
  rintro e w2 ⟨rfl, ⟨nd2, rfl⟩⟩
  have HB := Aside0.mk (pw_below_drewN (Below.refl w.heap.size w) (nd + nd2))
  go_wp2_with fail
  refine (ItoaLaid.strconv_Itoa a1 (by have := H1.out; omega) (by have := H1.out; omega) _ (HT.out.on (HB.out.mono HBB.out)).here).mono ?_
  rintro e w4 ⟨rfl, k, os, hw⟩
  have hb : Below (w.drewN (nd + nd2)).heap.size (w.drewN (nd + nd2)) w4 := by rw [hw]; exact below_grow _ _ _
  have HB2 := Aside0.mk (below_step HB.out hb)
  clear hw hb
  rw [← HIT.out]
  go_wp2
  go_ret2
  exact ⟨rfl, HB2.out⟩
end Go.Proofs.YtilkginahmfagaaDoor.PFnExactParseTarget
