-- Written by a program of this session (wip/xprint.py).
import Derived.Test.YthkmjfapljmmpaaProg
import Derived.Below
import Derived.Deep.Draws
import Derived.Deep.AppendLies
import Derived.Maps.AppendAt
import Derived.OwnWalk
import Derived.Laws.BytesArg
import Derived.Laws.MakeOwn
import Derived.Laws.OwnMore
import Derived.Deep.OwnRows
import Derived.Tactics
import Derived.Lib.ConvBytes
import Derived.Laws.Slices
import Derived.WalkKit
import Derived.KernelRfl
import Derived.RowKit3
import Derived.Deep.LoopGhost
import Derived.Deep.QuietTactic
import Derived.BigQuiet
import Derived.WideLaws
import Derived.Deep.DeepCutAuto
import Derived.Deep.CutBlock
import Derived.Deep.RegionHeld3
import Derived.Laws.Rows
import Derived.Lib.AppendStr
import Derived.ArgAppend
import Derived.Laws.IdiomCopy
import Derived.OrdersHeld
import Derived.Laws.BitsLemmas
import Derived.RowKit
import Derived.Test.YthkmjfapljmmpaaStoreK
import Derived.Test.YthkmjfapljmmpaaShortK
import Derived.Test.YthkmjfapljmmpaaWWords
import Derived.Test.YthkmjfapljmmpaaWLast
import Derived.Test.YthkmjfapljmmpaaWTab
import Derived.Test.YthkmjfapljmmpaaWQPut
import Derived.Test.YthkmjfapljmmpaaWApart
import Derived.Test.YthkmjfapljmmpaaWArr
import Derived.Test.YthkmjfapljmmpaaWZeros
import Derived.Test.YthkmjfapljmmpaaWFoot
import Derived.Test.YthkmjfapljmmpaaWKept
import Derived.Test.YthkmjfapljmmpaaWShare
import Derived.Test.YthkmjfapljmmpaaWN
import Derived.Test.YthkmjfapljmmpaaWRepsOne
import Derived.Test.YthkmjfapljmmpaaWGuard
import Derived.Test.YthkmjfapljmmpaaWNEv
import Derived.Test.YthkmjfapljmmpaaWMore
namespace Go.Proofs.Ythkmjfapljmmpaa.PFnExactNextPiece
open Go.RowKit Go.Proofs.YthkmjfapljmmpaaW.PrintWords Go.Proofs.YthkmjfapljmmpaaW.PrintLast Go.Proofs.YthkmjfapljmmpaaW.PrintMore
attribute [local go_sem] Go.Proofs.Ythkmjfapljmmpaa.StoreK.isSome_setCell max2_int min2_int max_two min_two max_three min_three max_four min_four   -- for this text's walks alone
set_option linter.unusedVariables false
set_option linter.unusedSimpArgs false



def errW : Option Int → Value
  | none => .nilIface
  | some c => .iface 0 (.int .i64 c)
theorem errW_none : errW none = .nilIface := rfl
theorem errW_some (c : Int) : errW (some c) = .iface 0 (.int .i64 c) := rfl

-- the values' own types
/-! #### struct type 203 -/
structure S203 where
  f0 : Int
  f1 : Int
def z203 : S203 := ⟨(0 : Int), (0 : Int)⟩
def k203 : Kd S203 := Kd.iso (Kd.pair (Kd.int .i64) (Kd.int .i64)) (fun x : S203 => (x.f0, x.f1))
theorem k203_open {w : World} {x : S203} {cs : List Value} (h : k203.K w x cs) : cs = [.int .i64 x.f0, .int .i64 x.f1] := by
  obtain ⟨_, _, rfl, rfl, rfl⟩ := h
  exact rfl
theorem k203_openM {w : World} {base : Nat} {ok : Nat → Prop} {x : S203} {cs : List Value} (h : k203.M w base ok x cs) : cs = [.int .i64 x.f0, .int .i64 x.f1] := by
  obtain ⟨_, _, rfl, rfl, rfl⟩ := h
  exact rfl
theorem k203_mk (w : World) (x : S203)  : k203.K w x [.int .i64 x.f0, .int .i64 x.f1] := ⟨[.int .i64 x.f0], [.int .i64 x.f1], rfl, rfl, rfl⟩
theorem k203_mkM (w : World) (base : Nat) (ok : Nat → Prop) (x : S203)  : k203.M w base ok x [.int .i64 x.f0, .int .i64 x.f1] := ⟨[.int .i64 x.f0], [.int .i64 x.f1], rfl, rfl, rfl⟩
def rd_T203 (xs : List S203) (i : Int) : S203 := xs.getD i.toNat z203
theorem at_T203 {w : World} {A : Option Addr} {n : Nat} {xs : List S203} (h : Kd.C k203 w A n xs) (i : Int) (h0 : 0 ≤ i) (h1 : i < n) : ∃ ad , A = some ad ∧ w.cell? (ad.add (i.toNat * 2)) = some (.int .i64 (rd_T203 xs i).f0) ∧ w.cell? ⟨(ad.add (i.toNat * 2)).block, (ad.add (i.toNat * 2)).off + 1, none⟩ = some (.int .i64 (rd_T203 xs i).f1) := by
  obtain ⟨ad, c, e, _, hK, hc0⟩ := Kd.C_get h z203 i h0 h1
  have hc : ∀ j u, c[j]? = some u → w.cell? (ad.add (i.toNat * 2 + j)) = some u := hc0
  obtain rfl := k203_open hK
  exact ⟨ad, e, hc 0 _ rfl, by rw [← add_field _ _ 1 (by omega)]; exact hc 1 _ rfl⟩

end Go.Proofs.Ythkmjfapljmmpaa.PFnExactNextPiece
