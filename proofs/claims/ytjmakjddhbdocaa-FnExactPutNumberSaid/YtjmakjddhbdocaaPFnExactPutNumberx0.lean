-- Written by a program of this session (wip/xprint.py).
import Derived.Test.YtjmakjddhbdocaaProg
import Derived.Below
import Derived.Deep.Draws
import Derived.Deep.AppendLies
import Derived.Maps.AppendAt
import Derived.OwnWalk
import Derived.Laws.BytesArg
import Derived.Laws.MakeOwn
import Derived.Laws.OwnMore
import Derived.Deep.OwnRows
import Derived.Tactics
import Derived.Lib.ConvBytes
import Derived.Laws.Slices
import Derived.WalkKit
import Derived.KernelRfl
import Derived.RowKit3
import Derived.Deep.LoopGhost
import Derived.Deep.QuietTactic
import Derived.BigQuiet
import Derived.WideLaws
import Derived.Deep.DeepCutAuto
import Derived.Deep.CutBlock
import Derived.Deep.RegionHeld3
import Derived.Laws.Rows
import Derived.Lib.AppendStr
import Derived.ArgAppend
import Derived.Laws.IdiomCopy
import Derived.OrdersHeld
import Derived.Laws.BitsLemmas
import Derived.RowKit
import Derived.Test.YtjmakjddhbdocaaStoreK
import Derived.Test.YtjmakjddhbdocaaShortK
import Derived.Test.YtjmakjddhbdocaaSortK
import Derived.StillTailTactics
import Derived.IntWalk
import Derived.Test.YtjmakjddhbdocaaWWords
import Derived.Test.YtjmakjddhbdocaaWLast
import Derived.Test.YtjmakjddhbdocaaWTab
import Derived.Test.YtjmakjddhbdocaaWQPut
import Derived.Test.YtjmakjddhbdocaaWApart
import Derived.Test.YtjmakjddhbdocaaWArr
import Derived.Test.YtjmakjddhbdocaaWZeros
import Derived.Test.YtjmakjddhbdocaaWFoot
import Derived.Test.YtjmakjddhbdocaaWKept
import Derived.Test.YtjmakjddhbdocaaWShare
import Derived.Test.YtjmakjddhbdocaaWN
import Derived.Test.YtjmakjddhbdocaaWRepsOne
import Derived.Test.YtjmakjddhbdocaaWNEv
import Derived.Test.YtjmakjddhbdocaaWMore
namespace Go.Proofs.Ytjmakjddhbdocaa.PFnExactPutNumber
open Go.RowKit Go.Proofs.YtjmakjddhbdocaaW.PrintWords Go.Proofs.YtjmakjddhbdocaaW.PrintLast Go.Proofs.YtjmakjddhbdocaaW.PrintMore
attribute [local go_sem] Go.Proofs.Ytjmakjddhbdocaa.StoreK.isSome_setCell max2_int min2_int max_two min_two max_three min_three max_four min_four   -- for this text's walks alone
set_option linter.unusedVariables false
set_option linter.unusedSimpArgs false



def errW : Option Int → Value
  | none => .nilIface
  | some c => .iface 0 (.int .i64 c)
theorem errW_none : errW none = .nilIface := rfl
theorem errW_some (c : Int) : errW (some c) = .iface 0 (.int .i64 c) := rfl

theorem info105 : (Try.prog.info? 105).map (fun i => (i.zero, i.size, i.bytes)) = some (some (.agg #[(.int .i64 0), (.int .i64 0)]), 2, 16) := by kernel_rfl
-- the values' own types
/-! #### struct type 112 -/
structure S112 where
  f0 : Int
  f1 : Int
def z112 : S112 := ⟨(0 : Int), (0 : Int)⟩
def k112 : Kd S112 := Kd.iso (Kd.pair (Kd.int .i64) (Kd.int .i64)) (fun x : S112 => (x.f0, x.f1))
theorem k112_open {w : World} {x : S112} {cs : List Value} (h : k112.K w x cs) : cs = [.int .i64 x.f0, .int .i64 x.f1] := by
  obtain ⟨_, _, rfl, rfl, rfl⟩ := h
  exact rfl
theorem k112_openM {w : World} {base : Nat} {ok : Nat → Prop} {x : S112} {cs : List Value} (h : k112.M w base ok x cs) : cs = [.int .i64 x.f0, .int .i64 x.f1] := by
  obtain ⟨_, _, rfl, rfl, rfl⟩ := h
  exact rfl
theorem k112_mk (w : World) (x : S112)  : k112.K w x [.int .i64 x.f0, .int .i64 x.f1] := ⟨[.int .i64 x.f0], [.int .i64 x.f1], rfl, rfl, rfl⟩
theorem k112_mkM (w : World) (base : Nat) (ok : Nat → Prop) (x : S112)  : k112.M w base ok x [.int .i64 x.f0, .int .i64 x.f1] := ⟨[.int .i64 x.f0], [.int .i64 x.f1], rfl, rfl, rfl⟩
def rd_T112 (xs : List S112) (i : Int) : S112 := xs.getD i.toNat z112
theorem at_T112 {w : World} {A : Option Addr} {n : Nat} {xs : List S112} (h : Kd.C k112 w A n xs) (i : Int) (h0 : 0 ≤ i) (h1 : i < n) : ∃ ad , A = some ad ∧ w.cell? (ad.add (i.toNat * 2)) = some (.int .i64 (rd_T112 xs i).f0) ∧ w.cell? ⟨(ad.add (i.toNat * 2)).block, (ad.add (i.toNat * 2)).off + 1, none⟩ = some (.int .i64 (rd_T112 xs i).f1) := by
  obtain ⟨ad, c, e, _, hK, hc0⟩ := Kd.C_get h z112 i h0 h1
  have hc : ∀ j u, c[j]? = some u → w.cell? (ad.add (i.toNat * 2 + j)) = some u := hc0
  obtain rfl := k112_open hK
  exact ⟨ad, e, hc 0 _ rfl, by rw [← add_field _ _ 1 (by omega)]; exact hc 1 _ rfl⟩

/-! #### struct type 105 -/
structure S105 where
  f0 : Int
  f1 : Int
def z105 : S105 := ⟨(0 : Int), (0 : Int)⟩
def k105 : Kd S105 := Kd.iso (Kd.pair (Kd.int .i64) (Kd.int .i64)) (fun x : S105 => (x.f0, x.f1))
theorem k105_open {w : World} {x : S105} {cs : List Value} (h : k105.K w x cs) : cs = [.int .i64 x.f0, .int .i64 x.f1] := by
  obtain ⟨_, _, rfl, rfl, rfl⟩ := h
  exact rfl
theorem k105_openM {w : World} {base : Nat} {ok : Nat → Prop} {x : S105} {cs : List Value} (h : k105.M w base ok x cs) : cs = [.int .i64 x.f0, .int .i64 x.f1] := by
  obtain ⟨_, _, rfl, rfl, rfl⟩ := h
  exact rfl
theorem k105_mk (w : World) (x : S105)  : k105.K w x [.int .i64 x.f0, .int .i64 x.f1] := ⟨[.int .i64 x.f0], [.int .i64 x.f1], rfl, rfl, rfl⟩
theorem k105_mkM (w : World) (base : Nat) (ok : Nat → Prop) (x : S105)  : k105.M w base ok x [.int .i64 x.f0, .int .i64 x.f1] := ⟨[.int .i64 x.f0], [.int .i64 x.f1], rfl, rfl, rfl⟩
def rd_T105 (xs : List S105) (i : Int) : S105 := xs.getD i.toNat z105
theorem at_T105 {w : World} {A : Option Addr} {n : Nat} {xs : List S105} (h : Kd.C k105 w A n xs) (i : Int) (h0 : 0 ≤ i) (h1 : i < n) : ∃ ad , A = some ad ∧ w.cell? (ad.add (i.toNat * 2)) = some (.int .i64 (rd_T105 xs i).f0) ∧ w.cell? ⟨(ad.add (i.toNat * 2)).block, (ad.add (i.toNat * 2)).off + 1, none⟩ = some (.int .i64 (rd_T105 xs i).f1) := by
  obtain ⟨ad, c, e, _, hK, hc0⟩ := Kd.C_get h z105 i h0 h1
  have hc : ∀ j u, c[j]? = some u → w.cell? (ad.add (i.toNat * 2 + j)) = some u := hc0
  obtain rfl := k105_open hK
  exact ⟨ad, e, hc 0 _ rfl, by rw [← add_field _ _ 1 (by omega)]; exact hc 1 _ rfl⟩

def rd_L3 (xs : List (List S105)) (i : Int) : (List S105) := xs.getD i.toNat ([] : List S105)
theorem at_L3 {w : World} {A : Option Addr} {n : Nat} {xs : List (List S105)} (h : Kd.C (Kd.slice 105 k105) w A n xs) (i : Int) (h0 : 0 ≤ i) (h1 : i < n) : ∃ ad A0 c0, A = some ad ∧ w.cell? (ad.add i.toNat) = some (.slice A0 (rd_L3 xs i).length c0) ∧ (rd_L3 xs i).length ≤ c0 ∧ k105.C w A0 (rd_L3 xs i).length (rd_L3 xs i) := by
  obtain ⟨ad, c, e, _, hK, hc0⟩ := Kd.C_get h ([] : List S105) i h0 h1
  have hc : ∀ j u, c[j]? = some u → w.cell? (ad.add (i.toNat * 1 + j)) = some u := hc0
  obtain ⟨A0, c0, rfl, l0, g0⟩ := hK
  exact ⟨ad, A0, c0, e, by have hq := hc 0 _ rfl; rwa [Nat.mul_one, Nat.add_zero] at hq, l0, g0⟩

end Go.Proofs.Ytjmakjddhbdocaa.PFnExactPutNumber
