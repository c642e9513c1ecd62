-- Written by a program of this session (wip/xprint.py).
import Derived.Test.YthkmjfapljmmpaaProg
import Derived.Below
import Derived.Deep.Draws
import Derived.Deep.AppendLies
import Derived.Maps.AppendAt
import Derived.OwnWalk
import Derived.Laws.BytesArg
import Derived.Laws.MakeOwn
import Derived.Laws.OwnMore
import Derived.Deep.OwnRows
import Derived.Tactics
import Derived.Lib.ConvBytes
import Derived.Laws.Slices
import Derived.WalkKit
import Derived.KernelRfl
import Derived.RowKit3
import Derived.Deep.LoopGhost
import Derived.Deep.QuietTactic
import Derived.BigQuiet
import Derived.WideLaws
import Derived.Deep.DeepCutAuto
import Derived.Deep.CutBlock
import Derived.Deep.RegionHeld3
import Derived.Laws.Rows
import Derived.Lib.AppendStr
import Derived.ArgAppend
import Derived.Laws.IdiomCopy
import Derived.OrdersHeld
import Derived.Laws.BitsLemmas
import Derived.RowKit
import Derived.Test.YthkmjfapljmmpaaStoreK
import Derived.Test.YthkmjfapljmmpaaShortK
import Derived.Test.YthkmjfapljmmpaaWWords
import Derived.Test.YthkmjfapljmmpaaWLast
import Derived.Test.YthkmjfapljmmpaaWTab
import Derived.Test.YthkmjfapljmmpaaWQPut
import Derived.Test.YthkmjfapljmmpaaWApart
import Derived.Test.YthkmjfapljmmpaaWArr
import Derived.Test.YthkmjfapljmmpaaWZeros
import Derived.Test.YthkmjfapljmmpaaWFoot
import Derived.Test.YthkmjfapljmmpaaWKept
import Derived.Test.YthkmjfapljmmpaaWShare
import Derived.Test.YthkmjfapljmmpaaWN
import Derived.Test.YthkmjfapljmmpaaWRepsOne
import Derived.Test.YthkmjfapljmmpaaWGuard
import Derived.Test.YthkmjfapljmmpaaWNEv
import Derived.Test.YthkmjfapljmmpaaWMore
namespace Go.Proofs.Ythkmjfapljmmpaa.PFnExactReadSome
open Go.RowKit Go.Proofs.YthkmjfapljmmpaaW.PrintWords Go.Proofs.YthkmjfapljmmpaaW.PrintLast Go.Proofs.YthkmjfapljmmpaaW.PrintMore
attribute [local go_sem] Go.Proofs.Ythkmjfapljmmpaa.StoreK.isSome_setCell max2_int min2_int max_two min_two max_three min_three max_four min_four   -- for this text's walks alone
set_option linter.unusedVariables false
set_option linter.unusedSimpArgs false



def errW : Option Int → Value
  | none => .nilIface
  | some c => .iface 0 (.int .i64 c)
theorem errW_none : errW none = .nilIface := rfl
theorem errW_some (c : Int) : errW (some c) = .iface 0 (.int .i64 c) := rfl

theorem info5 : (Try.prog.info? 5).map (fun i => (i.zero, i.size, i.bytes)) = some (some (.int .u8 0), 1, 1) := by kernel_rfl
theorem info177 : (Try.prog.info? 177).map (fun i => (i.zero, i.size, i.bytes)) = some (some (.agg #[(.int .i64 0), (.string ⟨#[]⟩)]), 2, 24) := by kernel_rfl
-- the values' own types
/-! #### struct type 218 -/
structure S218 where
  f0 : Int
  f1 : ByteArray
def z218 : S218 := ⟨(0 : Int), (⟨#[]⟩ : ByteArray)⟩
def k218 : Kd S218 := Kd.iso (Kd.pair (Kd.int .i64) Kd.string) (fun x : S218 => (x.f0, x.f1))
theorem k218_open {w : World} {x : S218} {cs : List Value} (h : k218.K w x cs) : cs = [.int .i64 x.f0, .string x.f1] := by
  obtain ⟨_, _, rfl, rfl, rfl⟩ := h
  exact rfl
theorem k218_openM {w : World} {base : Nat} {ok : Nat → Prop} {x : S218} {cs : List Value} (h : k218.M w base ok x cs) : cs = [.int .i64 x.f0, .string x.f1] := by
  obtain ⟨_, _, rfl, rfl, rfl⟩ := h
  exact rfl
theorem k218_mk (w : World) (x : S218)  : k218.K w x [.int .i64 x.f0, .string x.f1] := ⟨[.int .i64 x.f0], [.string x.f1], rfl, rfl, rfl⟩
theorem k218_mkM (w : World) (base : Nat) (ok : Nat → Prop) (x : S218)  : k218.M w base ok x [.int .i64 x.f0, .string x.f1] := ⟨[.int .i64 x.f0], [.string x.f1], rfl, rfl, rfl⟩
def rd_T218 (xs : List S218) (i : Int) : S218 := xs.getD i.toNat z218
theorem at_T218 {w : World} {A : Option Addr} {n : Nat} {xs : List S218} (h : Kd.C k218 w A n xs) (i : Int) (h0 : 0 ≤ i) (h1 : i < n) : ∃ ad , A = some ad ∧ w.cell? (ad.add (i.toNat * 2)) = some (.int .i64 (rd_T218 xs i).f0) ∧ w.cell? ⟨(ad.add (i.toNat * 2)).block, (ad.add (i.toNat * 2)).off + 1, none⟩ = some (.string (rd_T218 xs i).f1) := by
  obtain ⟨ad, c, e, _, hK, hc0⟩ := Kd.C_get h z218 i h0 h1
  have hc : ∀ j u, c[j]? = some u → w.cell? (ad.add (i.toNat * 2 + j)) = some u := hc0
  obtain rfl := k218_open hK
  exact ⟨ad, e, hc 0 _ rfl, by rw [← add_field _ _ 1 (by omega)]; exact hc 1 _ rfl⟩

/-! #### struct type 177 -/
structure S177 where
  f0 : Int
  f1 : ByteArray
def z177 : S177 := ⟨(0 : Int), (⟨#[]⟩ : ByteArray)⟩
def k177 : Kd S177 := Kd.iso (Kd.pair (Kd.int .i64) Kd.string) (fun x : S177 => (x.f0, x.f1))
theorem k177_open {w : World} {x : S177} {cs : List Value} (h : k177.K w x cs) : cs = [.int .i64 x.f0, .string x.f1] := by
  obtain ⟨_, _, rfl, rfl, rfl⟩ := h
  exact rfl
theorem k177_openM {w : World} {base : Nat} {ok : Nat → Prop} {x : S177} {cs : List Value} (h : k177.M w base ok x cs) : cs = [.int .i64 x.f0, .string x.f1] := by
  obtain ⟨_, _, rfl, rfl, rfl⟩ := h
  exact rfl
theorem k177_mk (w : World) (x : S177)  : k177.K w x [.int .i64 x.f0, .string x.f1] := ⟨[.int .i64 x.f0], [.string x.f1], rfl, rfl, rfl⟩
theorem k177_mkM (w : World) (base : Nat) (ok : Nat → Prop) (x : S177)  : k177.M w base ok x [.int .i64 x.f0, .string x.f1] := ⟨[.int .i64 x.f0], [.string x.f1], rfl, rfl, rfl⟩
def rd_T177 (xs : List S177) (i : Int) : S177 := xs.getD i.toNat z177
theorem at_T177 {w : World} {A : Option Addr} {n : Nat} {xs : List S177} (h : Kd.C k177 w A n xs) (i : Int) (h0 : 0 ≤ i) (h1 : i < n) : ∃ ad , A = some ad ∧ w.cell? (ad.add (i.toNat * 2)) = some (.int .i64 (rd_T177 xs i).f0) ∧ w.cell? ⟨(ad.add (i.toNat * 2)).block, (ad.add (i.toNat * 2)).off + 1, none⟩ = some (.string (rd_T177 xs i).f1) := by
  obtain ⟨ad, c, e, _, hK, hc0⟩ := Kd.C_get h z177 i h0 h1
  have hc : ∀ j u, c[j]? = some u → w.cell? (ad.add (i.toNat * 2 + j)) = some u := hc0
  obtain rfl := k177_open hK
  exact ⟨ad, e, hc 0 _ rfl, by rw [← add_field _ _ 1 (by omega)]; exact hc 1 _ rfl⟩

def rd_L5 (xs : List (List S177)) (i : Int) : (List S177) := xs.getD i.toNat ([] : List S177)
theorem at_L5 {w : World} {A : Option Addr} {n : Nat} {xs : List (List S177)} (h : Kd.C (Kd.slice 177 k177) w A n xs) (i : Int) (h0 : 0 ≤ i) (h1 : i < n) : ∃ ad A0 c0, A = some ad ∧ w.cell? (ad.add i.toNat) = some (.slice A0 (rd_L5 xs i).length c0) ∧ (rd_L5 xs i).length ≤ c0 ∧ k177.C w A0 (rd_L5 xs i).length (rd_L5 xs i) := by
  obtain ⟨ad, c, e, _, hK, hc0⟩ := Kd.C_get h ([] : List S177) i h0 h1
  have hc : ∀ j u, c[j]? = some u → w.cell? (ad.add (i.toNat * 1 + j)) = some u := hc0
  obtain ⟨A0, c0, rfl, l0, g0⟩ := hK
  exact ⟨ad, A0, c0, e, by have hq := hc 0 _ rfl; rwa [Nat.mul_one, Nat.add_zero] at hq, l0, g0⟩

end Go.Proofs.Ythkmjfapljmmpaa.PFnExactReadSome
