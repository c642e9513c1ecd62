/- The shelf's contract of strings.Trim, laid at this dump in plain declarations (by the kit's lay-shelf and lay-plain), and the contract of impl.over out of it: are all the bytes of a text among the signs? -/
import Derived.Shelf.Strings.SlTrimAscii
import Derived.WalkKit
import Derived.Below
import Derived.Test.YtjmakjddhbdocaaDoorProg
namespace Go.Proofs.YtjmakjddhbdocaaDoor.TrimLaid
open Go.Proofs Go.Shelf Go.RowKit
def lays160_ren : Go.Shelf.Ren := ⟨fun | 160 => 33 | 232 => 39 | 231 => 38 | 227 => 40 | 234 => 42 | 233 => 41 | 236 => 44 | 235 => 43 | 228 => 49 | 271 => 52 | 151 => 51 | 197 => 50 | 120 => 55 | 152 => 54 | 260 => 53 | 137 => 56 | 119 => 57 | 224 => 58 | 225 => 59 | 217 => 60 | 266 => 61 | n => n, fun | 9 => 9 | 4 => 4 | 3 => 3 | 5 => 5 | 117 => 57 | 116 => 56 | 0 => 0 | 124 => 60 | 21 => 21 | 105 => 66 | 46 => 52 | 119 => 70 | 139 => 73 | 138 => 72 | n => n, fun | 3 => 0 | 4 => 1 | n => n⟩
theorem lays160 : Go.Proofs.Lays.n160 Tryd.prog lays160_ren := {
  mixed := by kernel_rfl
  f119 := Tryd.func57.trans (congrArg some (by kernel_rfl))
  f120 := Tryd.func55.trans (congrArg some (by kernel_rfl))
  f137 := Tryd.func56.trans (congrArg some (by kernel_rfl))
  f151 := Tryd.func51.trans (congrArg some (by kernel_rfl))
  f152 := Tryd.func54.trans (congrArg some (by kernel_rfl))
  f160 := Tryd.func33.trans (congrArg some (by kernel_rfl))
  f197 := Tryd.func50.trans (congrArg some (by kernel_rfl))
  f217 := Tryd.func60.trans (congrArg some (by kernel_rfl))
  f224 := Tryd.func58.trans (congrArg some (by kernel_rfl))
  f225 := Tryd.func59.trans (congrArg some (by kernel_rfl))
  f227 := Tryd.func40.trans (congrArg some (by kernel_rfl))
  f228 := Tryd.func49.trans (congrArg some (by kernel_rfl))
  f231 := Tryd.func38.trans (congrArg some (by kernel_rfl))
  f232 := Tryd.func39.trans (congrArg some (by kernel_rfl))
  f233 := Tryd.func41.trans (congrArg some (by kernel_rfl))
  f234 := Tryd.func42.trans (congrArg some (by kernel_rfl))
  f235 := Tryd.func43.trans (congrArg some (by kernel_rfl))
  f236 := Tryd.func44.trans (congrArg some (by kernel_rfl))
  f260 := Tryd.func53.trans (congrArg some (by kernel_rfl))
  f266 := Tryd.func61.trans (congrArg some (by kernel_rfl))
  f271 := Tryd.func52.trans (congrArg some (by kernel_rfl))
  t0 := Tryd.underlying0
  a0 := Tryd.isAgg0
  z0 := Tryd.sizeOf0
  v0 := Tryd.zeroValue0
  t3 := Tryd.underlying3
  a3 := Tryd.isAgg3
  z3 := Tryd.sizeOf3
  v3 := Tryd.zeroValue3
  t4 := Tryd.underlying4
  a4 := Tryd.isAgg4
  z4 := Tryd.sizeOf4
  v4 := Tryd.zeroValue4
  t5 := Tryd.underlying5
  a5 := Tryd.isAgg5
  z5 := Tryd.sizeOf5
  v5 := Tryd.zeroValue5
  t9 := Tryd.underlying9
  a9 := Tryd.isAgg9
  z9 := Tryd.sizeOf9
  v9 := Tryd.zeroValue9
  t21 := Tryd.underlying21
  a21 := Tryd.isAgg21
  z21 := Tryd.sizeOf21
  v21 := Tryd.zeroValue21
  t46 := Tryd.underlying52
  a46 := Tryd.isAgg52
  z46 := Tryd.sizeOf52
  v46 := Tryd.zeroValue52
  t105 := Tryd.underlying66
  a105 := Tryd.isAgg66
  z105 := Tryd.sizeOf66
  v105 := Tryd.zeroValue66
  t116 := Tryd.underlying56
  a116 := Tryd.isAgg56
  z116 := Tryd.sizeOf56
  t117 := Tryd.underlying57
  a117 := Tryd.isAgg57
  z117 := Tryd.sizeOf57
  v117 := Tryd.zeroValue57
  t119 := Tryd.underlying70
  a119 := Tryd.isAgg70
  z119 := Tryd.sizeOf70
  t124 := Tryd.underlying60
  a124 := Tryd.isAgg60
  z124 := Tryd.sizeOf60
  v124 := Tryd.zeroValue60
  t138 := Tryd.underlying72
  a138 := Tryd.isAgg72
  z138 := Tryd.sizeOf72
  v138 := Tryd.zeroValue72
  t139 := Tryd.underlying73
  a139 := Tryd.isAgg73
  z139 := Tryd.sizeOf73
  v139 := Tryd.zeroValue73
  g3 := by kernel_rfl
  g4 := by kernel_rfl }
theorem strings_Trim_calls (s cutset : ByteArray) (w : World) (hs : s.size ≤ 9223372036854775807) (hcs : cutset.size < 4294967281) (hascii : cutset.data.toList.all (fun b => decide (b.toNat < 128)) = true) :
    Calls Tryd.prog 33 #[.string s, .string cutset] w fun e w' => e = .returned (.string ⟨(Lib.trimS s.data.toList cutset.data.toList).toArray⟩) ∧ Below w.heap.size w w' :=
  Any.strings_Trim_laid lays160 (by kernel_rfl) s cutset w hs hcs (ascii_of_all hascii)
theorem dropWhile_nil {α : Type} (p : α → Bool) : ∀ l : List α, l.dropWhile p = [] ↔ ∀ x, x ∈ l → p x = true
  | [] => by simp
  | a :: l => by
    rw [List.dropWhile_cons]
    by_cases h : p a = true
    · rw [if_pos h, dropWhile_nil p l]
      simp [h]
    · rw [if_neg h]
      simp [h]
/-- Nothing is left of a text cut at both ends just where all its bytes are of the set. -/
theorem trimS_nil (l cs : List UInt8) : Lib.trimS l cs = [] ↔ ∀ x, x ∈ l → cs.contains x = true := by
  unfold Lib.trimS Lib.trimLeftS Lib.trimRightS
  rw [dropWhile_nil]
  constructor
  · intro h x hx
    by_cases hd : l.reverse.dropWhile (cs.contains ·) = []
    · exact (dropWhile_nil _ _).1 hd x (by simpa using hx)
    · exfalso
      have h2 := List.head_dropWhile_not (p := (cs.contains ·)) (l := l.reverse) hd
      have h3 := h _ (List.mem_reverse.2 (List.head_mem hd))
      rw [h3] at h2
      cases h2
  · intro h x hx
    exact h x (by
      have h2 := List.mem_reverse.1 hx
      have h3 := (List.dropWhile_sublist (l := l.reverse) (cs.contains ·)).subset h2
      simpa using h3)
theorem isEmpty_eq (q : ByteArray) : q.toList.isEmpty = decide (q = ⟨#[]⟩) := by
  rw [ByteArray.toList_eq, Bool.eq_iff_iff, decide_eq_true_eq, List.isEmpty_iff]
  constructor
  · intro h
    apply ByteArray.ext
    exact Array.toList_inj.1 h
  · intro h
    rw [h]
/-- Are all the bytes of s among the signs? -/
def overAll (s signs : ByteArray) : Bool := s.data.toList.all (fun x => signs.data.toList.contains x)
def overF (s signs : ByteArray) : Option Bool := if s.size ≤ 9223372036854775807 ∧ signs.size < 4294967281 ∧ signs.data.toList.all (fun b => decide (b.toNat < 128)) = true then some (overAll s signs) else none
set_option maxHeartbeats 1000000 in
theorem over_calls (s signs : ByteArray) (r : Bool) (w : World) (h : overF s signs = some r) :
    Calls Tryd.prog 29 #[.string s, .string signs] w fun e w' => e = .returned (.bool r) ∧ Below w.heap.size w w' := by
  have hs : (s.size ≤ 9223372036854775807 ∧ signs.size < 4294967281 ∧ signs.data.toList.all (fun b => decide (b.toNat < 128)) = true) ∧ overAll s signs = r := by
    unfold overF at h
    split at h
    · exact ⟨by assumption, Option.some.inj h⟩
    · cases h
  clear h
  obtain ⟨⟨h1, h2, h3⟩, rfl⟩ := hs
  have hcon := fun W => strings_Trim_calls s signs W h1 h2 h3
  have hq : overAll s signs = decide ((⟨(Lib.trimS s.data.toList signs.data.toList).toArray⟩ : ByteArray) = ⟨#[]⟩) := by
    rw [Bool.eq_iff_iff, decide_eq_true_eq]
    unfold overAll
    rw [List.all_eq_true]
    refine Iff.trans (trimS_nil _ _).symm ⟨fun h => by rw [h], fun h => ?_⟩
    have := congrArg (fun z : ByteArray => z.data.toList) h
    simpa using this
  rw [hq]
  clear hq h1 h2 h3
  generalize (⟨(Lib.trimS s.data.toList signs.data.toList).toArray⟩ : ByteArray) = q at hcon ⊢
  go_enter Tryd.func29, Tryd.ntmps29
  go_wp2_with (go_at_call 33; refine (hcon _).mono ?_; rintro e w' ⟨rfl, hB⟩)
  go_ret
  exact ⟨by simp [isEmpty_eq], hB⟩
end Go.Proofs.YtjmakjddhbdocaaDoor.TrimLaid
