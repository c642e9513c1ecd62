/- The shelf's contract of strings.Trim, laid at this dump in plain declarations (by the kit's lay-shelf and lay-plain), and the contract of impl.over out of it: are all the bytes of a text among the signs? -/
import Derived.Shelf.Strings.SlTrimAscii
import Derived.WalkKit
import Derived.Below
import Derived.Test.YtilkginahmfagaaDoorProg
namespace Go.Proofs.YtilkginahmfagaaDoor.TrimLaid
open Go.Proofs Go.Shelf Go.RowKit
def lays160_ren : Go.Shelf.Ren := ⟨fun | 160 => 130 | 232 => 150 | 231 => 149 | 227 => 151 | 234 => 153 | 233 => 152 | 236 => 155 | 235 => 154 | 228 => 165 | 271 => 168 | 151 => 167 | 197 => 166 | 120 => 176 | 152 => 175 | 260 => 174 | 137 => 120 | 119 => 179 | 224 => 140 | 225 => 139 | 217 => 138 | 266 => 157 | n => n, fun | 9 => 9 | 4 => 4 | 3 => 3 | 5 => 5 | 117 => 164 | 116 => 163 | 0 => 0 | 124 => 167 | 21 => 21 | 105 => 183 | 46 => 127 | 119 => 192 | 139 => 195 | 138 => 194 | n => n, fun | 3 => 4 | 4 => 5 | n => n⟩
theorem lays160 : Go.Proofs.Lays.n160 Tryd.prog lays160_ren := {
  mixed := by kernel_rfl
  f119 := Tryd.func179.trans (congrArg some (by kernel_rfl))
  f120 := Tryd.func176.trans (congrArg some (by kernel_rfl))
  f137 := Tryd.func120.trans (congrArg some (by kernel_rfl))
  f151 := Tryd.func167.trans (congrArg some (by kernel_rfl))
  f152 := Tryd.func175.trans (congrArg some (by kernel_rfl))
  f160 := Tryd.func130.trans (congrArg some (by kernel_rfl))
  f197 := Tryd.func166.trans (congrArg some (by kernel_rfl))
  f217 := Tryd.func138.trans (congrArg some (by kernel_rfl))
  f224 := Tryd.func140.trans (congrArg some (by kernel_rfl))
  f225 := Tryd.func139.trans (congrArg some (by kernel_rfl))
  f227 := Tryd.func151.trans (congrArg some (by kernel_rfl))
  f228 := Tryd.func165.trans (congrArg some (by kernel_rfl))
  f231 := Tryd.func149.trans (congrArg some (by kernel_rfl))
  f232 := Tryd.func150.trans (congrArg some (by kernel_rfl))
  f233 := Tryd.func152.trans (congrArg some (by kernel_rfl))
  f234 := Tryd.func153.trans (congrArg some (by kernel_rfl))
  f235 := Tryd.func154.trans (congrArg some (by kernel_rfl))
  f236 := Tryd.func155.trans (congrArg some (by kernel_rfl))
  f260 := Tryd.func174.trans (congrArg some (by kernel_rfl))
  f266 := Tryd.func157.trans (congrArg some (by kernel_rfl))
  f271 := Tryd.func168.trans (congrArg some (by kernel_rfl))
  t0 := Tryd.underlying0
  a0 := Tryd.isAgg0
  z0 := Tryd.sizeOf0
  v0 := Tryd.zeroValue0
  t3 := Tryd.underlying3
  a3 := Tryd.isAgg3
  z3 := Tryd.sizeOf3
  v3 := Tryd.zeroValue3
  t4 := Tryd.underlying4
  a4 := Tryd.isAgg4
  z4 := Tryd.sizeOf4
  v4 := Tryd.zeroValue4
  t5 := Tryd.underlying5
  a5 := Tryd.isAgg5
  z5 := Tryd.sizeOf5
  v5 := Tryd.zeroValue5
  t9 := Tryd.underlying9
  a9 := Tryd.isAgg9
  z9 := Tryd.sizeOf9
  v9 := Tryd.zeroValue9
  t21 := Tryd.underlying21
  a21 := Tryd.isAgg21
  z21 := Tryd.sizeOf21
  v21 := Tryd.zeroValue21
  t46 := Tryd.underlying127
  a46 := Tryd.isAgg127
  z46 := Tryd.sizeOf127
  v46 := Tryd.zeroValue127
  t105 := Tryd.underlying183
  a105 := Tryd.isAgg183
  z105 := Tryd.sizeOf183
  v105 := Tryd.zeroValue183
  t116 := Tryd.underlying163
  a116 := Tryd.isAgg163
  z116 := Tryd.sizeOf163
  t117 := Tryd.underlying164
  a117 := Tryd.isAgg164
  z117 := Tryd.sizeOf164
  v117 := Tryd.zeroValue164
  t119 := Tryd.underlying192
  a119 := Tryd.isAgg192
  z119 := Tryd.sizeOf192
  t124 := Tryd.underlying167
  a124 := Tryd.isAgg167
  z124 := Tryd.sizeOf167
  v124 := Tryd.zeroValue167
  t138 := Tryd.underlying194
  a138 := Tryd.isAgg194
  z138 := Tryd.sizeOf194
  v138 := Tryd.zeroValue194
  t139 := Tryd.underlying195
  a139 := Tryd.isAgg195
  z139 := Tryd.sizeOf195
  v139 := Tryd.zeroValue195
  g3 := by kernel_rfl
  g4 := by kernel_rfl }
theorem strings_Trim_calls (s cutset : ByteArray) (w : World) (hs : s.size ≤ 9223372036854775807) (hcs : cutset.size < 4294967281) (hascii : cutset.data.toList.all (fun b => decide (b.toNat < 128)) = true) :
    Calls Tryd.prog 130 #[.string s, .string cutset] w fun e w' => e = .returned (.string ⟨(Lib.trimS s.data.toList cutset.data.toList).toArray⟩) ∧ Below w.heap.size w w' :=
  Any.strings_Trim_laid lays160 (by kernel_rfl) s cutset w hs hcs (ascii_of_all hascii)
theorem dropWhile_nil {α : Type} (p : α → Bool) : ∀ l : List α, l.dropWhile p = [] ↔ ∀ x, x ∈ l → p x = true
  | [] => by simp
  | a :: l => by
    rw [List.dropWhile_cons]
    by_cases h : p a = true
    · rw [if_pos h, dropWhile_nil p l]
      simp [h]
    · rw [if_neg h]
      simp [h]
/-- Nothing is left of a text cut at both ends just where all its bytes are of the set. -/
theorem trimS_nil (l cs : List UInt8) : Lib.trimS l cs = [] ↔ ∀ x, x ∈ l → cs.contains x = true := by
  unfold Lib.trimS Lib.trimLeftS Lib.trimRightS
  rw [dropWhile_nil]
  constructor
  · intro h x hx
    by_cases hd : l.reverse.dropWhile (cs.contains ·) = []
    · exact (dropWhile_nil _ _).1 hd x (by simpa using hx)
    · exfalso
      have h2 := List.head_dropWhile_not (p := (cs.contains ·)) (l := l.reverse) hd
      have h3 := h _ (List.mem_reverse.2 (List.head_mem hd))
      rw [h3] at h2
      cases h2
  · intro h x hx
    exact h x (by
      have h2 := List.mem_reverse.1 hx
      have h3 := (List.dropWhile_sublist (l := l.reverse) (cs.contains ·)).subset h2
      simpa using h3)
theorem isEmpty_eq (q : ByteArray) : q.toList.isEmpty = decide (q = ⟨#[]⟩) := by
  rw [ByteArray.toList_eq, Bool.eq_iff_iff, decide_eq_true_eq, List.isEmpty_iff]
  constructor
  · intro h
    apply ByteArray.ext
    exact Array.toList_inj.1 h
  · intro h
    rw [h]
/-- Are all the bytes of s among the signs? -/
def overAll (s signs : ByteArray) : Bool := s.data.toList.all (fun x => signs.data.toList.contains x)
def overF (s signs : ByteArray) : Option Bool := if s.size ≤ 9223372036854775807 ∧ signs.size < 4294967281 ∧ signs.data.toList.all (fun b => decide (b.toNat < 128)) = true then some (overAll s signs) else none
set_option maxHeartbeats 1000000 in
theorem over_calls (s signs : ByteArray) (r : Bool) (w : World) (h : overF s signs = some r) :
    Calls Tryd.prog 101 #[.string s, .string signs] w fun e w' => e = .returned (.bool r) ∧ Below w.heap.size w w' := by
  have hs : (s.size ≤ 9223372036854775807 ∧ signs.size < 4294967281 ∧ signs.data.toList.all (fun b => decide (b.toNat < 128)) = true) ∧ overAll s signs = r := by
    unfold overF at h
    split at h
    · exact ⟨by assumption, Option.some.inj h⟩
    · cases h
  clear h
  obtain ⟨⟨h1, h2, h3⟩, rfl⟩ := hs
  have hcon := fun W => strings_Trim_calls s signs W h1 h2 h3
  have hq : overAll s signs = decide ((⟨(Lib.trimS s.data.toList signs.data.toList).toArray⟩ : ByteArray) = ⟨#[]⟩) := by
    rw [Bool.eq_iff_iff, decide_eq_true_eq]
    unfold overAll
    rw [List.all_eq_true]
    refine Iff.trans (trimS_nil _ _).symm ⟨fun h => by rw [h], fun h => ?_⟩
    have := congrArg (fun z : ByteArray => z.data.toList) h
    simpa using this
  rw [hq]
  clear hq h1 h2 h3
  generalize (⟨(Lib.trimS s.data.toList signs.data.toList).toArray⟩ : ByteArray) = q at hcon ⊢
  go_enter Tryd.func101, Tryd.ntmps101
  go_wp2_with (go_at_call 130; refine (hcon _).mono ?_; rintro e w' ⟨rfl, hB⟩)
  go_ret
  exact ⟨by simp [isEmpty_eq], hB⟩
end Go.Proofs.YtilkginahmfagaaDoor.TrimLaid
