-- Written by a program of this session (wip/xprint.py).
import Derived.Test.YthkmjfapljmmpaaPFnExactHeaderBytesx0
import Derived.Test.YthkmjfapljmmpaaPFnExactHeaderBytesx6
import Derived.Test.YthkmjfapljmmpaaPFnExactHeaderBytesx7
namespace Go.Proofs.Ythkmjfapljmmpaa.PFnExactHeaderBytes
open Go.RowKit Go.Proofs.YthkmjfapljmmpaaW.PrintWords Go.Proofs.YthkmjfapljmmpaaW.PrintLast Go.Proofs.YthkmjfapljmmpaaW.PrintMore
attribute [local go_sem] Go.Proofs.Ythkmjfapljmmpaa.StoreK.isSome_setCell max2_int min2_int max_two min_two max_three min_three max_four min_four   -- for this text's walks alone
set_option linter.unusedVariables false
set_option linter.unusedSimpArgs false

/-! ### impl_Header_bytes: function 134 -/
/-- Two texts, one behind the other. -/
def hcat (a b : ByteArray) : Option ByteArray := if a.size + b.size ≤ 9223372036854775807 then some (a ++ b) else none
theorem hcat_some {a b r : ByteArray} (h : hcat a b = some r) : r = a ++ b ∧ (9223372036854775807 < a.size + b.size) = False := by
  unfold hcat at h
  split at h
  · exact ⟨(Option.some.inj h).symm, eq_false (Nat.not_lt.2 (by assumption))⟩
  · cases h
/-- The versions' bytes behind a text. -/
def vloop (k : Nat) : ByteArray → List Int → Option ByteArray
  | s, [] => some s
  | s, v :: r => (impl_bigEndian.f k v 4).bind fun b => (hcat s b).bind fun s' => vloop k s' r
def hbody (k : Nat) (s0_0 : Int) (s0_1 : Int) (s0_2 : Int) (s0_3 : ByteArray) (s0_4 : ByteArray) (s0_5 : ByteArray) (s0_6 : ByteArray) (s0_7 : List Int) : Option ByteArray :=
  if s0_0 = 5 then (impl_bigEndian.f k (64 + s0_1) 1).bind fun a => (hcat a s0_3).bind fun b => hcat b s0_6
  else if s0_0 = 4 then (impl_bigEndian.f k (192 + s0_1) 1).bind fun a => (impl_bigEndian.f k 0 4).bind fun z => (hcat a z).bind fun b => (impl_Header_ids.f k s0_0 s0_1 s0_2 s0_3 s0_4 s0_5 s0_6 s0_7).bind fun i => (hcat b i.1).bind fun o => vloop k o s0_7
  else (impl_bigEndian.f k (192 + 16 * s0_0 + s0_1) 1).bind fun a => (impl_bigEndian.f k s0_2 4).bind fun v => (hcat a v).bind fun b => (impl_Header_ids.f k s0_0 s0_1 s0_2 s0_3 s0_4 s0_5 s0_6 s0_7).bind fun i => (hcat b i.1).bind fun o0 =>
    (if s0_0 = 0 then (impl_counted.f k s0_5).bind fun c => hcat o0 c else some o0).bind fun o1 => (if s0_0 = 3 then some o1 else (impl_bigEndian.f k (16384 + (s0_6.size : Int)) 2).bind fun p => hcat o1 p).bind fun o2 => hcat o2 s0_6
instance (l : List Int) : Decidable (∀ v, v ∈ l → 0 ≤ v ∧ v ≤ 4294967295) := inferInstance
def impl_Header_bytes.f (k : Nat) (s0_0 : Int) (s0_1 : Int) (s0_2 : Int) (s0_3 : ByteArray) (s0_4 : ByteArray) (s0_5 : ByteArray) (s0_6 : ByteArray) (s0_7 : List Int) : Option (ByteArray × Int × Int × Int × ByteArray × ByteArray × ByteArray × ByteArray) := if (0 ≤ s0_0 ∧ s0_0 ≤ 5) ∧ (0 ≤ s0_1 ∧ s0_1 ≤ 15) ∧ (0 ≤ s0_2 ∧ s0_2 ≤ 4294967295) ∧ s0_6.size ≤ 1200 ∧ s0_7.length ≤ 4611686018427387904 ∧ ∀ v, v ∈ s0_7 → 0 ≤ v ∧ v ≤ 4294967295 then (hbody k s0_0 s0_1 s0_2 s0_3 s0_4 s0_5 s0_6 s0_7).bind fun r => some (r, s0_0, s0_1, s0_2, s0_3, s0_4, s0_5, s0_6) else none
theorem vloop_mono (k : Nat) : ∀ (l : List Int) (s : ByteArray), LeO (vloop k s l) (vloop (k + 1) s l)
  | [], _ => LeO.refl _
  | v :: r, s => by
    unfold vloop
    exact LeO.bind (impl_bigEndian.mono _ _ _) (fun _ => LeO.bind (LeO.refl _) (fun _ => vloop_mono k r _))
theorem impl_Header_bytes.mono : ∀ a0 a1 a2 a3 a4 a5 a6 a7 k, LeO (impl_Header_bytes.f k a0 a1 a2 a3 a4 a5 a6 a7) (impl_Header_bytes.f (k + 1) a0 a1 a2 a3 a4 a5 a6 a7) := by
  intro a0 a1 a2 a3 a4 a5 a6 a7 k
  unfold impl_Header_bytes.f hbody
  refine LeO.ite (LeO.bind ?_ (fun _ => LeO.refl _)) (LeO.refl _)
  refine LeO.ite (LeO.bind (impl_bigEndian.mono _ _ _) (fun _ => LeO.refl _)) (LeO.ite ?_ ?_)
  · exact LeO.bind (impl_bigEndian.mono _ _ _) (fun _ => LeO.bind (impl_bigEndian.mono _ _ _) (fun _ => LeO.bind (LeO.refl _) (fun _ => LeO.bind (impl_Header_ids.mono _ _ _ _ _ _ _ _ _) (fun _ => LeO.bind (LeO.refl _) (fun _ => vloop_mono _ _ _)))))
  · exact LeO.bind (impl_bigEndian.mono _ _ _) (fun _ => LeO.bind (impl_bigEndian.mono _ _ _) (fun _ => LeO.bind (LeO.refl _) (fun _ => LeO.bind (impl_Header_ids.mono _ _ _ _ _ _ _ _ _) (fun _ => LeO.bind (LeO.refl _) (fun _ => LeO.bind (LeO.ite (LeO.bind (impl_counted.mono _ _) (fun _ => LeO.refl _)) (LeO.refl _)) (fun _ => LeO.bind (LeO.ite (LeO.refl _) (LeO.bind (impl_bigEndian.mono _ _ _) (fun _ => LeO.refl _))) (fun _ => LeO.refl _)))))))
set_option maxHeartbeats 16000000 in
set_option maxRecDepth 100000 in
theorem hbytes5 (k : Nat) (g : Nat) (s0_0 : Int) (s0_1 : Int) (s0_2 : Int) (s0_3 : ByteArray) (s0_4 : ByteArray) (s0_5 : ByteArray) (s0_6 : ByteArray) (s0_7 : List Int) (r : ByteArray) (w : World) (A7 : Option Addr) (c7 : Nat) (hb0 : w.heap[g]? = some (.cells #[.int .i64 s0_0, .int .i64 s0_1, .int .i64 s0_2, .string s0_3, .string s0_4, .string s0_5, .string s0_6, .slice A7 s0_7.length c7] 95 (0, 0))) (hp : (0 ≤ s0_0 ∧ s0_0 ≤ 5) ∧ (0 ≤ s0_1 ∧ s0_1 ≤ 15) ∧ (0 ≤ s0_2 ∧ s0_2 ≤ 4294967295) ∧ s0_6.size ≤ 1200 ∧ s0_7.length ≤ 4611686018427387904 ∧ ∀ v, v ∈ s0_7 → 0 ≤ v ∧ v ≤ 4294967295) (h0 : s0_0 = 5) (h : hbody k s0_0 s0_1 s0_2 s0_3 s0_4 s0_5 s0_6 s0_7 = some r) :
    Calls Try.prog 134 #[.pointer (some ⟨g, 0, none⟩)] w fun e w' => e = .returned (.string r) ∧ Below w.heap.size w w' := by
  obtain ⟨p0, p1, p2, p6, p7, p8⟩ := hp
  subst h0
  have w1 : IntKind.i64.wrap (64 + s0_1) = 64 + s0_1 := by rw [i64_w]; unfold wrap64; omega
  have u1 : IntKind.u64.wrap (64 + s0_1) = 64 + s0_1 := by simp only [IntKind.wrap, IntKind.signed, IntKind.bits]; simp; omega
  unfold hbody at h
  rw [if_pos rfl] at h
  obtain ⟨a, A1, H⟩ := Option.bind_eq_some_iff.mp h
  obtain ⟨b, A2, H⟩ := Option.bind_eq_some_iff.mp H
  obtain ⟨rfl, z1⟩ := hcat_some A2
  obtain ⟨rfl, z2⟩ := hcat_some H
  rw [ByteArray.size_append] at z2
  have HA := Aside0.mk A1
  have HC := Aside0.mk hb0
  have HB := Aside0.mk (Below.refl w.heap.size w)
  clear A1 A2 H h hb0 p8
  obtain ⟨q0, q1, q2, q3, q4, q5, q6, q7⟩ := Go.Proofs.Ythkmjfapljmmpaa.ShortK.cz8 HC
  go_enter Try.func134, Try.ntmps134
  go_wp2_with fail
  clear q0 q1 q2 q3 q4 q5 q6 q7
  refine start_ (n := 18) (S := fun w' => w'.cell? ⟨g, 0, none⟩ = some (.int .i64 5) ∧ w'.cell? ⟨g, 1, none⟩ = some (.int .i64 s0_1) ∧ w'.cell? ⟨g, 2, none⟩ = some (.int .i64 s0_2) ∧ w'.cell? ⟨g, 3, none⟩ = some (.string s0_3) ∧ w'.cell? ⟨g, 4, none⟩ = some (.string s0_4) ∧ w'.cell? ⟨g, 5, none⟩ = some (.string s0_5) ∧ w'.cell? ⟨g, 6, none⟩ = some (.string s0_6) ∧ w'.cell? ⟨g, 7, none⟩ = some (.slice A7 s0_7.length c7)) (ds := []) (Go.Proofs.Ythkmjfapljmmpaa.StoreK.bm 18 0) (by kernel_rfl) rfl rfl ⟨(blk_cell (blk_drew HC.out) 0).trans rfl, (blk_cell (blk_drew HC.out) 1).trans rfl, (blk_cell (blk_drew HC.out) 2).trans rfl, (blk_cell (blk_drew HC.out) 3).trans rfl, (blk_cell (blk_drew HC.out) 4).trans rfl, (blk_cell (blk_drew HC.out) 5).trans rfl, (blk_cell (blk_drew HC.out) 6).trans rfl, (blk_cell (blk_drew HC.out) 7).trans rfl⟩ (fun hHeld => ?_)
  have HC0 := Aside0.mk (blk_drew HC.out)
  have HB0 := Aside0.mk (below_drew HB.out)
  clear HC HB
  generalize w.drew = w9 at HC0 HB0 hHeld ⊢
  refine pure_ (i := 0) (N := some 13) (v := ?_) (a' := ?_) (Go.Proofs.Ythkmjfapljmmpaa.StoreK.bm 18 1) rfl rfl (by kernel_rfl) (fun _ _ _ h => h) (Or.inl ⟨by rfl, ?_⟩) ?_ ?_
  rotate_left
  · intro w'
    go_simp
    with_reducible rfl
  rotate_left
  · simp only [Act.put, List.setIfInBounds_toArray, List.set_cons_zero, List.set_cons_succ, i64_w, i32_w]
    rfl
  refine pure_ (i := 1) (N := some 14) (v := ?_) (a' := ?_) (Go.Proofs.Ythkmjfapljmmpaa.StoreK.bm 18 3) rfl rfl (by kernel_rfl) (fun _ _ _ h => h) (Or.inl ⟨by rfl, ?_⟩) ?_ ?_
  rotate_left
  · intro w'
    go_simp
    with_reducible rfl
  rotate_left
  · simp only [Act.put, List.setIfInBounds_toArray, List.set_cons_zero, List.set_cons_succ, i64_w, i32_w]
    rfl
  refine pure_ (i := 2) (N := some 15) (v := ?_) (a' := ?_) (Go.Proofs.Ythkmjfapljmmpaa.StoreK.bm 18 7) rfl rfl (by kernel_rfl) (fun _ _ _ h => h) (Or.inl ⟨by rfl, ?_⟩) ?_ ?_
  rotate_left
  · intro w'
    go_simp
    with_reducible rfl
  rotate_left
  · simp only [Act.put, List.setIfInBounds_toArray, List.set_cons_zero, List.set_cons_succ, i64_w, i32_w]
    rfl
  refine take_ (i := 3) (N := some 16) (v := ?_) (a' := ?_) (Go.Proofs.Ythkmjfapljmmpaa.StoreK.bm 18 15) rfl rfl (by kernel_rfl) (fun _ _ _ h => h) (Or.inl ⟨by rfl, ?_⟩) hHeld ?_ ?_
  rotate_left
  · rintro w' ⟨s0, s1, s2, s3, s4, s5, s6, s7⟩
    go_simp
    with_reducible rfl
  rotate_left
  · simp only [Act.put, List.setIfInBounds_toArray, List.set_cons_zero, List.set_cons_succ, i64_w, i32_w]
    rfl
  refine pure_ (i := 4) (N := some 17) (v := ?_) (a' := ?_) (Go.Proofs.Ythkmjfapljmmpaa.StoreK.bm 18 31) rfl rfl (by kernel_rfl) (fun _ _ _ h => h) (Or.inl ⟨by rfl, ?_⟩) ?_ ?_
  rotate_left
  · intro w'
    go_simp
    with_reducible rfl
  rotate_left
  · simp only [Act.put, List.setIfInBounds_toArray, List.set_cons_zero, List.set_cons_succ, i64_w, i32_w]
    rfl
  refine pure_ (i := 5) (N := some 18) (v := ?_) (a' := ?_) (Go.Proofs.Ythkmjfapljmmpaa.StoreK.bm 18 63) rfl rfl (by kernel_rfl) (fun _ _ _ h => h) (Or.inl ⟨by rfl, ?_⟩) ?_ ?_
  rotate_left
  · intro w'
    go_simp
    with_reducible rfl
  rotate_left
  · simp only [Act.put, List.setIfInBounds_toArray, List.set_cons_zero, List.set_cons_succ, i64_w, i32_w]
    rfl
  refine pure_ (i := 7) (N := some 20) (v := ?_) (a' := ?_) (Go.Proofs.Ythkmjfapljmmpaa.StoreK.bm 18 191) rfl rfl (by kernel_rfl) (fun _ _ _ h => h) (Or.inl ⟨by rfl, ?_⟩) ?_ ?_
  rotate_left
  · intro w'
    go_simp
    with_reducible rfl
  rotate_left
  · simp only [Act.put, List.setIfInBounds_toArray, List.set_cons_zero, List.set_cons_succ, i64_w, i32_w]
    rfl
  refine pure_ (i := 8) (N := some 21) (v := ?_) (a' := ?_) (Go.Proofs.Ythkmjfapljmmpaa.StoreK.bm 18 447) rfl rfl (by kernel_rfl) (fun _ _ _ h => h) (Or.inl ⟨by rfl, ?_⟩) ?_ ?_
  rotate_left
  · intro w'
    go_simp
    with_reducible rfl
  rotate_left
  · simp only [Act.put, List.setIfInBounds_toArray, List.set_cons_zero, List.set_cons_succ, i64_w, i32_w]
    rfl
  refine pure_ (i := 9) (N := some 22) (v := ?_) (a' := ?_) (Go.Proofs.Ythkmjfapljmmpaa.StoreK.bm 18 959) rfl rfl (by kernel_rfl) (fun _ _ _ h => h) (Or.inl ⟨by rfl, ?_⟩) ?_ ?_
  rotate_left
  · intro w'
    go_simp
    with_reducible rfl
  rotate_left
  · simp only [Act.put, List.setIfInBounds_toArray, List.set_cons_zero, List.set_cons_succ, i64_w, i32_w]
    rfl
  refine take_ (i := 10) (N := some 23) (v := ?_) (a' := ?_) (Go.Proofs.Ythkmjfapljmmpaa.StoreK.bm 18 1983) rfl rfl (by kernel_rfl) (fun _ _ _ h => h) (Or.inl ⟨by rfl, ?_⟩) hHeld ?_ ?_
  rotate_left
  · rintro w' ⟨s0, s1, s2, s3, s4, s5, s6, s7⟩
    go_simp
    with_reducible rfl
  rotate_left
  · simp only [Act.put, List.setIfInBounds_toArray, List.set_cons_zero, List.set_cons_succ, i64_w, i32_w]
    rfl
  refine pure_ (i := 12) (N := some 25) (v := ?_) (a' := ?_) (Go.Proofs.Ythkmjfapljmmpaa.StoreK.bm 18 6079) rfl rfl (by kernel_rfl) (fun _ _ _ h => h) (Or.inl ⟨by rfl, ?_⟩) ?_ ?_
  rotate_left
  · intro w'
    go_simp
    with_reducible rfl
  rotate_left
  · simp only [Act.put, List.setIfInBounds_toArray, List.set_cons_zero, List.set_cons_succ, i64_w, i32_w]
    rfl
  refine pure_ (i := 13) (N := some 26) (v := ?_) (a' := ?_) (Go.Proofs.Ythkmjfapljmmpaa.StoreK.bm 18 14271) rfl rfl (by kernel_rfl) (fun _ _ _ h => h) (Or.inl ⟨by rfl, ?_⟩) ?_ ?_
  rotate_left
  · intro w'
    go_simp
    with_reducible rfl
  rotate_left
  · simp only [Act.put, List.setIfInBounds_toArray, List.set_cons_zero, List.set_cons_succ, i64_w, i32_w]
    rfl
  refine pure_ (i := 14) (N := some 27) (v := ?_) (a' := ?_) (Go.Proofs.Ythkmjfapljmmpaa.StoreK.bm 18 30655) rfl rfl (by kernel_rfl) (fun _ _ _ h => h) (Or.inl ⟨by rfl, ?_⟩) ?_ ?_
  rotate_left
  · intro w'
    go_simp
    with_reducible rfl
  rotate_left
  · simp only [Act.put, List.setIfInBounds_toArray, List.set_cons_zero, List.set_cons_succ, i64_w, i32_w]
    rfl
  refine take_ (i := 15) (N := some 28) (v := ?_) (a' := ?_) (Go.Proofs.Ythkmjfapljmmpaa.StoreK.bm 18 63423) rfl rfl (by kernel_rfl) (fun _ _ _ h => h) (Or.inl ⟨by rfl, ?_⟩) hHeld ?_ ?_
  rotate_left
  · rintro w' ⟨s0, s1, s2, s3, s4, s5, s6, s7⟩
    go_simp
    with_reducible rfl
  rotate_left
  · simp only [Act.put, List.setIfInBounds_toArray, List.set_cons_zero, List.set_cons_succ, i64_w, i32_w]
    rfl
  refine one_ (i := 6) (N := some 19) (Go.Proofs.Ythkmjfapljmmpaa.StoreK.bm 18 63487) rfl rfl (by kernel_rfl) (by decide) (fun K hK => ?_)
  refine goes_ Try.func162 (by kernel_rfl) rfl #[.int .u64 (64 + s0_1), .int .i64 1] (by rfl) rfl rfl (by (try simp only [List.map_toArray, List.map_cons, List.map_nil]); first | done | rfl) ?_
  refine (impl_bigEndian.calls k (64 + s0_1) 1 a _ HA.out).mono ?_
  rintro e w1 ⟨rfl, hb⟩
  refine ⟨_, rfl, ?_⟩
  have HC1 := Aside0.mk (blk_below HC0.out hb)
  have HB1 := Aside0.mk (HB0.out.trans (hb.mono HB0.out.size))
  clear hb
  refine hK.out _ _ ⟨(blk_cell HC1.out 0).trans rfl, (blk_cell HC1.out 1).trans rfl, (blk_cell HC1.out 2).trans rfl, (blk_cell HC1.out 3).trans rfl, (blk_cell HC1.out 4).trans rfl, (blk_cell HC1.out 5).trans rfl, (blk_cell HC1.out 6).trans rfl, (blk_cell HC1.out 7).trans rfl⟩ (fun hHeld => ?_)
  clear hK K
  refine norm_ (a' := ?_) ?_ ?_
  rotate_left
  · show Act.put _ (some 19) _ = _
    simp only [Act.put, List.setIfInBounds_toArray, List.set_cons_zero, List.set_cons_succ, i64_w, i32_w]
    rfl
  refine pure_ (i := 11) (N := some 24) (v := ?_) (a' := ?_) (Go.Proofs.Ythkmjfapljmmpaa.StoreK.bm 18 65535) rfl rfl (by kernel_rfl) (fun _ _ _ h => h) (Or.inl ⟨by rfl, ?_⟩) ?_ ?_
  rotate_left
  · intro w'
    go_simp
    with_reducible rfl
  rotate_left
  · simp only [Act.put, List.setIfInBounds_toArray, List.set_cons_zero, List.set_cons_succ, i64_w, i32_w]
    rfl
  refine pure_ (i := 16) (N := some 29) (v := ?_) (a' := ?_) (Go.Proofs.Ythkmjfapljmmpaa.StoreK.bm 18 131071) rfl rfl (by kernel_rfl) (fun _ _ _ h => h) (Or.inl ⟨by rfl, ?_⟩) ?_ ?_
  rotate_left
  · intro w'
    go_simp
    with_reducible rfl
  rotate_left
  · simp only [Act.put, List.setIfInBounds_toArray, List.set_cons_zero, List.set_cons_succ, i64_w, i32_w]
    rfl
  refine pure_ (i := 17) (N := some 2) (v := ?_) (a' := ?_) (Go.Proofs.Ythkmjfapljmmpaa.StoreK.bm 18 262143) rfl rfl (by kernel_rfl) (fun _ _ _ h => h) (Or.inl ⟨by rfl, ?_⟩) ?_ ?_
  rotate_left
  · intro w'
    go_simp
    with_reducible rfl
  rotate_left
  · simp only [Act.put, List.setIfInBounds_toArray, List.set_cons_zero, List.set_cons_succ, i64_w, i32_w]
    rfl
  refine done_ (by kernel_rfl) ?_
  go_wp2
  go_ret
  exact ⟨rfl, HB1.out⟩
set_option maxHeartbeats 16000000 in
set_option maxRecDepth 100000 in
theorem hbytes4 (k : Nat) (g : Nat) (s0_0 : Int) (s0_1 : Int) (s0_2 : Int) (s0_3 : ByteArray) (s0_4 : ByteArray) (s0_5 : ByteArray) (s0_6 : ByteArray) (s0_7 : List Int) (r : ByteArray) (w : World) (A7 : Option Addr) (c7 : Nat) (hb0 : w.heap[g]? = some (.cells #[.int .i64 s0_0, .int .i64 s0_1, .int .i64 s0_2, .string s0_3, .string s0_4, .string s0_5, .string s0_6, .slice A7 s0_7.length c7] 95 (0, 0))) (hr7 : Kd.C (Kd.int .i64) w A7 s0_7.length s0_7) (hp : (0 ≤ s0_0 ∧ s0_0 ≤ 5) ∧ (0 ≤ s0_1 ∧ s0_1 ≤ 15) ∧ (0 ≤ s0_2 ∧ s0_2 ≤ 4294967295) ∧ s0_6.size ≤ 1200 ∧ s0_7.length ≤ 4611686018427387904 ∧ ∀ v, v ∈ s0_7 → 0 ≤ v ∧ v ≤ 4294967295) (h0 : s0_0 = 4) (h : hbody k s0_0 s0_1 s0_2 s0_3 s0_4 s0_5 s0_6 s0_7 = some r) :
    Calls Try.prog 134 #[.pointer (some ⟨g, 0, none⟩)] w fun e w' => e = .returned (.string r) ∧ Below w.heap.size w w' := by
  obtain ⟨p0, p1, p2, p6, p7, p8⟩ := hp
  subst h0
  have w2 : IntKind.i64.wrap (192 + s0_1) = 192 + s0_1 := by rw [i64_w]; unfold wrap64; omega
  have u2 : IntKind.u64.wrap (192 + s0_1) = 192 + s0_1 := by simp only [IntKind.wrap, IntKind.signed, IntKind.bits]; simp; omega
  unfold hbody at h
  rw [if_neg (by decide), if_pos rfl] at h
  obtain ⟨a, A1, H⟩ := Option.bind_eq_some_iff.mp h
  obtain ⟨z, A2, H⟩ := Option.bind_eq_some_iff.mp H
  obtain ⟨b, A3, H⟩ := Option.bind_eq_some_iff.mp H
  obtain ⟨⟨i0, i1, i2, i3, i4, i5, i6, i7⟩, A4, H⟩ := Option.bind_eq_some_iff.mp H
  obtain ⟨o, A5, A6⟩ := Option.bind_eq_some_iff.mp H
  obtain ⟨rfl, z1⟩ := hcat_some A3
  obtain ⟨rfl, z2⟩ := hcat_some A5
  rw [ByteArray.size_append] at z2
  have HA := Aside0.mk A1
  have HZ := Aside0.mk A2
  have HI := Aside0.mk A4
  have HL := Aside0.mk A6
  have HC0 := Aside0.mk hb0
  have HB0 := Aside0.mk (Below.refl w.heap.size w)
  have HR := Aside0.mk hr7
  have P8 := Aside0.mk p8
  clear A1 A2 A3 A4 A5 A6 H h hb0 hr7 p8
  obtain ⟨q0, q1, q2, q3, q4, q5, q6, q7⟩ := Go.Proofs.Ythkmjfapljmmpaa.ShortK.cz8 HC0
  go_enter Try.func134, Try.ntmps134
  go_wp2_with fail
  refine (impl_bigEndian.calls k (192 + s0_1) 1 a _ HA.out).mono ?_
  rintro e w1 ⟨rfl, hb⟩
  have HC1 := Aside0.mk (blk_below HC0.out hb)
  have HB1 := Aside0.mk (HB0.out.trans (hb.mono HB0.out.size))
  clear hb
  clear q0 q1 q2 q3 q4 q5 q6 q7
  obtain ⟨q0, q1, q2, q3, q4, q5, q6, q7⟩ := Go.Proofs.Ythkmjfapljmmpaa.ShortK.cz8 HC1
  go_wp2_with fail
  refine (impl_bigEndian.calls k 0 4 z _ HZ.out).mono ?_
  rintro e w2 ⟨rfl, hb⟩
  have HC2 := Aside0.mk (blk_below HC1.out hb)
  have HB2 := Aside0.mk (HB1.out.trans (hb.mono HB1.out.size))
  clear hb
  clear q0 q1 q2 q3 q4 q5 q6 q7
  obtain ⟨q0, q1, q2, q3, q4, q5, q6, q7⟩ := Go.Proofs.Ythkmjfapljmmpaa.ShortK.cz8 HC2
  go_wp2_with fail
  refine (impl_Header_ids.keeps k g 4 s0_1 s0_2 s0_3 s0_4 s0_5 s0_6 s0_7 i0 _ _ _ _ _ _ _ _ A7 c7 HC2.out HI.out).mono ?_
  rintro e w3 ⟨rfl, hb⟩
  have HC3 := Aside0.mk (blk_below HC2.out hb)
  have HB3 := Aside0.mk (HB2.out.trans (hb.mono HB2.out.size))
  clear hb
  clear q0 q1 q2 q3 q4 q5 q6 q7
  obtain ⟨q0, q1, q2, q3, q4, q5, q6, q7⟩ := Go.Proofs.Ythkmjfapljmmpaa.ShortK.cz8 HC3
  go_wp2
  go_loopg [3, 49] s0_7.length (fun gg v3 v49 wr => ∃ (j : Nat) (s : ByteArray), j ≤ s0_7.length ∧ s0_7.length - j ≤ gg ∧ v49 = .int .i64 j ∧ v3 = .string s ∧ Aside0 (vloop k s (s0_7.drop j) = some r) ∧ Aside0 (Below w.heap.size w wr))
  case atStart => exact ⟨0, _, Nat.zero_le _, by omega, rfl, rfl, HL, HB3⟩
  case round =>
    clear q0 q1 q2 q3 q4 q5 q6 q7 HL
    obtain ⟨j, s, hj, hgg, rfl, rfl, HL, HB⟩ := hrel
    by_cases hlt : j < s0_7.length
    · have hltz : (j : Int) < (s0_7.length : Int) := by omega
      obtain ⟨ad, eA, hx0⟩ := Kd.at_int (Kd.C_below HR.out HB.out) (j : Int) (by omega) hltz
      have hy : rd s0_7 j = s0_7[j] := by
        unfold rd
        rw [Int.toNat_natCast, List.getD_eq_getElem?_getD, List.getElem?_eq_getElem hlt]
        rfl
      have hv := P8.out (s0_7[j]) (List.getElem_mem hlt)
      have hl := HL.out
      rw [List.drop_eq_getElem_cons hlt] at hl
      unfold vloop at hl
      obtain ⟨bv, B1, hl⟩ := Option.bind_eq_some_iff.mp hl
      obtain ⟨s', B2, hl⟩ := Option.bind_eq_some_iff.mp hl
      obtain ⟨rfl, zz⟩ := hcat_some B2
      rw [hy] at hx0
      generalize s0_7[j] = y at hx0 hv B1 hy
      subst eA
      rw [Int.toNat_natCast] at hx0
      obtain ⟨hv0, hv1⟩ := hv
      have uy : IntKind.u64.wrap y = y := by simp only [IntKind.wrap, IntKind.signed, IntKind.bits]; simp; omega
      have HB1 := Aside0.mk B1
      have HL2 := Aside0.mk hl
      clear B1 B2 hl hy HL
      go_wp2_with fail
      refine (impl_bigEndian.calls k y 4 bv _ HB1.out).mono ?_
      rintro e w5 ⟨rfl, hb⟩
      have HB5 := Aside0.mk (HB.out.trans (hb.mono HB.out.size))
      clear hb HB
      go_wp2
      go_roundg (s0_7.length - (j + 1))
      case measure => omega
      case rel => exact ⟨j + 1, _, by omega, by omega, by go_num, rfl, HL2, HB5⟩
    · have e : j = s0_7.length := by omega
      subst e
      have hl := HL.out
      rw [List.drop_length] at hl
      unfold vloop at hl
      obtain rfl := Option.some.inj hl
      clear hl HL
      go_wp2
      go_ret
      exact ⟨rfl, HB.out⟩
set_option maxHeartbeats 32000000 in
set_option maxRecDepth 100000 in
theorem hbytesL (k : Nat) (g : Nat) (s0_0 : Int) (s0_1 : Int) (s0_2 : Int) (s0_3 : ByteArray) (s0_4 : ByteArray) (s0_5 : ByteArray) (s0_6 : ByteArray) (s0_7 : List Int) (r : ByteArray) (w : World) (A7 : Option Addr) (c7 : Nat) (hb0 : w.heap[g]? = some (.cells #[.int .i64 s0_0, .int .i64 s0_1, .int .i64 s0_2, .string s0_3, .string s0_4, .string s0_5, .string s0_6, .slice A7 s0_7.length c7] 95 (0, 0))) (hp : (0 ≤ s0_0 ∧ s0_0 ≤ 5) ∧ (0 ≤ s0_1 ∧ s0_1 ≤ 15) ∧ (0 ≤ s0_2 ∧ s0_2 ≤ 4294967295) ∧ s0_6.size ≤ 1200 ∧ s0_7.length ≤ 4611686018427387904 ∧ ∀ v, v ∈ s0_7 → 0 ≤ v ∧ v ≤ 4294967295) (h5 : s0_0 ≠ 5) (h4 : s0_0 ≠ 4) (h : hbody k s0_0 s0_1 s0_2 s0_3 s0_4 s0_5 s0_6 s0_7 = some r) :
    Calls Try.prog 134 #[.pointer (some ⟨g, 0, none⟩)] w fun e w' => e = .returned (.string r) ∧ Below w.heap.size w w' := by
  obtain ⟨p0, p1, p2, p6, p7, p8⟩ := hp
  have w1 : IntKind.i64.wrap (64 + s0_1) = 64 + s0_1 := by rw [i64_w]; unfold wrap64; omega
  have w2 : IntKind.i64.wrap (192 + s0_1) = 192 + s0_1 := by rw [i64_w]; unfold wrap64; omega
  have w3 : IntKind.i64.wrap (16 * s0_0) = 16 * s0_0 := by rw [i64_w]; unfold wrap64; omega
  have w4 : IntKind.i64.wrap (192 + 16 * s0_0) = 192 + 16 * s0_0 := by rw [i64_w]; unfold wrap64; omega
  have w5 : IntKind.i64.wrap (192 + 16 * s0_0 + s0_1) = 192 + 16 * s0_0 + s0_1 := by rw [i64_w]; unfold wrap64; omega
  have u1 : IntKind.u64.wrap (64 + s0_1) = 64 + s0_1 := by simp only [IntKind.wrap, IntKind.signed, IntKind.bits]; simp; omega
  have u2 : IntKind.u64.wrap (192 + s0_1) = 192 + s0_1 := by simp only [IntKind.wrap, IntKind.signed, IntKind.bits]; simp; omega
  have u3 : IntKind.u64.wrap (192 + 16 * s0_0 + s0_1) = 192 + 16 * s0_0 + s0_1 := by simp only [IntKind.wrap, IntKind.signed, IntKind.bits]; simp; omega
  have u4 : IntKind.u64.wrap s0_2 = s0_2 := by simp only [IntKind.wrap, IntKind.signed, IntKind.bits]; simp; omega
  have c5 : (s0_0 == 5) = false := by simpa using h5
  have c4 : (s0_0 == 4) = false := by simpa using h4
  unfold hbody at h
  rw [if_neg h5, if_neg h4] at h
  obtain ⟨a, A1, H⟩ := Option.bind_eq_some_iff.mp h
  obtain ⟨v, A2, H⟩ := Option.bind_eq_some_iff.mp H
  obtain ⟨b, A3, H⟩ := Option.bind_eq_some_iff.mp H
  obtain ⟨⟨i0, i1, i2, i3, i4, i5, i6, i7⟩, A4, H⟩ := Option.bind_eq_some_iff.mp H
  obtain ⟨o0, A5, H⟩ := Option.bind_eq_some_iff.mp H
  obtain ⟨o1, A6, H⟩ := Option.bind_eq_some_iff.mp H
  obtain ⟨o2, A7', A8⟩ := Option.bind_eq_some_iff.mp H
  obtain ⟨rfl, z1⟩ := hcat_some A3
  obtain ⟨rfl, z2⟩ := hcat_some A5
  obtain ⟨rfl, z4⟩ := hcat_some A8
  rw [ByteArray.size_append] at z2
  have HA := Aside0.mk A1
  have HV := Aside0.mk A2
  have HI := Aside0.mk A4
  have H6 := Aside0.mk A6
  have H7 := Aside0.mk A7'
  have HC := Aside0.mk hb0
  have HB := Aside0.mk (Below.refl w.heap.size w)
  clear A1 A2 A3 A4 A5 A6 A7' A8 H h hb0 p8 h5 h4
  obtain ⟨q0, q1, q2, q3, q4, q5, q6, q7⟩ := Go.Proofs.Ythkmjfapljmmpaa.ShortK.cz8 HC
  go_enter Try.func134, Try.ntmps134
  go_wp2_with fail
  clear q0 q1 q2 q3 q4 q5 q6 q7
  refine start_ (n := 24) (S := fun w' => w'.cell? ⟨g, 0, none⟩ = some (.int .i64 s0_0) ∧ w'.cell? ⟨g, 1, none⟩ = some (.int .i64 s0_1) ∧ w'.cell? ⟨g, 2, none⟩ = some (.int .i64 s0_2) ∧ w'.cell? ⟨g, 3, none⟩ = some (.string s0_3) ∧ w'.cell? ⟨g, 4, none⟩ = some (.string s0_4) ∧ w'.cell? ⟨g, 5, none⟩ = some (.string s0_5) ∧ w'.cell? ⟨g, 6, none⟩ = some (.string s0_6) ∧ w'.cell? ⟨g, 7, none⟩ = some (.slice A7 s0_7.length c7)) (ds := []) (Go.Proofs.Ythkmjfapljmmpaa.StoreK.bm 24 0) (by kernel_rfl) rfl rfl ⟨(blk_cell (blk_drew HC.out) 0).trans rfl, (blk_cell (blk_drew HC.out) 1).trans rfl, (blk_cell (blk_drew HC.out) 2).trans rfl, (blk_cell (blk_drew HC.out) 3).trans rfl, (blk_cell (blk_drew HC.out) 4).trans rfl, (blk_cell (blk_drew HC.out) 5).trans rfl, (blk_cell (blk_drew HC.out) 6).trans rfl, (blk_cell (blk_drew HC.out) 7).trans rfl⟩ (fun hHeld => ?_)
  have HC0 := Aside0.mk (blk_drew HC.out)
  have HB0 := Aside0.mk (below_drew HB.out)
  clear HC HB
  generalize w.drew = w9 at HC0 HB0 hHeld ⊢
  refine pure_ (i := 0) (N := some 60) (v := ?_) (a' := ?_) (Go.Proofs.Ythkmjfapljmmpaa.StoreK.bm 24 1) rfl rfl (by kernel_rfl) (fun _ _ _ h => h) (Or.inl ⟨by rfl, ?_⟩) ?_ ?_
  rotate_left
  · intro w'
    go_simp
    with_reducible rfl
  rotate_left
  · simp only [Act.put, List.setIfInBounds_toArray, List.set_cons_zero, List.set_cons_succ, i64_w, i32_w]
    rfl
  refine pure_ (i := 1) (N := some 61) (v := ?_) (a' := ?_) (Go.Proofs.Ythkmjfapljmmpaa.StoreK.bm 24 3) rfl rfl (by kernel_rfl) (fun _ _ _ h => h) (Or.inl ⟨by rfl, ?_⟩) ?_ ?_
  rotate_left
  · intro w'
    go_simp
    with_reducible rfl
  rotate_left
  · simp only [Act.put, List.setIfInBounds_toArray, List.set_cons_zero, List.set_cons_succ, i64_w, i32_w]
    rfl
  refine pure_ (i := 2) (N := some 62) (v := ?_) (a' := ?_) (Go.Proofs.Ythkmjfapljmmpaa.StoreK.bm 24 7) rfl rfl (by kernel_rfl) (fun _ _ _ h => h) (Or.inl ⟨by rfl, ?_⟩) ?_ ?_
  rotate_left
  · intro w'
    go_simp
    with_reducible rfl
  rotate_left
  · simp only [Act.put, List.setIfInBounds_toArray, List.set_cons_zero, List.set_cons_succ, i64_w, i32_w]
    rfl
  refine take_ (i := 3) (N := some 63) (v := ?_) (a' := ?_) (Go.Proofs.Ythkmjfapljmmpaa.StoreK.bm 24 15) rfl rfl (by kernel_rfl) (fun _ _ _ h => h) (Or.inl ⟨by rfl, ?_⟩) hHeld ?_ ?_
  rotate_left
  · rintro w' ⟨s0, s1, s2, s3, s4, s5, s6, s7⟩
    go_simp
    with_reducible rfl
  rotate_left
  · simp only [Act.put, List.setIfInBounds_toArray, List.set_cons_zero, List.set_cons_succ, i64_w, i32_w]
    rfl
  refine pure_ (i := 4) (N := some 64) (v := ?_) (a' := ?_) (Go.Proofs.Ythkmjfapljmmpaa.StoreK.bm 24 31) rfl rfl (by kernel_rfl) (fun _ _ _ h => h) (Or.inl ⟨by rfl, ?_⟩) ?_ ?_
  rotate_left
  · intro w'
    go_simp
    with_reducible rfl
  rotate_left
  · simp only [Act.put, List.setIfInBounds_toArray, List.set_cons_zero, List.set_cons_succ, i64_w, i32_w]
    rfl
  refine pure_ (i := 5) (N := some 65) (v := ?_) (a' := ?_) (Go.Proofs.Ythkmjfapljmmpaa.StoreK.bm 24 63) rfl rfl (by kernel_rfl) (fun _ _ _ h => h) (Or.inl ⟨by rfl, ?_⟩) ?_ ?_
  rotate_left
  · intro w'
    go_simp
    with_reducible rfl
  rotate_left
  · simp only [Act.put, List.setIfInBounds_toArray, List.set_cons_zero, List.set_cons_succ, i64_w, i32_w]
    rfl
  refine pure_ (i := 6) (N := some 66) (v := ?_) (a' := ?_) (Go.Proofs.Ythkmjfapljmmpaa.StoreK.bm 24 127) rfl rfl (by kernel_rfl) (fun _ _ _ h => h) (Or.inl ⟨by rfl, ?_⟩) ?_ ?_
  rotate_left
  · intro w'
    go_simp
    with_reducible rfl
  rotate_left
  · simp only [Act.put, List.setIfInBounds_toArray, List.set_cons_zero, List.set_cons_succ, i64_w, i32_w]
    rfl
  refine pure_ (i := 7) (N := some 67) (v := ?_) (a' := ?_) (Go.Proofs.Ythkmjfapljmmpaa.StoreK.bm 24 255) rfl rfl (by kernel_rfl) (fun _ _ _ h => h) (Or.inl ⟨by rfl, ?_⟩) ?_ ?_
  rotate_left
  · intro w'
    go_simp
    with_reducible rfl
  rotate_left
  · simp only [Act.put, List.setIfInBounds_toArray, List.set_cons_zero, List.set_cons_succ, i64_w, i32_w]
    rfl
  refine pure_ (i := 8) (N := some 68) (v := ?_) (a' := ?_) (Go.Proofs.Ythkmjfapljmmpaa.StoreK.bm 24 511) rfl rfl (by kernel_rfl) (fun _ _ _ h => h) (Or.inl ⟨by rfl, ?_⟩) ?_ ?_
  rotate_left
  · intro w'
    go_simp
    with_reducible rfl
  rotate_left
  · simp only [Act.put, List.setIfInBounds_toArray, List.set_cons_zero, List.set_cons_succ, i64_w, i32_w]
    rfl
  refine take_ (i := 9) (N := some 69) (v := ?_) (a' := ?_) (Go.Proofs.Ythkmjfapljmmpaa.StoreK.bm 24 1023) rfl rfl (by kernel_rfl) (fun _ _ _ h => h) (Or.inl ⟨by rfl, ?_⟩) hHeld ?_ ?_
  rotate_left
  · rintro w' ⟨s0, s1, s2, s3, s4, s5, s6, s7⟩
    go_simp
    with_reducible rfl
  rotate_left
  · simp only [Act.put, List.setIfInBounds_toArray, List.set_cons_zero, List.set_cons_succ, i64_w, i32_w]
    rfl
  refine pure_ (i := 10) (N := some 70) (v := ?_) (a' := ?_) (Go.Proofs.Ythkmjfapljmmpaa.StoreK.bm 24 2047) rfl rfl (by kernel_rfl) (fun _ _ _ h => h) (Or.inl ⟨by rfl, ?_⟩) ?_ ?_
  rotate_left
  · intro w'
    go_simp
    with_reducible rfl
  rotate_left
  · simp only [Act.put, List.setIfInBounds_toArray, List.set_cons_zero, List.set_cons_succ, i64_w, i32_w]
    rfl
  refine pure_ (i := 11) (N := some 71) (v := ?_) (a' := ?_) (Go.Proofs.Ythkmjfapljmmpaa.StoreK.bm 24 4095) rfl rfl (by kernel_rfl) (fun _ _ _ h => h) (Or.inl ⟨by rfl, ?_⟩) ?_ ?_
  rotate_left
  · intro w'
    go_simp
    with_reducible rfl
  rotate_left
  · simp only [Act.put, List.setIfInBounds_toArray, List.set_cons_zero, List.set_cons_succ, i64_w, i32_w]
    rfl
  refine pure_ (i := 13) (N := some 73) (v := ?_) (a' := ?_) (Go.Proofs.Ythkmjfapljmmpaa.StoreK.bm 24 12287) rfl rfl (by kernel_rfl) (fun _ _ _ h => h) (Or.inl ⟨by rfl, ?_⟩) ?_ ?_
  rotate_left
  · intro w'
    go_simp
    with_reducible rfl
  rotate_left
  · simp only [Act.put, List.setIfInBounds_toArray, List.set_cons_zero, List.set_cons_succ, i64_w, i32_w]
    rfl
  refine pure_ (i := 14) (N := some 74) (v := ?_) (a' := ?_) (Go.Proofs.Ythkmjfapljmmpaa.StoreK.bm 24 28671) rfl rfl (by kernel_rfl) (fun _ _ _ h => h) (Or.inl ⟨by rfl, ?_⟩) ?_ ?_
  rotate_left
  · intro w'
    go_simp
    with_reducible rfl
  rotate_left
  · simp only [Act.put, List.setIfInBounds_toArray, List.set_cons_zero, List.set_cons_succ, i64_w, i32_w]
    rfl
  refine pure_ (i := 15) (N := some 75) (v := ?_) (a' := ?_) (Go.Proofs.Ythkmjfapljmmpaa.StoreK.bm 24 61439) rfl rfl (by kernel_rfl) (fun _ _ _ h => h) (Or.inl ⟨by rfl, ?_⟩) ?_ ?_
  rotate_left
  · intro w'
    go_simp
    with_reducible rfl
  rotate_left
  · simp only [Act.put, List.setIfInBounds_toArray, List.set_cons_zero, List.set_cons_succ, i64_w, i32_w]
    rfl
  refine take_ (i := 16) (N := some 76) (v := ?_) (a' := ?_) (Go.Proofs.Ythkmjfapljmmpaa.StoreK.bm 24 126975) rfl rfl (by kernel_rfl) (fun _ _ _ h => h) (Or.inl ⟨by rfl, ?_⟩) hHeld ?_ ?_
  rotate_left
  · rintro w' ⟨s0, s1, s2, s3, s4, s5, s6, s7⟩
    go_simp
    with_reducible rfl
  rotate_left
  · simp only [Act.put, List.setIfInBounds_toArray, List.set_cons_zero, List.set_cons_succ, i64_w, i32_w]
    rfl
  refine pure_ (i := 17) (N := some 77) (v := ?_) (a' := ?_) (Go.Proofs.Ythkmjfapljmmpaa.StoreK.bm 24 258047) rfl rfl (by kernel_rfl) (fun _ _ _ h => h) (Or.inl ⟨by rfl, ?_⟩) ?_ ?_
  rotate_left
  · intro w'
    go_simp
    with_reducible rfl
  rotate_left
  · simp only [Act.put, List.setIfInBounds_toArray, List.set_cons_zero, List.set_cons_succ, i64_w, i32_w]
    rfl
  refine pure_ (i := 20) (N := some 80) (v := ?_) (a' := ?_) (Go.Proofs.Ythkmjfapljmmpaa.StoreK.bm 24 1306623) rfl rfl (by kernel_rfl) (fun _ _ _ h => h) (Or.inl ⟨by rfl, ?_⟩) ?_ ?_
  rotate_left
  · intro w'
    go_simp
    with_reducible rfl
  rotate_left
  · simp only [Act.put, List.setIfInBounds_toArray, List.set_cons_zero, List.set_cons_succ, i64_w, i32_w]
    rfl
  refine one_ (i := 12) (N := some 72) (Go.Proofs.Ythkmjfapljmmpaa.StoreK.bm 24 1310719) rfl rfl (by kernel_rfl) (by decide) (fun K hK => ?_)
  refine goes_ Try.func162 (by kernel_rfl) rfl #[.int .u64 (192 + 16 * s0_0 + s0_1), .int .i64 1] (by rfl) rfl rfl (by (try simp only [List.map_toArray, List.map_cons, List.map_nil]); first | done | rfl) ?_
  refine (impl_bigEndian.calls k (192 + 16 * s0_0 + s0_1) 1 a _ HA.out).mono ?_
  rintro e w1 ⟨rfl, hb⟩
  refine ⟨_, rfl, ?_⟩
  have HC1 := Aside0.mk (blk_below HC0.out hb)
  have HB1 := Aside0.mk (HB0.out.trans (hb.mono HB0.out.size))
  clear hb
  refine hK.out _ _ ⟨(blk_cell HC1.out 0).trans rfl, (blk_cell HC1.out 1).trans rfl, (blk_cell HC1.out 2).trans rfl, (blk_cell HC1.out 3).trans rfl, (blk_cell HC1.out 4).trans rfl, (blk_cell HC1.out 5).trans rfl, (blk_cell HC1.out 6).trans rfl, (blk_cell HC1.out 7).trans rfl⟩ (fun hHeld => ?_)
  clear hK K
  refine norm_ (a' := ?_) ?_ ?_
  rotate_left
  · show Act.put _ (some 72) _ = _
    simp only [Act.put, List.setIfInBounds_toArray, List.set_cons_zero, List.set_cons_succ, i64_w, i32_w]
    rfl
  refine one_ (i := 18) (N := some 78) (Go.Proofs.Ythkmjfapljmmpaa.StoreK.bm 24 1572863) rfl rfl (by kernel_rfl) (by decide) (fun K hK => ?_)
  refine goes_ Try.func162 (by kernel_rfl) rfl #[.int .u64 s0_2, .int .i64 4] (by rfl) rfl rfl (by (try simp only [List.map_toArray, List.map_cons, List.map_nil]); first | done | rfl) ?_
  refine (impl_bigEndian.calls k s0_2 4 v _ HV.out).mono ?_
  rintro e w2 ⟨rfl, hb⟩
  refine ⟨_, rfl, ?_⟩
  have HC2 := Aside0.mk (blk_below HC1.out hb)
  have HB2 := Aside0.mk (HB1.out.trans (hb.mono HB1.out.size))
  clear hb
  refine hK.out _ _ ⟨(blk_cell HC2.out 0).trans rfl, (blk_cell HC2.out 1).trans rfl, (blk_cell HC2.out 2).trans rfl, (blk_cell HC2.out 3).trans rfl, (blk_cell HC2.out 4).trans rfl, (blk_cell HC2.out 5).trans rfl, (blk_cell HC2.out 6).trans rfl, (blk_cell HC2.out 7).trans rfl⟩ (fun hHeld => ?_)
  clear hK K
  refine norm_ (a' := ?_) ?_ ?_
  rotate_left
  · show Act.put _ (some 78) _ = _
    simp only [Act.put, List.setIfInBounds_toArray, List.set_cons_zero, List.set_cons_succ, i64_w, i32_w]
    rfl
  refine pure_ (i := 19) (N := some 79) (v := ?_) (a' := ?_) (Go.Proofs.Ythkmjfapljmmpaa.StoreK.bm 24 2097151) rfl rfl (by kernel_rfl) (fun _ _ _ h => h) (Or.inl ⟨by rfl, ?_⟩) ?_ ?_
  rotate_left
  · intro w'
    go_simp
    with_reducible rfl
  rotate_left
  · simp only [Act.put, List.setIfInBounds_toArray, List.set_cons_zero, List.set_cons_succ, i64_w, i32_w]
    rfl
  refine one_ (i := 21) (N := some 81) (Go.Proofs.Ythkmjfapljmmpaa.StoreK.bm 24 4194303) rfl rfl (by kernel_rfl) (by decide) (fun K hK => ?_)
  refine goes_ Try.func186 (by kernel_rfl) rfl #[.pointer (some ⟨g, 0, none⟩)] (by rfl) rfl rfl (by (try simp only [List.map_toArray, List.map_cons, List.map_nil]); first | done | rfl) ?_
  refine (impl_Header_ids.keeps k g s0_0 s0_1 s0_2 s0_3 s0_4 s0_5 s0_6 s0_7 i0 _ _ _ _ _ _ _ _ A7 c7 HC2.out HI.out).mono ?_
  rintro e w3 ⟨rfl, hb⟩
  refine ⟨_, rfl, ?_⟩
  have HC3 := Aside0.mk (blk_below HC2.out hb)
  have HB3 := Aside0.mk (HB2.out.trans (hb.mono HB2.out.size))
  clear hb
  refine hK.out _ _ ⟨(blk_cell HC3.out 0).trans rfl, (blk_cell HC3.out 1).trans rfl, (blk_cell HC3.out 2).trans rfl, (blk_cell HC3.out 3).trans rfl, (blk_cell HC3.out 4).trans rfl, (blk_cell HC3.out 5).trans rfl, (blk_cell HC3.out 6).trans rfl, (blk_cell HC3.out 7).trans rfl⟩ (fun hHeld => ?_)
  clear hK K
  refine norm_ (a' := ?_) ?_ ?_
  rotate_left
  · show Act.put _ (some 81) _ = _
    simp only [Act.put, List.setIfInBounds_toArray, List.set_cons_zero, List.set_cons_succ, i64_w, i32_w]
    rfl
  refine pure_ (i := 22) (N := some 82) (v := ?_) (a' := ?_) (Go.Proofs.Ythkmjfapljmmpaa.StoreK.bm 24 8388607) rfl rfl (by kernel_rfl) (fun _ _ _ h => h) (Or.inl ⟨by rfl, ?_⟩) ?_ ?_
  rotate_left
  · intro w'
    go_simp
    with_reducible rfl
  rotate_left
  · simp only [Act.put, List.setIfInBounds_toArray, List.set_cons_zero, List.set_cons_succ, i64_w, i32_w]
    rfl
  refine pure_ (i := 23) (N := some 6) (v := ?_) (a' := ?_) (Go.Proofs.Ythkmjfapljmmpaa.StoreK.bm 24 16777215) rfl rfl (by kernel_rfl) (fun _ _ _ h => h) (Or.inl ⟨by rfl, ?_⟩) ?_ ?_
  rotate_left
  · intro w'
    go_simp
    with_reducible rfl
  rotate_left
  · simp only [Act.put, List.setIfInBounds_toArray, List.set_cons_zero, List.set_cons_succ, i64_w, i32_w]
    rfl
  refine done_ (by kernel_rfl) ?_
  clear HC0 HC1 HC2 HB0 HB1 HB2
  have h6 := H6.out
  have h7 := H7.out
  by_cases e0 : s0_0 = 0
  · subst e0
    rw [if_pos rfl] at h6
    rw [if_neg (by decide)] at h7
    obtain ⟨c, C1, C2⟩ := Option.bind_eq_some_iff.mp h6
    obtain ⟨p, D1, D2⟩ := Option.bind_eq_some_iff.mp h7
    obtain ⟨rfl, z5⟩ := hcat_some C2
    obtain ⟨rfl, z6⟩ := hcat_some D2
    have HCN := Aside0.mk C1
    have HP := Aside0.mk D1
    clear C1 C2 D1 D2 h6 h7 H6 H7
    simp only [ByteArray.size_append] at z4 z5 z6
    obtain ⟨q0, q1, q2, q3, q4, q5, q6, q7⟩ := Go.Proofs.Ythkmjfapljmmpaa.ShortK.cz8 HC3
    go_wp2_with fail
    refine (impl_counted.calls k s0_5 c _ HCN.out).mono ?_
    rintro e w4 ⟨rfl, hb⟩
    have HC4 := Aside0.mk (blk_below HC3.out hb)
    have HB4 := Aside0.mk (HB3.out.trans (hb.mono HB3.out.size))
    clear hb
    clear q0 q1 q2 q3 q4 q5 q6 q7
    obtain ⟨q0, q1, q2, q3, q4, q5, q6, q7⟩ := Go.Proofs.Ythkmjfapljmmpaa.ShortK.cz8 HC4
    go_wp2_with fail
    refine (impl_bigEndian.calls k (16384 + (s0_6.size : Int)) 2 p _ HP.out).mono ?_
    rintro e w5 ⟨rfl, hb⟩
    have HC5 := Aside0.mk (blk_below HC4.out hb)
    have HB5 := Aside0.mk (HB4.out.trans (hb.mono HB4.out.size))
    clear hb
    clear q0 q1 q2 q3 q4 q5 q6 q7
    obtain ⟨q0, q1, q2, q3, q4, q5, q6, q7⟩ := Go.Proofs.Ythkmjfapljmmpaa.ShortK.cz8 HC5
    go_wp2
    go_ret
    exact ⟨rfl, HB5.out⟩
  · have c0 : (s0_0 == 0) = false := by simpa using e0
    rw [if_neg e0] at h6
    obtain rfl := Option.some.inj h6
    clear h6 H6 e0
    by_cases e3 : s0_0 = 3
    · subst e3
      rw [if_pos rfl] at h7
      obtain rfl := Option.some.inj h7
      clear h7 H7
      simp only [ByteArray.size_append] at z4
      obtain ⟨q0, q1, q2, q3, q4, q5, q6, q7⟩ := Go.Proofs.Ythkmjfapljmmpaa.ShortK.cz8 HC3
      go_wp2
      go_ret
      exact ⟨rfl, HB3.out⟩
    · have c3 : (s0_0 != 3) = true := by simpa using e3
      rw [if_neg e3] at h7
      obtain ⟨p, D1, D2⟩ := Option.bind_eq_some_iff.mp h7
      obtain ⟨rfl, z6⟩ := hcat_some D2
      have HP := Aside0.mk D1
      clear D1 D2 h7 H7 e3
      simp only [ByteArray.size_append] at z4 z6
      obtain ⟨q0, q1, q2, q3, q4, q5, q6, q7⟩ := Go.Proofs.Ythkmjfapljmmpaa.ShortK.cz8 HC3
      go_wp2_with fail
      refine (impl_bigEndian.calls k (16384 + (s0_6.size : Int)) 2 p _ HP.out).mono ?_
      rintro e w5 ⟨rfl, hb⟩
      have HC5 := Aside0.mk (blk_below HC3.out hb)
      have HB5 := Aside0.mk (HB3.out.trans (hb.mono HB3.out.size))
      clear hb
      clear q0 q1 q2 q3 q4 q5 q6 q7
      obtain ⟨q0, q1, q2, q3, q4, q5, q6, q7⟩ := Go.Proofs.Ythkmjfapljmmpaa.ShortK.cz8 HC5
      go_wp2
      go_ret
      exact ⟨rfl, HB5.out⟩
theorem impl_Header_bytes.calls (k : Nat) (g : Nat) (s0_0 : Int) (s0_1 : Int) (s0_2 : Int) (s0_3 : ByteArray) (s0_4 : ByteArray) (s0_5 : ByteArray) (s0_6 : ByteArray) (s0_7 : List Int) (r1 : ByteArray) (r2 : Int) (r3 : Int) (r4 : Int) (r5 : ByteArray) (r6 : ByteArray) (r7 : ByteArray) (r8 : ByteArray) (w0 w : World) (hI : IsS95 w0 w g s0_0 s0_1 s0_2 s0_3 s0_4 s0_5 s0_6 s0_7) (hB : Below w0.heap.size w0 w) (h : impl_Header_bytes.f k s0_0 s0_1 s0_2 s0_3 s0_4 s0_5 s0_6 s0_7 = some (r1, r2, r3, r4, r5, r6, r7, r8)) :
    Calls Try.prog 134 #[.pointer (some ⟨g, 0, none⟩)] w fun e w' => e = .returned (.string r1) ∧ IsS95 w0 w' g r2 r3 r4 r5 r6 r7 r8 s0_7 ∧ Below w0.heap.size w0 w' ∧ KeepBut w w' g none := by
  obtain ⟨A7, c7, hb0, hg0, hr7⟩ := hI
  unfold impl_Header_bytes.f at h
  by_cases hp : (0 ≤ s0_0 ∧ s0_0 ≤ 5) ∧ (0 ≤ s0_1 ∧ s0_1 ≤ 15) ∧ (0 ≤ s0_2 ∧ s0_2 ≤ 4294967295) ∧ s0_6.size ≤ 1200 ∧ s0_7.length ≤ 4611686018427387904 ∧ ∀ v, v ∈ s0_7 → 0 ≤ v ∧ v ≤ 4294967295
  · rw [if_pos hp] at h
    obtain ⟨r, hr, H⟩ := Option.bind_eq_some_iff.mp h
    simp only [Option.some.injEq, Prod.mk.injEq] at H
    obtain ⟨rfl, rfl, rfl, rfl, rfl, rfl, rfl, rfl⟩ := H
    have key : Calls Try.prog 134 #[.pointer (some ⟨g, 0, none⟩)] w fun e w' => e = .returned (.string r) ∧ Below w.heap.size w w' := by
      by_cases h5 : s0_0 = 5
      · exact hbytes5 k g s0_0 s0_1 s0_2 s0_3 s0_4 s0_5 s0_6 s0_7 r w A7 c7 hb0 hp h5 hr
      · by_cases h4 : s0_0 = 4
        · exact hbytes4 k g s0_0 s0_1 s0_2 s0_3 s0_4 s0_5 s0_6 s0_7 r w A7 c7 hb0 (Kd.C_below hr7 hB) hp h4 hr
        · exact hbytesL k g s0_0 s0_1 s0_2 s0_3 s0_4 s0_5 s0_6 s0_7 r w A7 c7 hb0 hp h5 h4 hr
    exact key.mono fun e w' hh => ⟨hh.1, ⟨A7, c7, blk_below hb0 hh.2, hg0, hr7⟩, hB.trans (hh.2.mono hB.size), keep_trans ⟨Nat.le_refl _, fun _ _ _ _ => rfl⟩ hh.2⟩
  · rw [if_neg hp] at h
    cases h

/-! ### impl_HeaderBytes: function 56 -/
def impl_HeaderBytes.f (k : Nat) (a0_0 : Int) (a0_1 : Int) (a0_2 : Int) (a0_3 : ByteArray) (a0_4 : ByteArray) (a0_5 : ByteArray) (a0_6 : ByteArray) (l0_7 : List Int) : Option (ByteArray × Bool) := (impl_GoodHeader.f k a0_0 a0_1 a0_2 a0_3 a0_4 a0_5 a0_6 l0_7).bind fun t => if t = true then ((impl_Header_bytes.f k a0_0 a0_1 a0_2 a0_3 a0_4 a0_5 a0_6 l0_7).bind fun r => some (r.1, true)) else some (⟨#[]⟩, false)
theorem impl_HeaderBytes.mono : ∀ a0 a1 a2 a3 a4 a5 a6 a7 k, LeO (impl_HeaderBytes.f k a0 a1 a2 a3 a4 a5 a6 a7) (impl_HeaderBytes.f (k + 1) a0 a1 a2 a3 a4 a5 a6 a7) := by
  intro a0 a1 a2 a3 a4 a5 a6 a7 k
  unfold impl_HeaderBytes.f
  exact LeO.bind (impl_GoodHeader.mono _ _ _ _ _ _ _ _ _) (fun _ => LeO.ite (LeO.bind (impl_Header_bytes.mono _ _ _ _ _ _ _ _ _) (fun _ => LeO.refl _)) (LeO.refl _))
set_option maxHeartbeats 16000000 in
set_option maxRecDepth 100000 in
theorem impl_HeaderBytes.calls (k : Nat) (a0_0 : Int) (a0_1 : Int) (a0_2 : Int) (a0_3 : ByteArray) (a0_4 : ByteArray) (a0_5 : ByteArray) (a0_6 : ByteArray) (A0_7 : Option Addr) (c0_7 : Nat) (l0_7 : List Int) (r1 : ByteArray) (r2 : Bool) (w : World) (hr0_7 : Kd.C (Kd.int .i64) w A0_7 l0_7.length l0_7) (hc0_7 : l0_7.length ≤ c0_7) (h : impl_HeaderBytes.f k a0_0 a0_1 a0_2 a0_3 a0_4 a0_5 a0_6 l0_7 = some (r1, r2)) :
    Calls Try.prog 56 #[.agg #[.int .i64 a0_0, .int .i64 a0_1, .int .i64 a0_2, .string a0_3, .string a0_4, .string a0_5, .string a0_6, .slice A0_7 l0_7.length c0_7]] w fun e w' => e = .returned (.tuple #[.string r1, .bool r2]) ∧ Below w.heap.size w w' := by
  obtain ⟨t, A1, H⟩ := Option.bind_eq_some_iff.mp h
  have HA := Aside0.mk A1
  have HR := Aside0.mk hr0_7
  have HCC := Aside0.mk hc0_7
  have HB0 := Aside0.mk ((Below.refl w.heap.size w).alloc (Nat.le_refl _) (.cells #[.int .i64 a0_0, .int .i64 a0_1, .int .i64 a0_2, .string a0_3, .string a0_4, .string a0_5, .string a0_6, .slice A0_7 l0_7.length c0_7] 95))
  have HC0 := Aside0.mk (blk_new w (.cells #[.int .i64 a0_0, .int .i64 a0_1, .int .i64 a0_2, .string a0_3, .string a0_4, .string a0_5, .string a0_6, .slice A0_7 l0_7.length c0_7] 95))
  clear A1 h hr0_7 hc0_7
  cases t with
  | false =>
    rw [if_neg (by decide)] at H
    simp only [Option.some.injEq, Prod.mk.injEq] at H
    obtain ⟨rfl, rfl⟩ := H
    clear HC0
    go_enter Try.func56, Try.ntmps56
    go_wp2_with fail
    refine (impl_GoodHeader.calls k a0_0 a0_1 a0_2 a0_3 a0_4 a0_5 a0_6 A0_7 c0_7 l0_7 false _ (Kd.C_below HR.out HB0.out) HCC.out HA.out).mono ?_
    rintro e w1 ⟨rfl, hb⟩
    have HB1 := Aside0.mk (HB0.out.trans ((show Below _ _ w1 from by first | exact hb | exact hb.below).mono HB0.out.size))
    clear hb HB0
    go_wp2
    go_ret2
    exact ⟨rfl, HB1.out⟩
  | true =>
    rw [if_pos rfl] at H
    obtain ⟨⟨i0, i1, i2, i3, i4, i5, i6, i7⟩, A2, H⟩ := Option.bind_eq_some_iff.mp H
    simp only [Option.some.injEq, Prod.mk.injEq] at H
    obtain ⟨rfl, rfl⟩ := H
    have HA2 := Aside0.mk A2
    clear A2
    go_enter Try.func56, Try.ntmps56
    go_wp2_with fail
    refine (impl_GoodHeader.calls k a0_0 a0_1 a0_2 a0_3 a0_4 a0_5 a0_6 A0_7 c0_7 l0_7 true _ (Kd.C_below HR.out HB0.out) HCC.out HA.out).mono ?_
    rintro e w1 ⟨rfl, hb0⟩
    have hb := (show Below _ _ w1 from by first | exact hb0 | exact hb0.below)
    have HB1 := Aside0.mk (HB0.out.trans (hb.mono HB0.out.size))
    have HC1 := Aside0.mk (blk_below HC0.out hb)
    clear hb hb0 HB0 HC0
    go_wp2_with fail
    refine (impl_Header_bytes.calls k w.heap.size a0_0 a0_1 a0_2 a0_3 a0_4 a0_5 a0_6 l0_7 i0 i1 i2 i3 i4 i5 i6 i7 w _ ⟨A0_7, c0_7, HC1.out, Nat.le_refl _, HR.out⟩ HB1.out HA2.out).mono ?_
    rintro e w2 ⟨rfl, _, hb, _⟩
    have HB2 := Aside0.mk hb
    clear hb
    go_wp2
    go_ret2
    exact ⟨rfl, HB2.out⟩

/-! ### laws_eqIntS: function 68 -/
def laws_eqIntS.l0 : Nat → List Int → List Int → Int → Option (Bool)
 | 0, _, _, _ => none
 | k + 1, x0, x1, x5 => if x5 < (x0.length : Int) then (if 0 ≤ x5 then (if x5 < (x1.length : Int) then (if (rd x0 x5) = (rd x1 x5) then (laws_eqIntS.l0 k x0 x1 (wrap64 (x5 + 1))) else (some false)) else (none)) else (none)) else (some true)
def laws_eqIntS.f (k : Nat) (l0 : List Int) (l1 : List Int) : Option (Bool) := if (l0.length : Int) = (l1.length : Int) then (laws_eqIntS.l0 k l0 l1 0) else (some false)
theorem laws_eqIntS.mono_l : ∀ k, (∀ y0 y1 y2, LeO (laws_eqIntS.l0 k y0 y1 y2) (laws_eqIntS.l0 (k + 1) y0 y1 y2))
 | 0 => fun _ _ _ r h => by simp [laws_eqIntS.l0] at h
 | k + 1 => by
  have ih0 := laws_eqIntS.mono_l k
  ·intro y0 y1 y2
   unfold laws_eqIntS.l0
   repeat' first
   | (with_reducible exact ih0 _ _ _)
   | (with_reducible exact LeO.refl _)
   | (with_reducible exact LeO.none _)
   | (with_reducible refine LeO.ite ?_ ?_)
   | (with_reducible refine LeO.bind ?_ (fun _ => ?_))
   | exact ih0 _ _ _
   | exact LeO.none _
   | refine LeO.ite ?_ ?_
   | refine LeO.bind ?_ (fun _ => ?_)
theorem laws_eqIntS.mono : ∀ a0 a1 k, LeO (laws_eqIntS.f k a0 a1) (laws_eqIntS.f (k + 1) a0 a1) := by
 intro a0 a1 k
 have ih0 := laws_eqIntS.mono_l k
 unfold laws_eqIntS.f
 repeat' first
   | (with_reducible exact ih0 _ _ _)
   | (with_reducible exact LeO.refl _)
   | (with_reducible exact LeO.none _)
   | (with_reducible refine LeO.ite ?_ ?_)
   | (with_reducible refine LeO.bind ?_ (fun _ => ?_))
   | exact ih0 _ _ _
   | exact LeO.none _
   | refine LeO.ite ?_ ?_
   | refine LeO.bind ?_ (fun _ => ?_)
set_option maxHeartbeats 64000000 in
set_option maxRecDepth 100000 in
theorem laws_eqIntS.calls (k : Nat) (A0 : Option Addr) (c0 : Nat) (l0 : List Int) (A1 : Option Addr) (c1 : Nat) (l1 : List Int) (r : Bool) (w : World) (hr0 : Kd.C (Kd.int .i64) w A0 l0.length l0) (hc0 : l0.length ≤ c0) (hr1 : Kd.C (Kd.int .i64) w A1 l1.length l1) (hc1 : l1.length ≤ c1) (h : laws_eqIntS.f k l0 l1 = some r) :
  Calls Try.prog 68 #[.slice A0 l0.length c0, .slice A1 l1.length c1] w fun e w' => e = .returned (.bool r) ∧ Drawn0 w w' := by
 have HR0 := Aside0.mk hr0
 have HC0 := Aside0.mk hc0
 clear hr0 hc0
 have HR1 := Aside0.mk hr1
 have HC1 := Aside0.mk hc1
 clear hr1 hc1
 have H : (if (l0.length : Int) = (l1.length : Int) then (laws_eqIntS.l0 k l0 l1 0) else (some false)) = some r := h
 clear h
 by_cases c3 : (l0.length : Int) = (l1.length : Int)
 ·rw [if_pos c3] at H
  have c3b0 : ((l0.length : Int) == (l1.length : Int)) = true := beq_iff_eq.mpr c3
  have c3b1 : ((l0.length : Int) != (l1.length : Int)) = false := bne_eq_false_iff_eq.mpr c3
  have c3b2 : (l0.length == l1.length) = true := by first | simpa using c3 | (simp at c3 ⊢; omega)
  clear c3
  have H' := Aside0.mk H
  clear H
  go_enter Try.func68, Try.ntmps68
  go_wp2
  repeat (go_quiet (fail); try go_wp2)
  go_loopg [5] k (fun kq v5 w' => ∃ (x5_1 : Int), v5 = .int .i64 x5_1 ∧ Aside0 (laws_eqIntS.l0 kq l0 l1 x5_1 = some r) ∧ Aside0 (kq ≤ k) ∧ Drawn0 w w')
  case atStart => exact ⟨(0), (by first | rfl | (simp; done) | (simp [*]; done)), H', ⟨Nat.le_refl _⟩, by repeat (first | exact Drawn0.refl _ | apply Drawn0.step)⟩
  case round =>
   clear H'
   try clear c1
   try clear p2
   try clear c3
   try clear c3b0
   try clear c3b1
   try clear c3b2
   obtain ⟨x5_1, rfl, HA, HK1, ⟨m1, rfl⟩⟩ := hrel
   cases gk with
   | zero => exact absurd HA.out (by simp [laws_eqIntS.l0])
   | succ k1 =>
    have H := HA.out
    clear HA
    simp only [laws_eqIntS.l0] at H
    by_cases c4 : x5_1 < (l0.length : Int)
    ·rw [if_pos c4] at H
     have c4b0 : decide (x5_1 < (l0.length : Int)) = true := decide_eq_true c4
     clear c4
     by_cases c5 : 0 ≤ x5_1
     ·rw [if_pos c5] at H
      have c5b0 : decide (0 ≤ x5_1) = true := decide_eq_true c5
      clear c5
      by_cases c6 : x5_1 < (l1.length : Int)
      ·rw [if_pos c6] at H
       have c6b0 : decide (x5_1 < (l1.length : Int)) = true := decide_eq_true c6
       clear c6
       by_cases c7 : (rd l0 x5_1) = (rd l1 x5_1)
       ·rw [if_pos c7] at H
        have c7b0 : ((rd l0 x5_1) == (rd l1 x5_1)) = true := beq_iff_eq.mpr c7
        have c7b1 : ((rd l0 x5_1) != (rd l1 x5_1)) = false := bne_eq_false_iff_eq.mpr c7
        clear c7
        have H' := Aside0.mk H
        clear H
        have p161 : 0 ≤ (x5_1 : Int) := of_decide_eq_true (by first | (with_reducible assumption) | assumption)
        have q161 : x5_1 < (l0.length : Int) := of_decide_eq_true (by first | (with_reducible assumption) | assumption)
        obtain ⟨ad161, e161, hx161_0⟩ := Kd.at_int HR0.out x5_1 p161 q161
        cases e161
        replace p161 := eq_true p161
        replace q161 := eq_true q161
        have p162 : 0 ≤ (x5_1 : Int) := of_decide_eq_true (by first | (with_reducible assumption) | assumption)
        have q162 : x5_1 < (l1.length : Int) := of_decide_eq_true (by first | (with_reducible assumption) | assumption)
        obtain ⟨ad162, e162, hx162_0⟩ := Kd.at_int HR1.out x5_1 p162 q162
        cases e162
        replace p162 := eq_true p162
        replace q162 := eq_true q162
        go_wp2
        repeat (go_quiet (fail); try go_wp2)
        go_roundg k1
        case measure => have := HK1.out; omega
        case rel => exact ⟨(wrap64 (x5_1 + 1)), (by first | rfl | (simp; done) | (simp [*]; done)), H', ⟨by have := HK1.out; omega⟩, by repeat (first | exact Drawn0.refl _ | apply Drawn0.step)⟩
       ·rw [if_neg c7] at H
        have c7b0 : ((rd l0 x5_1) == (rd l1 x5_1)) = false := beq_eq_false_iff_ne.mpr c7
        have c7b1 : ((rd l0 x5_1) != (rd l1 x5_1)) = true := bne_iff_ne.mpr c7
        obtain rfl := Option.some.inj H
        have p161 : 0 ≤ (x5_1 : Int) := of_decide_eq_true (by first | (with_reducible assumption) | assumption)
        have q161 : x5_1 < (l0.length : Int) := of_decide_eq_true (by first | (with_reducible assumption) | assumption)
        obtain ⟨ad161, e161, hx161_0⟩ := Kd.at_int HR0.out x5_1 p161 q161
        cases e161
        replace p161 := eq_true p161
        replace q161 := eq_true q161
        have p162 : 0 ≤ (x5_1 : Int) := of_decide_eq_true (by first | (with_reducible assumption) | assumption)
        have q162 : x5_1 < (l1.length : Int) := of_decide_eq_true (by first | (with_reducible assumption) | assumption)
        obtain ⟨ad162, e162, hx162_0⟩ := Kd.at_int HR1.out x5_1 p162 q162
        cases e162
        replace p162 := eq_true p162
        replace q162 := eq_true q162
        go_wp2
        repeat (go_quiet (fail); try go_wp2)
        go_ret
        exact ⟨by first | rfl | (simp; done) | (simp [*]; done), by repeat (first | exact Drawn0.refl _ | apply Drawn0.step)⟩
      ·rw [if_neg c6] at H
       exact absurd H (by simp)
     ·rw [if_neg c5] at H
      exact absurd H (by simp)
    ·rw [if_neg c4] at H
     have c4b0 : decide (x5_1 < (l0.length : Int)) = false := decide_eq_false c4
     clear c4
     obtain rfl := Option.some.inj H
     go_wp2
     repeat (go_quiet (fail); try go_wp2)
     go_ret
     exact ⟨by first | rfl | (simp; done) | (simp [*]; done), by repeat (first | exact Drawn0.refl _ | apply Drawn0.step)⟩
 ·rw [if_neg c3] at H
  have c3b0 : ((l0.length : Int) == (l1.length : Int)) = false := beq_eq_false_iff_ne.mpr c3
  have c3b1 : ((l0.length : Int) != (l1.length : Int)) = true := bne_iff_ne.mpr c3
  have c3b2 : (l0.length == l1.length) = false := by first | simpa using c3 | (simp at c3 ⊢; omega)
  obtain rfl := Option.some.inj H
  go_enter Try.func68, Try.ntmps68
  go_wp2
  repeat (go_quiet (fail); try go_wp2)
  go_ret
  exact ⟨by first | rfl | (simp; done) | (simp [*]; done), by repeat (first | exact Drawn0.refl _ | apply Drawn0.step)⟩

end Go.Proofs.Ythkmjfapljmmpaa.PFnExactHeaderBytes
