/- Texts: numbers in bytes, blocks filled up. -/
import Derived.Test.YtkcdhphhacjkhaaCryG
import Derived.Test.YtkcdhphhacjkhaaCryW
import Derived.Laws.Cover3
namespace Go.Proofs.Ytkcdhphhacjkhaa.B
open Go.RowKit Go.Proofs.YtkcdhphhacjkhaaW.PrintWords Go.Proofs.YtkcdhphhacjkhaaW.PrintLast Go.Proofs.YtkcdhphhacjkhaaW.PrintMore
open Go.Proofs.Ytkcdhphhacjkhaa.AES
open Go.Proofs.Ytkcdhphhacjkhaa
attribute [local go_sem] Go.Proofs.Ytkcdhphhacjkhaa.StoreK.isSome_setCell
set_option linter.unusedVariables false
set_option linter.unusedSimpArgs false
open Go.Proofs.Ytkcdhphhacjkhaa.LoopK (copyEv sameEv markEv heldEv foldEv mk mk_length at_lt at_lt' at_nn at_nlt at_stop at_getD at_set at_set2 at_snoc len_snoc at_w w64 firstEv find_any chk last_or at_prev at_prev_lt at_prev_nn at_prev_pos at_prev_w pairEv)
/-- So many bytes of a number, the highest one first. -/
def be : Int → Nat → List Int
  | _, 0 => []
  | n, m + 1 => be (n / 256) m ++ [n % 256]
theorem be_length : ∀ (m : Nat) (n : Int), (be n m).length = m
  | 0, _ => rfl
  | m + 1, n => by simp [be, be_length m]
theorem pow256 (m : Nat) : (0 : Int) < 256 ^ m := Int.pow_pos (by decide)
theorem be_cons : ∀ (m : Nat) (n : Int), be n (m + 1) = (n / 256 ^ m % 256) :: be n m
  | 0, n => by simp [be]
  | m + 1, n => by
    have e : n / 256 / 256 ^ m = n / 256 ^ (m + 1) := by
      rw [Int.ediv_ediv_of_nonneg (by decide), Int.pow_succ, Int.mul_comm]
    rw [be, be_cons m (n / 256), e]
    simp [be]
theorem be_mod : ∀ (m : Nat) (n q : Int), be (n + 256 ^ m * q) m = be n m
  | 0, _, _ => rfl
  | m + 1, n, q => by
    have e1 : n + 256 ^ (m + 1) * q = n + 256 * (256 ^ m * q) := by rw [Int.pow_succ, Int.mul_comm (256 ^ m) 256, Int.mul_assoc]
    have e2 : (n + 256 * (256 ^ m * q)) / 256 = n / 256 + 256 ^ m * q := by omega
    have e3 : (n + 256 * (256 ^ m * q)) % 256 = n % 256 := by omega
    rw [be, e1, e2, e3, be_mod m]
    rfl
theorem strOfNums_size (l : List Int) : (strOfNums l).size = l.length := by simp [strOfNums, ByteArray.size]
theorem strOfNums_toList (l : List Int) : (strOfNums l).toList = l.map fun n => UInt8.ofNat n.toNat := by
  rw [ByteArray.toList_eq]
  simp [strOfNums]
theorem strOfNums_append (a b : List Int) : strOfNums a ++ strOfNums b = strOfNums (a ++ b) := by
  apply ByteArray.ext
  simp [strOfNums]
theorem shr8 (x : Int) (i : Nat) (hi : 8 * i ≤ 9223372036854775807) (hx : 0 ≤ x ∧ x < 18446744073709551616) : shr .u64 x (8 * (i : Int)) = x / 256 ^ i ∧ shr .i64 x (8 * (i : Int)) = x / 256 ^ i := by
  have hp : (256 : Int) ^ i = 2 ^ (8 * i) := by rw [Int.pow_mul]; rfl
  have e : (8 * (i : Int)).toNat = 8 * i := by omega
  have key : x / 2 ^ min (8 * i) 64 = x / 256 ^ i := by
    rcases Nat.lt_or_ge (8 * i) 64 with h | h
    · rw [hp, Nat.min_eq_left (by omega)]
    · rw [Nat.min_eq_right h, hp]
      have h1 : (2 : Int) ^ 64 ≤ 2 ^ (8 * i) := by exact_mod_cast Nat.pow_le_pow_right (by decide) h
      rw [Int.ediv_eq_zero_of_lt hx.1 (by omega), Int.ediv_eq_zero_of_lt hx.1 (by omega)]
  unfold shr
  rw [e]
  exact ⟨key, key⟩
theorem l1Fixed_loop (x : Int) (hx : 0 ≤ x ∧ x < 18446744073709551616) : ∀ (m : Nat) (out : List Int), m ≤ 1000 → out.length + m ≤ 100000 → Ev (fun k => spec_l1Fixed.l0 k x out ((m : Int) - 1)) (strOfNums (out ++ be x m))
  | 0, out, _, _ => by
    refine LoopK.Ev.succ ?_
    have c : ¬ (((0 : Nat) : Int) - 1 ≥ 0) := by omega
    simp only [spec_l1Fixed.l0, c, if_false, be, List.append_nil]
    exact Ev.now _
  | m + 1, out, hm, ho => by
    refine LoopK.Ev.succ ?_
    have e0 : ((m + 1 : Nat) : Int) - 1 = (m : Int) := by omega
    have c : (m : Int) ≥ 0 := by omega
    have w0 : wrap64 (8 * (m : Int)) = 8 * (m : Int) := w64 _ (by omega)
    have w1 : IntKind.u64.wrap (8 * (m : Int)) = 8 * (m : Int) := by
      simp [IntKind.wrap, IntKind.bits, IntKind.signed]
      omega
    have c1 : 0 ≤ 8 * (m : Int) := by omega
    have c2 : out.length < 140737488355328 := by omega
    have w2 : wrap64 ((m : Int) - 1) = (m : Int) - 1 := w64 _ (by omega)
    rw [e0]
    simp only [spec_l1Fixed.l0, c, if_true, w0, w1, c1, c2, w2, (shr8 x m (by omega) hx).2]
    refine LoopK.Ev.to (l1Fixed_loop x hx m _ (by omega) (by simp; omega)) ?_
    rw [be_cons, List.append_assoc]
    rfl
theorem l1Fixed_ev (x : Int) (hx : 0 ≤ x ∧ x < 18446744073709551616) (m : Nat) (hm : m ≤ 1000) : Ev (fun k => spec_l1Fixed.f k x (m : Int)) (strOfNums (be x m)) := by
  unfold spec_l1Fixed.f
  have w : wrap64 ((m : Int) - 1) = (m : Int) - 1 := w64 _ (by omega)
  simp only [w]
  simpa using l1Fixed_loop x hx m [] hm (by simp; omega)
theorem bigEndian_loop : ∀ (m : Nat) (x : Int) (tail : List Int), m ≤ 1000 → tail.length + m ≤ 100000 → Ev (fun k => impl_bigEndian.l0 k x (List.replicate m 0 ++ tail) ((m : Int) - 1)) (strOfNums (be x m ++ tail))
  | 0, x, tail, _, _ => by
    refine LoopK.Ev.succ ?_
    have c : ¬ (((0 : Nat) : Int) - 1 ≥ 0) := by omega
    simp only [impl_bigEndian.l0, c, if_false, be, List.replicate_zero, List.nil_append]
    exact Ev.now _
  | m + 1, x, tail, hm, ht => by
    refine LoopK.Ev.succ ?_
    have e0 : ((m + 1 : Nat) : Int) - 1 = (m : Int) := by omega
    have c : (m : Int) ≥ 0 := by omega
    have c1 : 0 ≤ (m : Int) := by omega
    have c2 : (m : Int) < ((List.replicate (m + 1) (0 : Int) ++ tail).length : Int) := by
      rw [List.length_append, List.length_replicate]
      omega
    have w2 : wrap64 ((m : Int) - 1) = (m : Int) - 1 := w64 _ (by omega)
    have e1 : (List.replicate (m + 1) (0 : Int) ++ tail).set (m : Int).toNat (x % 256) = List.replicate m 0 ++ (x % 256 :: tail) := by
      rw [List.replicate_succ', List.append_assoc]
      have : (m : Int).toNat = (List.replicate m (0 : Int)).length := by simp
      rw [this, List.set_append_right _ _ (Nat.le_refl _)]
      simp
    rw [e0]
    simp only [impl_bigEndian.l0, c, if_true, c1, c2, w2, e1]
    refine LoopK.Ev.to (bigEndian_loop m (x / 256) (x % 256 :: tail) (by omega) (by rw [List.length_cons]; omega)) ?_
    simp [be]
theorem bigEndian_ev (x : Int) (m : Nat) (hm : m ≤ 1000) : Ev (fun k => impl_bigEndian.f k x (m : Int)) (strOfNums (be x m)) := by
  unfold impl_bigEndian.f
  have c1 : 0 ≤ (m : Int) := by omega
  have c2 : (m : Int).toNat = m := by omega
  have c3 : m ≤ 281474976710656 := by omega
  have w : wrap64 ((m : Int) - 1) = (m : Int) - 1 := w64 _ (by omega)
  simp only [c1, if_true, c2, c3, w]
  simpa using bigEndian_loop m x [] hm (by simp; omega)
theorem shr8s (x : Int) (i : Nat) (hi : i < 8) : shr .i64 x (8 * (i : Int)) = x / 256 ^ i := by
  have hp : (256 : Int) ^ i = 2 ^ (8 * i) := by rw [Int.pow_mul]; rfl
  have e : (8 * (i : Int)).toNat = 8 * i := by omega
  unfold shr
  rw [e, hp, Nat.min_eq_left (by simp [IntKind.bits]; omega)]
theorem l1Fixed_loop_s (x : Int) : ∀ (m : Nat) (out : List Int), m ≤ 8 → out.length + m ≤ 100000 → Ev (fun k => spec_l1Fixed.l0 k x out ((m : Int) - 1)) (strOfNums (out ++ be x m))
  | 0, out, _, _ => by
    refine LoopK.Ev.succ ?_
    have c : ¬ (((0 : Nat) : Int) - 1 ≥ 0) := by omega
    simp only [spec_l1Fixed.l0, c, if_false, be, List.append_nil]
    exact Ev.now _
  | m + 1, out, hm, ho => by
    refine LoopK.Ev.succ ?_
    have e0 : ((m + 1 : Nat) : Int) - 1 = (m : Int) := by omega
    have c : (m : Int) ≥ 0 := by omega
    have w0 : wrap64 (8 * (m : Int)) = 8 * (m : Int) := w64 _ (by omega)
    have w1 : IntKind.u64.wrap (8 * (m : Int)) = 8 * (m : Int) := by
      simp [IntKind.wrap, IntKind.bits, IntKind.signed]
      omega
    have c1 : 0 ≤ 8 * (m : Int) := by omega
    have c2 : out.length < 140737488355328 := by omega
    have w2 : wrap64 ((m : Int) - 1) = (m : Int) - 1 := w64 _ (by omega)
    rw [e0]
    simp only [spec_l1Fixed.l0, c, if_true, w0, w1, c1, c2, w2, shr8s x m (by omega)]
    refine LoopK.Ev.to (l1Fixed_loop_s x m _ (by omega) (by simp; omega)) ?_
    rw [be_cons, List.append_assoc]
    rfl
theorem l1Fixed_any (x : Int) (m : Nat) (hm : m ≤ 8) : Ev (fun k => spec_l1Fixed.f k x (m : Int)) (strOfNums (be x m)) := by
  unfold spec_l1Fixed.f
  have w : wrap64 ((m : Int) - 1) = (m : Int) - 1 := w64 _ (by omega)
  simp only [w]
  simpa using l1Fixed_loop_s x m [] hm (by simp; omega)
theorem be_same (x y : Int) (m : Nat) (hm : m ≤ 8) (h : x % 18446744073709551616 = y % 18446744073709551616) : be x m = be y m := by
  have e : x = y + 18446744073709551616 * (x / 18446744073709551616 - y / 18446744073709551616) := by omega
  have hp : (18446744073709551616 : Int) = 256 ^ m * 256 ^ (8 - m) := by
    rw [← Int.pow_add, Nat.add_sub_cancel' hm]
    decide
  rw [e, hp, Int.mul_assoc, be_mod]
/-- Eight bytes of each of two words. -/
def textW (p : UInt64 × UInt64) : ByteArray := strOfNums (be (p.1.toNat : Int) 8) ++ strOfNums (be (p.2.toNat : Int) 8)
theorem textW_size (p : UInt64 × UInt64) : (textW p).size = 16 := by
  unfold textW
  rw [ByteArray.size_append, strOfNums_size, strOfNums_size, be_length, be_length]
theorem polyText_ev (h l : UInt64) : Ev (fun k => impl_poly_text.f k (h.toNat : Int) (l.toNat : Int)) (textW (h, l)) := by
  unfold impl_poly_text.f
  refine LoopK.Ev.bind_ (bigEndian_ev _ 8 (by omega)) (LoopK.Ev.bind_ (bigEndian_ev _ 8 (by omega)) ?_)
  rw [if_pos (by rw [strOfNums_size, strOfNums_size, be_length, be_length]; omega)]
  exact Ev.now _
theorem told_ev (h l : UInt64) : Ev (fun k => spec_l5Told.f k (h.toNat : Int) (l.toNat : Int)) (textW (h, l)) := by
  unfold spec_l5Told.f
  refine LoopK.Ev.bind_ (l1Fixed_any _ 8 (by omega)) (LoopK.Ev.bind_ (l1Fixed_any _ 8 (by omega)) ?_)
  rw [if_pos (by rw [strOfNums_size, strOfNums_size, be_length, be_length]; omega)]
  have e : ∀ x : UInt64, be (wrap64 (x.toNat : Int)) 8 = be (x.toNat : Int) 8 := fun x => be_same _ _ 8 (by omega) (by unfold wrap64; omega)
  rw [e, e]
  exact Ev.now _
/-- Filled up to whole blocks. -/
def fillS (s : ByteArray) : ByteArray := s ++ strOf ((16 - s.size % 16) % 16) fun _ => 0
theorem fillS_size (s : ByteArray) : (fillS s).size = s.size + (16 - s.size % 16) % 16 := by
  unfold fillS
  rw [ByteArray.size_append, strOf_size]
theorem strOf_succ0 (n : Nat) : (⟨#[0]⟩ : ByteArray) ++ strOf n (fun _ => 0) = strOf (n + 1) fun _ => 0 := by
  apply ByteArray.ext
  apply Array.toList_inj.mp
  simp [strOf, List.range_succ_eq_map, Function.comp_def]
theorem full_loop : ∀ (n : Nat) (s : ByteArray), (16 - s.size % 16) % 16 = n → s.size + n ≤ 1000100 → Ev (fun k => spec_l5Full.l0 k s) (s ++ strOf n fun _ => 0)
  | 0, s, h, hs => by
    refine LoopK.Ev.succ ?_
    have c : (s.size : Int) % 16 = 0 := by omega
    simp only [spec_l5Full.l0, c, if_true]
    have e : s ++ strOf 0 (fun _ => 0) = s := by
      apply ByteArray.ext
      simp [strOf]
    rw [e]
    exact Ev.now _
  | n + 1, s, h, hs => by
    refine LoopK.Ev.succ ?_
    have c : ¬ (s.size : Int) % 16 = 0 := by omega
    have c2 : s.size + 1 ≤ 9223372036854775807 := by omega
    have hz : (s ++ (⟨#[0]⟩ : ByteArray)).size = s.size + 1 := by rw [ByteArray.size_append]; rfl
    simp only [spec_l5Full.l0, c, if_false, c2, if_true]
    rw [← strOf_succ0, ← ByteArray.append_assoc]
    exact full_loop n _ (by rw [hz]; omega) (by rw [hz]; omega)
theorem full_ev (s : ByteArray) (hs : s.size ≤ 1000000) : Ev (fun k => spec_l5Full.f k s) (fillS s) := full_loop _ s rfl (by omega)
/-! ### the contracts, without fuel -/
theorem bigEndian_c (x : Int) (m : Nat) (hm : m ≤ 8) (w : World) : Calls Try.prog 22 #[.int .u64 x, .int .i64 (m : Int)] w fun e w' => e = .returned (.string (strOfNums (be x m))) ∧ Below w.heap.size w w' := by
  obtain ⟨k, h⟩ := ev_mono (bigEndian_ev x m (by omega))
  exact impl_bigEndian.calls k _ _ _ w h
theorem l1Fixed_c (x : Int) (m : Nat) (hm : m ≤ 8) (w : World) : Calls Try.prog 32 #[.int .i64 x, .int .i64 (m : Int)] w fun e w' => e = .returned (.string (strOfNums (be x m))) ∧ Below w.heap.size w w' := by
  obtain ⟨k, h⟩ := ev_mono (l1Fixed_any x m hm)
  exact spec_l1Fixed.calls k _ _ _ w h
theorem full_c (s : ByteArray) (hs : s.size ≤ 1000000) (w : World) : Calls Try.prog 60 #[.string s] w fun e w' => e = .returned (.string (fillS s)) ∧ Below w.heap.size w w' := by
  obtain ⟨k, h⟩ := ev_mono (full_ev s hs)
  exact (spec_l5Full.calls k _ _ w h).mono fun e w' ⟨h1, h2⟩ => ⟨h1, by first | exact h2 | exact below_drawn (Below.refl _ _) h2⟩
theorem numberOf_c (s : ByteArray) (hs : s.size ≤ 1000) (w : World) : Calls Try.prog 29 #[.string s] w fun e w' => e = .returned (.int .u64 ((nb s.data.toList 0).toNat : Int)) ∧ Drawn0 w w' := by
  obtain ⟨k, h⟩ := ev_mono (numberOf_ev s hs)
  exact impl_numberOf.calls k _ _ w h
theorem polyOf_c (s : ByteArray) (hs : s.size = 16) (w : World) : Calls Try.prog 49 #[.string s] w fun e w' => e = .returned (.agg #[.int .u64 ((wordH s).toNat : Int), .int .u64 ((wordL s).toNat : Int)]) ∧ Below w.heap.size w w' := by
  obtain ⟨k, h⟩ := ev_mono (polyOf_ev s hs)
  exact impl_polyOf.calls k _ _ _ w h
def ghW (a b : UInt64) (s : ByteArray) : UInt64 × UInt64 := gh a b s (s.size / 16) 0 0 0
theorem ghash_c (a b : UInt64) (s : ByteArray) (hs : s.size ≤ 1000000) (hm : s.size % 16 = 0) (w : World) : Calls Try.prog 51 #[.agg #[.int .u64 (a.toNat : Int), .int .u64 (b.toNat : Int)], .string s] w fun e w' => e = .returned (.agg #[.int .u64 ((ghW a b s).1.toNat : Int), .int .u64 ((ghW a b s).2.toNat : Int)]) ∧ Below w.heap.size w w' := by
  obtain ⟨k, h⟩ := ev_mono (ghash_ev a b s hs hm)
  exact impl_ghash.calls k _ _ _ _ _ w h
theorem l5Ghash_c (g s : ByteArray) (hg : g.size = 16) (hs : s.size ≤ 1000000) (hm : s.size % 16 = 0) (w : World) : Calls Try.prog 62 #[.string g, .string s] w fun e w' => e = .returned (.agg #[.int .u64 ((ghW (wordH g) (wordL g) s).1.toNat : Int), .int .u64 ((ghW (wordH g) (wordL g) s).2.toNat : Int)]) ∧ Below w.heap.size w w' := by
  obtain ⟨k, h⟩ := ev_mono (l5Ghash_ev g s hg hs hm)
  exact spec_l5Ghash.calls k _ _ _ _ w h
theorem polyText_c (p : UInt64 × UInt64) (w : World) : Calls Try.prog 53 #[.agg #[.int .u64 (p.1.toNat : Int), .int .u64 (p.2.toNat : Int)]] w fun e w' => e = .returned (.string (textW p)) ∧ Below w.heap.size w w' := by
  obtain ⟨k, h⟩ := ev_mono (polyText_ev p.1 p.2)
  exact impl_poly_text.calls k _ _ _ w h
theorem told_c (p : UInt64 × UInt64) (w : World) : Calls Try.prog 61 #[.agg #[.int .u64 (p.1.toNat : Int), .int .u64 (p.2.toNat : Int)]] w fun e w' => e = .returned (.string (textW p)) ∧ Below w.heap.size w w' := by
  obtain ⟨k, h⟩ := ev_mono (told_ev p.1 p.2)
  exact spec_l5Told.calls k _ _ _ w h
end Go.Proofs.Ytkcdhphhacjkhaa.B
