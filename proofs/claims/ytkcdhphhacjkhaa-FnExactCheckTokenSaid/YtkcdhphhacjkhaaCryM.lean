/- Bytes and blocks: the field of 256 (products, inverses by powers, told equal by the kernel byte by byte), the field of 2^128 (its product commutes). Plain Lean. -/
namespace Go.Proofs.Ytkcdhphhacjkhaa.AES
/-- The product of two bytes, step by step. -/
def gm : Nat → UInt8 → UInt8 → UInt8 → UInt8
  | 0, out, _, _ => out
  | n + 1, out, a, b => if b = 0 then out else gm n (if b &&& 1 = 1 then out ^^^ a else out) (if a &&& 128 = 0 then a <<< 1 else (a <<< 1) ^^^ 27) (b >>> 1)
def gmul (a b : UInt8) : UInt8 := gm 8 0 a b
/-- The same over natural numbers: the kernel reckons it. -/
def gn : Nat → Nat → Nat → Nat → Nat
  | 0, out, _, _ => out
  | n + 1, out, a, b => if Nat.beq b 0 then out else gn n (bif Nat.beq (Nat.land b 1) 1 then Nat.xor out a else out) (bif Nat.beq (Nat.land a 128) 0 then Nat.mod (Nat.mul a 2) 256 else Nat.xor (Nat.mod (Nat.mul a 2) 256) 27) (Nat.div b 2)
theorem gm_gn (n : Nat) : ∀ out a b : UInt8, (gm n out a b).toNat = gn n out.toNat a.toNat b.toNat := by
  induction n with
  | zero => intro out a b; rfl
  | succ n ih =>
    intro out a b
    have e0 : Nat.beq b.toNat 0 = decide (b = 0) := by
      cases h : Nat.beq b.toNat 0
      · have := Nat.ne_of_beq_eq_false h
        exact (decide_eq_false (fun h => this (by rw [h]; rfl))).symm
      · have := Nat.eq_of_beq_eq_true h
        exact (decide_eq_true (UInt8.toNat_inj.mp this)).symm
    have e1 : Nat.beq (Nat.land b.toNat 1) 1 = decide (b &&& 1 = 1) := by
      have hh : Nat.land b.toNat 1 = (b &&& 1).toNat := by rw [UInt8.toNat_and]; rfl
      rw [hh]
      cases h : Nat.beq (b &&& 1).toNat 1
      · have := Nat.ne_of_beq_eq_false h
        exact (decide_eq_false (fun h => this (by rw [h]; rfl))).symm
      · have := Nat.eq_of_beq_eq_true h
        exact (decide_eq_true (UInt8.toNat_inj.mp this)).symm
    have e2 : Nat.beq (Nat.land a.toNat 128) 0 = decide (a &&& 128 = 0) := by
      have hh : Nat.land a.toNat 128 = (a &&& 128).toNat := by rw [UInt8.toNat_and]; rfl
      rw [hh]
      cases h : Nat.beq (a &&& 128).toNat 0
      · have := Nat.ne_of_beq_eq_false h
        exact (decide_eq_false (fun h => this (by rw [h]; rfl))).symm
      · have := Nat.eq_of_beq_eq_true h
        exact (decide_eq_true (UInt8.toNat_inj.mp this)).symm
    have e3 : Nat.mod (Nat.mul a.toNat 2) 256 = (a <<< 1).toNat := by
      rw [UInt8.toNat_shiftLeft]
      show a.toNat * 2 % 256 = a.toNat <<< 1 % 256
      rw [Nat.shiftLeft_eq]
    have e4 : Nat.div b.toNat 2 = (b >>> 1).toNat := by
      rw [UInt8.toNat_shiftRight]
      show b.toNat / 2 = b.toNat >>> 1
      rw [Nat.shiftRight_eq_div_pow]
    simp only [gm, gn, e0, e1, e2, e3, e4]
    by_cases h0 : b = 0
    · simp [h0]
    · simp only [h0, if_false, decide_false, Bool.false_eq_true]
      rw [ih]
      congr 1
      · by_cases h : b &&& 1 = 1
        · simp only [h, if_true, decide_true, cond_true]; rw [UInt8.toNat_xor]; rfl
        · simp only [h, if_false, decide_false, cond_false]
      · by_cases h : a &&& 128 = 0
        · simp only [h, if_true, decide_true, cond_true]
        · simp only [h, if_false, decide_false, cond_false]; rw [UInt8.toNat_xor]; rfl
def pn (a : Nat) : Nat → Nat → Nat
  | 0, out => out
  | n + 1, out => pn a n (gn 8 0 out a)
/-- By squares: so many bits of the exponent. -/
def qn : Nat → Nat → Nat → Nat → Nat
  | 0, out, _, _ => out
  | n + 1, out, a, e => qn n (bif Nat.beq (Nat.land e 1) 1 then gn 8 0 out a else out) (gn 8 0 a a) (Nat.div e 2)
def chk : Nat → Nat → Bool
  | _, 0 => true
  | a, n + 1 => (Nat.beq (pn a 254 1) (qn 8 1 a 254)) && chk (a + 1) n
theorem c0 : chk 0 16 = true := by decide +kernel
theorem c1 : chk 16 16 = true := by decide +kernel
theorem c2 : chk 32 16 = true := by decide +kernel
theorem c3 : chk 48 16 = true := by decide +kernel
theorem c4 : chk 64 16 = true := by decide +kernel
theorem c5 : chk 80 16 = true := by decide +kernel
theorem c6 : chk 96 16 = true := by decide +kernel
theorem c7 : chk 112 16 = true := by decide +kernel
theorem c8 : chk 128 16 = true := by decide +kernel
theorem c9 : chk 144 16 = true := by decide +kernel
theorem c10 : chk 160 16 = true := by decide +kernel
theorem c11 : chk 176 16 = true := by decide +kernel
theorem c12 : chk 192 16 = true := by decide +kernel
theorem c13 : chk 208 16 = true := by decide +kernel
theorem c14 : chk 224 16 = true := by decide +kernel
theorem c15 : chk 240 16 = true := by decide +kernel
theorem chk_at : ∀ (n a : Nat), chk a n = true → ∀ x, a ≤ x → x < a + n → pn x 254 1 = qn 8 1 x 254
  | 0, a, _, x, h1, h2 => by omega
  | n + 1, a, h, x, h1, h2 => by
    unfold chk at h
    rw [Bool.and_eq_true] at h
    by_cases e : x = a
    · subst e; exact Nat.eq_of_beq_eq_true h.1
    · exact chk_at n (a + 1) h.2 x (by omega) (by omega)
theorem chk_all (x : Nat) (h : x < 256) : pn x 254 1 = qn 8 1 x 254 := by
  have h0 : x / 16 < 16 := by omega
  rcases (by omega : x / 16 = 0 ∨ x / 16 = 1 ∨ x / 16 = 2 ∨ x / 16 = 3 ∨ x / 16 = 4 ∨ x / 16 = 5 ∨ x / 16 = 6 ∨ x / 16 = 7 ∨ x / 16 = 8 ∨ x / 16 = 9 ∨ x / 16 = 10 ∨ x / 16 = 11 ∨ x / 16 = 12 ∨ x / 16 = 13 ∨ x / 16 = 14 ∨ x / 16 = 15) with h | h | h | h | h | h | h | h | h | h | h | h | h | h | h | h
  · exact chk_at 16 0 c0 x (by omega) (by omega)
  · exact chk_at 16 16 c1 x (by omega) (by omega)
  · exact chk_at 16 32 c2 x (by omega) (by omega)
  · exact chk_at 16 48 c3 x (by omega) (by omega)
  · exact chk_at 16 64 c4 x (by omega) (by omega)
  · exact chk_at 16 80 c5 x (by omega) (by omega)
  · exact chk_at 16 96 c6 x (by omega) (by omega)
  · exact chk_at 16 112 c7 x (by omega) (by omega)
  · exact chk_at 16 128 c8 x (by omega) (by omega)
  · exact chk_at 16 144 c9 x (by omega) (by omega)
  · exact chk_at 16 160 c10 x (by omega) (by omega)
  · exact chk_at 16 176 c11 x (by omega) (by omega)
  · exact chk_at 16 192 c12 x (by omega) (by omega)
  · exact chk_at 16 208 c13 x (by omega) (by omega)
  · exact chk_at 16 224 c14 x (by omega) (by omega)
  · exact chk_at 16 240 c15 x (by omega) (by omega)
/-- So often times a. -/
def ps (a : UInt8) : Nat → UInt8 → UInt8
  | 0, out => out
  | n + 1, out => ps a n (gmul out a)
/-- By squares. -/
def qs : Nat → UInt8 → UInt8 → Nat → UInt8
  | 0, out, _, _ => out
  | n + 1, out, a, e => qs n (if e &&& 1 = 1 then gmul out a else out) (gmul a a) (e / 2)
theorem ps_pn (a : UInt8) : ∀ (n : Nat) (out : UInt8), (ps a n out).toNat = pn a.toNat n out.toNat
  | 0, _ => rfl
  | n + 1, out => by
    rw [ps, pn, ps_pn a n, gmul, gm_gn]; rfl
theorem qs_qn : ∀ (n : Nat) (out a : UInt8) (e : Nat), (qs n out a e).toNat = qn n out.toNat a.toNat e
  | 0, _, _, _ => rfl
  | n + 1, out, a, e => by
    have hg : ∀ x y : UInt8, (gmul x y).toNat = gn 8 0 x.toNat y.toNat := fun x y => by rw [gmul, gm_gn]; rfl
    rw [qs, qn, qs_qn n, hg a a]
    have h : Nat.land e 1 = e &&& 1 := rfl
    rw [h]
    cases hb : Nat.beq (e &&& 1) 1
    · have h1 := Nat.ne_of_beq_eq_false hb
      rw [if_neg h1, cond_false]; rfl
    · have h1 := Nat.eq_of_beq_eq_true hb
      rw [if_pos h1, cond_true, hg]; rfl
def inv (a : UInt8) : UInt8 := ps a 254 1
theorem inv_qs (a : UInt8) : qs 8 1 a 254 = inv a := by
  apply UInt8.toNat_inj.mp
  rw [inv, qs_qn, ps_pn]
  exact (chk_all _ a.toNat_lt).symm
theorem qs_zero (n : Nat) : ∀ (out a : UInt8), qs n out a 0 = out := by
  induction n with
  | zero => intro out a; rfl
  | succ n ih => intro out a; rw [qs, ih]; rfl
theorem gm_zero (n : Nat) (out a : UInt8) : gm n out a 0 = out := by cases n <;> rfl
/-- Turned left. -/
def rot (c : UInt8) (n : UInt8) : UInt8 := (c <<< n) ||| (c >>> (8 - n))
def sb (a : UInt8) : UInt8 := inv a ^^^ rot (inv a) 1 ^^^ rot (inv a) 2 ^^^ rot (inv a) 3 ^^^ rot (inv a) 4 ^^^ 99


/-- Times x. -/
def X (p : BitVec 128) : BitVec 128 := (p >>> 1) ^^^ (if p.getLsbD 0 then 0xe1000000000000000000000000000000#128 else 0#128)
def Xn : Nat → BitVec 128 → BitVec 128
  | 0, p => p
  | n + 1, p => X (Xn n p)
/-- The sum of so many. -/
def xs : Nat → (Nat → BitVec 128) → BitVec 128
  | 0, _ => 0#128
  | n + 1, f => xs n f ^^^ f n
def sel (b : Bool) (p : BitVec 128) : BitVec 128 := if b then p else 0#128
def mul (p q : BitVec 128) : BitVec 128 := xs 128 fun i => sel (q.getMsbD i) (Xn i p)
theorem sel_xor (b : Bool) (p q : BitVec 128) : sel b (p ^^^ q) = sel b p ^^^ sel b q := by cases b <;> simp [sel]
theorem sel_sel (b c : Bool) (p : BitVec 128) : sel b (sel c p) = sel c (sel b p) := by cases b <;> cases c <;> simp [sel]
theorem sel_zero (b : Bool) : sel b 0#128 = 0#128 := by cases b <;> simp [sel]
theorem X_eq (p : BitVec 128) : X p = (p >>> 1) ^^^ sel (p.getLsbD 0) 0xe1000000000000000000000000000000#128 := rfl
theorem sel_bxor (a b : Bool) (p : BitVec 128) : sel (a ^^ b) p = sel a p ^^^ sel b p := by cases a <;> cases b <;> simp [sel]
theorem X_xor (a b : BitVec 128) : X (a ^^^ b) = X a ^^^ X b := by
  rw [X_eq, X_eq, X_eq, BitVec.getLsbD_xor, BitVec.ushiftRight_xor_distrib, sel_bxor]
  simp only [BitVec.xor_assoc]
  congr 1
  rw [← BitVec.xor_assoc, ← BitVec.xor_assoc, BitVec.xor_comm (b >>> 1)]
theorem X_zero : X 0#128 = 0#128 := by decide
theorem X_sel (b : Bool) (p : BitVec 128) : X (sel b p) = sel b (X p) := by cases b <;> simp [sel, X_zero]
theorem Xn_xor (n : Nat) (a b : BitVec 128) : Xn n (a ^^^ b) = Xn n a ^^^ Xn n b := by
  induction n with
  | zero => rfl
  | succ n ih => simp only [Xn, ih, X_xor]
theorem Xn_zero (n : Nat) : Xn n 0#128 = 0#128 := by
  induction n with
  | zero => rfl
  | succ n ih => simp only [Xn, ih, X_zero]
theorem Xn_sel (n : Nat) (b : Bool) (p : BitVec 128) : Xn n (sel b p) = sel b (Xn n p) := by cases b <;> simp [sel, Xn_zero]
theorem Xn_add (n m : Nat) (p : BitVec 128) : Xn n (Xn m p) = Xn (n + m) p := by
  induction n with
  | zero => rw [Nat.zero_add]; rfl
  | succ n ih => rw [Nat.succ_add]; simp only [Xn, ih]
theorem xs_ext {n : Nat} {f g : Nat → BitVec 128} (h : ∀ i, i < n → f i = g i) : xs n f = xs n g := by
  induction n with
  | zero => rfl
  | succ n ih => simp only [xs]; rw [ih (fun i hi => h i (by omega)), h n (by omega)]
theorem xs_xor (n : Nat) (f g : Nat → BitVec 128) : xs n (fun i => f i ^^^ g i) = xs n f ^^^ xs n g := by
  induction n with
  | zero => simp [xs]
  | succ n ih =>
    simp only [xs, ih, BitVec.xor_assoc]
    congr 1
    rw [← BitVec.xor_assoc, ← BitVec.xor_assoc, BitVec.xor_comm (xs n g)]
theorem xs_zero (n : Nat) : xs n (fun _ => 0#128) = 0#128 := by
  induction n with
  | zero => rfl
  | succ n ih => simp [xs, ih]
theorem sel_xs (b : Bool) (n : Nat) (f : Nat → BitVec 128) : sel b (xs n f) = xs n fun i => sel b (f i) := by
  induction n with
  | zero => simp [xs, sel_zero]
  | succ n ih => simp only [xs, sel_xor, ih]
theorem Xn_xs (m n : Nat) (f : Nat → BitVec 128) : Xn m (xs n f) = xs n fun i => Xn m (f i) := by
  induction n with
  | zero => simp [xs, Xn_zero]
  | succ n ih => simp only [xs, Xn_xor, ih]
theorem xs_swap (n m : Nat) (f : Nat → Nat → BitVec 128) : xs n (fun i => xs m fun j => f i j) = xs m fun j => xs n fun i => f i j := by
  induction n with
  | zero => simp only [xs]; exact (xs_zero m).symm
  | succ n ih => simp only [xs, ih, xs_xor]
def one : BitVec 128 := 0x80000000000000000000000000000000#128
theorem one_msb (i : Nat) : one.getMsbD i = decide (i = 0) := by
  by_cases h : i < 128
  · have : ∀ i : Fin 128, one.getMsbD i.1 = decide (i.1 = 0) := by decide
    exact this ⟨i, h⟩
  · rw [BitVec.getMsbD_of_ge _ _ (by omega)]
    simp; omega
theorem Xn_one (j : Nat) (h : j < 128) : Xn j one = one >>> j := by
  induction j with
  | zero => rfl
  | succ j ih =>
    have ih := ih (by omega)
    simp only [Xn, ih, X_eq]
    have : (one >>> j).getLsbD 0 = false := by
      rw [BitVec.getLsbD_ushiftRight]
      have : ∀ i : Fin 127, one.getLsbD (i.1 + 0) = false := by decide
      exact this ⟨j, by omega⟩
    rw [this]
    simp [sel, BitVec.shiftRight_add]
theorem msb_xs (n : Nat) (f : Nat → BitVec 128) (i : Nat) (h : ∀ j, j < n → j ≠ i → (f j).getMsbD i = false) : (xs n f).getMsbD i = (if i < n then (f i).getMsbD i else false) := by
  induction n with
  | zero => simp [xs]
  | succ n ih =>
    simp only [xs, BitVec.getMsbD_xor]
    rw [ih (fun j hj hne => h j (by omega) hne)]
    by_cases e : n = i
    · subst e; simp
    · rw [h n (by omega) e]
      by_cases h2 : i < n
      · simp [h2, show i < n + 1 by omega]
      · simp [h2, show ¬ i < n + 1 by omega]
theorem parts (p : BitVec 128) : p = xs 128 fun j => sel (p.getMsbD j) (Xn j one) := by
  apply BitVec.eq_of_getMsbD_eq
  intro i hi
  have hb : ∀ j k, j < 128 → k < 128 → (Xn j one).getMsbD k = decide (k = j) := by
    intro j k hj hk
    rw [Xn_one j hj, BitVec.getMsbD_ushiftRight, one_msb]
    by_cases e : k < j
    · simp [e]; omega
    · simp [e, hk]; omega
  rw [msb_xs]
  · simp only [hi, if_true]
    have := hb i i hi hi
    cases h : p.getMsbD i <;> simp [sel, this]
  · intro j hj hne
    have := hb j i hj hi
    cases h : p.getMsbD j <;> simp [sel, this]
    omega
theorem mul_sum (p q : BitVec 128) : mul p q = xs 128 fun i => xs 128 fun j => sel (q.getMsbD i) (sel (p.getMsbD j) (Xn (i + j) one)) := by
  unfold mul
  apply xs_ext
  intro i hi
  conv => lhs; rw [parts p]
  rw [Xn_xs, sel_xs]
  apply xs_ext
  intro j hj
  rw [Xn_sel, Xn_add]
theorem mul_comm (p q : BitVec 128) : mul p q = mul q p := by
  rw [mul_sum, mul_sum, xs_swap]
  apply xs_ext
  intro i hi
  apply xs_ext
  intro j hj
  rw [sel_sel, Nat.add_comm]

/-- The factors of mixing. -/
def fb (k : Nat) : UInt8 := if k = 0 then 2 else if k = 1 then 3 else 1
/-- The first k terms of a mixed byte. -/
def mixs (f : Nat → UInt8) (i : Nat) : Nat → UInt8
  | 0 => 0
  | k + 1 => mixs f i k ^^^ gmul (fb k) (f ((i + k) % 4))
def mixc (f : Nat → UInt8) (i : Nat) : UInt8 := mixs f i 4
/-- The rows moved. -/
def shf (f : Nat → UInt8) (i : Nat) : UInt8 := f (4 * ((i / 4 + i % 4) % 4) + i % 4)
/-- The columns mixed. -/
def mixB (f : Nat → UInt8) (i : Nat) : UInt8 := mixc (fun k => f (4 * (i / 4) + k)) (i % 4)
/-- A round: bytes, rows, columns, keys. -/
def rnd (last : Bool) (K : Nat → UInt8) (r : Nat) (f : Nat → UInt8) (i : Nat) : UInt8 := (if last then shf (fun i => sb (f i)) i else mixB (shf (fun i => sb (f i))) i) ^^^ K (16 * r + i)
/-- So many rounds. -/
def enc (K : Nat → UInt8) (f : Nat → UInt8) : Nat → Nat → UInt8
  | 0 => fun i => f i ^^^ K (16 * 0 + i)
  | r + 1 => rnd (r == 9) K (r + 1) (enc K f r)
theorem enc_at (K f : Nat → UInt8) (r : Nat) (h : 1 ≤ r) (i : Nat) : enc K f r i = (if r = 10 then shf (fun i => sb (enc K f (r - 1) i)) i else mixB (shf (fun i => sb (enc K f (r - 1) i))) i) ^^^ K (16 * r + i) := by
  obtain ⟨k, rfl⟩ : ∃ k, r = k + 1 := ⟨r - 1, by omega⟩
  show rnd (k == 9) K (k + 1) (enc K f k) i = _
  unfold rnd
  rw [Nat.add_sub_cancel]
  by_cases e : k = 9
  · subst e; simp
  · have : ¬ k + 1 = 10 := by omega
    simp [e]
theorem mixB_at (F : Nat → UInt8) (m t : Nat) (h : t < 4) : mixB F (4 * m + t) = mixc (fun k => F (4 * m + k)) t := by
  unfold mixB
  rw [show (4 * m + t) / 4 = m by omega, show (4 * m + t) % 4 = t by omega]
/-- The word that is put to word i of the keys. -/
def tw (K : Nat → UInt8) (i : Nat) (b : UInt8) (k : Nat) : UInt8 := if i % 4 = 0 then (if k = 0 then sb (K (4 * i - 4 + 1)) ^^^ b else sb (K (4 * i - 4 + (k + 1) % 4))) else K (4 * i - 4 + k)
/-- The keys with one word more (from word 4 on), and the constant of the round. -/
def kst (key : Nat → UInt8) : Nat → (Nat → UInt8) × UInt8
  | 0 => (key, 1)
  | n + 1 => (fun j => if j < 4 * (n + 4) then (kst key n).1 j else (kst key n).1 (j - 16) ^^^ tw (kst key n).1 (n + 4) (kst key n).2 (j - 4 * (n + 4)), if (n + 4) % 4 = 0 then gmul (kst key n).2 2 else (kst key n).2)
/-- All keys. -/
def keysOf (key : Nat → UInt8) : Nat → UInt8 := (kst key 40).1
end Go.Proofs.Ytkcdhphhacjkhaa.AES
