-- Written by a program of this session (wip/xprint.py).
import Derived.Test.YtkcdhphhacjkhaaPFnExactCheckTokenx0
namespace Go.Proofs.Ytkcdhphhacjkhaa.PFnExactCheckToken
open Go.RowKit Go.Proofs.YtkcdhphhacjkhaaW.PrintWords Go.Proofs.YtkcdhphhacjkhaaW.PrintLast Go.Proofs.YtkcdhphhacjkhaaW.PrintMore
attribute [local go_sem] Go.Proofs.Ytkcdhphhacjkhaa.StoreK.isSome_setCell max2_int min2_int max_two min_two max_three min_three max_four min_four   -- for this text's walks alone
set_option linter.unusedVariables false
set_option linter.unusedSimpArgs false

-- NOT PRINTED: function 76 (bits_RotateLeft8)

-- NOT PRINTED: function 63 (impl_subByte)

-- NOT PRINTED: function 46 (impl_newBox)

-- NOT PRINTED: function 34 (impl_cipherOf)

-- NOT PRINTED: function 22 (impl_bigEndian)

/-! ### impl_numberOf: function 29 -/
def impl_numberOf.f (a0 : ByteArray) : Option (Int) := if a0.size ≤ 1000 then (some (Go.Proofs.Ytkcdhphhacjkhaa.B.numT a0)) else none
theorem impl_numberOf.calls (a0 : ByteArray) (r : Int) (w : World) (h : impl_numberOf.f a0 = some r) :
    Calls Try.prog 29 #[.string a0] w fun e w' => e = .returned (.int .u64 r) ∧ Drawn0 w w' := by
  unfold impl_numberOf.f at h
  split at h
  · rename_i hc
    simp only [Option.some.injEq] at h
    subst h
    exact Go.Proofs.Ytkcdhphhacjkhaa.B.numberOf_c a0 hc w
  · cases h

-- NOT PRINTED: function 64 (impl_cipher_addKey)

-- NOT PRINTED: function 65 (impl_shift)

-- NOT PRINTED: function 66 (impl_mixed)

-- NOT PRINTED: function 67 (impl_forth)

-- NOT PRINTED: function 50 (impl_cipher_encrypt)

-- NOT PRINTED: function 48 (impl_cipher_counter)

-- NOT PRINTED: function 35 (impl_cipher_turned)

-- NOT PRINTED: function 49 (impl_polyOf)

-- NOT PRINTED: function 68 (impl_poly_xor)

-- NOT PRINTED: function 77 (impl_poly_byX)

-- NOT PRINTED: function 69 (impl_poly_times)

-- NOT PRINTED: function 51 (impl_ghash)

-- NOT PRINTED: function 84 (bits_Mul32)

-- NOT PRINTED: function 85 (bits_Mul64)

-- NOT PRINTED: function 78 (bits_Mul)

-- NOT PRINTED: function 86 (stringslite_HasPrefix)

-- NOT PRINTED: function 79 (strings_HasPrefix)

-- NOT PRINTED: function 89 (abi_NoEscape)

-- NOT PRINTED: function 87 (strings_Builder_copyCheck)

-- NOT PRINTED: function 90 (bytealg_MakeNoZero)

-- NOT PRINTED: function 88 (strings_Builder_grow)

-- NOT PRINTED: function 80 (strings_Builder_Grow)

-- NOT PRINTED: function 81 (strings_Builder_WriteString)

-- NOT PRINTED: function 82 (strings_Builder_Len)

-- NOT PRINTED: function 83 (strings_Builder_String)

-- NOT PRINTED: function 70 (strings_Repeat)

-- NOT PRINTED: function 52 (impl_filled)

-- NOT PRINTED: function 53 (impl_poly_text)

-- NOT PRINTED: function 54 (impl_xored)

-- NOT PRINTED: function 36 (impl_cipher_tag)

/-! ### impl_OpenText: function 28 -/
def impl_OpenText.f (a0 : ByteArray) (a1 : ByteArray) (a2 : ByteArray) (a3 : ByteArray) : Option (ByteArray × Bool) := if a0.size = 16 ∧ a1.size = 12 ∧ a2.size ≤ 1500 ∧ 16 ≤ a3.size ∧ a3.size ≤ 1516 then (some (Go.Proofs.Ytkcdhphhacjkhaa.B.openT a0 a1 a2 a3, Go.Proofs.Ytkcdhphhacjkhaa.B.openOkT a0 a1 a2 a3)) else none
theorem impl_OpenText.calls (a0 : ByteArray) (a1 : ByteArray) (a2 : ByteArray) (a3 : ByteArray) (r1 : ByteArray) (r2 : Bool) (w : World) (h : impl_OpenText.f a0 a1 a2 a3 = some (r1, r2)) :
    Calls Try.prog 28 #[.string a0, .string a1, .string a2, .string a3] w fun e w' => e = .returned (.tuple #[.string r1, .bool r2]) ∧ Below w.heap.size w w' := by
  unfold impl_OpenText.f at h
  split at h
  · rename_i hc
    simp only [Option.some.injEq, Prod.mk.injEq] at h
    obtain ⟨rfl, rfl⟩ := h
    exact Go.Proofs.Ytkcdhphhacjkhaa.B.impl_open_c w a0 a1 a2 a3 hc.1 hc.2.1 hc.2.2.1 hc.2.2.2.1 hc.2.2.2.2
  · cases h

end Go.Proofs.Ytkcdhphhacjkhaa.PFnExactCheckToken
