/- Bitwise operations on the model's fixed-width numbers, said of natural numbers. -/
import Derived.Test.YtggpejjfgphihaaDoorCrc
import Derived.Laws.BitsLemmas
namespace Go.Proofs.YtggpejjfgphihaaDoor.Given
open Go

theorem bits_xor_nat (k : IntKind) (n : Nat) (hn : k.bits = n) (hk : ∀ m : Nat, m < 2 ^ n → k.wrap (m : Int) = (m : Int)) (a b : Nat) (ha : a < 2 ^ n) (hb : b < 2 ^ n) :
    Go.bits .xor k (a : Int) (b : Int) = ((a ^^^ b : Nat) : Int) := by
  subst hn
  simp only [Go.bits, BitVec.ofInt_natCast, BitVec.toNat_xor, BitVec.toNat_ofNat, Nat.mod_eq_of_lt ha, Nat.mod_eq_of_lt hb]
  exact hk _ (Nat.xor_lt_two_pow ha hb)
theorem bits_and_nat (k : IntKind) (n : Nat) (hn : k.bits = n) (hk : ∀ m : Nat, m < 2 ^ n → k.wrap (m : Int) = (m : Int)) (a b : Nat) (ha : a < 2 ^ n) (hb : b < 2 ^ n) :
    Go.bits .and k (a : Int) (b : Int) = ((a &&& b : Nat) : Int) := by
  subst hn
  simp only [Go.bits, BitVec.ofInt_natCast, BitVec.toNat_and, BitVec.toNat_ofNat, Nat.mod_eq_of_lt ha, Nat.mod_eq_of_lt hb]
  exact hk _ (Nat.and_lt_two_pow _ hb)
theorem wrap_u32_nat (m : Nat) (h : m < 2 ^ 32) : IntKind.u32.wrap (m : Int) = (m : Int) := by rw [IntKind.wrap_u32]; omega
theorem wrap_u8_nat (m : Nat) (h : m < 2 ^ 8) : IntKind.u8.wrap (m : Int) = (m : Int) := by rw [IntKind.wrap_u8]; omega
theorem wrap_u16_nat (m : Nat) (h : m < 2 ^ 16) : IntKind.u16.wrap (m : Int) = (m : Int) := by simp [IntKind.wrap, IntKind.bits, IntKind.signed]; omega
theorem xor_u32 (a b : Nat) (ha : a < 2 ^ 32) (hb : b < 2 ^ 32) : Go.bits .xor .u32 (a : Int) (b : Int) = ((a ^^^ b : Nat) : Int) := bits_xor_nat .u32 32 rfl wrap_u32_nat a b ha hb
theorem xor_u8 (a b : Nat) (ha : a < 2 ^ 8) (hb : b < 2 ^ 8) : Go.bits .xor .u8 (a : Int) (b : Int) = ((a ^^^ b : Nat) : Int) := bits_xor_nat .u8 8 rfl wrap_u8_nat a b ha hb
theorem and_u32 (a b : Nat) (ha : a < 2 ^ 32) (hb : b < 2 ^ 32) : Go.bits .and .u32 (a : Int) (b : Int) = ((a &&& b : Nat) : Int) := bits_and_nat .u32 32 rfl wrap_u32_nat a b ha hb
theorem and_u8 (a b : Nat) (ha : a < 2 ^ 8) (hb : b < 2 ^ 8) : Go.bits .and .u8 (a : Int) (b : Int) = ((a &&& b : Nat) : Int) := bits_and_nat .u8 8 rfl wrap_u8_nat a b ha hb
theorem and_u16 (a b : Nat) (ha : a < 2 ^ 16) (hb : b < 2 ^ 16) : Go.bits .and .u16 (a : Int) (b : Int) = ((a &&& b : Nat) : Int) := bits_and_nat .u16 16 rfl wrap_u16_nat a b ha hb
theorem and_u32_one (a : Nat) (ha : a < 2 ^ 32) : Go.bits .and .u32 (a : Int) 1 = ((a % 2 : Nat) : Int) := by
  have := and_u32 a 1 ha (by decide)
  rw [Nat.and_one_is_mod] at this
  exact this

open Crc in
/-- one step of the register, as the program's text has it -/
theorem st_bits (p x : Nat) (hp : p < 2 ^ 32) (hx : x < 2 ^ 32) :
    Go.bits .xor .u32 ((x : Int) / 2) (((p : Int) * Go.bits .and .u32 (x : Int) 1) % 4294967296) = ((st p x : Nat) : Int) := by
  rw [and_u32_one x hx]
  have hm : p * (x % 2) < 2 ^ 32 := by
    have : x % 2 = 0 ∨ x % 2 = 1 := by omega
    rcases this with h | h <;> rw [h] <;> simp <;> omega
  have e1 : ((p : Int) * ((x % 2 : Nat) : Int)) % 4294967296 = ((p * (x % 2) : Nat) : Int) := by
    rw [← Int.natCast_mul]; omega
  have e2 : (x : Int) / 2 = ((x / 2 : Nat) : Int) := by omega
  rw [e1, e2, xor_u32 _ _ (by omega) hm]
  rfl
end Go.Proofs.YtggpejjfgphihaaDoor.Given
