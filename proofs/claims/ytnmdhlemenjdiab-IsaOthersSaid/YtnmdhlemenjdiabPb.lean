/- The plain mathematics of fields: so many bits of a word from a place on, and a word with others there. No program in sight. -/
import Derived.Test.YtnmdhlemenjdiabPa
namespace Go.Proofs.Ytnmdhlemenjdiab
open Go
set_option linter.unusedVariables false

/-- A word's bit. -/
def bitv (w i : Int) : Int := w / 2 ^ i.toNat % 2
/-- A word's field. -/
def fld (w a n : Int) : Int := w / 2 ^ a.toNat % 2 ^ n.toNat

theorem bitv_01 (w i : Int) : bitv w i = 0 ∨ bitv w i = 1 := by unfold bitv; omega
theorem pow_cast (n : Nat) : ((2 ^ n : Nat) : Int) = 2 ^ n := by simp
theorem bitv_nat (w i : Nat) : bitv (w : Int) (i : Int) = ((w / 2 ^ i % 2 : Nat) : Int) := by
  unfold bitv; rw [Int.toNat_natCast, ← pow_cast]; simp
theorem fld_nat (w a n : Nat) : fld (w : Int) (a : Int) (n : Int) = ((w / 2 ^ a % 2 ^ n : Nat) : Int) := by
  unfold fld; rw [Int.toNat_natCast, Int.toNat_natCast, ← pow_cast, ← pow_cast]; simp
theorem nat_fld_succ (w a i : Nat) : w / 2 ^ a % 2 ^ (i + 1) = w / 2 ^ a % 2 ^ i + w / 2 ^ (a + i) % 2 * 2 ^ i := by
  rw [Nat.mod_pow_succ, Nat.div_div_eq_div_mul, ← Nat.pow_add, Nat.mul_comm (2 ^ i)]
theorem fld_zero (w a : Int) : fld w a 0 = 0 := by unfold fld; simp
theorem two_le64 {j : Nat} (h : j ≤ 64) : 2 ^ j ≤ 18446744073709551616 := Nat.pow_le_pow_right (by decide) h
theorem two_lt64 {j : Nat} (h : j < 64) : 2 ^ j < 18446744073709551616 := Nat.pow_lt_pow_right (by decide) h
theorem fld_lt (w a n : Nat) : w / 2 ^ a % 2 ^ n < 2 ^ n := Nat.mod_lt _ (Nat.two_pow_pos _)

/-- One round of reading a field. -/
theorem fld_round (w a i : Nat) (hi : i < 64) :
    bits .or .u64 (fld w a i) (IntKind.u64.wrap (bitv w (a + i : Int) * 2 ^ i)) = fld w a (i + 1 : Int) ∧ 0 ≤ fld w a i ∧ fld w a i < 18446744073709551616 := by
  have e1 : ((a : Int) + (i : Int)) = ((a + i : Nat) : Int) := by simp
  have e2 : ((i : Int) + 1) = ((i + 1 : Nat) : Int) := by simp
  have hl := fld_lt w a i
  have hp := two_lt64 hi
  rw [e1, e2, bitv_nat, fld_nat, fld_nat, nat_fld_succ]
  generalize hb : w / 2 ^ (a + i) % 2 = b
  have hb' : b = 0 ∨ b = 1 := by omega
  generalize hx : w / 2 ^ a % 2 ^ i = x at hl
  have hm : (((b : Nat) : Int) * 2 ^ i) = ((b * 2 ^ i : Nat) : Int) := by simp
  have hs : b * 2 ^ i < 18446744073709551616 := by
    rcases hb' with rfl | rfl
    · simp
    · simpa using hp
  refine ⟨?_, by omega, by omega⟩
  rw [hm, IntKind.wrap_u64, Int.emod_eq_of_lt (by omega) (by omega), u64_or_nat x (b * 2 ^ i) (by omega) hs]
  rw [Nat.or_comm, nat_join i (b * 2 ^ i) x (by simp) hl, Nat.add_comm]

theorem xor_hi (x j : Nat) (h : x < 2 ^ j) : x ^^^ 2 ^ j = x + 2 ^ j := by
  have e : x + 2 ^ j = 2 ^ j * 1 ||| x := by rw [← Nat.two_pow_add_eq_or_of_lt h]; omega
  rw [e, Nat.mul_one]
  apply Nat.eq_of_testBit_eq
  intro k
  rw [Nat.testBit_xor, Nat.testBit_or, Nat.testBit_two_pow]
  by_cases hk : j = k
  · subst hk; rw [Nat.testBit_lt_two_pow h]; simp
  · simp [hk]

/-- A word below 2^a, with v's first i bits laid at a. -/
def lay (w a v i : Int) : Int := w + v % 2 ^ i.toNat * 2 ^ a.toNat
theorem lay_nat (w a v i : Nat) : lay w a v i = ((w + v % 2 ^ i * 2 ^ a : Nat) : Int) := by
  unfold lay; rw [Int.toNat_natCast, Int.toNat_natCast, ← pow_cast, ← pow_cast]; simp
theorem lay_zero (w a v : Int) : lay w a v 0 = w := by unfold lay; simp
theorem nat_lay_lt (w a v i : Nat) (h : w < 2 ^ a) : w + v % 2 ^ i * 2 ^ a < 2 ^ (a + i) := by
  have h1 : v % 2 ^ i + 1 ≤ 2 ^ i := Nat.mod_lt _ (Nat.two_pow_pos _)
  have h2 := Nat.mul_le_mul_right (2 ^ a) h1
  rw [Nat.add_mul, ← Nat.pow_add, Nat.add_comm i a] at h2
  omega
theorem nat_lay_succ (w a v i : Nat) : w + v % 2 ^ (i + 1) * 2 ^ a = w + v % 2 ^ i * 2 ^ a + v / 2 ^ i % 2 * 2 ^ (a + i) := by
  rw [Nat.mod_pow_succ, Nat.add_mul, Nat.pow_add, Nat.mul_comm (2 ^ i) (v / 2 ^ i % 2), Nat.mul_assoc, Nat.mul_comm (2 ^ i) (2 ^ a)]
  omega
theorem lay_round (w a v i : Nat) (h : w < 2 ^ a) (hi : a + i < 64) : bitv (lay w a v i) (a + i : Int) = 0 ∧ 0 ≤ lay w a v i ∧ lay w a v i < 18446744073709551616 ∧
    (bitv v i = 0 → lay w a v (i + 1 : Int) = lay w a v i) ∧ (bitv v i = 1 → lay w a v (i + 1 : Int) = bits .xor .u64 (lay w a v i) (IntKind.u64.wrap (2 ^ (a + i)))) := by
  have e1 : ((a : Int) + (i : Int)) = ((a + i : Nat) : Int) := by simp
  have e2 : ((i : Int) + 1) = ((i + 1 : Nat) : Int) := by simp
  have hl := nat_lay_lt w a v i h
  have hp := two_lt64 hi
  rw [e1, e2, lay_nat, lay_nat, bitv_nat, bitv_nat, nat_lay_succ]
  generalize w + v % 2 ^ i * 2 ^ a = s at hl
  have hz : s / 2 ^ (a + i) = 0 := Nat.div_eq_of_lt hl
  refine ⟨by rw [hz]; rfl, by omega, by omega, fun hb => ?_, fun hb => ?_⟩
  · have : v / 2 ^ i % 2 = 0 := by omega
    rw [this]; simp
  · have : v / 2 ^ i % 2 = 1 := by omega
    rw [this, Nat.one_mul, ← xor_hi s (a + i) hl, ← pow_cast, IntKind.wrap_u64, Int.emod_eq_of_lt (by omega) (by omega), u64_xor_nat s (2 ^ (a + i)) (by omega) hp]
theorem lay_full (w a v n : Int) (h0 : 0 ≤ v) (h : v < 2 ^ n.toNat) : lay w a v n = w + v * 2 ^ a.toNat := by
  unfold lay
  rw [Int.emod_eq_of_lt h0 h]
theorem bitv_hi (v i : Nat) (n : Nat) (h : v < 2 ^ n) (hi : n ≤ i) : bitv v i = 0 := by
  rw [bitv_nat, Nat.div_eq_of_lt (Nat.lt_of_lt_of_le h (Nat.pow_le_pow_right (by decide) hi))]; rfl
end Go.Proofs.Ytnmdhlemenjdiab
