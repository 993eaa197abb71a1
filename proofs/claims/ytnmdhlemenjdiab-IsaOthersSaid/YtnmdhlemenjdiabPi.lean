/- The plain laws of instructions: shapes, what may be, words, registers. No program in sight. -/
import Derived.Test.YtnmdhlemenjdiabPa
import Derived.Test.YtnmdhlemenjdiabPb
namespace Go.Proofs.Ytnmdhlemenjdiab
open Go
set_option linter.unusedVariables false

/-- What a field's shape lets be: 1 a register, 2 a slot, 3 a byte, 4 any number of 32 bits, 5 rights, 6 a kind, 7 a flag, else nothing. -/
def hold (s n : Int) : Bool :=
  if s = 1 then win n 0 3 else if s = 2 then win n 0 7 else if s = 3 then win n 0 255 else if s = 4 then win n (-2147483648) 2147483647
  else if s = 5 then win n 0 15 else if s = 6 then (n == 1 || (n == 2 || n == 4)) else if s = 7 then (n == 0 || n == 1) else n == 0
/-- The shapes of an operation's fields. -/
def shA (o : Int) : Int := if o = 1 ∨ o = 2 ∨ o = 3 ∨ o = 4 ∨ o = 5 ∨ o = 6 ∨ o = 7 then 1 else if o = 8 ∨ o = 9 ∨ o = 10 ∨ o = 11 ∨ o = 12 ∨ o = 13 ∨ o = 14 then 2 else 0
def shB (o : Int) : Int := if o = 2 ∨ o = 3 ∨ o = 4 ∨ o = 5 ∨ o = 6 then 1 else if o = 8 ∨ o = 9 ∨ o = 10 ∨ o = 11 ∨ o = 12 ∨ o = 13 ∨ o = 14 ∨ o = 15 then 2 else 0
def shC (o : Int) : Int := if o = 2 ∨ o = 3 then 1 else if o = 8 then 2 else if o = 10 then 3 else 0
def shI (o : Int) : Int := if o = 1 ∨ o = 4 ∨ o = 5 ∨ o = 6 ∨ o = 7 then 4 else if o = 9 then 2 else if o = 10 then 5 else if o = 11 then 6 else if o = 13 then 7 else 0
def opOk (o : Int) : Bool := win o 0 16
def insMay (o a b c m : Int) : Bool := opOk o && hold (shA o) a && hold (shB o) b && hold (shC o) c && hold (shI o) m
/-- How far the fields are let be. -/
def upTo (o a b c m : Int) : Nat → Bool
  | 0 => opOk o
  | 1 => opOk o && hold (shA o) a
  | 2 => opOk o && hold (shA o) a && hold (shB o) b
  | 3 => opOk o && hold (shA o) a && hold (shB o) b && hold (shC o) c
  | _ => insMay o a b c m

theorem hold_b (s n : Int) (hs : s ≠ 4) (h : hold s n = true) : 0 ≤ n ∧ n ≤ 255 := by
  unfold hold at h
  by_cases h1 : s = 1
  · rw [if_pos h1] at h; have := win_t h; omega
  rw [if_neg h1] at h
  by_cases h2 : s = 2
  · rw [if_pos h2] at h; have := win_t h; omega
  rw [if_neg h2] at h
  by_cases h3 : s = 3
  · rw [if_pos h3] at h; have := win_t h; omega
  rw [if_neg h3, if_neg hs] at h
  by_cases h5 : s = 5
  · rw [if_pos h5] at h; have := win_t h; omega
  rw [if_neg h5] at h
  by_cases h6 : s = 6
  · rw [if_pos h6] at h; simp at h; omega
  rw [if_neg h6] at h
  by_cases h7 : s = 7
  · rw [if_pos h7] at h; simp at h; omega
  rw [if_neg h7] at h; simp at h; omega
theorem hold_m (s n : Int) (h : hold s n = true) : -2147483648 ≤ n ∧ n ≤ 2147483647 := by
  by_cases hs : s = 4
  · subst hs
    have : win n (-2147483648) 2147483647 = true := h
    have := win_t this; omega
  · have := hold_b s n hs h; omega
theorem shA_4 (o : Int) : shA o ≠ 4 := by unfold shA; split <;> (try split) <;> omega
theorem shB_4 (o : Int) : shB o ≠ 4 := by unfold shB; split <;> (try split) <;> omega
theorem shC_4 (o : Int) : shC o ≠ 4 := by unfold shC; split <;> (try split) <;> (try split) <;> omega
theorem insMay_t {o a b c m : Int} (h : insMay o a b c m = true) : (0 ≤ o ∧ o ≤ 16) ∧ (0 ≤ a ∧ a ≤ 255) ∧ (0 ≤ b ∧ b ≤ 255) ∧ (0 ≤ c ∧ c ≤ 255) ∧ (-2147483648 ≤ m ∧ m ≤ 2147483647) := by
  unfold insMay at h
  simp only [Bool.and_eq_true] at h
  obtain ⟨⟨⟨⟨h1, h2⟩, h3⟩, h4⟩, h5⟩ := h
  exact ⟨win_t h1, hold_b _ _ (shA_4 o) h2, hold_b _ _ (shB_4 o) h3, hold_b _ _ (shC_4 o) h4, hold_m _ _ h5⟩
/-- An instruction's word, as a sum. -/
def insSum (o a b c m : Int) : Int := o + a * 256 + b * 65536 + c * 16777216 + m % 4294967296 * 4294967296
def iWord (o a b c m : Int) : Int := if insMay o a b c m = true then insSum o a b c m else 0
def iErr (o a b c m : Int) : Int := if insMay o a b c m = true then 0 else 1
/-- A word's parts. -/
def rO (w : Int) : Int := w % 256
def rA (w : Int) : Int := w / 256 % 256
def rB (w : Int) : Int := w / 65536 % 256
def rC (w : Int) : Int := w / 16777216 % 256
def rM (w : Int) : Int := (w / 4294967296 + 2147483648) % 4294967296 - 2147483648
def iOk (w : Int) : Bool := insMay (rO w) (rA w) (rB w) (rC w) (rM w)
def uO (w : Int) : Int := if iOk w = true then rO w else 0
def uA (w : Int) : Int := if iOk w = true then rA w else 0
def uB (w : Int) : Int := if iOk w = true then rB w else 0
def uC (w : Int) : Int := if iOk w = true then rC w else 0
def uM (w : Int) : Int := if iOk w = true then rM w else 0
theorem insSum_or {o a b c m : Int} (h : insMay o a b c m = true) :
    bits .or .u64 (bits .or .u64 (bits .or .u64 (bits .or .u64 o (a * 256)) (b * 65536)) (c * 16777216)) (m % 4294967296 * 4294967296) = insSum o a b c m := by
  obtain ⟨h1, h2, h3, h4, h5⟩ := insMay_t h
  rw [u64_join 8 o (a * 256) (by omega) (by omega) (by omega) (by omega) (by omega) (by omega),
    u64_join 16 _ (b * 65536) (by omega) (by omega) (by omega) (by omega) (by omega) (by omega),
    u64_join 24 _ (c * 16777216) (by omega) (by omega) (by omega) (by omega) (by omega) (by omega),
    u64_join 32 _ (m % 4294967296 * 4294967296) (by omega) (by omega) (by omega) (by omega) (by omega) (by omega)]
  rfl
theorem ins_parts {o a b c m : Int} (h : insMay o a b c m = true) : rO (insSum o a b c m) = o ∧ rA (insSum o a b c m) = a ∧ rB (insSum o a b c m) = b ∧ rC (insSum o a b c m) = c ∧ rM (insSum o a b c m) = m := by
  obtain ⟨h1, h2, h3, h4, h5⟩ := insMay_t h
  unfold rO rA rB rC rM insSum
  omega
theorem insSum_u64 {o a b c m : Int} (h : insMay o a b c m = true) : 0 ≤ insSum o a b c m ∧ insSum o a b c m < 18446744073709551616 := by
  obtain ⟨h1, h2, h3, h4, h5⟩ := insMay_t h
  unfold insSum; omega
theorem parts_ins (w : Int) (h0 : 0 ≤ w) (h1 : w < 18446744073709551616) : insSum (rO w) (rA w) (rB w) (rC w) (rM w) = w := by
  unfold insSum rO rA rB rC rM; omega
theorem iWord_yes {o a b c m : Int} (h : insMay o a b c m = true) : iWord o a b c m = insSum o a b c m ∧ iErr o a b c m = 0 := by
  unfold iWord iErr; rw [h]; exact ⟨rfl, rfl⟩
theorem iWord_no {o a b c m : Int} (h : insMay o a b c m = false) : iWord o a b c m = 0 ∧ iErr o a b c m = 1 := by
  unfold iWord iErr; rw [h]; exact ⟨rfl, rfl⟩
theorem iOk_sum {o a b c m : Int} (h : insMay o a b c m = true) : iOk (insSum o a b c m) = true := by
  obtain ⟨a1, a2, a3, a4, a5⟩ := ins_parts h
  unfold iOk; rw [a1, a2, a3, a4, a5, h]
theorem u_yes {w : Int} (h : iOk w = true) : uO w = rO w ∧ uA w = rA w ∧ uB w = rB w ∧ uC w = rC w ∧ uM w = rM w := by
  unfold uO uA uB uC uM; rw [h]; exact ⟨rfl, rfl, rfl, rfl, rfl⟩
theorem u_no {w : Int} (h : iOk w = false) : uO w = 0 ∧ uA w = 0 ∧ uB w = 0 ∧ uC w = 0 ∧ uM w = 0 := by
  unfold uO uA uB uC uM; rw [h]; exact ⟨rfl, rfl, rfl, rfl, rfl⟩
theorem u_sum {o a b c m : Int} (h : insMay o a b c m = true) : uO (insSum o a b c m) = o ∧ uA (insSum o a b c m) = a ∧ uB (insSum o a b c m) = b ∧ uC (insSum o a b c m) = c ∧ uM (insSum o a b c m) = m := by
  obtain ⟨a1, a2, a3, a4, a5⟩ := ins_parts h
  obtain ⟨b1, b2, b3, b4, b5⟩ := u_yes (iOk_sum h)
  exact ⟨b1.trans a1, b2.trans a2, b3.trans a3, b4.trans a4, b5.trans a5⟩
theorem iWord_u {w : Int} (h0 : 0 ≤ w) (h1 : w < 18446744073709551616) (h : iOk w = true) : iWord (uO w) (uA w) (uB w) (uC w) (uM w) = w ∧ iErr (uO w) (uA w) (uB w) (uC w) (uM w) = 0 := by
  obtain ⟨a1, a2, a3, a4, a5⟩ := u_yes h
  rw [a1, a2, a3, a4, a5]
  obtain ⟨f, g⟩ := iWord_yes h
  exact ⟨f.trans (parts_ins w h0 h1), g⟩
theorem insSum_inj {o a b c m o' a' b' c' m' : Int} (h : insMay o a b c m = true) (h' : insMay o' a' b' c' m' = true) (e : insSum o a b c m = insSum o' a' b' c' m') : o = o' ∧ a = a' ∧ b = b' ∧ c = c' ∧ m = m' := by
  obtain ⟨a1, a2, a3, a4, a5⟩ := ins_parts h
  obtain ⟨b1, b2, b3, b4, b5⟩ := ins_parts h'
  rw [e] at a1 a2 a3 a4 a5
  exact ⟨a1.symm.trans b1, a2.symm.trans b2, a3.symm.trans b3, a4.symm.trans b4, a5.symm.trans b5⟩
theorem rbounds (w : Int) (h0 : 0 ≤ w) (h1 : w < 18446744073709551616) : (0 ≤ rO w ∧ rO w ≤ 255) ∧ (0 ≤ rA w ∧ rA w ≤ 255) ∧ (0 ≤ rB w ∧ rB w ≤ 255) ∧ (0 ≤ rC w ∧ rC w ≤ 255) ∧ (-2147483648 ≤ rM w ∧ rM w ≤ 2147483647) := by
  unfold rO rA rB rC rM; omega
theorem opOk_cases {o : Int} (h : opOk o = true) : o = 0 ∨ o = 1 ∨ o = 2 ∨ o = 3 ∨ o = 4 ∨ o = 5 ∨ o = 6 ∨ o = 7 ∨ o = 8 ∨ o = 9 ∨ o = 10 ∨ o = 11 ∨ o = 12 ∨ o = 13 ∨ o = 14 ∨ o = 15 ∨ o = 16 := by
  have := win_t h; omega
end Go.Proofs.Ytnmdhlemenjdiab
