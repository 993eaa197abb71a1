/- The plain mathematics of words, capabilities and entries: bits as numbers, what may be, words and their parts. No program in sight. -/
import Derived.Laws.BitsAllLaws
import Derived.Laws.BitsLemmas
import Derived.Laws.Bits64
namespace Go.Proofs.Ytnmdhlemenjdiab
open Go
set_option linter.unusedVariables false

theorem wraps_u64 (n : Int) (h0 : 0 ≤ n) (h1 : n < 2 ^ 64) : IntKind.u64.wrap n = n := by rw [IntKind.wrap_u64]; omega
theorem u64_mask (i : Nat) (hi : i ≤ 64) (x : Int) (h0 : 0 ≤ x) (h1 : x < 18446744073709551616) : bits .and .u64 x (2 ^ i - 1) = x % 2 ^ i :=
  bits_mask .u64 64 (by decide) wraps_u64 i hi x h0 (by omega)
theorem u64_join (i : Nat) (x y : Int) (hx0 : 0 ≤ x) (hx : x < 2 ^ i) (hy0 : 0 ≤ y) (hy : y % 2 ^ i = 0) (hx1 : x < 18446744073709551616) (hy1 : y < 18446744073709551616) :
    bits .or .u64 x y = x + y := by
  obtain ⟨a, rfl⟩ := Int.eq_ofNat_of_zero_le hx0
  obtain ⟨b, rfl⟩ := Int.eq_ofNat_of_zero_le hy0
  have e := u64_or_nat a b (by omega) (by omega)
  have f := u64_or_nat b a (by omega) (by omega)
  have g := bits_join .u64 64 (by decide) wraps_u64 i (b : Int) (a : Int) (by omega) hy (by omega) (by omega) hx (by omega)
  rw [e, Nat.or_comm, ← f, g]; omega

/-- A fact put aside. -/
structure Kp (p : Prop) : Prop where
  out : p

def win (n a b : Int) : Bool := decide (a ≤ n ∧ n ≤ b)
theorem win_t {n a b : Int} (h : win n a b = true) : a ≤ n ∧ n ≤ b := by simpa [win] using h
theorem win_f {n a b : Int} (h : win n a b = false) : ¬ (a ≤ n ∧ n ≤ b) := by simpa [win] using h
theorem win_mk {n a b : Int} (h : a ≤ n) (k : n ≤ b) : win n a b = true := by simp [win, h, k]

/-! ### capabilities -/
def capMay (k r i v b : Int) : Bool := win k 1 6 && win r 0 15 && win i 0 48 && win v 0 16777215 && win b 0 65535 && (!(k == 5 || k == 6) || (i == 0 && v == 0))
theorem capMay_t {k r i v b : Int} (h : capMay k r i v b = true) : (1 ≤ k ∧ k ≤ 6) ∧ (0 ≤ r ∧ r ≤ 15) ∧ (0 ≤ i ∧ i ≤ 48) ∧ (0 ≤ v ∧ v ≤ 16777215) ∧ (0 ≤ b ∧ b ≤ 65535) ∧ ((k = 5 ∨ k = 6) → i = 0 ∧ v = 0) := by
  simp only [capMay, Bool.and_eq_true] at h
  obtain ⟨⟨⟨⟨⟨h1, h2⟩, h3⟩, h4⟩, h5⟩, h6⟩ := h
  refine ⟨win_t h1, win_t h2, win_t h3, win_t h4, win_t h5, fun h => ?_⟩
  rcases h with rfl | rfl <;> simpa using h6
theorem capMay_mk {k r i v b : Int} (h1 : 1 ≤ k ∧ k ≤ 6) (h2 : 0 ≤ r ∧ r ≤ 15) (h3 : 0 ≤ i ∧ i ≤ 48) (h4 : 0 ≤ v ∧ v ≤ 16777215) (h5 : 0 ≤ b ∧ b ≤ 65535) (h6 : (k = 5 ∨ k = 6) → i = 0 ∧ v = 0) : capMay k r i v b = true := by
  simp only [capMay, Bool.and_eq_true]
  refine ⟨⟨⟨⟨⟨win_mk h1.1 h1.2, win_mk h2.1 h2.2⟩, win_mk h3.1 h3.2⟩, win_mk h4.1 h4.2⟩, win_mk h5.1 h5.2⟩, ?_⟩
  by_cases e : k = 5 ∨ k = 6
  · obtain ⟨rfl, rfl⟩ := h6 e; simp
  · have e1 : k ≠ 5 := fun h => e (.inl h)
    have e2 : k ≠ 6 := fun h => e (.inr h)
    simp [e1, e2]
/-- A capability's word, as a sum. -/
def capSum (k r i v b : Int) : Int := k + r * 16 + i * 256 + v * 16777216 + b * 281474976710656
/-- What caps.Word answers: the word, the error. -/
def cWord (k r i v b : Int) : Int := if capMay k r i v b = true then capSum k r i v b else 0
def cErr (k r i v b : Int) : Int := if capMay k r i v b = true then 0 else 1
/-- A word's parts. -/
def pK (w : Int) : Int := w % 16
def pR (w : Int) : Int := w / 16 % 16
def pI (w : Int) : Int := w / 256 % 65536
def pV (w : Int) : Int := w / 16777216 % 16777216
def pB (w : Int) : Int := w / 281474976710656
def cOk (w : Int) : Bool := capMay (pK w) (pR w) (pI w) (pV w) (pB w)
def gK (w : Int) : Int := if cOk w = true then pK w else 0
def gR (w : Int) : Int := if cOk w = true then pR w else 0
def gI (w : Int) : Int := if cOk w = true then pI w else 0
def gV (w : Int) : Int := if cOk w = true then pV w else 0
def gB (w : Int) : Int := if cOk w = true then pB w else 0

def U64 (w : Int) : Prop := 0 ≤ w ∧ w < 18446744073709551616

theorem capSum_or {k r i v b : Int} (h : capMay k r i v b = true) :
    bits .or .u64 (bits .or .u64 (bits .or .u64 (bits .or .u64 k (r * 16)) (i * 256)) (v * 16777216)) (b * 281474976710656) = capSum k r i v b := by
  obtain ⟨h1, h2, h3, h4, h5, _⟩ := capMay_t h
  rw [u64_join 4 k (r * 16) (by omega) (by omega) (by omega) (by omega) (by omega) (by omega),
    u64_join 8 _ (i * 256) (by omega) (by omega) (by omega) (by omega) (by omega) (by omega),
    u64_join 24 _ (v * 16777216) (by omega) (by omega) (by omega) (by omega) (by omega) (by omega),
    u64_join 48 _ (b * 281474976710656) (by omega) (by omega) (by omega) (by omega) (by omega) (by omega)]
  rfl

/-- The parts of a word of parts that may be are these. -/
theorem parts_sum {k r i v b : Int} (h : capMay k r i v b = true) : pK (capSum k r i v b) = k ∧ pR (capSum k r i v b) = r ∧ pI (capSum k r i v b) = i ∧ pV (capSum k r i v b) = v ∧ pB (capSum k r i v b) = b := by
  obtain ⟨h1, h2, h3, h4, h5, _⟩ := capMay_t h
  unfold pK pR pI pV pB capSum
  omega
theorem sum_u64 {k r i v b : Int} (h : capMay k r i v b = true) : U64 (capSum k r i v b) := by
  obtain ⟨h1, h2, h3, h4, h5, _⟩ := capMay_t h
  unfold U64 capSum
  omega
/-- A word is its parts' sum. -/
theorem sum_parts (w : Int) : capSum (pK w) (pR w) (pI w) (pV w) (pB w) = w := by
  unfold capSum pK pR pI pV pB
  omega
theorem cWord_u64 (k r i v b : Int) : U64 (cWord k r i v b) := by
  unfold cWord
  split
  · exact sum_u64 ‹_›
  · unfold U64; omega
theorem ok_sum {k r i v b : Int} (h : capMay k r i v b = true) : cOk (capSum k r i v b) = true := by
  obtain ⟨a1, a2, a3, a4, a5⟩ := parts_sum h
  unfold cOk
  rw [a1, a2, a3, a4, a5, h]
theorem gBounds (w : Int) (h : cOk w = true) : (1 ≤ gK w ∧ gK w ≤ 6) ∧ (0 ≤ gR w ∧ gR w ≤ 15) ∧ (0 ≤ gI w ∧ gI w ≤ 48) ∧ (0 ≤ gV w ∧ gV w ≤ 16777215) ∧ (0 ≤ gB w ∧ gB w ≤ 65535) ∧ ((gK w = 5 ∨ gK w = 6) → gI w = 0 ∧ gV w = 0) := by
  unfold gK gR gI gV gB
  rw [if_pos h, if_pos h, if_pos h, if_pos h, if_pos h]
  exact capMay_t h
theorem g_no (w : Int) (h : cOk w = false) : gK w = 0 ∧ gR w = 0 ∧ gI w = 0 ∧ gV w = 0 ∧ gB w = 0 := by
  unfold gK gR gI gV gB
  simp [h]
theorem g_yes (w : Int) (h : cOk w = true) : gK w = pK w ∧ gR w = pR w ∧ gI w = pI w ∧ gV w = pV w ∧ gB w = pB w := by
  unfold gK gR gI gV gB
  simp [h]
end Go.Proofs.Ytnmdhlemenjdiab
