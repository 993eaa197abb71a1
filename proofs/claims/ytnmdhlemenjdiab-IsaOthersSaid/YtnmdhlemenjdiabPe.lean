/- The plain laws of entries: what may be, their words, how they end. No program in sight. -/
import Derived.Test.YtnmdhlemenjdiabPa
import Derived.Test.YtnmdhlemenjdiabPb
namespace Go.Proofs.Ytnmdhlemenjdiab
open Go
set_option linter.unusedVariables false

def entMay (k v l : Int) : Bool := win k 0 4 && (win v 0 16777215 && (win l 0 1023 && !(k == 0 && l != 0)))
theorem entMay_t {k v l : Int} (h : entMay k v l = true) : (0 ≤ k ∧ k ≤ 4) ∧ (0 ≤ v ∧ v ≤ 16777215) ∧ (0 ≤ l ∧ l ≤ 1023) ∧ (k = 0 → l = 0) := by
  unfold entMay at h
  simp only [Bool.and_eq_true] at h
  obtain ⟨h1, h2, h3, h4⟩ := h
  refine ⟨win_t h1, win_t h2, win_t h3, fun e => ?_⟩
  subst e; simpa using h4
theorem entMay_mk {k v l : Int} (h1 : 0 ≤ k ∧ k ≤ 4) (h2 : 0 ≤ v ∧ v ≤ 16777215) (h3 : 0 ≤ l ∧ l ≤ 1023) (h4 : k = 0 → l = 0) : entMay k v l = true := by
  unfold entMay
  simp only [Bool.and_eq_true]
  refine ⟨win_mk h1.1 h1.2, win_mk h2.1 h2.2, win_mk h3.1 h3.2, ?_⟩
  by_cases e : k = 0
  · subst e; rw [h4 rfl]; rfl
  · simp [e]
def entSum (k v l : Int) : Int := k + v * 16 + l * 268435456
def eWord (k v l : Int) : Int := if entMay k v l = true then entSum k v l else 0
def eErr (k v l : Int) : Int := if entMay k v l = true then 0 else 1
def qK (w : Int) : Int := w % 16
def qV (w : Int) : Int := w / 16 % 16777216
def qL (w : Int) : Int := w / 268435456 % 65536
def eOk (w : Int) : Bool := entMay (qK w) (qV w) (qL w) && entSum (qK w) (qV w) (qL w) == w
def hK (w : Int) : Int := if eOk w = true then qK w else 0
def hV (w : Int) : Int := if eOk w = true then qV w else 0
def hL (w : Int) : Int := if eOk w = true then qL w else 0
theorem entSum_or {k v l : Int} (h : entMay k v l = true) : bits .or .u64 (bits .or .u64 k (v * 16)) (l * 268435456) = entSum k v l := by
  obtain ⟨h1, h2, h3, _⟩ := entMay_t h
  rw [u64_join 4 k (v * 16) (by omega) (by omega) (by omega) (by omega) (by omega) (by omega),
    u64_join 28 _ (l * 268435456) (by omega) (by omega) (by omega) (by omega) (by omega) (by omega)]
  rfl
theorem ent_parts {k v l : Int} (h : entMay k v l = true) : qK (entSum k v l) = k ∧ qV (entSum k v l) = v ∧ qL (entSum k v l) = l := by
  obtain ⟨h1, h2, h3, _⟩ := entMay_t h
  unfold qK qV qL entSum; omega
theorem entSum_u64 {k v l : Int} (h : entMay k v l = true) : 0 ≤ entSum k v l ∧ entSum k v l < 18446744073709551616 := by
  obtain ⟨h1, h2, h3, _⟩ := entMay_t h
  unfold entSum; omega
theorem entSum_ok {k v l : Int} (h : entMay k v l = true) : eOk (entSum k v l) = true := by
  obtain ⟨a, b, c⟩ := ent_parts h
  unfold eOk; rw [a, b, c, h]; simp
theorem eWord_yes {k v l : Int} (h : entMay k v l = true) : eWord k v l = entSum k v l ∧ eErr k v l = 0 := by
  unfold eWord eErr; rw [h]; exact ⟨rfl, rfl⟩
theorem eWord_no {k v l : Int} (h : entMay k v l = false) : eWord k v l = 0 ∧ eErr k v l = 1 := by
  unfold eWord eErr; rw [h]; exact ⟨rfl, rfl⟩
theorem h_yes {w : Int} (h : eOk w = true) : hK w = qK w ∧ hV w = qV w ∧ hL w = qL w := by
  unfold hK hV hL; rw [h]; exact ⟨rfl, rfl, rfl⟩
theorem h_no {w : Int} (h : eOk w = false) : hK w = 0 ∧ hV w = 0 ∧ hL w = 0 := by
  unfold hK hV hL; rw [h]; exact ⟨rfl, rfl, rfl⟩
theorem eOk_t {w : Int} (h : eOk w = true) : entMay (qK w) (qV w) (qL w) = true ∧ entSum (qK w) (qV w) (qL w) = w := by
  unfold eOk at h; simpa using h
/-- What is one's word is that one's. -/
theorem eWord_h {w : Int} (h : eOk w = true) : eWord (hK w) (hV w) (hL w) = w ∧ eErr (hK w) (hV w) (hL w) = 0 := by
  obtain ⟨a, b⟩ := eOk_t h
  obtain ⟨c, d, e⟩ := h_yes h
  rw [c, d, e]
  obtain ⟨f, g⟩ := eWord_yes a
  exact ⟨f.trans b, g⟩
theorem h_sum {k v l : Int} (h : entMay k v l = true) : hK (entSum k v l) = k ∧ hV (entSum k v l) = v ∧ hL (entSum k v l) = l := by
  obtain ⟨a, b, c⟩ := ent_parts h
  obtain ⟨d, e, f⟩ := h_yes (entSum_ok h)
  exact ⟨d.trans a, e.trans b, f.trans c⟩
theorem entSum_inj {k v l k' v' l' : Int} (h : entMay k v l = true) (h' : entMay k' v' l' = true) (e : entSum k v l = entSum k' v' l') : k = k' ∧ v = v' ∧ l = l' := by
  obtain ⟨a, b, c⟩ := ent_parts h
  obtain ⟨a', b', c'⟩ := ent_parts h'
  rw [e] at a b c
  exact ⟨a.symm.trans a', b.symm.trans b', c.symm.trans c'⟩
theorem qbounds (w : Int) (h0 : 0 ≤ w) : (0 ≤ qK w ∧ qK w ≤ 15) ∧ (0 ≤ qV w ∧ qV w ≤ 16777215) ∧ (0 ≤ qL w ∧ qL w ≤ 65535) := by
  unfold qK qV qL; omega
/-- How a version goes on. -/
def nextV (v : Int) : Int := if v = 16777215 then v else v + 1

def enV (k v : Int) : Int := if k = 0 then 0 else nextV v
def enE (k : Int) : Int := if k = 0 then 30 else 0
def isOpen (k v : Int) : Bool := k == 0 && decide (v < 16777215)
theorem mask_lit (n : Nat) (h1 : 1 ≤ n) (h2 : n ≤ 64) : (18446744073709551615 : Int) / 2 ^ (64 - n) = 2 ^ n - 1 := by
  have e : (2 : Int) ^ n * 2 ^ (64 - n) = 18446744073709551616 := by rw [← Int.pow_add, show n + (64 - n) = 64 by omega]; decide
  have p : (0 : Int) < 2 ^ (64 - n) := Int.pow_pos (by decide)
  have q : (18446744073709551615 : Int) = (2 ^ (64 - n) - 1) + (2 ^ n - 1) * 2 ^ (64 - n) := by
    rw [Int.sub_mul, e]; omega
  rw [q, Int.add_mul_ediv_right _ _ (by omega), Int.ediv_eq_zero_of_lt (by omega) (by omega)]; omega
end Go.Proofs.Ytnmdhlemenjdiab
