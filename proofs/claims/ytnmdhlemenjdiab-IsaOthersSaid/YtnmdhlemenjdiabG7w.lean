/- The walks of the reference of capabilities: it computes what package caps does. -/
import Derived.Test.YtnmdhlemenjdiabKit
import Derived.Test.YtnmdhlemenjdiabRw
import Derived.Test.YtnmdhlemenjdiabCw
namespace Go.Proofs.Ytnmdhlemenjdiab
open Go.RowKit
set_option linter.unusedSimpArgs false
set_option linter.unusedVariables false

theorem with_lit (x a n v p q : Int) (w : World) (hp : 2 ^ a.toNat = p) (hq : 2 ^ n.toNat = q) (h0 : 0 ≤ x) (h1 : x < p) (h2 : 0 ≤ a) (h3 : 1 ≤ n) (h4 : a + n ≤ 64) (h5 : 0 ≤ v) (h6 : v < q) :
    Calls Try.prog 53 #[.int .u64 x, .int .i64 a, .int .i64 n, .int .u64 v] w fun e w' => e = .returned (.tuple #[.int .u64 (x + v * p), .int .i64 0]) ∧ w = w' := by
  subst hp; subst hq; exact with_any x a n v w h0 h1 h2 h3 h4 h5 h6
theorem field_lit (x a n p q : Int) (w : World) (hp : 2 ^ a.toNat = p) (hq : 2 ^ n.toNat = q) (h0 : 0 ≤ x) (h1 : x < 18446744073709551616) (h2 : 0 ≤ a) (h3 : 1 ≤ n) (h4 : a + n ≤ 64) :
    Calls Try.prog 45 #[.int .u64 x, .int .i64 a, .int .i64 n] w fun e w' => e = .returned (.int .u64 (x / p % q)) ∧ w = w' := by
  subst hp; subst hq; exact field_any x a n w h0 h1 h2 h3 h4

theorem cap_fail {k r i v b : Int} (h : capMay k r i v b = false) : (k < 1 ∨ (¬ k < 1 ∧ (k > 6 ∨ (¬ k > 6 ∧ (r < 0 ∨ (¬ r < 0 ∧ (r > 15 ∨ (¬ r > 15 ∧ (i < 0 ∨ (¬ i < 0 ∧ (i ≥ 49 ∨ (¬ i ≥ 49 ∧ (v < 0 ∨ (¬ v < 0 ∧ (v > 16777215 ∨ (¬ v > 16777215 ∧ (b < 0 ∨ (¬ b < 0 ∧ (b > 65535 ∨ (¬ b > 65535 ∧ ((k = 5 ∨ k = 6) ∧ ¬ (i = 0 ∧ v = 0)))))))))))))))))))))) := by
  by_cases c : (k < 1 ∨ (¬ k < 1 ∧ (k > 6 ∨ (¬ k > 6 ∧ (r < 0 ∨ (¬ r < 0 ∧ (r > 15 ∨ (¬ r > 15 ∧ (i < 0 ∨ (¬ i < 0 ∧ (i ≥ 49 ∨ (¬ i ≥ 49 ∧ (v < 0 ∨ (¬ v < 0 ∧ (v > 16777215 ∨ (¬ v > 16777215 ∧ (b < 0 ∨ (¬ b < 0 ∧ (b > 65535 ∨ (¬ b > 65535 ∧ ((k = 5 ∨ k = 6) ∧ ¬ (i = 0 ∧ v = 0))))))))))))))))))))))
  · exact c
  · rw [capMay_mk (by omega) (by omega) (by omega) (by omega) (by omega) (by omega)] at h
    exact absurd h (by decide)

set_option maxHeartbeats 4000000 in
set_option maxRecDepth 100000 in
theorem rword_yes (k r i v b : Int) (w : World) (h : capMay k r i v b = true) :
    Calls Try.prog 48 #[.agg #[.int .i64 k, .int .i64 r, .int .i64 i, .int .i64 v, .int .i64 b]] w fun e w' => e = .returned (.tuple #[.int .u64 (cWord k r i v b), .int .i64 (cErr k r i v b)]) ∧ Below w.heap.size w w' := by
  obtain ⟨⟨a1, a2⟩, ⟨b1, b2⟩, ⟨c1, c2⟩, ⟨d1, d2⟩, ⟨e1, e2⟩, f⟩ := capMay_t h
  have HS : Kp (cWord k r i v b = capSum k r i v b) := ⟨by unfold cWord; exact if_pos h⟩
  have HE : Kp (cErr k r i v b = 0) := ⟨by unfold cErr; exact if_pos h⟩
  clear h
  by_cases hk : k = 5 ∨ k = 6
  · obtain ⟨rfl, rfl⟩ := f hk
    clear f
    rcases hk with rfl | rfl
    all_goals
      have t2 : decide (r < 0) = false := decide_eq_false (by omega)
      have t3 : decide (r > 15) = false := decide_eq_false (by omega)
      have t8 : decide (b < 0) = false := decide_eq_false (by omega)
      have t9 : decide (b > 65535) = false := decide_eq_false (by omega)
      go_enter Try.func48, Try.ntmps48
      go_wp2_with (first | (go_at_call 53; (with_reducible refine (with_lit _ 0 4 _ 1 16 _ rfl rfl (by omega) (by omega) (by omega) (by omega) (by omega) (by omega) (by omega)).mono ?_); rintro e w' ⟨rfl, rfl⟩) | (go_at_call 53; (with_reducible refine (with_lit _ 4 4 _ 16 16 _ rfl rfl (by omega) (by omega) (by omega) (by omega) (by omega) (by omega) (by omega)).mono ?_); rintro e w' ⟨rfl, rfl⟩) | (go_at_call 53; (with_reducible refine (with_lit _ 8 16 _ 256 65536 _ rfl rfl (by omega) (by omega) (by omega) (by omega) (by omega) (by omega) (by omega)).mono ?_); rintro e w' ⟨rfl, rfl⟩) | (go_at_call 53; (with_reducible refine (with_lit _ 24 24 _ 16777216 16777216 _ rfl rfl (by omega) (by omega) (by omega) (by omega) (by omega) (by omega) (by omega)).mono ?_); rintro e w' ⟨rfl, rfl⟩) | (go_at_call 53; (with_reducible refine (with_lit _ 48 16 _ 281474976710656 65536 _ rfl rfl (by omega) (by omega) (by omega) (by omega) (by omega) (by omega) (by omega)).mono ?_); rintro e w' ⟨rfl, rfl⟩))
      go_ret2
      exact ⟨ret_int2 (by rw [HS.out]; unfold capSum; omega) HE.out.symm, (Below.refl _ _).alloc (Nat.le_refl _) _⟩
  · have g1 : (k == 5) = false := by simp; omega
    have g2 : (k == 6) = false := by simp; omega
    clear f hk
    have t0 : decide (k < 1) = false := decide_eq_false (by omega)
    have t1 : decide (k > 6) = false := decide_eq_false (by omega)
    have t2 : decide (r < 0) = false := decide_eq_false (by omega)
    have t3 : decide (r > 15) = false := decide_eq_false (by omega)
    have t4 : decide (i < 0) = false := decide_eq_false (by omega)
    have t5 : decide (i ≥ 49) = false := decide_eq_false (by omega)
    have t6 : decide (v < 0) = false := decide_eq_false (by omega)
    have t7 : decide (v > 16777215) = false := decide_eq_false (by omega)
    have t8 : decide (b < 0) = false := decide_eq_false (by omega)
    have t9 : decide (b > 65535) = false := decide_eq_false (by omega)
    go_enter Try.func48, Try.ntmps48
    go_wp2_with (first | (go_at_call 53; (with_reducible refine (with_lit _ 0 4 _ 1 16 _ rfl rfl (by omega) (by omega) (by omega) (by omega) (by omega) (by omega) (by omega)).mono ?_); rintro e w' ⟨rfl, rfl⟩) | (go_at_call 53; (with_reducible refine (with_lit _ 4 4 _ 16 16 _ rfl rfl (by omega) (by omega) (by omega) (by omega) (by omega) (by omega) (by omega)).mono ?_); rintro e w' ⟨rfl, rfl⟩) | (go_at_call 53; (with_reducible refine (with_lit _ 8 16 _ 256 65536 _ rfl rfl (by omega) (by omega) (by omega) (by omega) (by omega) (by omega) (by omega)).mono ?_); rintro e w' ⟨rfl, rfl⟩) | (go_at_call 53; (with_reducible refine (with_lit _ 24 24 _ 16777216 16777216 _ rfl rfl (by omega) (by omega) (by omega) (by omega) (by omega) (by omega) (by omega)).mono ?_); rintro e w' ⟨rfl, rfl⟩) | (go_at_call 53; (with_reducible refine (with_lit _ 48 16 _ 281474976710656 65536 _ rfl rfl (by omega) (by omega) (by omega) (by omega) (by omega) (by omega) (by omega)).mono ?_); rintro e w' ⟨rfl, rfl⟩))
    go_ret2
    exact ⟨ret_int2 (by rw [HS.out]; unfold capSum; omega) HE.out.symm, (Below.refl _ _).alloc (Nat.le_refl _) _⟩

set_option maxHeartbeats 4000000 in
set_option maxRecDepth 100000 in
theorem rword_no (k r i v b : Int) (w : World) (h : capMay k r i v b = false) :
    Calls Try.prog 48 #[.agg #[.int .i64 k, .int .i64 r, .int .i64 i, .int .i64 v, .int .i64 b]] w fun e w' => e = .returned (.tuple #[.int .u64 (cWord k r i v b), .int .i64 (cErr k r i v b)]) ∧ Below w.heap.size w w' := by
  have HS : Kp (cWord k r i v b = 0) := ⟨by unfold cWord; rw [h]; rfl⟩
  have HE : Kp (cErr k r i v b = 1) := ⟨by unfold cErr; rw [h]; rfl⟩
  have hf := cap_fail h
  clear h
  rcases hf with ht | ⟨hn, hf⟩
  · have t0 : decide (k < 1) = true := decide_eq_true ht
    clear ht
    go_enter Try.func48, Try.ntmps48
    go_wp2
    go_ret2
    exact ⟨ret_int2 HS.out.symm HE.out.symm, (Below.refl _ _).alloc (Nat.le_refl _) _⟩
  have t0 : decide (k < 1) = false := decide_eq_false hn
  clear hn
  rcases hf with ht | ⟨hn, hf⟩
  · have t1 : decide (k > 6) = true := decide_eq_true ht
    clear ht
    go_enter Try.func48, Try.ntmps48
    go_wp2
    go_ret2
    exact ⟨ret_int2 HS.out.symm HE.out.symm, (Below.refl _ _).alloc (Nat.le_refl _) _⟩
  have t1 : decide (k > 6) = false := decide_eq_false hn
  clear hn
  rcases hf with ht | ⟨hn, hf⟩
  · have t2 : decide (r < 0) = true := decide_eq_true ht
    clear ht
    go_enter Try.func48, Try.ntmps48
    go_wp2
    go_ret2
    exact ⟨ret_int2 HS.out.symm HE.out.symm, (Below.refl _ _).alloc (Nat.le_refl _) _⟩
  have t2 : decide (r < 0) = false := decide_eq_false hn
  clear hn
  rcases hf with ht | ⟨hn, hf⟩
  · have t3 : decide (r > 15) = true := decide_eq_true ht
    clear ht
    go_enter Try.func48, Try.ntmps48
    go_wp2
    go_ret2
    exact ⟨ret_int2 HS.out.symm HE.out.symm, (Below.refl _ _).alloc (Nat.le_refl _) _⟩
  have t3 : decide (r > 15) = false := decide_eq_false hn
  clear hn
  rcases hf with ht | ⟨hn, hf⟩
  · have t4 : decide (i < 0) = true := decide_eq_true ht
    clear ht
    go_enter Try.func48, Try.ntmps48
    go_wp2
    go_ret2
    exact ⟨ret_int2 HS.out.symm HE.out.symm, (Below.refl _ _).alloc (Nat.le_refl _) _⟩
  have t4 : decide (i < 0) = false := decide_eq_false hn
  clear hn
  rcases hf with ht | ⟨hn, hf⟩
  · have t5 : decide (i ≥ 49) = true := decide_eq_true ht
    clear ht
    go_enter Try.func48, Try.ntmps48
    go_wp2
    go_ret2
    exact ⟨ret_int2 HS.out.symm HE.out.symm, (Below.refl _ _).alloc (Nat.le_refl _) _⟩
  have t5 : decide (i ≥ 49) = false := decide_eq_false hn
  clear hn
  rcases hf with ht | ⟨hn, hf⟩
  · have t6 : decide (v < 0) = true := decide_eq_true ht
    clear ht
    go_enter Try.func48, Try.ntmps48
    go_wp2
    go_ret2
    exact ⟨ret_int2 HS.out.symm HE.out.symm, (Below.refl _ _).alloc (Nat.le_refl _) _⟩
  have t6 : decide (v < 0) = false := decide_eq_false hn
  clear hn
  rcases hf with ht | ⟨hn, hf⟩
  · have t7 : decide (v > 16777215) = true := decide_eq_true ht
    clear ht
    go_enter Try.func48, Try.ntmps48
    go_wp2
    go_ret2
    exact ⟨ret_int2 HS.out.symm HE.out.symm, (Below.refl _ _).alloc (Nat.le_refl _) _⟩
  have t7 : decide (v > 16777215) = false := decide_eq_false hn
  clear hn
  rcases hf with ht | ⟨hn, hf⟩
  · have t8 : decide (b < 0) = true := decide_eq_true ht
    clear ht
    go_enter Try.func48, Try.ntmps48
    go_wp2
    go_ret2
    exact ⟨ret_int2 HS.out.symm HE.out.symm, (Below.refl _ _).alloc (Nat.le_refl _) _⟩
  have t8 : decide (b < 0) = false := decide_eq_false hn
  clear hn
  rcases hf with ht | ⟨hn, hf⟩
  · have t9 : decide (b > 65535) = true := decide_eq_true ht
    clear ht
    go_enter Try.func48, Try.ntmps48
    go_wp2
    go_ret2
    exact ⟨ret_int2 HS.out.symm HE.out.symm, (Below.refl _ _).alloc (Nat.le_refl _) _⟩
  have t9 : decide (b > 65535) = false := decide_eq_false hn
  clear hn
  obtain ⟨hk, hf⟩ := hf
  by_cases hi : i = 0
  · subst hi
    have hv : (v == 0) = false := by simpa using hf
    have hv' : (v != 0) = true := by simpa using hf
    clear hf
    rcases hk with rfl | rfl
    all_goals
      go_enter Try.func48, Try.ntmps48
      go_wp2
      go_ret2
      exact ⟨ret_int2 HS.out.symm HE.out.symm, (Below.refl _ _).alloc (Nat.le_refl _) _⟩
  · have hi1 : (i == 0) = false := by simpa using hi
    have hi' : (i != 0) = true := by simpa using hi
    clear hf hi
    rcases hk with rfl | rfl
    all_goals
      go_enter Try.func48, Try.ntmps48
      go_wp2
      go_ret2
      exact ⟨ret_int2 HS.out.symm HE.out.symm, (Below.refl _ _).alloc (Nat.le_refl _) _⟩

theorem rword_any (k r i v b : Int) (w : World) :
    Calls Try.prog 48 #[.agg #[.int .i64 k, .int .i64 r, .int .i64 i, .int .i64 v, .int .i64 b]] w fun e w' => e = .returned (.tuple #[.int .u64 (cWord k r i v b), .int .i64 (cErr k r i v b)]) ∧ Below w.heap.size w w' := by
  rcases two (capMay k r i v b) with h | h
  · exact rword_no k r i v b w h
  · exact rword_yes k r i v b w h

end Go.Proofs.Ytnmdhlemenjdiab
