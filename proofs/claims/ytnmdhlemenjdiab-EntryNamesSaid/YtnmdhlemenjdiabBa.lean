/- The walks of the reference of capabilities, on: Of, Diminish, May, Within. -/
import Derived.Test.YtnmdhlemenjdiabG7w
import Derived.Test.YtnmdhlemenjdiabPc
namespace Go.Proofs.Ytnmdhlemenjdiab
open Go.RowKit
set_option linter.unusedSimpArgs false
set_option linter.unusedVariables false

theorem field_K (x : Int) (w : World) (h0 : 0 ≤ x) (h1 : x < 18446744073709551616) :
    Calls Try.prog 45 #[.int .u64 x, .int .i64 0, .int .i64 4] w fun e w' => e = .returned (.int .u64 (pK x)) ∧ w = w' :=
  (field_lit x 0 4 1 16 w rfl rfl h0 h1 (by decide) (by decide) (by decide)).mono fun e w' ⟨h, k⟩ => ⟨h.trans (ret_int (by unfold pK; omega)), k⟩
theorem field_R (x : Int) (w : World) (h0 : 0 ≤ x) (h1 : x < 18446744073709551616) :
    Calls Try.prog 45 #[.int .u64 x, .int .i64 4, .int .i64 4] w fun e w' => e = .returned (.int .u64 (pR x)) ∧ w = w' :=
  field_lit x 4 4 16 16 w rfl rfl h0 h1 (by decide) (by decide) (by decide)
theorem field_I (x : Int) (w : World) (h0 : 0 ≤ x) (h1 : x < 18446744073709551616) :
    Calls Try.prog 45 #[.int .u64 x, .int .i64 8, .int .i64 16] w fun e w' => e = .returned (.int .u64 (pI x)) ∧ w = w' :=
  field_lit x 8 16 256 65536 w rfl rfl h0 h1 (by decide) (by decide) (by decide)
theorem field_V (x : Int) (w : World) (h0 : 0 ≤ x) (h1 : x < 18446744073709551616) :
    Calls Try.prog 45 #[.int .u64 x, .int .i64 24, .int .i64 24] w fun e w' => e = .returned (.int .u64 (pV x)) ∧ w = w' :=
  field_lit x 24 24 16777216 16777216 w rfl rfl h0 h1 (by decide) (by decide) (by decide)
theorem field_B (x : Int) (w : World) (h0 : 0 ≤ x) (h1 : x < 18446744073709551616) :
    Calls Try.prog 45 #[.int .u64 x, .int .i64 48, .int .i64 16] w fun e w' => e = .returned (.int .u64 (pB x)) ∧ w = w' :=
  (field_lit x 48 16 281474976710656 65536 w rfl rfl h0 h1 (by decide) (by decide) (by decide)).mono fun e w' ⟨h, k⟩ => ⟨h.trans (ret_int (by unfold pB; omega)), k⟩

set_option maxHeartbeats 4000000 in
theorem rof_any (x : Int) (w : World) (h0 : 0 ≤ x) (h1 : x < 18446744073709551616) :
    Calls Try.prog 37 #[.int .u64 x] w fun e w' => e = .returned (.tuple #[.agg #[.int .i64 (gK x), .int .i64 (gR x), .int .i64 (gI x), .int .i64 (gV x), .int .i64 (gB x)], .bool (cOk x)]) ∧ Below w.heap.size w w' := by
  obtain ⟨⟨a1, a2⟩, ⟨b1, b2⟩, ⟨c1, c2⟩, ⟨d1, d2⟩, ⟨e1, e2⟩⟩ := pbounds x h0 h1
  rcases two (cOk x) with h | h
  · have HA := Kp.mk (gAgg_no x h)
    have h' : capMay (pK x) (pR x) (pI x) (pV x) (pB x) = false := h
    have hE : cErr (pK x) (pR x) (pI x) (pV x) (pB x) = 1 := by unfold cErr; rw [h']; rfl
    clear h h'
    go_enter Try.func37, Try.ntmps37
    go_wp2_with (first | (go_at_call 45; (with_reducible refine (field_K _ _ h0 h1).mono ?_); rintro e w' ⟨rfl, rfl⟩) | (go_at_call 45; (with_reducible refine (field_R _ _ h0 h1).mono ?_); rintro e w' ⟨rfl, rfl⟩) | (go_at_call 45; (with_reducible refine (field_I _ _ h0 h1).mono ?_); rintro e w' ⟨rfl, rfl⟩) | (go_at_call 45; (with_reducible refine (field_V _ _ h0 h1).mono ?_); rintro e w' ⟨rfl, rfl⟩) | (go_at_call 45; (with_reducible refine (field_B _ _ h0 h1).mono ?_); rintro e w' ⟨rfl, rfl⟩) | (go_at_call 48; (with_reducible refine (rword_any _ _ _ _ _ _).mono ?_); rintro e w' ⟨rfl, hb⟩; obtain ⟨hc, hf⟩ := bcell hb; have hz := hb.size; (try simp at hz); (try (have hz1 := Nat.lt_of_succ_le hz; (try (have hz2 := Nat.lt_of_succ_lt hz1; (try (have hz3 := Nat.lt_of_succ_lt hz2)))))); (try (have y0 : w.heap.size < w'.heap.size := by omega)); (try (have y1 : w.heap.size + 1 < w'.heap.size := by omega)); (try (have y2 : w.heap.size ≤ w'.heap.size := by omega)); (try (have y3 : w.heap.size + 1 ≤ w'.heap.size := by omega))))
    have q0 : (w'.cell? ⟨w.heap.size, 0, none⟩).isSome = true := by rw [hc _ _ (by simp; omega)]; simp [go_sem]
    have q1 : (w'.cell? ⟨w.heap.size, 1, none⟩).isSome = true := by rw [hc _ _ (by simp; omega)]; simp [go_sem]
    have q2 : (w'.cell? ⟨w.heap.size, 2, none⟩).isSome = true := by rw [hc _ _ (by simp; omega)]; simp [go_sem]
    have q3 : (w'.cell? ⟨w.heap.size, 3, none⟩).isSome = true := by rw [hc _ _ (by simp; omega)]; simp [go_sem]
    have q4 : (w'.cell? ⟨w.heap.size, 4, none⟩).isSome = true := by rw [hc _ _ (by simp; omega)]; simp [go_sem]
    refine bodyPost_ret (v := .tuple #[.agg #[.int .i64 0, .int .i64 0, .int .i64 0, .int .i64 0, .int .i64 0], .bool false]) (by simp only [results, Try.results37]; go_simp) rfl ⟨by rw [HA.out], ?_⟩
    repeat (first | exact Below.refl _ _ | (with_reducible refine Below.setCell ?_ (by first | exact Nat.le_refl _ | (simp; done) | (simp; omega) | omega) _) | (with_reducible refine Below.alloc ?_ (by first | exact Nat.le_refl _ | (simp; done) | (simp; omega) | omega) _) | (with_reducible refine Below.drew ?_) | (with_reducible refine belowN ?_ _) | (with_reducible refine Below.trans ?_ (Below.mono (by assumption) (by first | exact Nat.le_refl _ | (simp; done) | (simp; omega) | omega))))
  · have HA := Kp.mk (gAgg_yes x h)
    have h' : capMay (pK x) (pR x) (pI x) (pV x) (pB x) = true := h
    have hE : cErr (pK x) (pR x) (pI x) (pV x) (pB x) = 0 := by unfold cErr; rw [h']; rfl
    have hW : cWord (pK x) (pR x) (pI x) (pV x) (pB x) = x := by unfold cWord; rw [h', if_pos rfl]; exact sum_parts x
    clear h h'
    go_enter Try.func37, Try.ntmps37
    go_wp2_with (first | (go_at_call 45; (with_reducible refine (field_K _ _ h0 h1).mono ?_); rintro e w' ⟨rfl, rfl⟩) | (go_at_call 45; (with_reducible refine (field_R _ _ h0 h1).mono ?_); rintro e w' ⟨rfl, rfl⟩) | (go_at_call 45; (with_reducible refine (field_I _ _ h0 h1).mono ?_); rintro e w' ⟨rfl, rfl⟩) | (go_at_call 45; (with_reducible refine (field_V _ _ h0 h1).mono ?_); rintro e w' ⟨rfl, rfl⟩) | (go_at_call 45; (with_reducible refine (field_B _ _ h0 h1).mono ?_); rintro e w' ⟨rfl, rfl⟩) | (go_at_call 48; (with_reducible refine (rword_any _ _ _ _ _ _).mono ?_); rintro e w' ⟨rfl, hb⟩; obtain ⟨hc, hf⟩ := bcell hb; have hz := hb.size; (try simp at hz); (try (have hz1 := Nat.lt_of_succ_le hz; (try (have hz2 := Nat.lt_of_succ_lt hz1; (try (have hz3 := Nat.lt_of_succ_lt hz2)))))); (try (have y0 : w.heap.size < w'.heap.size := by omega)); (try (have y1 : w.heap.size + 1 < w'.heap.size := by omega)); (try (have y2 : w.heap.size ≤ w'.heap.size := by omega)); (try (have y3 : w.heap.size + 1 ≤ w'.heap.size := by omega))))
    have q0 : (w'.cell? ⟨w.heap.size, 0, none⟩).isSome = true := by rw [hc _ _ (by simp; omega)]; simp [go_sem]
    have q1 : (w'.cell? ⟨w.heap.size, 1, none⟩).isSome = true := by rw [hc _ _ (by simp; omega)]; simp [go_sem]
    have q2 : (w'.cell? ⟨w.heap.size, 2, none⟩).isSome = true := by rw [hc _ _ (by simp; omega)]; simp [go_sem]
    have q3 : (w'.cell? ⟨w.heap.size, 3, none⟩).isSome = true := by rw [hc _ _ (by simp; omega)]; simp [go_sem]
    have q4 : (w'.cell? ⟨w.heap.size, 4, none⟩).isSome = true := by rw [hc _ _ (by simp; omega)]; simp [go_sem]
    refine bodyPost_ret (v := .tuple #[.agg #[.int .i64 (pK x), .int .i64 (pR x), .int .i64 (pI x), .int .i64 (pV x), .int .i64 (pB x)], .bool true]) (by simp only [results, Try.results37]; go_simp) rfl ⟨by rw [HA.out], ?_⟩
    repeat (first | exact Below.refl _ _ | (with_reducible refine Below.setCell ?_ (by first | exact Nat.le_refl _ | (simp; done) | (simp; omega) | omega) _) | (with_reducible refine Below.alloc ?_ (by first | exact Nat.le_refl _ | (simp; done) | (simp; omega) | omega) _) | (with_reducible refine Below.drew ?_) | (with_reducible refine belowN ?_ _) | (with_reducible refine Below.trans ?_ (Below.mono (by assumption) (by first | exact Nat.le_refl _ | (simp; done) | (simp; omega) | omega))))

end Go.Proofs.Ytnmdhlemenjdiab
