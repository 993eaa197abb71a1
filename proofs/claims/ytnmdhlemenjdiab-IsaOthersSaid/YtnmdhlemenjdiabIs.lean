/- The walk of the reference's Of for instructions. -/
import Derived.Test.YtnmdhlemenjdiabIr
import Derived.Test.YtnmdhlemenjdiabRw
import Derived.Test.YtnmdhlemenjdiabIy
import Derived.Test.YtnmdhlemenjdiabG7w
namespace Go.Proofs.Ytnmdhlemenjdiab
open Go.RowKit
set_option linter.unusedSimpArgs false
set_option linter.unusedVariables false

theorem rf0 (x : Int) (w : World) (h0 : 0 ≤ x) (h1 : x < 18446744073709551616) :
    Calls Try.prog 45 #[.int .u64 x, .int .i64 0, .int .i64 8] w fun e w' => e = .returned (.int .u64 (rO x)) ∧ w = w' :=
  (field_lit x 0 8 1 256 w rfl rfl h0 h1 (by decide) (by decide) (by decide)).mono fun e w' ⟨h, k⟩ => ⟨h.trans (ret_int (by unfold rO; omega)), k⟩
theorem rf8 (x : Int) (w : World) (h0 : 0 ≤ x) (h1 : x < 18446744073709551616) :
    Calls Try.prog 45 #[.int .u64 x, .int .i64 8, .int .i64 8] w fun e w' => e = .returned (.int .u64 (rA x)) ∧ w = w' :=
  field_lit x 8 8 256 256 w rfl rfl h0 h1 (by decide) (by decide) (by decide)
theorem rf16 (x : Int) (w : World) (h0 : 0 ≤ x) (h1 : x < 18446744073709551616) :
    Calls Try.prog 45 #[.int .u64 x, .int .i64 16, .int .i64 8] w fun e w' => e = .returned (.int .u64 (rB x)) ∧ w = w' :=
  field_lit x 16 8 65536 256 w rfl rfl h0 h1 (by decide) (by decide) (by decide)
theorem rf24 (x : Int) (w : World) (h0 : 0 ≤ x) (h1 : x < 18446744073709551616) :
    Calls Try.prog 45 #[.int .u64 x, .int .i64 24, .int .i64 8] w fun e w' => e = .returned (.int .u64 (rC x)) ∧ w = w' :=
  field_lit x 24 8 16777216 256 w rfl rfl h0 h1 (by decide) (by decide) (by decide)
/-- The upper half of a word. -/
def rH (x : Int) : Int := x / 4294967296
theorem rf32 (x : Int) (w : World) (h0 : 0 ≤ x) (h1 : x < 18446744073709551616) :
    Calls Try.prog 45 #[.int .u64 x, .int .i64 32, .int .i64 32] w fun e w' => e = .returned (.int .u64 (rH x)) ∧ w = w' :=
  (field_lit x 32 32 4294967296 4294967296 w rfl rfl h0 h1 (by decide) (by decide) (by decide)).mono fun e w' ⟨h, k⟩ => ⟨h.trans (ret_int (by unfold rH; omega)), k⟩

set_option maxHeartbeats 8000000 in
theorem rof13 (x : Int) (w : World) (h0 : 0 ≤ x) (h1 : x < 18446744073709551616) :
    Calls Try.prog 26 #[.int .u64 x] w fun e w' => e = .returned (.tuple #[.agg #[.int .i64 (uO x), .int .i64 (uA x), .int .i64 (uB x), .int .i64 (uC x), .int .i64 (uM x)], .bool (iOk x)]) ∧ Below w.heap.size w w' := by
  obtain ⟨⟨a1, a2⟩, ⟨b1, b2⟩, ⟨c1, c2⟩, ⟨d1, d2⟩, ⟨e1, e2⟩⟩ := rbounds x h0 h1
  have g0 : 0 ≤ rH x ∧ rH x ≤ 4294967295 := by unfold rH; omega
  obtain ⟨g1, g2⟩ := g0
  by_cases hm : rH x ≥ 2147483648
  · have hM : rH x - 4294967296 = rM x := by unfold rH rM at *; omega
    rcases two (iOk x) with h | h
    · have HA := Kp.mk (uAgg_no x h)
      obtain ⟨e1, e2⟩ := iWord_no (show insMay (rO x) (rA x) (rB x) (rC x) (rM x) = false from h)
      clear h
      go_enter Try.func26, Try.ntmps26
      go_wp2_with (first | (go_at_call 45; (with_reducible refine (rf0 _ _ h0 h1).mono ?_); rintro e w' ⟨rfl, rfl⟩) | (go_at_call 45; (with_reducible refine (rf8 _ _ h0 h1).mono ?_); rintro e w' ⟨rfl, rfl⟩) | (go_at_call 45; (with_reducible refine (rf16 _ _ h0 h1).mono ?_); rintro e w' ⟨rfl, rfl⟩) | (go_at_call 45; (with_reducible refine (rf24 _ _ h0 h1).mono ?_); rintro e w' ⟨rfl, rfl⟩) | (go_at_call 45; (with_reducible refine (rf32 _ _ h0 h1).mono ?_); rintro e w' ⟨rfl, rfl⟩) | (go_at_call 24; (with_reducible refine (rword13 _ _ _ _ _ _).mono ?_); rintro e w' ⟨rfl, hb⟩; obtain ⟨hc, hf⟩ := bcell hb; have hz := hb.size; (try simp at hz); (try (have hz1 := Nat.lt_of_succ_le hz; (try (have hz2 := Nat.lt_of_succ_lt hz1; (try (have hz3 := Nat.lt_of_succ_lt hz2)))))); (try (have y0 : w.heap.size < w'.heap.size := by omega)); (try (have y1 : w.heap.size + 1 < w'.heap.size := by omega)); (try (have y2 : w.heap.size ≤ w'.heap.size := by omega)); (try (have y3 : w.heap.size + 1 ≤ w'.heap.size := by omega))))
      have q0 : (w'.cell? ⟨w.heap.size, 0, none⟩).isSome = true := by rw [hc _ _ (by simp; omega)]; simp [go_sem]
      have q1 : (w'.cell? ⟨w.heap.size, 1, none⟩).isSome = true := by rw [hc _ _ (by simp; omega)]; simp [go_sem]
      have q2 : (w'.cell? ⟨w.heap.size, 2, none⟩).isSome = true := by rw [hc _ _ (by simp; omega)]; simp [go_sem]
      have q3 : (w'.cell? ⟨w.heap.size, 3, none⟩).isSome = true := by rw [hc _ _ (by simp; omega)]; simp [go_sem]
      have q4 : (w'.cell? ⟨w.heap.size, 4, none⟩).isSome = true := by rw [hc _ _ (by simp; omega)]; simp [go_sem]
      refine bodyPost_ret (v := .tuple #[.agg #[.int .i64 0, .int .i64 0, .int .i64 0, .int .i64 0, .int .i64 0], .bool false]) (by simp only [results, Try.results26]; go_simp) rfl ⟨by rw [HA.out], ?_⟩
      repeat (first | exact Below.refl _ _ | (with_reducible refine Below.setCell ?_ (by first | exact Nat.le_refl _ | (simp; done) | (simp; omega) | omega) _) | (with_reducible refine Below.alloc ?_ (by first | exact Nat.le_refl _ | (simp; done) | (simp; omega) | omega) _) | (with_reducible refine Below.drew ?_) | (with_reducible refine belowN ?_ _) | (with_reducible refine Below.trans ?_ (Below.mono (by assumption) (by first | exact Nat.le_refl _ | (simp; done) | (simp; omega) | omega))))
    · have HA := Kp.mk (uAgg_yes x h)
      obtain ⟨e1, e2⟩ := iWord_yes (show insMay (rO x) (rA x) (rB x) (rC x) (rM x) = true from h)
      clear h
      go_enter Try.func26, Try.ntmps26
      go_wp2_with (first | (go_at_call 45; (with_reducible refine (rf0 _ _ h0 h1).mono ?_); rintro e w' ⟨rfl, rfl⟩) | (go_at_call 45; (with_reducible refine (rf8 _ _ h0 h1).mono ?_); rintro e w' ⟨rfl, rfl⟩) | (go_at_call 45; (with_reducible refine (rf16 _ _ h0 h1).mono ?_); rintro e w' ⟨rfl, rfl⟩) | (go_at_call 45; (with_reducible refine (rf24 _ _ h0 h1).mono ?_); rintro e w' ⟨rfl, rfl⟩) | (go_at_call 45; (with_reducible refine (rf32 _ _ h0 h1).mono ?_); rintro e w' ⟨rfl, rfl⟩) | (go_at_call 24; (with_reducible refine (rword13 _ _ _ _ _ _).mono ?_); rintro e w' ⟨rfl, hb⟩; obtain ⟨hc, hf⟩ := bcell hb; have hz := hb.size; (try simp at hz); (try (have hz1 := Nat.lt_of_succ_le hz; (try (have hz2 := Nat.lt_of_succ_lt hz1; (try (have hz3 := Nat.lt_of_succ_lt hz2)))))); (try (have y0 : w.heap.size < w'.heap.size := by omega)); (try (have y1 : w.heap.size + 1 < w'.heap.size := by omega)); (try (have y2 : w.heap.size ≤ w'.heap.size := by omega)); (try (have y3 : w.heap.size + 1 ≤ w'.heap.size := by omega))))
      have q0 : (w'.cell? ⟨w.heap.size, 0, none⟩).isSome = true := by rw [hc _ _ (by simp; omega)]; simp [go_sem]
      have q1 : (w'.cell? ⟨w.heap.size, 1, none⟩).isSome = true := by rw [hc _ _ (by simp; omega)]; simp [go_sem]
      have q2 : (w'.cell? ⟨w.heap.size, 2, none⟩).isSome = true := by rw [hc _ _ (by simp; omega)]; simp [go_sem]
      have q3 : (w'.cell? ⟨w.heap.size, 3, none⟩).isSome = true := by rw [hc _ _ (by simp; omega)]; simp [go_sem]
      have q4 : (w'.cell? ⟨w.heap.size, 4, none⟩).isSome = true := by rw [hc _ _ (by simp; omega)]; simp [go_sem]
      refine bodyPost_ret (v := .tuple #[.agg #[.int .i64 (rO x), .int .i64 (rA x), .int .i64 (rB x), .int .i64 (rC x), .int .i64 (rM x)], .bool true]) (by simp only [results, Try.results26]; go_simp) rfl ⟨by rw [HA.out], ?_⟩
      repeat (first | exact Below.refl _ _ | (with_reducible refine Below.setCell ?_ (by first | exact Nat.le_refl _ | (simp; done) | (simp; omega) | omega) _) | (with_reducible refine Below.alloc ?_ (by first | exact Nat.le_refl _ | (simp; done) | (simp; omega) | omega) _) | (with_reducible refine Below.drew ?_) | (with_reducible refine belowN ?_ _) | (with_reducible refine Below.trans ?_ (Below.mono (by assumption) (by first | exact Nat.le_refl _ | (simp; done) | (simp; omega) | omega))))
  · have hM : rH x = rM x := by unfold rH rM at *; omega
    rw [hM] at g1 g2 hm
    rcases two (iOk x) with h | h
    · have HA := Kp.mk (uAgg_no x h)
      obtain ⟨e1, e2⟩ := iWord_no (show insMay (rO x) (rA x) (rB x) (rC x) (rM x) = false from h)
      clear h
      go_enter Try.func26, Try.ntmps26
      go_wp2_with (first | (go_at_call 45; (with_reducible refine (rf0 _ _ h0 h1).mono ?_); rintro e w' ⟨rfl, rfl⟩) | (go_at_call 45; (with_reducible refine (rf8 _ _ h0 h1).mono ?_); rintro e w' ⟨rfl, rfl⟩) | (go_at_call 45; (with_reducible refine (rf16 _ _ h0 h1).mono ?_); rintro e w' ⟨rfl, rfl⟩) | (go_at_call 45; (with_reducible refine (rf24 _ _ h0 h1).mono ?_); rintro e w' ⟨rfl, rfl⟩) | (go_at_call 45; (with_reducible refine (rf32 _ _ h0 h1).mono ?_); rintro e w' ⟨rfl, rfl⟩) | (go_at_call 24; (with_reducible refine (rword13 _ _ _ _ _ _).mono ?_); rintro e w' ⟨rfl, hb⟩; obtain ⟨hc, hf⟩ := bcell hb; have hz := hb.size; (try simp at hz); (try (have hz1 := Nat.lt_of_succ_le hz; (try (have hz2 := Nat.lt_of_succ_lt hz1; (try (have hz3 := Nat.lt_of_succ_lt hz2)))))); (try (have y0 : w.heap.size < w'.heap.size := by omega)); (try (have y1 : w.heap.size + 1 < w'.heap.size := by omega)); (try (have y2 : w.heap.size ≤ w'.heap.size := by omega)); (try (have y3 : w.heap.size + 1 ≤ w'.heap.size := by omega))))
      have q0 : (w'.cell? ⟨w.heap.size, 0, none⟩).isSome = true := by rw [hc _ _ (by simp; omega)]; simp [go_sem]
      have q1 : (w'.cell? ⟨w.heap.size, 1, none⟩).isSome = true := by rw [hc _ _ (by simp; omega)]; simp [go_sem]
      have q2 : (w'.cell? ⟨w.heap.size, 2, none⟩).isSome = true := by rw [hc _ _ (by simp; omega)]; simp [go_sem]
      have q3 : (w'.cell? ⟨w.heap.size, 3, none⟩).isSome = true := by rw [hc _ _ (by simp; omega)]; simp [go_sem]
      have q4 : (w'.cell? ⟨w.heap.size, 4, none⟩).isSome = true := by rw [hc _ _ (by simp; omega)]; simp [go_sem]
      refine bodyPost_ret (v := .tuple #[.agg #[.int .i64 0, .int .i64 0, .int .i64 0, .int .i64 0, .int .i64 0], .bool false]) (by simp only [results, Try.results26]; go_simp) rfl ⟨by rw [HA.out], ?_⟩
      repeat (first | exact Below.refl _ _ | (with_reducible refine Below.setCell ?_ (by first | exact Nat.le_refl _ | (simp; done) | (simp; omega) | omega) _) | (with_reducible refine Below.alloc ?_ (by first | exact Nat.le_refl _ | (simp; done) | (simp; omega) | omega) _) | (with_reducible refine Below.drew ?_) | (with_reducible refine belowN ?_ _) | (with_reducible refine Below.trans ?_ (Below.mono (by assumption) (by first | exact Nat.le_refl _ | (simp; done) | (simp; omega) | omega))))
    · have HA := Kp.mk (uAgg_yes x h)
      obtain ⟨e1, e2⟩ := iWord_yes (show insMay (rO x) (rA x) (rB x) (rC x) (rM x) = true from h)
      clear h
      go_enter Try.func26, Try.ntmps26
      go_wp2_with (first | (go_at_call 45; (with_reducible refine (rf0 _ _ h0 h1).mono ?_); rintro e w' ⟨rfl, rfl⟩) | (go_at_call 45; (with_reducible refine (rf8 _ _ h0 h1).mono ?_); rintro e w' ⟨rfl, rfl⟩) | (go_at_call 45; (with_reducible refine (rf16 _ _ h0 h1).mono ?_); rintro e w' ⟨rfl, rfl⟩) | (go_at_call 45; (with_reducible refine (rf24 _ _ h0 h1).mono ?_); rintro e w' ⟨rfl, rfl⟩) | (go_at_call 45; (with_reducible refine (rf32 _ _ h0 h1).mono ?_); rintro e w' ⟨rfl, rfl⟩) | (go_at_call 24; (with_reducible refine (rword13 _ _ _ _ _ _).mono ?_); rintro e w' ⟨rfl, hb⟩; obtain ⟨hc, hf⟩ := bcell hb; have hz := hb.size; (try simp at hz); (try (have hz1 := Nat.lt_of_succ_le hz; (try (have hz2 := Nat.lt_of_succ_lt hz1; (try (have hz3 := Nat.lt_of_succ_lt hz2)))))); (try (have y0 : w.heap.size < w'.heap.size := by omega)); (try (have y1 : w.heap.size + 1 < w'.heap.size := by omega)); (try (have y2 : w.heap.size ≤ w'.heap.size := by omega)); (try (have y3 : w.heap.size + 1 ≤ w'.heap.size := by omega))))
      have q0 : (w'.cell? ⟨w.heap.size, 0, none⟩).isSome = true := by rw [hc _ _ (by simp; omega)]; simp [go_sem]
      have q1 : (w'.cell? ⟨w.heap.size, 1, none⟩).isSome = true := by rw [hc _ _ (by simp; omega)]; simp [go_sem]
      have q2 : (w'.cell? ⟨w.heap.size, 2, none⟩).isSome = true := by rw [hc _ _ (by simp; omega)]; simp [go_sem]
      have q3 : (w'.cell? ⟨w.heap.size, 3, none⟩).isSome = true := by rw [hc _ _ (by simp; omega)]; simp [go_sem]
      have q4 : (w'.cell? ⟨w.heap.size, 4, none⟩).isSome = true := by rw [hc _ _ (by simp; omega)]; simp [go_sem]
      refine bodyPost_ret (v := .tuple #[.agg #[.int .i64 (rO x), .int .i64 (rA x), .int .i64 (rB x), .int .i64 (rC x), .int .i64 (rM x)], .bool true]) (by simp only [results, Try.results26]; go_simp) rfl ⟨by rw [HA.out], ?_⟩
      repeat (first | exact Below.refl _ _ | (with_reducible refine Below.setCell ?_ (by first | exact Nat.le_refl _ | (simp; done) | (simp; omega) | omega) _) | (with_reducible refine Below.alloc ?_ (by first | exact Nat.le_refl _ | (simp; done) | (simp; omega) | omega) _) | (with_reducible refine Below.drew ?_) | (with_reducible refine belowN ?_ _) | (with_reducible refine Below.trans ?_ (Below.mono (by assumption) (by first | exact Nat.le_refl _ | (simp; done) | (simp; omega) | omega))))

end Go.Proofs.Ytnmdhlemenjdiab
