/- The walks of the reference of capabilities, on: Of, Diminish, May, Within. -/
import Derived.Test.YtnmdhlemenjdiaaG7w
import Derived.Test.YtnmdhlemenjdiaaPc
namespace Go.Proofs.Ytnmdhlemenjdiaa
open Go.RowKit
set_option linter.unusedSimpArgs false
set_option linter.unusedVariables false

theorem field_K (x : Int) (w : World) (h0 : 0 ≤ x) (h1 : x < 18446744073709551616) :
    Calls Try.prog 39 #[.int .u64 x, .int .i64 0, .int .i64 4] w fun e w' => e = .returned (.int .u64 (pK x)) ∧ w = w' :=
  (field_lit x 0 4 1 16 w rfl rfl h0 h1 (by decide) (by decide) (by decide)).mono fun e w' ⟨h, k⟩ => ⟨h.trans (ret_int (by unfold pK; omega)), k⟩
theorem field_R (x : Int) (w : World) (h0 : 0 ≤ x) (h1 : x < 18446744073709551616) :
    Calls Try.prog 39 #[.int .u64 x, .int .i64 4, .int .i64 4] w fun e w' => e = .returned (.int .u64 (pR x)) ∧ w = w' :=
  field_lit x 4 4 16 16 w rfl rfl h0 h1 (by decide) (by decide) (by decide)
theorem field_I (x : Int) (w : World) (h0 : 0 ≤ x) (h1 : x < 18446744073709551616) :
    Calls Try.prog 39 #[.int .u64 x, .int .i64 8, .int .i64 16] w fun e w' => e = .returned (.int .u64 (pI x)) ∧ w = w' :=
  field_lit x 8 16 256 65536 w rfl rfl h0 h1 (by decide) (by decide) (by decide)
theorem field_V (x : Int) (w : World) (h0 : 0 ≤ x) (h1 : x < 18446744073709551616) :
    Calls Try.prog 39 #[.int .u64 x, .int .i64 24, .int .i64 24] w fun e w' => e = .returned (.int .u64 (pV x)) ∧ w = w' :=
  field_lit x 24 24 16777216 16777216 w rfl rfl h0 h1 (by decide) (by decide) (by decide)
theorem field_B (x : Int) (w : World) (h0 : 0 ≤ x) (h1 : x < 18446744073709551616) :
    Calls Try.prog 39 #[.int .u64 x, .int .i64 48, .int .i64 16] w fun e w' => e = .returned (.int .u64 (pB x)) ∧ w = w' :=
  (field_lit x 48 16 281474976710656 65536 w rfl rfl h0 h1 (by decide) (by decide) (by decide)).mono fun e w' ⟨h, k⟩ => ⟨h.trans (ret_int (by unfold pB; omega)), k⟩

set_option maxHeartbeats 4000000 in
theorem rof_any (x : Int) (w : World) (h0 : 0 ≤ x) (h1 : x < 18446744073709551616) :
    Calls Try.prog 28 #[.int .u64 x] w fun e w' => e = .returned (.tuple #[.agg #[.int .i64 (gK x), .int .i64 (gR x), .int .i64 (gI x), .int .i64 (gV x), .int .i64 (gB x)], .bool (cOk x)]) ∧ Below w.heap.size w w' := by
  obtain ⟨⟨a1, a2⟩, ⟨b1, b2⟩, ⟨c1, c2⟩, ⟨d1, d2⟩, ⟨e1, e2⟩⟩ := pbounds x h0 h1
  rcases two (cOk x) with h | h
  · have HA := Kp.mk (gAgg_no x h)
    have h' : capMay (pK x) (pR x) (pI x) (pV x) (pB x) = false := h
    have hE : cErr (pK x) (pR x) (pI x) (pV x) (pB x) = 1 := by unfold cErr; rw [h']; rfl
    clear h h'
    go_enter Try.func28, Try.ntmps28
    go_wp2_with (first | (go_at_call 39; (with_reducible refine (field_K _ _ h0 h1).mono ?_); rintro e w' ⟨rfl, rfl⟩) | (go_at_call 39; (with_reducible refine (field_R _ _ h0 h1).mono ?_); rintro e w' ⟨rfl, rfl⟩) | (go_at_call 39; (with_reducible refine (field_I _ _ h0 h1).mono ?_); rintro e w' ⟨rfl, rfl⟩) | (go_at_call 39; (with_reducible refine (field_V _ _ h0 h1).mono ?_); rintro e w' ⟨rfl, rfl⟩) | (go_at_call 39; (with_reducible refine (field_B _ _ h0 h1).mono ?_); rintro e w' ⟨rfl, rfl⟩) | (go_at_call 26; (with_reducible refine (rword_any _ _ _ _ _ _).mono ?_); rintro e w' ⟨rfl, hb⟩; obtain ⟨hc, hf⟩ := bcell hb; have hz := hb.size; (try simp at hz); (try (have hz1 := Nat.lt_of_succ_le hz; (try (have hz2 := Nat.lt_of_succ_lt hz1; (try (have hz3 := Nat.lt_of_succ_lt hz2))))))))
    have q0 : (w'.cell? ⟨w.heap.size, 0, none⟩).isSome = true := by rw [hc _ _ (by simp; omega)]; simp [go_sem]
    have q1 : (w'.cell? ⟨w.heap.size, 1, none⟩).isSome = true := by rw [hc _ _ (by simp; omega)]; simp [go_sem]
    have q2 : (w'.cell? ⟨w.heap.size, 2, none⟩).isSome = true := by rw [hc _ _ (by simp; omega)]; simp [go_sem]
    have q3 : (w'.cell? ⟨w.heap.size, 3, none⟩).isSome = true := by rw [hc _ _ (by simp; omega)]; simp [go_sem]
    have q4 : (w'.cell? ⟨w.heap.size, 4, none⟩).isSome = true := by rw [hc _ _ (by simp; omega)]; simp [go_sem]
    refine bodyPost_ret (v := .tuple #[.agg #[.int .i64 0, .int .i64 0, .int .i64 0, .int .i64 0, .int .i64 0], .bool false]) (by simp only [results, Try.results28]; go_simp) rfl ⟨by rw [HA.out], ?_⟩
    repeat (first | exact Below.refl _ _ | (with_reducible refine Below.setCell ?_ (by first | exact Nat.le_refl _ | (simp; done) | (simp; omega) | omega) _) | (with_reducible refine Below.alloc ?_ (by first | exact Nat.le_refl _ | (simp; done) | (simp; omega) | omega) _) | (with_reducible refine Below.drew ?_) | (with_reducible refine Below.trans ?_ (Below.mono (by assumption) (by first | exact Nat.le_refl _ | (simp; done) | (simp; omega) | omega))))
  · have HA := Kp.mk (gAgg_yes x h)
    have h' : capMay (pK x) (pR x) (pI x) (pV x) (pB x) = true := h
    have hE : cErr (pK x) (pR x) (pI x) (pV x) (pB x) = 0 := by unfold cErr; rw [h']; rfl
    have hW : cWord (pK x) (pR x) (pI x) (pV x) (pB x) = x := by unfold cWord; rw [h', if_pos rfl]; exact sum_parts x
    clear h h'
    go_enter Try.func28, Try.ntmps28
    go_wp2_with (first | (go_at_call 39; (with_reducible refine (field_K _ _ h0 h1).mono ?_); rintro e w' ⟨rfl, rfl⟩) | (go_at_call 39; (with_reducible refine (field_R _ _ h0 h1).mono ?_); rintro e w' ⟨rfl, rfl⟩) | (go_at_call 39; (with_reducible refine (field_I _ _ h0 h1).mono ?_); rintro e w' ⟨rfl, rfl⟩) | (go_at_call 39; (with_reducible refine (field_V _ _ h0 h1).mono ?_); rintro e w' ⟨rfl, rfl⟩) | (go_at_call 39; (with_reducible refine (field_B _ _ h0 h1).mono ?_); rintro e w' ⟨rfl, rfl⟩) | (go_at_call 26; (with_reducible refine (rword_any _ _ _ _ _ _).mono ?_); rintro e w' ⟨rfl, hb⟩; obtain ⟨hc, hf⟩ := bcell hb; have hz := hb.size; (try simp at hz); (try (have hz1 := Nat.lt_of_succ_le hz; (try (have hz2 := Nat.lt_of_succ_lt hz1; (try (have hz3 := Nat.lt_of_succ_lt hz2))))))))
    have q0 : (w'.cell? ⟨w.heap.size, 0, none⟩).isSome = true := by rw [hc _ _ (by simp; omega)]; simp [go_sem]
    have q1 : (w'.cell? ⟨w.heap.size, 1, none⟩).isSome = true := by rw [hc _ _ (by simp; omega)]; simp [go_sem]
    have q2 : (w'.cell? ⟨w.heap.size, 2, none⟩).isSome = true := by rw [hc _ _ (by simp; omega)]; simp [go_sem]
    have q3 : (w'.cell? ⟨w.heap.size, 3, none⟩).isSome = true := by rw [hc _ _ (by simp; omega)]; simp [go_sem]
    have q4 : (w'.cell? ⟨w.heap.size, 4, none⟩).isSome = true := by rw [hc _ _ (by simp; omega)]; simp [go_sem]
    refine bodyPost_ret (v := .tuple #[.agg #[.int .i64 (pK x), .int .i64 (pR x), .int .i64 (pI x), .int .i64 (pV x), .int .i64 (pB x)], .bool true]) (by simp only [results, Try.results28]; go_simp) rfl ⟨by rw [HA.out], ?_⟩
    repeat (first | exact Below.refl _ _ | (with_reducible refine Below.setCell ?_ (by first | exact Nat.le_refl _ | (simp; done) | (simp; omega) | omega) _) | (with_reducible refine Below.alloc ?_ (by first | exact Nat.le_refl _ | (simp; done) | (simp; omega) | omega) _) | (with_reducible refine Below.drew ?_) | (with_reducible refine Below.trans ?_ (Below.mono (by assumption) (by first | exact Nat.le_refl _ | (simp; done) | (simp; omega) | omega))))

set_option maxHeartbeats 4000000 in
theorem rdiminish_any (x r b : Int) (w : World) (h0 : 0 ≤ x) (h1 : x < 18446744073709551616) :
    Calls Try.prog 31 #[.int .u64 x, .int .i64 r, .int .i64 b] w fun e w' => e = .returned (.tuple #[.int .u64 (dWord x r b), .int .i64 (dErr x r b)]) ∧ Below w.heap.size w w' := by
  rcases two (cOk x) with h | h
  · go_enter Try.func31, Try.ntmps31
    go_wp2_with (first | (go_at_call 28; (with_reducible refine (rof_any _ _ h0 h1).mono ?_); rintro e w' ⟨rfl, hb⟩; obtain ⟨hc, hf⟩ := bcell hb; have hz := hb.size; (try simp at hz); (try (have hz1 := Nat.lt_of_succ_le hz; (try (have hz2 := Nat.lt_of_succ_lt hz1; (try (have hz3 := Nat.lt_of_succ_lt hz2))))))) | (go_at_call 26; (with_reducible refine (rword_any _ _ _ _ _ _).mono ?_); rintro e w' ⟨rfl, hb⟩; obtain ⟨hc, hf⟩ := bcell hb; have hz := hb.size; (try simp at hz); (try (have hz1 := Nat.lt_of_succ_le hz; (try (have hz2 := Nat.lt_of_succ_lt hz1; (try (have hz3 := Nat.lt_of_succ_lt hz2))))))))
    go_ret2
    refine ⟨ret_int2 (by simp [dWord, *]) (by simp [dErr, *]), ?_⟩
    repeat (first | exact Below.refl _ _ | (with_reducible refine Below.setCell ?_ (by first | exact Nat.le_refl _ | (simp; done) | (simp; omega) | omega) _) | (with_reducible refine Below.alloc ?_ (by first | exact Nat.le_refl _ | (simp; done) | (simp; omega) | omega) _) | (with_reducible refine Below.drew ?_) | (with_reducible refine Below.trans ?_ (Below.mono (by assumption) (by first | exact Nat.le_refl _ | (simp; done) | (simp; omega) | omega))))
  rcases two (win r 0 15) with hr | hr
  · have hn := win_f hr
    rcases two (decide (r < 0)) with t0 | t0
    · have k0 : ¬ r < 0 := of_decide_eq_false t0
      have t1 : decide (r > 15) = true := decide_eq_true (by omega)
      clear hn k0
      go_enter Try.func31, Try.ntmps31
      go_wp2_with (first | (go_at_call 28; (with_reducible refine (rof_any _ _ h0 h1).mono ?_); rintro e w' ⟨rfl, hb⟩; obtain ⟨hc, hf⟩ := bcell hb; have hz := hb.size; (try simp at hz); (try (have hz1 := Nat.lt_of_succ_le hz; (try (have hz2 := Nat.lt_of_succ_lt hz1; (try (have hz3 := Nat.lt_of_succ_lt hz2))))))) | (go_at_call 26; (with_reducible refine (rword_any _ _ _ _ _ _).mono ?_); rintro e w' ⟨rfl, hb⟩; obtain ⟨hc, hf⟩ := bcell hb; have hz := hb.size; (try simp at hz); (try (have hz1 := Nat.lt_of_succ_le hz; (try (have hz2 := Nat.lt_of_succ_lt hz1; (try (have hz3 := Nat.lt_of_succ_lt hz2))))))))
      go_ret2
      refine ⟨ret_int2 (by simp [dWord, *]) (by simp [dErr, *]), ?_⟩
      repeat (first | exact Below.refl _ _ | (with_reducible refine Below.setCell ?_ (by first | exact Nat.le_refl _ | (simp; done) | (simp; omega) | omega) _) | (with_reducible refine Below.alloc ?_ (by first | exact Nat.le_refl _ | (simp; done) | (simp; omega) | omega) _) | (with_reducible refine Below.drew ?_) | (with_reducible refine Below.trans ?_ (Below.mono (by assumption) (by first | exact Nat.le_refl _ | (simp; done) | (simp; omega) | omega))))
    · clear hn
      go_enter Try.func31, Try.ntmps31
      go_wp2_with (first | (go_at_call 28; (with_reducible refine (rof_any _ _ h0 h1).mono ?_); rintro e w' ⟨rfl, hb⟩; obtain ⟨hc, hf⟩ := bcell hb; have hz := hb.size; (try simp at hz); (try (have hz1 := Nat.lt_of_succ_le hz; (try (have hz2 := Nat.lt_of_succ_lt hz1; (try (have hz3 := Nat.lt_of_succ_lt hz2))))))) | (go_at_call 26; (with_reducible refine (rword_any _ _ _ _ _ _).mono ?_); rintro e w' ⟨rfl, hb⟩; obtain ⟨hc, hf⟩ := bcell hb; have hz := hb.size; (try simp at hz); (try (have hz1 := Nat.lt_of_succ_le hz; (try (have hz2 := Nat.lt_of_succ_lt hz1; (try (have hz3 := Nat.lt_of_succ_lt hz2))))))))
      go_ret2
      refine ⟨ret_int2 (by simp [dWord, *]) (by simp [dErr, *]), ?_⟩
      repeat (first | exact Below.refl _ _ | (with_reducible refine Below.setCell ?_ (by first | exact Nat.le_refl _ | (simp; done) | (simp; omega) | omega) _) | (with_reducible refine Below.alloc ?_ (by first | exact Nat.le_refl _ | (simp; done) | (simp; omega) | omega) _) | (with_reducible refine Below.drew ?_) | (with_reducible refine Below.trans ?_ (Below.mono (by assumption) (by first | exact Nat.le_refl _ | (simp; done) | (simp; omega) | omega))))
  have hr' := win_t hr
  have t0 : decide (r < 0) = false := decide_eq_false (by omega)
  have t1 : decide (r > 15) = false := decide_eq_false (by omega)
  rcases two (win b 0 65535) with hb | hb
  · have hn := win_f hb
    rcases two (decide (b < 0)) with t2 | t2
    · have k0 : ¬ b < 0 := of_decide_eq_false t2
      have t3 : decide (b > 65535) = true := decide_eq_true (by omega)
      clear hn k0
      go_enter Try.func31, Try.ntmps31
      go_wp2_with (first | (go_at_call 28; (with_reducible refine (rof_any _ _ h0 h1).mono ?_); rintro e w' ⟨rfl, hb⟩; obtain ⟨hc, hf⟩ := bcell hb; have hz := hb.size; (try simp at hz); (try (have hz1 := Nat.lt_of_succ_le hz; (try (have hz2 := Nat.lt_of_succ_lt hz1; (try (have hz3 := Nat.lt_of_succ_lt hz2))))))) | (go_at_call 26; (with_reducible refine (rword_any _ _ _ _ _ _).mono ?_); rintro e w' ⟨rfl, hb⟩; obtain ⟨hc, hf⟩ := bcell hb; have hz := hb.size; (try simp at hz); (try (have hz1 := Nat.lt_of_succ_le hz; (try (have hz2 := Nat.lt_of_succ_lt hz1; (try (have hz3 := Nat.lt_of_succ_lt hz2))))))))
      go_ret2
      refine ⟨ret_int2 (by simp [dWord, *]) (by simp [dErr, *]), ?_⟩
      repeat (first | exact Below.refl _ _ | (with_reducible refine Below.setCell ?_ (by first | exact Nat.le_refl _ | (simp; done) | (simp; omega) | omega) _) | (with_reducible refine Below.alloc ?_ (by first | exact Nat.le_refl _ | (simp; done) | (simp; omega) | omega) _) | (with_reducible refine Below.drew ?_) | (with_reducible refine Below.trans ?_ (Below.mono (by assumption) (by first | exact Nat.le_refl _ | (simp; done) | (simp; omega) | omega))))
    · clear hn
      go_enter Try.func31, Try.ntmps31
      go_wp2_with (first | (go_at_call 28; (with_reducible refine (rof_any _ _ h0 h1).mono ?_); rintro e w' ⟨rfl, hb⟩; obtain ⟨hc, hf⟩ := bcell hb; have hz := hb.size; (try simp at hz); (try (have hz1 := Nat.lt_of_succ_le hz; (try (have hz2 := Nat.lt_of_succ_lt hz1; (try (have hz3 := Nat.lt_of_succ_lt hz2))))))) | (go_at_call 26; (with_reducible refine (rword_any _ _ _ _ _ _).mono ?_); rintro e w' ⟨rfl, hb⟩; obtain ⟨hc, hf⟩ := bcell hb; have hz := hb.size; (try simp at hz); (try (have hz1 := Nat.lt_of_succ_le hz; (try (have hz2 := Nat.lt_of_succ_lt hz1; (try (have hz3 := Nat.lt_of_succ_lt hz2))))))))
      go_ret2
      refine ⟨ret_int2 (by simp [dWord, *]) (by simp [dErr, *]), ?_⟩
      repeat (first | exact Below.refl _ _ | (with_reducible refine Below.setCell ?_ (by first | exact Nat.le_refl _ | (simp; done) | (simp; omega) | omega) _) | (with_reducible refine Below.alloc ?_ (by first | exact Nat.le_refl _ | (simp; done) | (simp; omega) | omega) _) | (with_reducible refine Below.drew ?_) | (with_reducible refine Below.trans ?_ (Below.mono (by assumption) (by first | exact Nat.le_refl _ | (simp; done) | (simp; omega) | omega))))
  have hb' := win_t hb
  have t2 : decide (b < 0) = false := decide_eq_false (by omega)
  have t3 : decide (b > 65535) = false := decide_eq_false (by omega)
  rcases two (gB x == 0) with hg | hg
  · have hg' : ¬ gB x = 0 := by simpa using hg
    go_enter Try.func31, Try.ntmps31
    go_wp2_with (first | (go_at_call 28; (with_reducible refine (rof_any _ _ h0 h1).mono ?_); rintro e w' ⟨rfl, hb⟩; obtain ⟨hc, hf⟩ := bcell hb; have hz := hb.size; (try simp at hz); (try (have hz1 := Nat.lt_of_succ_le hz; (try (have hz2 := Nat.lt_of_succ_lt hz1; (try (have hz3 := Nat.lt_of_succ_lt hz2))))))) | (go_at_call 26; (with_reducible refine (rword_any _ _ _ _ _ _).mono ?_); rintro e w' ⟨rfl, hb⟩; obtain ⟨hc, hf⟩ := bcell hb; have hz := hb.size; (try simp at hz); (try (have hz1 := Nat.lt_of_succ_le hz; (try (have hz2 := Nat.lt_of_succ_lt hz1; (try (have hz3 := Nat.lt_of_succ_lt hz2))))))))
    go_ret2
    refine ⟨ret_int2 (by simp [dWord, *]) (by simp [dErr, *]), ?_⟩
    repeat (first | exact Below.refl _ _ | (with_reducible refine Below.setCell ?_ (by first | exact Nat.le_refl _ | (simp; done) | (simp; omega) | omega) _) | (with_reducible refine Below.alloc ?_ (by first | exact Nat.le_refl _ | (simp; done) | (simp; omega) | omega) _) | (with_reducible refine Below.drew ?_) | (with_reducible refine Below.trans ?_ (Below.mono (by assumption) (by first | exact Nat.le_refl _ | (simp; done) | (simp; omega) | omega))))
  · have hg' : gB x = 0 := by simpa using hg
    go_enter Try.func31, Try.ntmps31
    go_wp2_with (first | (go_at_call 28; (with_reducible refine (rof_any _ _ h0 h1).mono ?_); rintro e w' ⟨rfl, hb⟩; obtain ⟨hc, hf⟩ := bcell hb; have hz := hb.size; (try simp at hz); (try (have hz1 := Nat.lt_of_succ_le hz; (try (have hz2 := Nat.lt_of_succ_lt hz1; (try (have hz3 := Nat.lt_of_succ_lt hz2))))))) | (go_at_call 26; (with_reducible refine (rword_any _ _ _ _ _ _).mono ?_); rintro e w' ⟨rfl, hb⟩; obtain ⟨hc, hf⟩ := bcell hb; have hz := hb.size; (try simp at hz); (try (have hz1 := Nat.lt_of_succ_le hz; (try (have hz2 := Nat.lt_of_succ_lt hz1; (try (have hz3 := Nat.lt_of_succ_lt hz2))))))))
    go_ret2
    refine ⟨ret_int2 (by simp [dWord, *]) (by simp [dErr, *]), ?_⟩
    repeat (first | exact Below.refl _ _ | (with_reducible refine Below.setCell ?_ (by first | exact Nat.le_refl _ | (simp; done) | (simp; omega) | omega) _) | (with_reducible refine Below.alloc ?_ (by first | exact Nat.le_refl _ | (simp; done) | (simp; omega) | omega) _) | (with_reducible refine Below.drew ?_) | (with_reducible refine Below.trans ?_ (Below.mono (by assumption) (by first | exact Nat.le_refl _ | (simp; done) | (simp; omega) | omega))))

set_option maxHeartbeats 4000000 in
theorem rmay_any (x k r : Int) (w : World) (h0 : 0 ≤ x) (h1 : x < 18446744073709551616) (r0 : -9223372036854775808 ≤ r) (r1 : r < 9223372036854775808) :
    Calls Try.prog 33 #[.int .u64 x, .int .i64 k, .int .i64 r] w fun e w' => e = .returned (.int .i64 (mErr x k r)) ∧ Below w.heap.size w w' := by
  have hl := and_andNot (gR x) r r0 r1
  clear r0 r1
  rcases two (cOk x) with h | h
  · clear hl
    go_enter Try.func33, Try.ntmps33
    go_wp2_with (first | (go_at_call 28; (with_reducible refine (rof_any _ _ h0 h1).mono ?_); rintro e w' ⟨rfl, hb⟩; obtain ⟨hc, hf⟩ := bcell hb; have hz := hb.size; (try simp at hz); (try (have hz1 := Nat.lt_of_succ_le hz; (try (have hz2 := Nat.lt_of_succ_lt hz1; (try (have hz3 := Nat.lt_of_succ_lt hz2))))))))
    go_ret
    refine ⟨ret_int (by simp [mErr, *]), ?_⟩
    repeat (first | exact Below.refl _ _ | (with_reducible refine Below.setCell ?_ (by first | exact Nat.le_refl _ | (simp; done) | (simp; omega) | omega) _) | (with_reducible refine Below.alloc ?_ (by first | exact Nat.le_refl _ | (simp; done) | (simp; omega) | omega) _) | (with_reducible refine Below.drew ?_) | (with_reducible refine Below.trans ?_ (Below.mono (by assumption) (by first | exact Nat.le_refl _ | (simp; done) | (simp; omega) | omega))))
  rcases two (gK x != k) with hr | hr
  · have hr' : gK x = k := by simpa using hr
    subst hr'
    rcases two (bits .andNot .i64 r (gR x) != 0) with hb | hb
    · have hb' : bits .andNot .i64 r (gR x) = 0 := by simpa using hb
      have hq : (bits .and .i64 (gR x) r != r) = false := by simpa using hl.2 hb'
      have hq' : bits .and .i64 (gR x) r = r := hl.2 hb'
      have HQ := Kp.mk hq'
      clear hl hq'
      go_enter Try.func33, Try.ntmps33
      go_wp2_with (first | (go_at_call 28; (with_reducible refine (rof_any _ _ h0 h1).mono ?_); rintro e w' ⟨rfl, hb⟩; obtain ⟨hc, hf⟩ := bcell hb; have hz := hb.size; (try simp at hz); (try (have hz1 := Nat.lt_of_succ_le hz; (try (have hz2 := Nat.lt_of_succ_lt hz1; (try (have hz3 := Nat.lt_of_succ_lt hz2))))))))
      go_ret
      refine ⟨ret_int (by simp [mErr, *]), ?_⟩
      repeat (first | exact Below.refl _ _ | (with_reducible refine Below.setCell ?_ (by first | exact Nat.le_refl _ | (simp; done) | (simp; omega) | omega) _) | (with_reducible refine Below.alloc ?_ (by first | exact Nat.le_refl _ | (simp; done) | (simp; omega) | omega) _) | (with_reducible refine Below.drew ?_) | (with_reducible refine Below.trans ?_ (Below.mono (by assumption) (by first | exact Nat.le_refl _ | (simp; done) | (simp; omega) | omega))))
    · have hb' : ¬ bits .andNot .i64 r (gR x) = 0 := by simpa using hb
      have hq : (bits .and .i64 (gR x) r != r) = true := by simpa using fun e => hb' (hl.1 e)
      clear hl
      go_enter Try.func33, Try.ntmps33
      go_wp2_with (first | (go_at_call 28; (with_reducible refine (rof_any _ _ h0 h1).mono ?_); rintro e w' ⟨rfl, hb⟩; obtain ⟨hc, hf⟩ := bcell hb; have hz := hb.size; (try simp at hz); (try (have hz1 := Nat.lt_of_succ_le hz; (try (have hz2 := Nat.lt_of_succ_lt hz1; (try (have hz3 := Nat.lt_of_succ_lt hz2))))))))
      go_ret
      refine ⟨ret_int (by simp [mErr, *]), ?_⟩
      repeat (first | exact Below.refl _ _ | (with_reducible refine Below.setCell ?_ (by first | exact Nat.le_refl _ | (simp; done) | (simp; omega) | omega) _) | (with_reducible refine Below.alloc ?_ (by first | exact Nat.le_refl _ | (simp; done) | (simp; omega) | omega) _) | (with_reducible refine Below.drew ?_) | (with_reducible refine Below.trans ?_ (Below.mono (by assumption) (by first | exact Nat.le_refl _ | (simp; done) | (simp; omega) | omega))))
  · have hr' : ¬ gK x = k := by simpa using hr
    clear hl
    go_enter Try.func33, Try.ntmps33
    go_wp2_with (first | (go_at_call 28; (with_reducible refine (rof_any _ _ h0 h1).mono ?_); rintro e w' ⟨rfl, hb⟩; obtain ⟨hc, hf⟩ := bcell hb; have hz := hb.size; (try simp at hz); (try (have hz1 := Nat.lt_of_succ_le hz; (try (have hz2 := Nat.lt_of_succ_lt hz1; (try (have hz3 := Nat.lt_of_succ_lt hz2))))))))
    go_ret
    refine ⟨ret_int (by simp [mErr, *]), ?_⟩
    repeat (first | exact Below.refl _ _ | (with_reducible refine Below.setCell ?_ (by first | exact Nat.le_refl _ | (simp; done) | (simp; omega) | omega) _) | (with_reducible refine Below.alloc ?_ (by first | exact Nat.le_refl _ | (simp; done) | (simp; omega) | omega) _) | (with_reducible refine Below.drew ?_) | (with_reducible refine Below.trans ?_ (Below.mono (by assumption) (by first | exact Nat.le_refl _ | (simp; done) | (simp; omega) | omega))))

set_option maxHeartbeats 4000000 in
theorem rwithin_any (x y : Int) (w : World) (h0 : 0 ≤ x) (h1 : x < 18446744073709551616) (k0 : 0 ≤ y) (k1 : y < 18446744073709551616) :
    Calls Try.prog 34 #[.int .u64 x, .int .u64 y] w fun e w' => e = .returned (.bool (cOk x && (cOk y && (gK x == gK y && (gI x == gI y && (gV x == gV y && bits .and .i64 (gR x) (gR y) == gR x)))))) ∧ Below w.heap.size w w' := by
  go_enter Try.func34, Try.ntmps34
  go_wp2_with (first | (go_at_call 28; (with_reducible refine (rof_any x _ h0 h1).mono ?_); rintro e w' ⟨rfl, hb⟩; obtain ⟨hc, hf⟩ := bcell hb; have hz := hb.size; (try simp at hz); (try (have hz1 := Nat.lt_of_succ_le hz; (try (have hz2 := Nat.lt_of_succ_lt hz1; (try (have hz3 := Nat.lt_of_succ_lt hz2))))))) | (go_at_call 28; (with_reducible refine (rof_any y _ k0 k1).mono ?_); rintro e w' ⟨rfl, hb⟩; obtain ⟨hc, hf⟩ := bcell hb; have hz := hb.size; (try simp at hz); (try (have hz1 := Nat.lt_of_succ_le hz; (try (have hz2 := Nat.lt_of_succ_lt hz1; (try (have hz3 := Nat.lt_of_succ_lt hz2))))))))
  all_goals go_ret
  all_goals refine ⟨ret_bool (by first | (simp [*]; done) | (simp_all; done)), ?_⟩
  all_goals (repeat (first | exact Below.refl _ _ | (with_reducible refine Below.setCell ?_ (by first | exact Nat.le_refl _ | (simp; done) | (simp; omega) | omega) _) | (with_reducible refine Below.alloc ?_ (by first | exact Nat.le_refl _ | (simp; done) | (simp; omega) | omega) _) | (with_reducible refine Below.drew ?_) | (with_reducible refine Below.trans ?_ (Below.mono (by assumption) (by first | exact Nat.le_refl _ | (simp; done) | (simp; omega) | omega)))))

end Go.Proofs.Ytnmdhlemenjdiaa
