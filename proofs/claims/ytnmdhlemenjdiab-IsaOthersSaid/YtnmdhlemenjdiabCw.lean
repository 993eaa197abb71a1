/- The walks of package caps: each function computes what the plain text says. -/
import Derived.Test.YtnmdhlemenjdiabProg
import Derived.Test.YtnmdhlemenjdiabPa
import Derived.Test.YtnmdhlemenjdiabKit
import Derived.Test.YtnmdhlemenjdiabPc
namespace Go.Proofs.Ytnmdhlemenjdiab
open Go.RowKit
set_option linter.unusedSimpArgs false
set_option linter.unusedVariables false

set_option maxHeartbeats 400000 in
theorem within_any (n a b : Int) (w : World) :
    Calls Try.prog 46 #[.int .i64 n, .int .i64 a, .int .i64 b] w fun e w' => e = .returned (.bool (win n a b)) ∧ w = w' := by
  by_cases h : a ≤ n
  · have h' : decide (n ≥ a) = true := by simpa using h
    go_enter Try.func46, Try.ntmps46
    go_wp2
    go_ret
    exact ⟨ret_bool (by simp [win, h]), rfl⟩
  · have h' : decide (n ≥ a) = false := by simpa using h
    go_enter Try.func46, Try.ntmps46
    go_wp2
    go_ret
    exact ⟨ret_bool (by simp [win]; omega), rfl⟩

set_option maxHeartbeats 1000000 in
theorem may_any (k r i v b : Int) (w : World) :
    Calls Try.prog 35 #[.agg #[.int .i64 k, .int .i64 r, .int .i64 i, .int .i64 v, .int .i64 b]] w fun e w' => e = .returned (.bool (capMay k r i v b)) ∧ Below w.heap.size w w' := by
  go_enter Try.func35, Try.ntmps35
  go_wp2_with (first | (go_at_call 46; refine (within_any _ _ _ _).mono ?_; rintro e w' ⟨rfl, rfl⟩))
  all_goals go_ret
  all_goals exact ⟨ret_bool (by first | (simp [capMay, *]; done) | (simp_all [capMay]; done)), (Below.refl _ _).alloc (Nat.le_refl _) _⟩

set_option maxHeartbeats 1000000 in
theorem word_any (k r i v b : Int) (w : World) :
    Calls Try.prog 33 #[.agg #[.int .i64 k, .int .i64 r, .int .i64 i, .int .i64 v, .int .i64 b]] w fun e w' => e = .returned (.tuple #[.int .u64 (cWord k r i v b), .int .i64 (cErr k r i v b)]) ∧ Below w.heap.size w w' := by
  by_cases h : capMay k r i v b = true
  · obtain ⟨⟨a1, a2⟩, ⟨b1, b2⟩, ⟨c1, c2⟩, ⟨d1, d2⟩, ⟨e1, e2⟩, _⟩ := capMay_t h
    have HS : Hid (cWord k r i v b = capSum k r i v b) := by unfold cWord; exact if_pos h
    have HE : Hid (cErr k r i v b = 0) := by unfold cErr; exact if_pos h
    have HO : Hid (bits .or .u64 (bits .or .u64 (bits .or .u64 (bits .or .u64 k (r * 16)) (i * 256)) (v * 16777216)) (b * 281474976710656) = capSum k r i v b) := capSum_or h
    go_enter Try.func33, Try.ntmps33
    go_wp2_with (first | (go_at_call 35; refine (may_any _ _ _ _ _ _).mono ?_; rintro e w' ⟨rfl, hb⟩; obtain ⟨hc, hf⟩ := bcell hb))
    go_ret2
    exact ⟨ret_int2 (by rw [HS.out]; exact HO.out) HE.out.symm, ((Below.refl _ _).alloc (Nat.le_refl _) _).trans (hb.mono (by simp))⟩
  · have h' : capMay k r i v b = false := by simpa using h
    have HS : Hid (cWord k r i v b = 0) := by unfold cWord; exact if_neg h
    have HE : Hid (cErr k r i v b = 1) := by unfold cErr; exact if_neg h
    clear h
    go_enter Try.func33, Try.ntmps33
    go_wp2_with (first | (go_at_call 35; refine (may_any _ _ _ _ _ _).mono ?_; rintro e w' ⟨rfl, hb⟩; obtain ⟨hc, hf⟩ := bcell hb))
    go_ret2
    exact ⟨ret_int2 HS.out.symm HE.out.symm, ((Below.refl _ _).alloc (Nat.le_refl _) _).trans (hb.mono (by simp))⟩


theorem masks (w : Int) (h0 : 0 ≤ w) (h1 : w < 18446744073709551616) : bits .and .u64 w 15 = pK w ∧ bits .and .u64 (w / 16) 15 = pR w ∧ bits .and .u64 (w / 256) 65535 = pI w ∧ bits .and .u64 (w / 16777216) 16777215 = pV w ∧ w / 281474976710656 = pB w :=
  ⟨u64_mask 4 (by decide) w h0 h1, u64_mask 4 (by decide) (w / 16) (by omega) (by omega), u64_mask 16 (by decide) (w / 256) (by omega) (by omega), u64_mask 24 (by decide) (w / 16777216) (by omega) (by omega), rfl⟩
theorem pbounds (w : Int) (h0 : 0 ≤ w) (h1 : w < 18446744073709551616) : (0 ≤ pK w ∧ pK w ≤ 15) ∧ (0 ≤ pR w ∧ pR w ≤ 15) ∧ (0 ≤ pI w ∧ pI w ≤ 65535) ∧ (0 ≤ pV w ∧ pV w ≤ 16777215) ∧ (0 ≤ pB w ∧ pB w ≤ 65535) := by
  unfold pK pR pI pV pB; omega

theorem gAgg_yes (w : Int) (h : cOk w = true) : (Value.tuple #[.agg #[.int .i64 (pK w), .int .i64 (pR w), .int .i64 (pI w), .int .i64 (pV w), .int .i64 (pB w)], .bool true]) = .tuple #[.agg #[.int .i64 (gK w), .int .i64 (gR w), .int .i64 (gI w), .int .i64 (gV w), .int .i64 (gB w)], .bool (cOk w)] := by
  obtain ⟨a, b, c, d, e⟩ := g_yes w h
  rw [a, b, c, d, e, h]
theorem gAgg_no (w : Int) (h : cOk w = false) : (Value.tuple #[.agg #[.int .i64 0, .int .i64 0, .int .i64 0, .int .i64 0, .int .i64 0], .bool false]) = .tuple #[.agg #[.int .i64 (gK w), .int .i64 (gR w), .int .i64 (gI w), .int .i64 (gV w), .int .i64 (gB w)], .bool (cOk w)] := by
  obtain ⟨a, b, c, d, e⟩ := g_no w h
  rw [a, b, c, d, e, h]

set_option maxHeartbeats 1000000 in
theorem of_any (x : Int) (w : World) (h0 : 0 ≤ x) (h1 : x < 18446744073709551616) :
    Calls Try.prog 13 #[.int .u64 x] w fun e w' => e = .returned (.tuple #[.agg #[.int .i64 (gK x), .int .i64 (gR x), .int .i64 (gI x), .int .i64 (gV x), .int .i64 (gB x)], .bool (cOk x)]) ∧ Below w.heap.size w w' := by
  obtain ⟨m1, m2, m3, m4, m5⟩ := masks x h0 h1
  obtain ⟨⟨a1, a2⟩, ⟨b1, b2⟩, ⟨c1, c2⟩, ⟨d1, d2⟩, ⟨e1, e2⟩⟩ := pbounds x h0 h1
  by_cases h : cOk x = true
  · have HA := Lib.hid (gAgg_yes x h)
    have hm : capMay (pK x) (pR x) (pI x) (pV x) (pB x) = true := h
    clear h
    go_enter Try.func13, Try.ntmps13
    go_wp2_with (first | (go_at_call 35; (with_reducible refine (may_any _ _ _ _ _ _).mono ?_); rintro e w' ⟨rfl, hb⟩; obtain ⟨hc, hf⟩ := bcell hb; have hz := hb.size; (try simp at hz); (try (have hz1 := Nat.lt_of_succ_le hz; (try (have hz2 := Nat.lt_of_succ_lt hz1; (try (have hz3 := Nat.lt_of_succ_lt hz2)))))); (try (have y0 : w.heap.size < w'.heap.size := by omega)); (try (have y1 : w.heap.size + 1 < w'.heap.size := by omega)); (try (have y2 : w.heap.size ≤ w'.heap.size := by omega)); (try (have y3 : w.heap.size + 1 ≤ w'.heap.size := by omega))))
    have q0 : (w'.cell? ⟨w.heap.size, 0, none⟩).isSome = true := by rw [hc _ _ (by simp; omega)]; simp [go_sem]
    have q1 : (w'.cell? ⟨w.heap.size, 1, none⟩).isSome = true := by rw [hc _ _ (by simp; omega)]; simp [go_sem]
    have q2 : (w'.cell? ⟨w.heap.size, 2, none⟩).isSome = true := by rw [hc _ _ (by simp; omega)]; simp [go_sem]
    have q3 : (w'.cell? ⟨w.heap.size, 3, none⟩).isSome = true := by rw [hc _ _ (by simp; omega)]; simp [go_sem]
    have q4 : (w'.cell? ⟨w.heap.size, 4, none⟩).isSome = true := by rw [hc _ _ (by simp; omega)]; simp [go_sem]
    refine bodyPost_ret (v := .tuple #[.agg #[.int .i64 (pK x), .int .i64 (pR x), .int .i64 (pI x), .int .i64 (pV x), .int .i64 (pB x)], .bool true]) (by simp only [results, Try.results13]; go_simp) rfl ⟨by rw [HA.out], ?_⟩
    repeat (first | exact Below.refl _ _ | (with_reducible refine Below.setCell ?_ (by first | exact Nat.le_refl _ | (simp; done) | (simp; omega) | omega) _) | (with_reducible refine Below.alloc ?_ (by first | exact Nat.le_refl _ | (simp; done) | (simp; omega) | omega) _) | (with_reducible refine Below.drew ?_) | (with_reducible refine belowN ?_ _) | (with_reducible refine Below.trans ?_ (Below.mono (by assumption) (by first | exact Nat.le_refl _ | (simp; done) | (simp; omega) | omega))))
  · have h' : cOk x = false := by simpa using h
    have HA := Lib.hid (gAgg_no x h')
    have hm : capMay (pK x) (pR x) (pI x) (pV x) (pB x) = false := h'
    clear h h'
    go_enter Try.func13, Try.ntmps13
    go_wp2_with (first | (go_at_call 35; (with_reducible refine (may_any _ _ _ _ _ _).mono ?_); rintro e w' ⟨rfl, hb⟩; obtain ⟨hc, hf⟩ := bcell hb; have hz := hb.size; (try simp at hz); (try (have hz1 := Nat.lt_of_succ_le hz; (try (have hz2 := Nat.lt_of_succ_lt hz1; (try (have hz3 := Nat.lt_of_succ_lt hz2)))))); (try (have y0 : w.heap.size < w'.heap.size := by omega)); (try (have y1 : w.heap.size + 1 < w'.heap.size := by omega)); (try (have y2 : w.heap.size ≤ w'.heap.size := by omega)); (try (have y3 : w.heap.size + 1 ≤ w'.heap.size := by omega))))
    have q0 : (w'.cell? ⟨w.heap.size, 0, none⟩).isSome = true := by rw [hc _ _ (by simp; omega)]; simp [go_sem]
    have q1 : (w'.cell? ⟨w.heap.size, 1, none⟩).isSome = true := by rw [hc _ _ (by simp; omega)]; simp [go_sem]
    have q2 : (w'.cell? ⟨w.heap.size, 2, none⟩).isSome = true := by rw [hc _ _ (by simp; omega)]; simp [go_sem]
    have q3 : (w'.cell? ⟨w.heap.size, 3, none⟩).isSome = true := by rw [hc _ _ (by simp; omega)]; simp [go_sem]
    have q4 : (w'.cell? ⟨w.heap.size, 4, none⟩).isSome = true := by rw [hc _ _ (by simp; omega)]; simp [go_sem]
    refine bodyPost_ret (v := .tuple #[.agg #[.int .i64 0, .int .i64 0, .int .i64 0, .int .i64 0, .int .i64 0], .bool false]) (by simp only [results, Try.results13]; go_simp) rfl ⟨by rw [HA.out], ?_⟩
    repeat (first | exact Below.refl _ _ | (with_reducible refine Below.setCell ?_ (by first | exact Nat.le_refl _ | (simp; done) | (simp; omega) | omega) _) | (with_reducible refine Below.alloc ?_ (by first | exact Nat.le_refl _ | (simp; done) | (simp; omega) | omega) _) | (with_reducible refine Below.drew ?_) | (with_reducible refine belowN ?_ _) | (with_reducible refine Below.trans ?_ (Below.mono (by assumption) (by first | exact Nat.le_refl _ | (simp; done) | (simp; omega) | omega))))

set_option maxHeartbeats 4000000 in
theorem diminish_any (x r b : Int) (w : World) (h0 : 0 ≤ x) (h1 : x < 18446744073709551616) :
    Calls Try.prog 34 #[.int .u64 x, .int .i64 r, .int .i64 b] w fun e w' => e = .returned (.tuple #[.int .u64 (dWord x r b), .int .i64 (dErr x r b)]) ∧ Below w.heap.size w w' := by
  rcases two (cOk x) with h | h
  · go_enter Try.func34, Try.ntmps34
    go_wp2_with (first | (go_at_call 13; (with_reducible refine (of_any _ _ h0 h1).mono ?_); rintro e w' ⟨rfl, hb⟩; obtain ⟨hc, hf⟩ := bcell hb; have hz := hb.size; (try simp at hz); (try (have hz1 := Nat.lt_of_succ_le hz; (try (have hz2 := Nat.lt_of_succ_lt hz1; (try (have hz3 := Nat.lt_of_succ_lt hz2)))))); (try (have y0 : w.heap.size < w'.heap.size := by omega)); (try (have y1 : w.heap.size + 1 < w'.heap.size := by omega)); (try (have y2 : w.heap.size ≤ w'.heap.size := by omega)); (try (have y3 : w.heap.size + 1 ≤ w'.heap.size := by omega))) | (go_at_call 46; (with_reducible refine (within_any _ _ _ _).mono ?_); rintro e w' ⟨rfl, rfl⟩) | (go_at_call 33; (with_reducible refine (word_any _ _ _ _ _ _).mono ?_); rintro e w' ⟨rfl, hb⟩; obtain ⟨hc, hf⟩ := bcell hb; have hz := hb.size; (try simp at hz); (try (have hz1 := Nat.lt_of_succ_le hz; (try (have hz2 := Nat.lt_of_succ_lt hz1; (try (have hz3 := Nat.lt_of_succ_lt hz2)))))); (try (have y0 : w.heap.size < w'.heap.size := by omega)); (try (have y1 : w.heap.size + 1 < w'.heap.size := by omega)); (try (have y2 : w.heap.size ≤ w'.heap.size := by omega)); (try (have y3 : w.heap.size + 1 ≤ w'.heap.size := by omega))))
    go_ret2
    refine ⟨ret_int2 (by simp [dWord, *]) (by simp [dErr, *]), ?_⟩
    repeat (first | exact Below.refl _ _ | (with_reducible refine Below.setCell ?_ (by first | exact Nat.le_refl _ | (simp; done) | (simp; omega) | omega) _) | (with_reducible refine Below.alloc ?_ (by first | exact Nat.le_refl _ | (simp; done) | (simp; omega) | omega) _) | (with_reducible refine Below.drew ?_) | (with_reducible refine belowN ?_ _) | (with_reducible refine Below.trans ?_ (Below.mono (by assumption) (by first | exact Nat.le_refl _ | (simp; done) | (simp; omega) | omega))))
  rcases two (win r 0 15) with hr | hr
  · go_enter Try.func34, Try.ntmps34
    go_wp2_with (first | (go_at_call 13; (with_reducible refine (of_any _ _ h0 h1).mono ?_); rintro e w' ⟨rfl, hb⟩; obtain ⟨hc, hf⟩ := bcell hb; have hz := hb.size; (try simp at hz); (try (have hz1 := Nat.lt_of_succ_le hz; (try (have hz2 := Nat.lt_of_succ_lt hz1; (try (have hz3 := Nat.lt_of_succ_lt hz2)))))); (try (have y0 : w.heap.size < w'.heap.size := by omega)); (try (have y1 : w.heap.size + 1 < w'.heap.size := by omega)); (try (have y2 : w.heap.size ≤ w'.heap.size := by omega)); (try (have y3 : w.heap.size + 1 ≤ w'.heap.size := by omega))) | (go_at_call 46; (with_reducible refine (within_any _ _ _ _).mono ?_); rintro e w' ⟨rfl, rfl⟩) | (go_at_call 33; (with_reducible refine (word_any _ _ _ _ _ _).mono ?_); rintro e w' ⟨rfl, hb⟩; obtain ⟨hc, hf⟩ := bcell hb; have hz := hb.size; (try simp at hz); (try (have hz1 := Nat.lt_of_succ_le hz; (try (have hz2 := Nat.lt_of_succ_lt hz1; (try (have hz3 := Nat.lt_of_succ_lt hz2)))))); (try (have y0 : w.heap.size < w'.heap.size := by omega)); (try (have y1 : w.heap.size + 1 < w'.heap.size := by omega)); (try (have y2 : w.heap.size ≤ w'.heap.size := by omega)); (try (have y3 : w.heap.size + 1 ≤ w'.heap.size := by omega))))
    go_ret2
    refine ⟨ret_int2 (by simp [dWord, *]) (by simp [dErr, *]), ?_⟩
    repeat (first | exact Below.refl _ _ | (with_reducible refine Below.setCell ?_ (by first | exact Nat.le_refl _ | (simp; done) | (simp; omega) | omega) _) | (with_reducible refine Below.alloc ?_ (by first | exact Nat.le_refl _ | (simp; done) | (simp; omega) | omega) _) | (with_reducible refine Below.drew ?_) | (with_reducible refine belowN ?_ _) | (with_reducible refine Below.trans ?_ (Below.mono (by assumption) (by first | exact Nat.le_refl _ | (simp; done) | (simp; omega) | omega))))
  rcases two (win b 0 65535) with hb | hb
  · go_enter Try.func34, Try.ntmps34
    go_wp2_with (first | (go_at_call 13; (with_reducible refine (of_any _ _ h0 h1).mono ?_); rintro e w' ⟨rfl, hb⟩; obtain ⟨hc, hf⟩ := bcell hb; have hz := hb.size; (try simp at hz); (try (have hz1 := Nat.lt_of_succ_le hz; (try (have hz2 := Nat.lt_of_succ_lt hz1; (try (have hz3 := Nat.lt_of_succ_lt hz2)))))); (try (have y0 : w.heap.size < w'.heap.size := by omega)); (try (have y1 : w.heap.size + 1 < w'.heap.size := by omega)); (try (have y2 : w.heap.size ≤ w'.heap.size := by omega)); (try (have y3 : w.heap.size + 1 ≤ w'.heap.size := by omega))) | (go_at_call 46; (with_reducible refine (within_any _ _ _ _).mono ?_); rintro e w' ⟨rfl, rfl⟩) | (go_at_call 33; (with_reducible refine (word_any _ _ _ _ _ _).mono ?_); rintro e w' ⟨rfl, hb⟩; obtain ⟨hc, hf⟩ := bcell hb; have hz := hb.size; (try simp at hz); (try (have hz1 := Nat.lt_of_succ_le hz; (try (have hz2 := Nat.lt_of_succ_lt hz1; (try (have hz3 := Nat.lt_of_succ_lt hz2)))))); (try (have y0 : w.heap.size < w'.heap.size := by omega)); (try (have y1 : w.heap.size + 1 < w'.heap.size := by omega)); (try (have y2 : w.heap.size ≤ w'.heap.size := by omega)); (try (have y3 : w.heap.size + 1 ≤ w'.heap.size := by omega))))
    go_ret2
    refine ⟨ret_int2 (by simp [dWord, *]) (by simp [dErr, *]), ?_⟩
    repeat (first | exact Below.refl _ _ | (with_reducible refine Below.setCell ?_ (by first | exact Nat.le_refl _ | (simp; done) | (simp; omega) | omega) _) | (with_reducible refine Below.alloc ?_ (by first | exact Nat.le_refl _ | (simp; done) | (simp; omega) | omega) _) | (with_reducible refine Below.drew ?_) | (with_reducible refine belowN ?_ _) | (with_reducible refine Below.trans ?_ (Below.mono (by assumption) (by first | exact Nat.le_refl _ | (simp; done) | (simp; omega) | omega))))
  rcases two (gB x == 0) with hg | hg
  · have hg' : ¬ gB x = 0 := by simpa using hg
    go_enter Try.func34, Try.ntmps34
    go_wp2_with (first | (go_at_call 13; (with_reducible refine (of_any _ _ h0 h1).mono ?_); rintro e w' ⟨rfl, hb⟩; obtain ⟨hc, hf⟩ := bcell hb; have hz := hb.size; (try simp at hz); (try (have hz1 := Nat.lt_of_succ_le hz; (try (have hz2 := Nat.lt_of_succ_lt hz1; (try (have hz3 := Nat.lt_of_succ_lt hz2)))))); (try (have y0 : w.heap.size < w'.heap.size := by omega)); (try (have y1 : w.heap.size + 1 < w'.heap.size := by omega)); (try (have y2 : w.heap.size ≤ w'.heap.size := by omega)); (try (have y3 : w.heap.size + 1 ≤ w'.heap.size := by omega))) | (go_at_call 46; (with_reducible refine (within_any _ _ _ _).mono ?_); rintro e w' ⟨rfl, rfl⟩) | (go_at_call 33; (with_reducible refine (word_any _ _ _ _ _ _).mono ?_); rintro e w' ⟨rfl, hb⟩; obtain ⟨hc, hf⟩ := bcell hb; have hz := hb.size; (try simp at hz); (try (have hz1 := Nat.lt_of_succ_le hz; (try (have hz2 := Nat.lt_of_succ_lt hz1; (try (have hz3 := Nat.lt_of_succ_lt hz2)))))); (try (have y0 : w.heap.size < w'.heap.size := by omega)); (try (have y1 : w.heap.size + 1 < w'.heap.size := by omega)); (try (have y2 : w.heap.size ≤ w'.heap.size := by omega)); (try (have y3 : w.heap.size + 1 ≤ w'.heap.size := by omega))))
    go_ret2
    refine ⟨ret_int2 (by simp [dWord, *]) (by simp [dErr, *]), ?_⟩
    repeat (first | exact Below.refl _ _ | (with_reducible refine Below.setCell ?_ (by first | exact Nat.le_refl _ | (simp; done) | (simp; omega) | omega) _) | (with_reducible refine Below.alloc ?_ (by first | exact Nat.le_refl _ | (simp; done) | (simp; omega) | omega) _) | (with_reducible refine Below.drew ?_) | (with_reducible refine belowN ?_ _) | (with_reducible refine Below.trans ?_ (Below.mono (by assumption) (by first | exact Nat.le_refl _ | (simp; done) | (simp; omega) | omega))))
  · have hg' : gB x = 0 := by simpa using hg
    go_enter Try.func34, Try.ntmps34
    go_wp2_with (first | (go_at_call 13; (with_reducible refine (of_any _ _ h0 h1).mono ?_); rintro e w' ⟨rfl, hb⟩; obtain ⟨hc, hf⟩ := bcell hb; have hz := hb.size; (try simp at hz); (try (have hz1 := Nat.lt_of_succ_le hz; (try (have hz2 := Nat.lt_of_succ_lt hz1; (try (have hz3 := Nat.lt_of_succ_lt hz2)))))); (try (have y0 : w.heap.size < w'.heap.size := by omega)); (try (have y1 : w.heap.size + 1 < w'.heap.size := by omega)); (try (have y2 : w.heap.size ≤ w'.heap.size := by omega)); (try (have y3 : w.heap.size + 1 ≤ w'.heap.size := by omega))) | (go_at_call 46; (with_reducible refine (within_any _ _ _ _).mono ?_); rintro e w' ⟨rfl, rfl⟩) | (go_at_call 33; (with_reducible refine (word_any _ _ _ _ _ _).mono ?_); rintro e w' ⟨rfl, hb⟩; obtain ⟨hc, hf⟩ := bcell hb; have hz := hb.size; (try simp at hz); (try (have hz1 := Nat.lt_of_succ_le hz; (try (have hz2 := Nat.lt_of_succ_lt hz1; (try (have hz3 := Nat.lt_of_succ_lt hz2)))))); (try (have y0 : w.heap.size < w'.heap.size := by omega)); (try (have y1 : w.heap.size + 1 < w'.heap.size := by omega)); (try (have y2 : w.heap.size ≤ w'.heap.size := by omega)); (try (have y3 : w.heap.size + 1 ≤ w'.heap.size := by omega))))
    go_ret2
    refine ⟨ret_int2 (by simp [dWord, *]) (by simp [dErr, *]), ?_⟩
    repeat (first | exact Below.refl _ _ | (with_reducible refine Below.setCell ?_ (by first | exact Nat.le_refl _ | (simp; done) | (simp; omega) | omega) _) | (with_reducible refine Below.alloc ?_ (by first | exact Nat.le_refl _ | (simp; done) | (simp; omega) | omega) _) | (with_reducible refine Below.drew ?_) | (with_reducible refine belowN ?_ _) | (with_reducible refine Below.trans ?_ (Below.mono (by assumption) (by first | exact Nat.le_refl _ | (simp; done) | (simp; omega) | omega))))

set_option maxHeartbeats 4000000 in
theorem may2_any (x k r : Int) (w : World) (h0 : 0 ≤ x) (h1 : x < 18446744073709551616) :
    Calls Try.prog 15 #[.int .u64 x, .int .i64 k, .int .i64 r] w fun e w' => e = .returned (.int .i64 (mErr x k r)) ∧ Below w.heap.size w w' := by
  rcases two (cOk x) with h | h
  · go_enter Try.func15, Try.ntmps15
    go_wp2_with (first | (go_at_call 13; (with_reducible refine (of_any _ _ h0 h1).mono ?_); rintro e w' ⟨rfl, hb⟩; obtain ⟨hc, hf⟩ := bcell hb; have hz := hb.size; (try simp at hz); (try (have hz1 := Nat.lt_of_succ_le hz; (try (have hz2 := Nat.lt_of_succ_lt hz1; (try (have hz3 := Nat.lt_of_succ_lt hz2)))))); (try (have y0 : w.heap.size < w'.heap.size := by omega)); (try (have y1 : w.heap.size + 1 < w'.heap.size := by omega)); (try (have y2 : w.heap.size ≤ w'.heap.size := by omega)); (try (have y3 : w.heap.size + 1 ≤ w'.heap.size := by omega))))
    go_ret
    refine ⟨ret_int (by simp [mErr, *]), ?_⟩
    repeat (first | exact Below.refl _ _ | (with_reducible refine Below.setCell ?_ (by first | exact Nat.le_refl _ | (simp; done) | (simp; omega) | omega) _) | (with_reducible refine Below.alloc ?_ (by first | exact Nat.le_refl _ | (simp; done) | (simp; omega) | omega) _) | (with_reducible refine Below.drew ?_) | (with_reducible refine belowN ?_ _) | (with_reducible refine Below.trans ?_ (Below.mono (by assumption) (by first | exact Nat.le_refl _ | (simp; done) | (simp; omega) | omega))))
  rcases two (gK x != k) with hr | hr
  · have hr' : gK x = k := by simpa using hr
    subst hr'
    rcases two (bits .andNot .i64 r (gR x) != 0) with hb | hb
    · have hb' : bits .andNot .i64 r (gR x) = 0 := by simpa using hb
      go_enter Try.func15, Try.ntmps15
      go_wp2_with (first | (go_at_call 13; (with_reducible refine (of_any _ _ h0 h1).mono ?_); rintro e w' ⟨rfl, hb⟩; obtain ⟨hc, hf⟩ := bcell hb; have hz := hb.size; (try simp at hz); (try (have hz1 := Nat.lt_of_succ_le hz; (try (have hz2 := Nat.lt_of_succ_lt hz1; (try (have hz3 := Nat.lt_of_succ_lt hz2)))))); (try (have y0 : w.heap.size < w'.heap.size := by omega)); (try (have y1 : w.heap.size + 1 < w'.heap.size := by omega)); (try (have y2 : w.heap.size ≤ w'.heap.size := by omega)); (try (have y3 : w.heap.size + 1 ≤ w'.heap.size := by omega))))
      go_ret
      refine ⟨ret_int (by simp [mErr, *]), ?_⟩
      repeat (first | exact Below.refl _ _ | (with_reducible refine Below.setCell ?_ (by first | exact Nat.le_refl _ | (simp; done) | (simp; omega) | omega) _) | (with_reducible refine Below.alloc ?_ (by first | exact Nat.le_refl _ | (simp; done) | (simp; omega) | omega) _) | (with_reducible refine Below.drew ?_) | (with_reducible refine belowN ?_ _) | (with_reducible refine Below.trans ?_ (Below.mono (by assumption) (by first | exact Nat.le_refl _ | (simp; done) | (simp; omega) | omega))))
    · have hb' : ¬ bits .andNot .i64 r (gR x) = 0 := by simpa using hb
      go_enter Try.func15, Try.ntmps15
      go_wp2_with (first | (go_at_call 13; (with_reducible refine (of_any _ _ h0 h1).mono ?_); rintro e w' ⟨rfl, hb⟩; obtain ⟨hc, hf⟩ := bcell hb; have hz := hb.size; (try simp at hz); (try (have hz1 := Nat.lt_of_succ_le hz; (try (have hz2 := Nat.lt_of_succ_lt hz1; (try (have hz3 := Nat.lt_of_succ_lt hz2)))))); (try (have y0 : w.heap.size < w'.heap.size := by omega)); (try (have y1 : w.heap.size + 1 < w'.heap.size := by omega)); (try (have y2 : w.heap.size ≤ w'.heap.size := by omega)); (try (have y3 : w.heap.size + 1 ≤ w'.heap.size := by omega))))
      go_ret
      refine ⟨ret_int (by simp [mErr, *]), ?_⟩
      repeat (first | exact Below.refl _ _ | (with_reducible refine Below.setCell ?_ (by first | exact Nat.le_refl _ | (simp; done) | (simp; omega) | omega) _) | (with_reducible refine Below.alloc ?_ (by first | exact Nat.le_refl _ | (simp; done) | (simp; omega) | omega) _) | (with_reducible refine Below.drew ?_) | (with_reducible refine belowN ?_ _) | (with_reducible refine Below.trans ?_ (Below.mono (by assumption) (by first | exact Nat.le_refl _ | (simp; done) | (simp; omega) | omega))))
  · have hr' : ¬ gK x = k := by simpa using hr
    go_enter Try.func15, Try.ntmps15
    go_wp2_with (first | (go_at_call 13; (with_reducible refine (of_any _ _ h0 h1).mono ?_); rintro e w' ⟨rfl, hb⟩; obtain ⟨hc, hf⟩ := bcell hb; have hz := hb.size; (try simp at hz); (try (have hz1 := Nat.lt_of_succ_le hz; (try (have hz2 := Nat.lt_of_succ_lt hz1; (try (have hz3 := Nat.lt_of_succ_lt hz2)))))); (try (have y0 : w.heap.size < w'.heap.size := by omega)); (try (have y1 : w.heap.size + 1 < w'.heap.size := by omega)); (try (have y2 : w.heap.size ≤ w'.heap.size := by omega)); (try (have y3 : w.heap.size + 1 ≤ w'.heap.size := by omega))))
    go_ret
    refine ⟨ret_int (by simp [mErr, *]), ?_⟩
    repeat (first | exact Below.refl _ _ | (with_reducible refine Below.setCell ?_ (by first | exact Nat.le_refl _ | (simp; done) | (simp; omega) | omega) _) | (with_reducible refine Below.alloc ?_ (by first | exact Nat.le_refl _ | (simp; done) | (simp; omega) | omega) _) | (with_reducible refine Below.drew ?_) | (with_reducible refine belowN ?_ _) | (with_reducible refine Below.trans ?_ (Below.mono (by assumption) (by first | exact Nat.le_refl _ | (simp; done) | (simp; omega) | omega))))

set_option maxHeartbeats 4000000 in
theorem within2_any (x y : Int) (w : World) (h0 : 0 ≤ x) (h1 : x < 18446744073709551616) (k0 : 0 ≤ y) (k1 : y < 18446744073709551616) :
    Calls Try.prog 14 #[.int .u64 x, .int .u64 y] w fun e w' => e = .returned (.bool (wIn x y)) ∧ Below w.heap.size w w' := by
  go_enter Try.func14, Try.ntmps14
  go_wp2_with (first | (go_at_call 13; (with_reducible refine (of_any x _ h0 h1).mono ?_); rintro e w' ⟨rfl, hb⟩; obtain ⟨hc, hf⟩ := bcell hb; have hz := hb.size; (try simp at hz); (try (have hz1 := Nat.lt_of_succ_le hz; (try (have hz2 := Nat.lt_of_succ_lt hz1; (try (have hz3 := Nat.lt_of_succ_lt hz2)))))); (try (have y0 : w.heap.size < w'.heap.size := by omega)); (try (have y1 : w.heap.size + 1 < w'.heap.size := by omega)); (try (have y2 : w.heap.size ≤ w'.heap.size := by omega)); (try (have y3 : w.heap.size + 1 ≤ w'.heap.size := by omega))) | (go_at_call 13; (with_reducible refine (of_any y _ k0 k1).mono ?_); rintro e w' ⟨rfl, hb⟩; obtain ⟨hc, hf⟩ := bcell hb; have hz := hb.size; (try simp at hz); (try (have hz1 := Nat.lt_of_succ_le hz; (try (have hz2 := Nat.lt_of_succ_lt hz1; (try (have hz3 := Nat.lt_of_succ_lt hz2)))))); (try (have y0 : w.heap.size < w'.heap.size := by omega)); (try (have y1 : w.heap.size + 1 < w'.heap.size := by omega)); (try (have y2 : w.heap.size ≤ w'.heap.size := by omega)); (try (have y3 : w.heap.size + 1 ≤ w'.heap.size := by omega))))
  all_goals go_ret
  all_goals refine ⟨ret_bool (by first | (simp [wIn, *]; done) | (simp_all [wIn]; done)), ?_⟩
  all_goals (repeat (first | exact Below.refl _ _ | (with_reducible refine Below.setCell ?_ (by first | exact Nat.le_refl _ | (simp; done) | (simp; omega) | omega) _) | (with_reducible refine Below.alloc ?_ (by first | exact Nat.le_refl _ | (simp; done) | (simp; omega) | omega) _) | (with_reducible refine Below.drew ?_) | (with_reducible refine belowN ?_ _) | (with_reducible refine Below.trans ?_ (Below.mono (by assumption) (by first | exact Nat.le_refl _ | (simp; done) | (simp; omega) | omega)))))

end Go.Proofs.Ytnmdhlemenjdiab
