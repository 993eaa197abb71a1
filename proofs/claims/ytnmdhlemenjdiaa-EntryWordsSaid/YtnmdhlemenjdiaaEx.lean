/- The walks of package entry and of its reference, on: End, Open, and the reference's Word, Of, End, Open; the document's examples. -/
import Derived.Test.YtnmdhlemenjdiaaEw
import Derived.Test.YtnmdhlemenjdiaaG7x
namespace Go.Proofs.Ytnmdhlemenjdiaa
open Go.RowKit
set_option linter.unusedSimpArgs false
set_option linter.unusedVariables false

theorem open_any (k v l : Int) (w : World) :
    Calls Try.prog 22 #[.agg #[.int .i64 k, .int .i64 v, .int .i64 l]] w fun e w' => e = .returned (.bool (isOpen k v)) ∧ Below w.heap.size w w' := by
  rcases two (k == 0) with h | h
  · go_enter Try.func22, Try.ntmps22
    go_wp2
    go_ret
    exact ⟨ret_bool (by simp [isOpen, *]), (Below.refl _ _).alloc (Nat.le_refl _) _⟩
  · go_enter Try.func22, Try.ntmps22
    go_wp2
    go_ret
    exact ⟨ret_bool (by simp [isOpen, *]), (Below.refl _ _).alloc (Nat.le_refl _) _⟩
theorem ropen_any (k v l : Int) (w : World) :
    Calls Try.prog 23 #[.agg #[.int .i64 k, .int .i64 v, .int .i64 l]] w fun e w' => e = .returned (.bool (isOpen k v)) ∧ Below w.heap.size w w' := by
  rcases two (k == 0) with h | h
  · go_enter Try.func23, Try.ntmps23
    go_wp2
    go_ret
    exact ⟨ret_bool (by simp [isOpen, *]), (Below.refl _ _).alloc (Nat.le_refl _) _⟩
  · go_enter Try.func23, Try.ntmps23
    go_wp2
    go_ret
    exact ⟨ret_bool (by simp [isOpen, *]), (Below.refl _ _).alloc (Nat.le_refl _) _⟩

theorem end_any (k v l : Int) (w : World) (h0 : 0 ≤ v) (h1 : v ≤ 16777215) :
    Calls Try.prog 20 #[.agg #[.int .i64 k, .int .i64 v, .int .i64 l]] w fun e w' => e = .returned (.tuple #[.agg #[.int .i64 0, .int .i64 (enV k v), .int .i64 0], .int .i64 (enE k)]) ∧ Below w.heap.size w w' := by
  rcases two (k == 0) with h | h
  · have h' : ¬ k = 0 := by simpa using h
    have HE : Kp (enE k = 0) := ⟨by unfold enE; rw [if_neg h']⟩
    by_cases hv : v = 16777215
    · have HV : Kp (enV k v = 16777215) := ⟨by unfold enV nextV; rw [if_neg h', if_pos hv, hv]⟩
      generalize enV k v = X at HV ⊢
      generalize enE k = Y at HE ⊢
      subst hv
      clear h'
      go_enter Try.func20, Try.ntmps20
      go_wp2
      refine bodyPost_ret (v := .tuple #[.agg #[.int .i64 0, .int .i64 X, .int .i64 0], .int .i64 Y]) (by simp only [results, Try.results20, Try.results21, HV.out, HE.out]; go_simp) rfl ⟨rfl, ?_⟩
      repeat (first | exact Below.refl _ _ | (with_reducible refine Below.setCell ?_ (by first | exact Nat.le_refl _ | (simp; done) | (simp; omega) | omega) _) | (with_reducible refine Below.alloc ?_ (by first | exact Nat.le_refl _ | (simp; done) | (simp; omega) | omega) _) | (with_reducible refine Below.drew ?_) | (with_reducible refine belowN ?_ _) | (with_reducible refine Below.trans ?_ (Below.mono (by assumption) (by first | exact Nat.le_refl _ | (simp; done) | (simp; omega) | omega))))
    · have HV : Kp (enV k v = v + 1) := ⟨by unfold enV nextV; rw [if_neg h', if_neg hv]⟩
      have hm : (if (1 : Int) ≤ 16777215 - v then (1 : Int) else 16777215 - v) = 1 := if_pos (by omega)
      have h2 : v + 1 ≤ 16777215 := by omega
      generalize enV k v = X at HV ⊢
      generalize enE k = Y at HE ⊢
      clear h' hv
      go_enter Try.func20, Try.ntmps20
      go_wp2
      refine bodyPost_ret (v := .tuple #[.agg #[.int .i64 0, .int .i64 X, .int .i64 0], .int .i64 Y]) (by simp only [results, Try.results20, Try.results21, HV.out, HE.out]; go_simp) rfl ⟨rfl, ?_⟩
      repeat (first | exact Below.refl _ _ | (with_reducible refine Below.setCell ?_ (by first | exact Nat.le_refl _ | (simp; done) | (simp; omega) | omega) _) | (with_reducible refine Below.alloc ?_ (by first | exact Nat.le_refl _ | (simp; done) | (simp; omega) | omega) _) | (with_reducible refine Below.drew ?_) | (with_reducible refine belowN ?_ _) | (with_reducible refine Below.trans ?_ (Below.mono (by assumption) (by first | exact Nat.le_refl _ | (simp; done) | (simp; omega) | omega))))
  · have h' : k = 0 := by simpa using h
    have HV : Kp (enV k v = 0) := ⟨by unfold enV; rw [if_pos h']⟩
    have HE : Kp (enE k = 30) := ⟨by unfold enE; rw [if_pos h']⟩
    generalize enV k v = X at HV ⊢
    generalize enE k = Y at HE ⊢
    subst h'
    go_enter Try.func20, Try.ntmps20
    go_wp2
    refine bodyPost_ret (v := .tuple #[.agg #[.int .i64 0, .int .i64 X, .int .i64 0], .int .i64 Y]) (by simp only [results, Try.results20, Try.results21, HV.out, HE.out]; go_simp) rfl ⟨rfl, ?_⟩
    repeat (first | exact Below.refl _ _ | (with_reducible refine Below.setCell ?_ (by first | exact Nat.le_refl _ | (simp; done) | (simp; omega) | omega) _) | (with_reducible refine Below.alloc ?_ (by first | exact Nat.le_refl _ | (simp; done) | (simp; omega) | omega) _) | (with_reducible refine Below.drew ?_) | (with_reducible refine belowN ?_ _) | (with_reducible refine Below.trans ?_ (Below.mono (by assumption) (by first | exact Nat.le_refl _ | (simp; done) | (simp; omega) | omega))))

theorem rend_any (k v l : Int) (w : World) (h0 : 0 ≤ v) (h1 : v ≤ 16777215) :
    Calls Try.prog 21 #[.agg #[.int .i64 k, .int .i64 v, .int .i64 l]] w fun e w' => e = .returned (.tuple #[.agg #[.int .i64 0, .int .i64 (enV k v), .int .i64 0], .int .i64 (enE k)]) ∧ Below w.heap.size w w' := by
  rcases two (k == 0) with h | h
  · have h' : ¬ k = 0 := by simpa using h
    have HE : Kp (enE k = 0) := ⟨by unfold enE; rw [if_neg h']⟩
    by_cases hv : v = 16777215
    · have HV : Kp (enV k v = 16777215) := ⟨by unfold enV nextV; rw [if_neg h', if_pos hv, hv]⟩
      generalize enV k v = X at HV ⊢
      generalize enE k = Y at HE ⊢
      subst hv
      clear h'
      go_enter Try.func21, Try.ntmps21
      go_wp2
      refine bodyPost_ret (v := .tuple #[.agg #[.int .i64 0, .int .i64 X, .int .i64 0], .int .i64 Y]) (by simp only [results, Try.results20, Try.results21, HV.out, HE.out]; go_simp) rfl ⟨rfl, ?_⟩
      repeat (first | exact Below.refl _ _ | (with_reducible refine Below.setCell ?_ (by first | exact Nat.le_refl _ | (simp; done) | (simp; omega) | omega) _) | (with_reducible refine Below.alloc ?_ (by first | exact Nat.le_refl _ | (simp; done) | (simp; omega) | omega) _) | (with_reducible refine Below.drew ?_) | (with_reducible refine belowN ?_ _) | (with_reducible refine Below.trans ?_ (Below.mono (by assumption) (by first | exact Nat.le_refl _ | (simp; done) | (simp; omega) | omega))))
    · have HV : Kp (enV k v = v + 1) := ⟨by unfold enV nextV; rw [if_neg h', if_neg hv]⟩
      have hn : (v != 16777215) = true := by simpa using hv
      generalize enV k v = X at HV ⊢
      generalize enE k = Y at HE ⊢
      clear h' hv
      go_enter Try.func21, Try.ntmps21
      go_wp2
      refine bodyPost_ret (v := .tuple #[.agg #[.int .i64 0, .int .i64 X, .int .i64 0], .int .i64 Y]) (by simp only [results, Try.results20, Try.results21, HV.out, HE.out]; go_simp) rfl ⟨rfl, ?_⟩
      repeat (first | exact Below.refl _ _ | (with_reducible refine Below.setCell ?_ (by first | exact Nat.le_refl _ | (simp; done) | (simp; omega) | omega) _) | (with_reducible refine Below.alloc ?_ (by first | exact Nat.le_refl _ | (simp; done) | (simp; omega) | omega) _) | (with_reducible refine Below.drew ?_) | (with_reducible refine belowN ?_ _) | (with_reducible refine Below.trans ?_ (Below.mono (by assumption) (by first | exact Nat.le_refl _ | (simp; done) | (simp; omega) | omega))))
  · have h' : k = 0 := by simpa using h
    have HV : Kp (enV k v = 0) := ⟨by unfold enV; rw [if_pos h']⟩
    have HE : Kp (enE k = 30) := ⟨by unfold enE; rw [if_pos h']⟩
    generalize enV k v = X at HV ⊢
    generalize enE k = Y at HE ⊢
    subst h'
    go_enter Try.func21, Try.ntmps21
    go_wp2
    refine bodyPost_ret (v := .tuple #[.agg #[.int .i64 0, .int .i64 X, .int .i64 0], .int .i64 Y]) (by simp only [results, Try.results20, Try.results21, HV.out, HE.out]; go_simp) rfl ⟨rfl, ?_⟩
    repeat (first | exact Below.refl _ _ | (with_reducible refine Below.setCell ?_ (by first | exact Nat.le_refl _ | (simp; done) | (simp; omega) | omega) _) | (with_reducible refine Below.alloc ?_ (by first | exact Nat.le_refl _ | (simp; done) | (simp; omega) | omega) _) | (with_reducible refine Below.drew ?_) | (with_reducible refine belowN ?_ _) | (with_reducible refine Below.trans ?_ (Below.mono (by assumption) (by first | exact Nat.le_refl _ | (simp; done) | (simp; omega) | omega))))

theorem ent_fail {k v l : Int} (h : entMay k v l = false) : (k < 0 ∨ (¬ k < 0 ∧ (k > 4 ∨ (¬ k > 4 ∧ (v < 0 ∨ (¬ v < 0 ∧ (v > 16777215 ∨ (¬ v > 16777215 ∧ (l < 0 ∨ (¬ l < 0 ∧ (l ≥ 1024 ∨ (¬ l ≥ 1024 ∧ (k = 0 ∧ ¬ l = 0))))))))))))) := by
  by_cases c : (k < 0 ∨ (¬ k < 0 ∧ (k > 4 ∨ (¬ k > 4 ∧ (v < 0 ∨ (¬ v < 0 ∧ (v > 16777215 ∨ (¬ v > 16777215 ∧ (l < 0 ∨ (¬ l < 0 ∧ (l ≥ 1024 ∨ (¬ l ≥ 1024 ∧ (k = 0 ∧ ¬ l = 0)))))))))))))
  · exact c
  · rw [entMay_mk (by omega) (by omega) (by omega) (by omega)] at h
    exact absurd h (by decide)
set_option maxHeartbeats 4000000 in
theorem reword_any (k v l : Int) (w : World) :
    Calls Try.prog 17 #[.agg #[.int .i64 k, .int .i64 v, .int .i64 l]] w fun e w' => e = .returned (.tuple #[.int .u64 (eWord k v l), .int .i64 (eErr k v l)]) ∧ Below w.heap.size w w' := by
  rcases two (entMay k v l) with h | h
  · obtain ⟨e1, e2⟩ := eWord_no h
    have HS := Kp.mk e1
    have HE := Kp.mk e2
    have hf := ent_fail h
    clear e1 e2 h
    rcases hf with ht | ⟨hn, hf⟩
    · have t0 : decide (k < 0) = true := decide_eq_true ht
      clear ht
      go_enter Try.func17, Try.ntmps17
      go_wp2
      go_ret2
      exact ⟨ret_int2 HS.out.symm HE.out.symm, (Below.refl _ _).alloc (Nat.le_refl _) _⟩
    have t0 : decide (k < 0) = false := decide_eq_false hn
    clear hn
    rcases hf with ht | ⟨hn, hf⟩
    · have t1 : decide (k > 4) = true := decide_eq_true ht
      clear ht
      go_enter Try.func17, Try.ntmps17
      go_wp2
      go_ret2
      exact ⟨ret_int2 HS.out.symm HE.out.symm, (Below.refl _ _).alloc (Nat.le_refl _) _⟩
    have t1 : decide (k > 4) = false := decide_eq_false hn
    clear hn
    rcases hf with ht | ⟨hn, hf⟩
    · have t2 : decide (v < 0) = true := decide_eq_true ht
      clear ht
      go_enter Try.func17, Try.ntmps17
      go_wp2
      go_ret2
      exact ⟨ret_int2 HS.out.symm HE.out.symm, (Below.refl _ _).alloc (Nat.le_refl _) _⟩
    have t2 : decide (v < 0) = false := decide_eq_false hn
    clear hn
    rcases hf with ht | ⟨hn, hf⟩
    · have t3 : decide (v > 16777215) = true := decide_eq_true ht
      clear ht
      go_enter Try.func17, Try.ntmps17
      go_wp2
      go_ret2
      exact ⟨ret_int2 HS.out.symm HE.out.symm, (Below.refl _ _).alloc (Nat.le_refl _) _⟩
    have t3 : decide (v > 16777215) = false := decide_eq_false hn
    clear hn
    rcases hf with ht | ⟨hn, hf⟩
    · have t4 : decide (l < 0) = true := decide_eq_true ht
      clear ht
      go_enter Try.func17, Try.ntmps17
      go_wp2
      go_ret2
      exact ⟨ret_int2 HS.out.symm HE.out.symm, (Below.refl _ _).alloc (Nat.le_refl _) _⟩
    have t4 : decide (l < 0) = false := decide_eq_false hn
    clear hn
    rcases hf with ht | ⟨hn, hf⟩
    · have t5 : decide (l ≥ 1024) = true := decide_eq_true ht
      clear ht
      go_enter Try.func17, Try.ntmps17
      go_wp2
      go_ret2
      exact ⟨ret_int2 HS.out.symm HE.out.symm, (Below.refl _ _).alloc (Nat.le_refl _) _⟩
    have t5 : decide (l ≥ 1024) = false := decide_eq_false hn
    clear hn
    obtain ⟨rfl, hl⟩ := hf
    have hl' : (l != 0) = true := by simpa using hl
    clear hl
    go_enter Try.func17, Try.ntmps17
    go_wp2
    go_ret2
    exact ⟨ret_int2 HS.out.symm HE.out.symm, (Below.refl _ _).alloc (Nat.le_refl _) _⟩
  · obtain ⟨e1, e2⟩ := eWord_yes h
    have HS := Kp.mk e1
    have HE := Kp.mk e2
    obtain ⟨⟨a1, a2⟩, ⟨b1, b2⟩, ⟨c1, c2⟩, d⟩ := entMay_t h
    have t0 : decide (k < 0) = false := decide_eq_false (by omega)
    have t1 : decide (k > 4) = false := decide_eq_false (by omega)
    have t2 : decide (v < 0) = false := decide_eq_false (by omega)
    have t3 : decide (v > 16777215) = false := decide_eq_false (by omega)
    have t4 : decide (l < 0) = false := decide_eq_false (by omega)
    have t5 : decide (l ≥ 1024) = false := decide_eq_false (by omega)
    clear e1 e2 h
    rcases two (k == 0) with hz | hz
    · clear d
      go_enter Try.func17, Try.ntmps17
      go_wp2_with (first | (go_at_call 36; (with_reducible refine (with_lit _ 0 4 _ 1 16 _ rfl rfl (by omega) (by omega) (by omega) (by omega) (by omega) (by omega) (by omega)).mono ?_); rintro e w' ⟨rfl, rfl⟩) | (go_at_call 36; (with_reducible refine (with_lit _ 4 24 _ 16 16777216 _ rfl rfl (by omega) (by omega) (by omega) (by omega) (by omega) (by omega) (by omega)).mono ?_); rintro e w' ⟨rfl, rfl⟩) | (go_at_call 36; (with_reducible refine (with_lit _ 28 16 _ 268435456 65536 _ rfl rfl (by omega) (by omega) (by omega) (by omega) (by omega) (by omega) (by omega)).mono ?_); rintro e w' ⟨rfl, rfl⟩))
      go_ret2
      exact ⟨ret_int2 (by rw [HS.out]; unfold entSum; omega) HE.out.symm, (Below.refl _ _).alloc (Nat.le_refl _) _⟩
    · have hz' : k = 0 := by simpa using hz
      subst hz'
      have hl0 := d rfl
      subst hl0
      clear hz d
      go_enter Try.func17, Try.ntmps17
      go_wp2_with (first | (go_at_call 36; (with_reducible refine (with_lit _ 0 4 _ 1 16 _ rfl rfl (by omega) (by omega) (by omega) (by omega) (by omega) (by omega) (by omega)).mono ?_); rintro e w' ⟨rfl, rfl⟩) | (go_at_call 36; (with_reducible refine (with_lit _ 4 24 _ 16 16777216 _ rfl rfl (by omega) (by omega) (by omega) (by omega) (by omega) (by omega) (by omega)).mono ?_); rintro e w' ⟨rfl, rfl⟩) | (go_at_call 36; (with_reducible refine (with_lit _ 28 16 _ 268435456 65536 _ rfl rfl (by omega) (by omega) (by omega) (by omega) (by omega) (by omega) (by omega)).mono ?_); rintro e w' ⟨rfl, rfl⟩))
      go_ret2
      exact ⟨ret_int2 (by rw [HS.out]; unfold entSum; omega) HE.out.symm, (Below.refl _ _).alloc (Nat.le_refl _) _⟩

theorem rfield_q (x : Int) (w : World) (h0 : 0 ≤ x) (h1 : x < 18446744073709551616) :
    Calls Try.prog 39 #[.int .u64 x, .int .i64 0, .int .i64 4] w fun e w' => e = .returned (.int .u64 (qK x)) ∧ w = w' :=
  (field_lit x 0 4 1 16 w rfl rfl h0 h1 (by decide) (by decide) (by decide)).mono fun e w' ⟨h, k⟩ => ⟨h.trans (ret_int (by unfold qK; omega)), k⟩
theorem rfield_v (x : Int) (w : World) (h0 : 0 ≤ x) (h1 : x < 18446744073709551616) :
    Calls Try.prog 39 #[.int .u64 x, .int .i64 4, .int .i64 24] w fun e w' => e = .returned (.int .u64 (qV x)) ∧ w = w' :=
  field_lit x 4 24 16 16777216 w rfl rfl h0 h1 (by decide) (by decide) (by decide)
theorem rfield_l (x : Int) (w : World) (h0 : 0 ≤ x) (h1 : x < 18446744073709551616) :
    Calls Try.prog 39 #[.int .u64 x, .int .i64 28, .int .i64 16] w fun e w' => e = .returned (.int .u64 (qL x)) ∧ w = w' :=
  field_lit x 28 16 268435456 65536 w rfl rfl h0 h1 (by decide) (by decide) (by decide)

set_option maxHeartbeats 4000000 in
theorem reof_any (x : Int) (w : World) (h0 : 0 ≤ x) (h1 : x < 18446744073709551616) :
    Calls Try.prog 19 #[.int .u64 x] w fun e w' => e = .returned (.tuple #[.agg #[.int .i64 (hK x), .int .i64 (hV x), .int .i64 (hL x)], .bool (eOk x)]) ∧ Below w.heap.size w w' := by
  obtain ⟨⟨a1, a2⟩, ⟨b1, b2⟩, ⟨c1, c2⟩⟩ := qbounds x h0
  rcases two (eOk x) with h | h
  · have HA := Kp.mk (hAgg_no x h)
    rcases two (entMay (qK x) (qV x) (qL x)) with m | m
    · obtain ⟨e1, e2⟩ := eWord_no m
      clear h m
      go_enter Try.func19, Try.ntmps19
      go_wp2_with (first | (go_at_call 39; (with_reducible refine (rfield_q _ _ h0 h1).mono ?_); rintro e w' ⟨rfl, rfl⟩) | (go_at_call 39; (with_reducible refine (rfield_v _ _ h0 h1).mono ?_); rintro e w' ⟨rfl, rfl⟩) | (go_at_call 39; (with_reducible refine (rfield_l _ _ h0 h1).mono ?_); rintro e w' ⟨rfl, rfl⟩) | (go_at_call 17; (with_reducible refine (reword_any _ _ _ _).mono ?_); rintro e w' ⟨rfl, hb⟩; obtain ⟨hc, hf⟩ := bcell hb; have hz := hb.size; (try simp at hz); (try (have hz1 := Nat.lt_of_succ_le hz; (try (have hz2 := Nat.lt_of_succ_lt hz1; (try (have hz3 := Nat.lt_of_succ_lt hz2)))))); (try (have y0 : w.heap.size < w'.heap.size := by omega)); (try (have y1 : w.heap.size + 1 < w'.heap.size := by omega)); (try (have y2 : w.heap.size ≤ w'.heap.size := by omega)); (try (have y3 : w.heap.size + 1 ≤ w'.heap.size := by omega))))
      have q0 : (w'.cell? ⟨w.heap.size, 0, none⟩).isSome = true := by rw [hc _ _ (by simp; omega)]; simp [go_sem]
      have q1 : (w'.cell? ⟨w.heap.size, 1, none⟩).isSome = true := by rw [hc _ _ (by simp; omega)]; simp [go_sem]
      have q2 : (w'.cell? ⟨w.heap.size, 2, none⟩).isSome = true := by rw [hc _ _ (by simp; omega)]; simp [go_sem]
      refine bodyPost_ret (v := .tuple #[.agg #[.int .i64 0, .int .i64 0, .int .i64 0], .bool false]) (by simp only [results, Try.results19]; go_simp) rfl ⟨by rw [HA.out], ?_⟩
      repeat (first | exact Below.refl _ _ | (with_reducible refine Below.setCell ?_ (by first | exact Nat.le_refl _ | (simp; done) | (simp; omega) | omega) _) | (with_reducible refine Below.alloc ?_ (by first | exact Nat.le_refl _ | (simp; done) | (simp; omega) | omega) _) | (with_reducible refine Below.drew ?_) | (with_reducible refine belowN ?_ _) | (with_reducible refine Below.trans ?_ (Below.mono (by assumption) (by first | exact Nat.le_refl _ | (simp; done) | (simp; omega) | omega))))
    · obtain ⟨e1, e2⟩ := eWord_yes m
      have hne : ¬ entSum (qK x) (qV x) (qL x) = x := by unfold eOk at h; rw [m] at h; simpa using h
      have hne' : (entSum (qK x) (qV x) (qL x) != x) = true := by simpa using hne
      clear h m
      go_enter Try.func19, Try.ntmps19
      go_wp2_with (first | (go_at_call 39; (with_reducible refine (rfield_q _ _ h0 h1).mono ?_); rintro e w' ⟨rfl, rfl⟩) | (go_at_call 39; (with_reducible refine (rfield_v _ _ h0 h1).mono ?_); rintro e w' ⟨rfl, rfl⟩) | (go_at_call 39; (with_reducible refine (rfield_l _ _ h0 h1).mono ?_); rintro e w' ⟨rfl, rfl⟩) | (go_at_call 17; (with_reducible refine (reword_any _ _ _ _).mono ?_); rintro e w' ⟨rfl, hb⟩; obtain ⟨hc, hf⟩ := bcell hb; have hz := hb.size; (try simp at hz); (try (have hz1 := Nat.lt_of_succ_le hz; (try (have hz2 := Nat.lt_of_succ_lt hz1; (try (have hz3 := Nat.lt_of_succ_lt hz2)))))); (try (have y0 : w.heap.size < w'.heap.size := by omega)); (try (have y1 : w.heap.size + 1 < w'.heap.size := by omega)); (try (have y2 : w.heap.size ≤ w'.heap.size := by omega)); (try (have y3 : w.heap.size + 1 ≤ w'.heap.size := by omega))))
      have q0 : (w'.cell? ⟨w.heap.size, 0, none⟩).isSome = true := by rw [hc _ _ (by simp; omega)]; simp [go_sem]
      have q1 : (w'.cell? ⟨w.heap.size, 1, none⟩).isSome = true := by rw [hc _ _ (by simp; omega)]; simp [go_sem]
      have q2 : (w'.cell? ⟨w.heap.size, 2, none⟩).isSome = true := by rw [hc _ _ (by simp; omega)]; simp [go_sem]
      refine bodyPost_ret (v := .tuple #[.agg #[.int .i64 0, .int .i64 0, .int .i64 0], .bool false]) (by simp only [results, Try.results19]; go_simp) rfl ⟨by rw [HA.out], ?_⟩
      repeat (first | exact Below.refl _ _ | (with_reducible refine Below.setCell ?_ (by first | exact Nat.le_refl _ | (simp; done) | (simp; omega) | omega) _) | (with_reducible refine Below.alloc ?_ (by first | exact Nat.le_refl _ | (simp; done) | (simp; omega) | omega) _) | (with_reducible refine Below.drew ?_) | (with_reducible refine belowN ?_ _) | (with_reducible refine Below.trans ?_ (Below.mono (by assumption) (by first | exact Nat.le_refl _ | (simp; done) | (simp; omega) | omega))))
  · have HA := Kp.mk (hAgg_yes x h)
    obtain ⟨m, hs⟩ := eOk_t h
    obtain ⟨e1, e2⟩ := eWord_yes m
    rw [hs] at e1
    clear h m hs
    go_enter Try.func19, Try.ntmps19
    go_wp2_with (first | (go_at_call 39; (with_reducible refine (rfield_q _ _ h0 h1).mono ?_); rintro e w' ⟨rfl, rfl⟩) | (go_at_call 39; (with_reducible refine (rfield_v _ _ h0 h1).mono ?_); rintro e w' ⟨rfl, rfl⟩) | (go_at_call 39; (with_reducible refine (rfield_l _ _ h0 h1).mono ?_); rintro e w' ⟨rfl, rfl⟩) | (go_at_call 17; (with_reducible refine (reword_any _ _ _ _).mono ?_); rintro e w' ⟨rfl, hb⟩; obtain ⟨hc, hf⟩ := bcell hb; have hz := hb.size; (try simp at hz); (try (have hz1 := Nat.lt_of_succ_le hz; (try (have hz2 := Nat.lt_of_succ_lt hz1; (try (have hz3 := Nat.lt_of_succ_lt hz2)))))); (try (have y0 : w.heap.size < w'.heap.size := by omega)); (try (have y1 : w.heap.size + 1 < w'.heap.size := by omega)); (try (have y2 : w.heap.size ≤ w'.heap.size := by omega)); (try (have y3 : w.heap.size + 1 ≤ w'.heap.size := by omega))))
    have q0 : (w'.cell? ⟨w.heap.size, 0, none⟩).isSome = true := by rw [hc _ _ (by simp; omega)]; simp [go_sem]
    have q1 : (w'.cell? ⟨w.heap.size, 1, none⟩).isSome = true := by rw [hc _ _ (by simp; omega)]; simp [go_sem]
    have q2 : (w'.cell? ⟨w.heap.size, 2, none⟩).isSome = true := by rw [hc _ _ (by simp; omega)]; simp [go_sem]
    refine bodyPost_ret (v := .tuple #[.agg #[.int .i64 (qK x), .int .i64 (qV x), .int .i64 (qL x)], .bool true]) (by simp only [results, Try.results19]; go_simp) rfl ⟨by rw [HA.out], ?_⟩
    repeat (first | exact Below.refl _ _ | (with_reducible refine Below.setCell ?_ (by first | exact Nat.le_refl _ | (simp; done) | (simp; omega) | omega) _) | (with_reducible refine Below.alloc ?_ (by first | exact Nat.le_refl _ | (simp; done) | (simp; omega) | omega) _) | (with_reducible refine Below.drew ?_) | (with_reducible refine belowN ?_ _) | (with_reducible refine Below.trans ?_ (Below.mono (by assumption) (by first | exact Nat.le_refl _ | (simp; done) | (simp; omega) | omega))))

end Go.Proofs.Ytnmdhlemenjdiaa
