/- The walks of package entry, of package word's Field, and of the reference of entries. -/
import Derived.Test.YtnmdhlemenjdiabKit
import Derived.Test.YtnmdhlemenjdiabPe
import Derived.Test.YtnmdhlemenjdiabRw
import Derived.Test.YtnmdhlemenjdiabProg
namespace Go.Proofs.Ytnmdhlemenjdiab
open Go.RowKit
set_option linter.unusedSimpArgs false
set_option linter.unusedVariables false

set_option maxHeartbeats 400000 in
theorem ewithin_any (n a b : Int) (w : World) :
    Calls Try.prog 38 #[.int .i64 n, .int .i64 a, .int .i64 b] w fun e w' => e = .returned (.bool (win n a b)) ∧ w = w' := by
  by_cases h : a ≤ n
  · have h' : decide (n ≥ a) = true := by simpa using h
    go_enter Try.func38, Try.ntmps38
    go_wp2
    go_ret
    exact ⟨ret_bool (by simp [win, h]), rfl⟩
  · have h' : decide (n ≥ a) = false := by simpa using h
    go_enter Try.func38, Try.ntmps38
    go_wp2
    go_ret
    exact ⟨ret_bool (by simp [win]; omega), rfl⟩

set_option maxHeartbeats 1000000 in
theorem eword_any (k v l : Int) (w : World) :
    Calls Try.prog 19 #[.agg #[.int .i64 k, .int .i64 v, .int .i64 l]] w fun e w' => e = .returned (.tuple #[.int .u64 (eWord k v l), .int .i64 (eErr k v l)]) ∧ Below w.heap.size w w' := by
  rcases two (entMay k v l) with h | h
  · obtain ⟨e1, e2⟩ := eWord_no h
    have HS := Kp.mk e1
    have HE := Kp.mk e2
    have HO := Kp.mk (show True from trivial)
    clear e1 e2
    rcases two (win k 0 4) with hk | hk
    · clear h
      go_enter Try.func19, Try.ntmps19
      go_wp2_with (first | (go_at_call 38; (with_reducible refine (ewithin_any _ _ _ _).mono ?_); rintro e w' ⟨rfl, rfl⟩))
      go_ret2
      exact ⟨ret_int2 (by first | exact HO.out.trans HS.out.symm | exact HS.out.symm) HE.out.symm, (Below.refl _ _).alloc (Nat.le_refl _) _⟩
    rcases two (win v 0 16777215) with hv | hv
    · clear h
      go_enter Try.func19, Try.ntmps19
      go_wp2_with (first | (go_at_call 38; (with_reducible refine (ewithin_any _ _ _ _).mono ?_); rintro e w' ⟨rfl, rfl⟩))
      go_ret2
      exact ⟨ret_int2 (by first | exact HO.out.trans HS.out.symm | exact HS.out.symm) HE.out.symm, (Below.refl _ _).alloc (Nat.le_refl _) _⟩
    rcases two (win l 0 1023) with hl | hl
    · clear h
      go_enter Try.func19, Try.ntmps19
      go_wp2_with (first | (go_at_call 38; (with_reducible refine (ewithin_any _ _ _ _).mono ?_); rintro e w' ⟨rfl, rfl⟩))
      go_ret2
      exact ⟨ret_int2 (by first | exact HO.out.trans HS.out.symm | exact HS.out.symm) HE.out.symm, (Below.refl _ _).alloc (Nat.le_refl _) _⟩
    have hq : (k == 0 && l != 0) = true := by unfold entMay at h; rw [hk, hv, hl] at h; simpa using h
    have hq' : k = 0 ∧ l ≠ 0 := by simpa using hq
    obtain ⟨rfl, hl0⟩ := hq'
    have hl1 : (l != 0) = true := by simpa using hl0
    clear h hq hl0
    go_enter Try.func19, Try.ntmps19
    go_wp2_with (first | (go_at_call 38; (with_reducible refine (ewithin_any _ _ _ _).mono ?_); rintro e w' ⟨rfl, rfl⟩))
    go_ret2
    exact ⟨ret_int2 (by first | exact HO.out.trans HS.out.symm | exact HS.out.symm) HE.out.symm, (Below.refl _ _).alloc (Nat.le_refl _) _⟩
  · obtain ⟨e1, e2⟩ := eWord_yes h
    have HS := Kp.mk e1
    have HE := Kp.mk e2
    have HO := Kp.mk (entSum_or h)
    obtain ⟨⟨a1, a2⟩, ⟨b1, b2⟩, ⟨c1, c2⟩, d⟩ := entMay_t h
    have hk := win_mk a1 a2
    have hv := win_mk b1 b2
    have hl := win_mk c1 c2
    clear e1 e2 h
    rcases two (k == 0) with hz | hz
    · clear d
      go_enter Try.func19, Try.ntmps19
      go_wp2_with (first | (go_at_call 38; (with_reducible refine (ewithin_any _ _ _ _).mono ?_); rintro e w' ⟨rfl, rfl⟩))
      go_ret2
      exact ⟨ret_int2 (by first | exact HO.out.trans HS.out.symm | exact HS.out.symm) HE.out.symm, (Below.refl _ _).alloc (Nat.le_refl _) _⟩
    · have hz' : k = 0 := by simpa using hz
      subst hz'
      have hl0 := d rfl
      subst hl0
      clear hz d
      go_enter Try.func19, Try.ntmps19
      go_wp2_with (first | (go_at_call 38; (with_reducible refine (ewithin_any _ _ _ _).mono ?_); rintro e w' ⟨rfl, rfl⟩))
      go_ret2
      exact ⟨ret_int2 (by first | exact HO.out.trans HS.out.symm | exact HS.out.symm) HE.out.symm, (Below.refl _ _).alloc (Nat.le_refl _) _⟩

set_option maxHeartbeats 1000000 in
theorem wfieldok_any (a n : Int) (w : World) (h0 : 0 ≤ a) (h1 : 1 ≤ n) (h2 : a + n ≤ 64) :
    Calls Try.prog 49 #[.int .i64 a, .int .i64 n] w fun e w' => e = .returned (.bool true) ∧ w = w' := by
  have k1 : a < 64 := by omega
  have k2 : n ≤ 64 - a := by omega
  go_enter Try.func49, Try.ntmps49
  go_wp2
  go_ret
  exact ⟨rfl, rfl⟩

theorem wmask_any (n : Int) (w : World) (h1 : 1 ≤ n) (h2 : n ≤ 64) :
    Calls Try.prog 50 #[.int .i64 n] w fun e w' => e = .returned (.int .u64 (2 ^ n.toNat - 1)) ∧ w = w' := by
  obtain ⟨N, rfl⟩ := Int.eq_ofNat_of_zero_le (show 0 ≤ n by omega)
  have e := mask_lit N (by omega) (by omega)
  have H := Kp.mk e
  clear e
  go_enter Try.func50, Try.ntmps50
  go_wp2
  go_ret
  exact ⟨ret_int (by rw [H.out]; simp), rfl⟩

theorem pow_bounds (n : Int) (h1 : 1 ≤ n) (h2 : n ≤ 64) : 0 ≤ (2 : Int) ^ n.toNat - 1 ∧ (2 : Int) ^ n.toNat - 1 < 18446744073709551616 := by
  have a := two_le64 (show n.toNat ≤ 64 by omega)
  have b : 0 < 2 ^ n.toNat := Nat.two_pow_pos _
  rw [← pow_cast]; omega
theorem div_bounds (x : Int) (a : Nat) (h0 : 0 ≤ x) (h1 : x < 18446744073709551616) : 0 ≤ x / 2 ^ a ∧ x / 2 ^ a < 18446744073709551616 := by
  have a1 := Int.ediv_nonneg h0 (show (0 : Int) ≤ 2 ^ a from Int.le_of_lt (Int.pow_pos (by decide)))
  have a2 := Int.ediv_le_self (2 ^ a) h0
  omega
set_option maxHeartbeats 1000000 in
theorem wfield_any (x a n : Int) (w : World) (h0 : 0 ≤ x) (h1 : x < 18446744073709551616) (h2 : 0 ≤ a) (h3 : 1 ≤ n) (h4 : a + n ≤ 64) :
    Calls Try.prog 44 #[.int .u64 x, .int .i64 a, .int .i64 n] w fun e w' => e = .returned (.int .u64 (fld x a n)) ∧ ∃ k, w' = w.drewN k := by
  obtain ⟨d0, d1⟩ := div_bounds x a.toNat h0 h1
  have hm := u64_mask n.toNat (by omega) (x / 2 ^ a.toNat) d0 d1
  have hm' : bits .and .u64 (x / 2 ^ a.toNat) (2 ^ n.toNat - 1) = fld x a n := hm
  have hmin : min a.toNat 64 = a.toNat := by omega
  clear hm d0 d1
  go_enter Try.func44, Try.ntmps44
  go_wp2_with (first | (go_at_call 49; (with_reducible refine (wfieldok_any _ _ _ (by omega) (by omega) (by omega)).mono ?_); rintro e w' ⟨rfl, rfl⟩))
  go_quiet ((go_at_call 50; exact Calls.quiet_of_same ((wmask_any _ _ (by omega) (by omega)).mono fun e w' ⟨h, k⟩ => ⟨h, k.symm⟩)))
  go_wp2
  go_ret
  exact ⟨rfl, nq, rfl⟩

theorem wfield_lit (x a n p q : Int) (w : World) (hp : 2 ^ a.toNat = p) (hq : 2 ^ n.toNat = q) (h0 : 0 ≤ x) (h1 : x < 18446744073709551616) (h2 : 0 ≤ a) (h3 : 1 ≤ n) (h4 : a + n ≤ 64) :
    Calls Try.prog 44 #[.int .u64 x, .int .i64 a, .int .i64 n] w fun e w' => e = .returned (.int .u64 (x / p % q)) ∧ ∃ k, w' = w.drewN k := by
  subst hp; subst hq; exact wfield_any x a n w h0 h1 h2 h3 h4

set_option maxHeartbeats 1000000 in
theorem epart_any (x a n q : Int) (b : Nat) (w : World) (hc : w.cell? ⟨b, 0, none⟩ = some (.int .u64 x)) (h0 : 0 ≤ x) (h1 : x < 18446744073709551616) (h2 : 0 ≤ a) (h3 : 1 ≤ n) (h4 : a + n ≤ 64) (hq : fld x a n = q) (q0 : 0 ≤ q) (q1 : q < 9223372036854775808) :
    Calls Try.prog 47 #[.int .i64 a, .int .i64 n, .pointer (some ⟨b, 0, none⟩)] w fun e w' => e = .returned (.int .i64 q) ∧ ∃ k, w' = w.drewN k := by
  subst hq
  go_enter Try.func47, Try.ntmps47
  go_wp2_with (first | (go_at_call 44; (with_reducible refine (wfield_any _ _ _ _ h0 h1 h2 h3 h4).mono ?_); rintro e w' ⟨rfl, k, rfl⟩))
  go_ret
  exact ⟨rfl, k, rfl⟩

theorem fld_q (x : Int) : fld x 0 4 = qK x ∧ fld x 4 24 = qV x ∧ fld x 28 16 = qL x := by
  refine ⟨?_, rfl, rfl⟩
  show x / 1 % 16 = x % 16
  omega
theorem hAgg_yes (w : Int) (h : eOk w = true) : (Value.tuple #[.agg #[.int .i64 (qK w), .int .i64 (qV w), .int .i64 (qL w)], .bool true]) = .tuple #[.agg #[.int .i64 (hK w), .int .i64 (hV w), .int .i64 (hL w)], .bool (eOk w)] := by
  obtain ⟨a, b, c⟩ := h_yes h
  rw [a, b, c, h]
theorem hAgg_no (w : Int) (h : eOk w = false) : (Value.tuple #[.agg #[.int .i64 0, .int .i64 0, .int .i64 0], .bool false]) = .tuple #[.agg #[.int .i64 (hK w), .int .i64 (hV w), .int .i64 (hL w)], .bool (eOk w)] := by
  obtain ⟨a, b, c⟩ := h_no h
  rw [a, b, c, h]

set_option maxHeartbeats 4000000 in
theorem eof_any (x : Int) (w : World) (h0 : 0 ≤ x) (h1 : x < 18446744073709551616) :
    Calls Try.prog 36 #[.int .u64 x] w fun e w' => e = .returned (.tuple #[.agg #[.int .i64 (hK x), .int .i64 (hV x), .int .i64 (hL x)], .bool (eOk x)]) ∧ Below w.heap.size w w' := by
  obtain ⟨f1, f2, f3⟩ := fld_q x
  obtain ⟨⟨a1, a2⟩, ⟨b1, b2⟩, ⟨c1, c2⟩⟩ := qbounds x h0
  have F1 := Kp.mk f1
  have F2 := Kp.mk f2
  have F3 := Kp.mk f3
  clear f1 f2 f3
  rcases two (eOk x) with h | h
  · have HA := Kp.mk (hAgg_no x h)
    rcases two (entMay (qK x) (qV x) (qL x)) with m | m
    · obtain ⟨e1, e2⟩ := eWord_no m
      clear h m
      go_enter Try.func36, Try.ntmps36
      go_wp2_with (first | (go_at_call 47; (with_reducible refine (epart_any x 0 4 (qK x) w.heap.size _ (by simp [go_sem]) h0 h1 (by decide) (by decide) (by decide) F1.out (by omega) (by omega)).mono ?_); rintro e w' ⟨rfl, k, rfl⟩) | (go_at_call 47; (with_reducible refine (epart_any x 4 24 (qV x) w.heap.size _ (by simp [go_sem]) h0 h1 (by decide) (by decide) (by decide) F2.out (by omega) (by omega)).mono ?_); rintro e w' ⟨rfl, k, rfl⟩) | (go_at_call 47; (with_reducible refine (epart_any x 28 16 (qL x) w.heap.size _ (by simp [go_sem]) h0 h1 (by decide) (by decide) (by decide) F3.out (by omega) (by omega)).mono ?_); rintro e w' ⟨rfl, k, rfl⟩) | (go_at_call 19; (with_reducible refine (eword_any _ _ _ _).mono ?_); rintro e w' ⟨rfl, hb⟩; obtain ⟨hc, hf⟩ := bcell hb; have hz := hb.size; (try simp at hz); (try (have hz1 := Nat.lt_of_succ_le hz; (try (have hz2 := Nat.lt_of_succ_lt hz1; (try (have hz3 := Nat.lt_of_succ_lt hz2)))))); (try (have y0 : w.heap.size < w'.heap.size := by omega)); (try (have y1 : w.heap.size + 1 < w'.heap.size := by omega)); (try (have y2 : w.heap.size ≤ w'.heap.size := by omega)); (try (have y3 : w.heap.size + 1 ≤ w'.heap.size := by omega))))
      have q0 : (w'.cell? ⟨w.heap.size + 1, 0, none⟩).isSome = true := by rw [hc _ _ (by simp)]; simp [go_sem]
      have q1 : (w'.cell? ⟨w.heap.size + 1, 1, none⟩).isSome = true := by rw [hc _ _ (by simp)]; simp [go_sem]
      have q2 : (w'.cell? ⟨w.heap.size + 1, 2, none⟩).isSome = true := by rw [hc _ _ (by simp)]; simp [go_sem]
      refine bodyPost_ret (v := .tuple #[.agg #[.int .i64 0, .int .i64 0, .int .i64 0], .bool false]) (by simp only [results, Try.results36]; go_simp) rfl ⟨by rw [HA.out], ?_⟩
      repeat (first | exact Below.refl _ _ | (with_reducible refine Below.setCell ?_ (by first | exact Nat.le_refl _ | (simp; done) | (simp; omega) | omega) _) | (with_reducible refine Below.alloc ?_ (by first | exact Nat.le_refl _ | (simp; done) | (simp; omega) | omega) _) | (with_reducible refine Below.drew ?_) | (with_reducible refine belowN ?_ _) | (with_reducible refine Below.trans ?_ (Below.mono (by assumption) (by first | exact Nat.le_refl _ | (simp; done) | (simp; omega) | omega))))
    · obtain ⟨e1, e2⟩ := eWord_yes m
      have hne : ¬ entSum (qK x) (qV x) (qL x) = x := by unfold eOk at h; rw [m] at h; simpa using h
      have hne' : (entSum (qK x) (qV x) (qL x) != x) = true := by simpa using hne
      clear h m
      go_enter Try.func36, Try.ntmps36
      go_wp2_with (first | (go_at_call 47; (with_reducible refine (epart_any x 0 4 (qK x) w.heap.size _ (by simp [go_sem]) h0 h1 (by decide) (by decide) (by decide) F1.out (by omega) (by omega)).mono ?_); rintro e w' ⟨rfl, k, rfl⟩) | (go_at_call 47; (with_reducible refine (epart_any x 4 24 (qV x) w.heap.size _ (by simp [go_sem]) h0 h1 (by decide) (by decide) (by decide) F2.out (by omega) (by omega)).mono ?_); rintro e w' ⟨rfl, k, rfl⟩) | (go_at_call 47; (with_reducible refine (epart_any x 28 16 (qL x) w.heap.size _ (by simp [go_sem]) h0 h1 (by decide) (by decide) (by decide) F3.out (by omega) (by omega)).mono ?_); rintro e w' ⟨rfl, k, rfl⟩) | (go_at_call 19; (with_reducible refine (eword_any _ _ _ _).mono ?_); rintro e w' ⟨rfl, hb⟩; obtain ⟨hc, hf⟩ := bcell hb; have hz := hb.size; (try simp at hz); (try (have hz1 := Nat.lt_of_succ_le hz; (try (have hz2 := Nat.lt_of_succ_lt hz1; (try (have hz3 := Nat.lt_of_succ_lt hz2)))))); (try (have y0 : w.heap.size < w'.heap.size := by omega)); (try (have y1 : w.heap.size + 1 < w'.heap.size := by omega)); (try (have y2 : w.heap.size ≤ w'.heap.size := by omega)); (try (have y3 : w.heap.size + 1 ≤ w'.heap.size := by omega))))
      have q0 : (w'.cell? ⟨w.heap.size + 1, 0, none⟩).isSome = true := by rw [hc _ _ (by simp)]; simp [go_sem]
      have q1 : (w'.cell? ⟨w.heap.size + 1, 1, none⟩).isSome = true := by rw [hc _ _ (by simp)]; simp [go_sem]
      have q2 : (w'.cell? ⟨w.heap.size + 1, 2, none⟩).isSome = true := by rw [hc _ _ (by simp)]; simp [go_sem]
      refine bodyPost_ret (v := .tuple #[.agg #[.int .i64 0, .int .i64 0, .int .i64 0], .bool false]) (by simp only [results, Try.results36]; go_simp) rfl ⟨by rw [HA.out], ?_⟩
      repeat (first | exact Below.refl _ _ | (with_reducible refine Below.setCell ?_ (by first | exact Nat.le_refl _ | (simp; done) | (simp; omega) | omega) _) | (with_reducible refine Below.alloc ?_ (by first | exact Nat.le_refl _ | (simp; done) | (simp; omega) | omega) _) | (with_reducible refine Below.drew ?_) | (with_reducible refine belowN ?_ _) | (with_reducible refine Below.trans ?_ (Below.mono (by assumption) (by first | exact Nat.le_refl _ | (simp; done) | (simp; omega) | omega))))
  · have HA := Kp.mk (hAgg_yes x h)
    obtain ⟨m, hs⟩ := eOk_t h
    obtain ⟨e1, e2⟩ := eWord_yes m
    rw [hs] at e1
    clear h m hs
    go_enter Try.func36, Try.ntmps36
    go_wp2_with (first | (go_at_call 47; (with_reducible refine (epart_any x 0 4 (qK x) w.heap.size _ (by simp [go_sem]) h0 h1 (by decide) (by decide) (by decide) F1.out (by omega) (by omega)).mono ?_); rintro e w' ⟨rfl, k, rfl⟩) | (go_at_call 47; (with_reducible refine (epart_any x 4 24 (qV x) w.heap.size _ (by simp [go_sem]) h0 h1 (by decide) (by decide) (by decide) F2.out (by omega) (by omega)).mono ?_); rintro e w' ⟨rfl, k, rfl⟩) | (go_at_call 47; (with_reducible refine (epart_any x 28 16 (qL x) w.heap.size _ (by simp [go_sem]) h0 h1 (by decide) (by decide) (by decide) F3.out (by omega) (by omega)).mono ?_); rintro e w' ⟨rfl, k, rfl⟩) | (go_at_call 19; (with_reducible refine (eword_any _ _ _ _).mono ?_); rintro e w' ⟨rfl, hb⟩; obtain ⟨hc, hf⟩ := bcell hb; have hz := hb.size; (try simp at hz); (try (have hz1 := Nat.lt_of_succ_le hz; (try (have hz2 := Nat.lt_of_succ_lt hz1; (try (have hz3 := Nat.lt_of_succ_lt hz2)))))); (try (have y0 : w.heap.size < w'.heap.size := by omega)); (try (have y1 : w.heap.size + 1 < w'.heap.size := by omega)); (try (have y2 : w.heap.size ≤ w'.heap.size := by omega)); (try (have y3 : w.heap.size + 1 ≤ w'.heap.size := by omega))))
    have q0 : (w'.cell? ⟨w.heap.size + 1, 0, none⟩).isSome = true := by rw [hc _ _ (by simp)]; simp [go_sem]
    have q1 : (w'.cell? ⟨w.heap.size + 1, 1, none⟩).isSome = true := by rw [hc _ _ (by simp)]; simp [go_sem]
    have q2 : (w'.cell? ⟨w.heap.size + 1, 2, none⟩).isSome = true := by rw [hc _ _ (by simp)]; simp [go_sem]
    refine bodyPost_ret (v := .tuple #[.agg #[.int .i64 (qK x), .int .i64 (qV x), .int .i64 (qL x)], .bool true]) (by simp only [results, Try.results36]; go_simp) rfl ⟨by rw [HA.out], ?_⟩
    repeat (first | exact Below.refl _ _ | (with_reducible refine Below.setCell ?_ (by first | exact Nat.le_refl _ | (simp; done) | (simp; omega) | omega) _) | (with_reducible refine Below.alloc ?_ (by first | exact Nat.le_refl _ | (simp; done) | (simp; omega) | omega) _) | (with_reducible refine Below.drew ?_) | (with_reducible refine belowN ?_ _) | (with_reducible refine Below.trans ?_ (Below.mono (by assumption) (by first | exact Nat.le_refl _ | (simp; done) | (simp; omega) | omega))))

end Go.Proofs.Ytnmdhlemenjdiab
