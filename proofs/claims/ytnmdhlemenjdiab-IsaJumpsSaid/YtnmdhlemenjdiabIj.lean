/- The walk of the law of jumps. -/
import Derived.Test.YtnmdhlemenjdiabIn
namespace Go.Proofs.Ytnmdhlemenjdiab
open Go.RowKit
set_option linter.unusedSimpArgs false
set_option linter.unusedVariables false

theorem tmod_cases4 (a : Int) : a.tmod 4 = 0 ∨ a.tmod 4 = 1 ∨ a.tmod 4 = 2 ∨ a.tmod 4 = 3 ∨ a.tmod 4 = -1 ∨ a.tmod 4 = -2 ∨ a.tmod 4 = -3 := by
  have h := Int.tmod_lt_of_pos a (show (0:Int) < 4 by decide)
  have h2 : -4 < a.tmod 4 := by
    have := Int.tmod_lt_of_pos (-a) (show (0:Int) < 4 by decide)
    rw [Int.neg_tmod] at this
    omega
  omega
theorem nOther_sub (pc : Int) : IntKind.u64.wrap (nOther pc - IntKind.u64.wrap pc) = 1 := by
  unfold nOther
  simp only [IntKind.wrap, IntKind.bits, IntKind.signed]
  simp
  omega
theorem next_is (o a b c m pc : Int) (r0 r1 r2 r3 : Int) (w : World) (ha : o = 7 → 0 ≤ a ∧ a < 4) {X : Int} (hX : nxt o (rAt r0 r1 r2 r3 a) m pc = X) :
    Calls Try.prog 27 #[.agg #[.int .i64 o, .int .i64 a, .int .i64 b, .int .i64 c, .int .i64 m], .agg #[.int .u64 r0, .int .u64 r1, .int .u64 r2, .int .u64 r3], .int .i64 pc] w fun e w' => e = .returned (.int .u64 X) ∧ Below w.heap.size w w' := by
  subst hX; exact next_any o a b c m pc r0 r1 r2 r3 w ha
theorem nxt_jump {r m pc : Int} (h : ¬ r = 0) : nxt 7 r m pc = IntKind.u64.wrap m := by
  unfold nxt nJump; rw [if_pos rfl, if_neg h]
theorem nxt_stay {r m pc : Int} (h : r = 0) : nxt 7 r m pc = nOther pc := by
  unfold nxt nJump; rw [if_pos rfl, if_pos h]

set_option maxHeartbeats 8000000 in
theorem isaJumps (x0 x1 r0 r1 r2 r3 pc : Int) (w : World) :
    Calls Try.prog 8 #[.agg #[.int .i64 x0, .int .i64 x1], .agg #[.int .u64 r0, .int .u64 r1, .int .u64 r2, .int .u64 r3], .int .i64 pc] w fun e w' => e = .returned (.bool true) ∧ Below w.heap.size w w' := by
  have eK := nOther_sub pc
  have e2 : nxt 16 (rAt r0 r1 r2 r3 0) 0 pc = nOther pc := rfl
  have eJ : ∀ a, ¬ rAt r0 r1 r2 r3 a = 0 → nxt 7 (rAt r0 r1 r2 r3 a) (wrap64 (wrap32 x1)) pc = IntKind.u64.wrap (wrap64 (wrap32 x1)) := fun a h => nxt_jump h
  have eS : ∀ a, rAt r0 r1 r2 r3 a = 0 → nxt 7 (rAt r0 r1 r2 r3 a) (wrap64 (wrap32 x1)) pc = nOther pc := fun a h => nxt_stay h
  have hx := tmod_cases4 x0
  rcases hx with hx | hx | hx | hx | hx | hx | hx
  · generalize nOther pc = K at eK eS e2
    rcases two (r0 != 0) with hr | hr
    · have e1 := eS 0 (show rAt r0 r1 r2 r3 _ = 0 from by have q := hr; simp at q; exact q)
      clear eS eJ
      go_enter Try.func8, Try.ntmps8
      go_wp2_with (first | (go_at_call 22; (with_reducible refine (shown13 _).mono ?_); rintro e w' ⟨rfl, hb⟩; obtain ⟨hc, hf⟩ := bcell hb; have hz := hb.size; (try simp at hz); (try (have hz1 := Nat.lt_of_succ_le hz; (try (have hz2 := Nat.lt_of_succ_lt hz1; (try (have hz3 := Nat.lt_of_succ_lt hz2)))))); (try (have y0 : w.heap.size < w'.heap.size := by omega)); (try (have y1 : w.heap.size + 1 < w'.heap.size := by omega)); (try (have y2 : w.heap.size ≤ w'.heap.size := by omega)); (try (have y3 : w.heap.size + 1 ≤ w'.heap.size := by omega))) | (go_at_call 27; (with_reducible refine (next_any _ _ _ _ _ _ _ _ _ _ _ (by decide)).mono ?_); rintro e w' ⟨rfl, hb⟩; obtain ⟨hc, hf⟩ := bcell hb; have hz := hb.size; (try simp at hz); (try (have hz1 := Nat.lt_of_succ_le hz; (try (have hz2 := Nat.lt_of_succ_lt hz1; (try (have hz3 := Nat.lt_of_succ_lt hz2)))))); (try (have y0 : w.heap.size < w'.heap.size := by omega)); (try (have y1 : w.heap.size + 1 < w'.heap.size := by omega)); (try (have y2 : w.heap.size ≤ w'.heap.size := by omega)); (try (have y3 : w.heap.size + 1 ≤ w'.heap.size := by omega))))
      all_goals go_ret
      refine ⟨rfl, ?_⟩
      repeat (first | exact Below.refl _ _ | (with_reducible refine Below.setCell ?_ (by first | exact Nat.le_refl _ | (simp; done) | (simp; omega) | omega) _) | (with_reducible refine Below.alloc ?_ (by first | exact Nat.le_refl _ | (simp; done) | (simp; omega) | omega) _) | (with_reducible refine Below.drew ?_) | (with_reducible refine belowN ?_ _) | (with_reducible refine Below.trans ?_ (Below.mono (by assumption) (by first | exact Nat.le_refl _ | (simp; done) | (simp; omega) | omega))))
    · have e1 := eJ 0 (show rAt r0 r1 r2 r3 _ = 0 → False from by have q := hr; simp at q; exact q)
      clear eS eJ
      go_enter Try.func8, Try.ntmps8
      go_wp2_with (first | (go_at_call 22; (with_reducible refine (shown13 _).mono ?_); rintro e w' ⟨rfl, hb⟩; obtain ⟨hc, hf⟩ := bcell hb; have hz := hb.size; (try simp at hz); (try (have hz1 := Nat.lt_of_succ_le hz; (try (have hz2 := Nat.lt_of_succ_lt hz1; (try (have hz3 := Nat.lt_of_succ_lt hz2)))))); (try (have y0 : w.heap.size < w'.heap.size := by omega)); (try (have y1 : w.heap.size + 1 < w'.heap.size := by omega)); (try (have y2 : w.heap.size ≤ w'.heap.size := by omega)); (try (have y3 : w.heap.size + 1 ≤ w'.heap.size := by omega))) | (go_at_call 27; (with_reducible refine (next_any _ _ _ _ _ _ _ _ _ _ _ (by decide)).mono ?_); rintro e w' ⟨rfl, hb⟩; obtain ⟨hc, hf⟩ := bcell hb; have hz := hb.size; (try simp at hz); (try (have hz1 := Nat.lt_of_succ_le hz; (try (have hz2 := Nat.lt_of_succ_lt hz1; (try (have hz3 := Nat.lt_of_succ_lt hz2)))))); (try (have y0 : w.heap.size < w'.heap.size := by omega)); (try (have y1 : w.heap.size + 1 < w'.heap.size := by omega)); (try (have y2 : w.heap.size ≤ w'.heap.size := by omega)); (try (have y3 : w.heap.size + 1 ≤ w'.heap.size := by omega))))
      all_goals go_ret
      refine ⟨rfl, ?_⟩
      repeat (first | exact Below.refl _ _ | (with_reducible refine Below.setCell ?_ (by first | exact Nat.le_refl _ | (simp; done) | (simp; omega) | omega) _) | (with_reducible refine Below.alloc ?_ (by first | exact Nat.le_refl _ | (simp; done) | (simp; omega) | omega) _) | (with_reducible refine Below.drew ?_) | (with_reducible refine belowN ?_ _) | (with_reducible refine Below.trans ?_ (Below.mono (by assumption) (by first | exact Nat.le_refl _ | (simp; done) | (simp; omega) | omega))))
  · generalize nOther pc = K at eK eS e2
    rcases two (r1 != 0) with hr | hr
    · have e1 := eS 1 (show rAt r0 r1 r2 r3 _ = 0 from by have q := hr; simp at q; exact q)
      clear eS eJ
      go_enter Try.func8, Try.ntmps8
      go_wp2_with (first | (go_at_call 22; (with_reducible refine (shown13 _).mono ?_); rintro e w' ⟨rfl, hb⟩; obtain ⟨hc, hf⟩ := bcell hb; have hz := hb.size; (try simp at hz); (try (have hz1 := Nat.lt_of_succ_le hz; (try (have hz2 := Nat.lt_of_succ_lt hz1; (try (have hz3 := Nat.lt_of_succ_lt hz2)))))); (try (have y0 : w.heap.size < w'.heap.size := by omega)); (try (have y1 : w.heap.size + 1 < w'.heap.size := by omega)); (try (have y2 : w.heap.size ≤ w'.heap.size := by omega)); (try (have y3 : w.heap.size + 1 ≤ w'.heap.size := by omega))) | (go_at_call 27; (with_reducible refine (next_any _ _ _ _ _ _ _ _ _ _ _ (by decide)).mono ?_); rintro e w' ⟨rfl, hb⟩; obtain ⟨hc, hf⟩ := bcell hb; have hz := hb.size; (try simp at hz); (try (have hz1 := Nat.lt_of_succ_le hz; (try (have hz2 := Nat.lt_of_succ_lt hz1; (try (have hz3 := Nat.lt_of_succ_lt hz2)))))); (try (have y0 : w.heap.size < w'.heap.size := by omega)); (try (have y1 : w.heap.size + 1 < w'.heap.size := by omega)); (try (have y2 : w.heap.size ≤ w'.heap.size := by omega)); (try (have y3 : w.heap.size + 1 ≤ w'.heap.size := by omega))))
      all_goals go_ret
      refine ⟨rfl, ?_⟩
      repeat (first | exact Below.refl _ _ | (with_reducible refine Below.setCell ?_ (by first | exact Nat.le_refl _ | (simp; done) | (simp; omega) | omega) _) | (with_reducible refine Below.alloc ?_ (by first | exact Nat.le_refl _ | (simp; done) | (simp; omega) | omega) _) | (with_reducible refine Below.drew ?_) | (with_reducible refine belowN ?_ _) | (with_reducible refine Below.trans ?_ (Below.mono (by assumption) (by first | exact Nat.le_refl _ | (simp; done) | (simp; omega) | omega))))
    · have e1 := eJ 1 (show rAt r0 r1 r2 r3 _ = 0 → False from by have q := hr; simp at q; exact q)
      clear eS eJ
      go_enter Try.func8, Try.ntmps8
      go_wp2_with (first | (go_at_call 22; (with_reducible refine (shown13 _).mono ?_); rintro e w' ⟨rfl, hb⟩; obtain ⟨hc, hf⟩ := bcell hb; have hz := hb.size; (try simp at hz); (try (have hz1 := Nat.lt_of_succ_le hz; (try (have hz2 := Nat.lt_of_succ_lt hz1; (try (have hz3 := Nat.lt_of_succ_lt hz2)))))); (try (have y0 : w.heap.size < w'.heap.size := by omega)); (try (have y1 : w.heap.size + 1 < w'.heap.size := by omega)); (try (have y2 : w.heap.size ≤ w'.heap.size := by omega)); (try (have y3 : w.heap.size + 1 ≤ w'.heap.size := by omega))) | (go_at_call 27; (with_reducible refine (next_any _ _ _ _ _ _ _ _ _ _ _ (by decide)).mono ?_); rintro e w' ⟨rfl, hb⟩; obtain ⟨hc, hf⟩ := bcell hb; have hz := hb.size; (try simp at hz); (try (have hz1 := Nat.lt_of_succ_le hz; (try (have hz2 := Nat.lt_of_succ_lt hz1; (try (have hz3 := Nat.lt_of_succ_lt hz2)))))); (try (have y0 : w.heap.size < w'.heap.size := by omega)); (try (have y1 : w.heap.size + 1 < w'.heap.size := by omega)); (try (have y2 : w.heap.size ≤ w'.heap.size := by omega)); (try (have y3 : w.heap.size + 1 ≤ w'.heap.size := by omega))))
      all_goals go_ret
      refine ⟨rfl, ?_⟩
      repeat (first | exact Below.refl _ _ | (with_reducible refine Below.setCell ?_ (by first | exact Nat.le_refl _ | (simp; done) | (simp; omega) | omega) _) | (with_reducible refine Below.alloc ?_ (by first | exact Nat.le_refl _ | (simp; done) | (simp; omega) | omega) _) | (with_reducible refine Below.drew ?_) | (with_reducible refine belowN ?_ _) | (with_reducible refine Below.trans ?_ (Below.mono (by assumption) (by first | exact Nat.le_refl _ | (simp; done) | (simp; omega) | omega))))
  · generalize nOther pc = K at eK eS e2
    rcases two (r2 != 0) with hr | hr
    · have e1 := eS 2 (show rAt r0 r1 r2 r3 _ = 0 from by have q := hr; simp at q; exact q)
      clear eS eJ
      go_enter Try.func8, Try.ntmps8
      go_wp2_with (first | (go_at_call 22; (with_reducible refine (shown13 _).mono ?_); rintro e w' ⟨rfl, hb⟩; obtain ⟨hc, hf⟩ := bcell hb; have hz := hb.size; (try simp at hz); (try (have hz1 := Nat.lt_of_succ_le hz; (try (have hz2 := Nat.lt_of_succ_lt hz1; (try (have hz3 := Nat.lt_of_succ_lt hz2)))))); (try (have y0 : w.heap.size < w'.heap.size := by omega)); (try (have y1 : w.heap.size + 1 < w'.heap.size := by omega)); (try (have y2 : w.heap.size ≤ w'.heap.size := by omega)); (try (have y3 : w.heap.size + 1 ≤ w'.heap.size := by omega))) | (go_at_call 27; (with_reducible refine (next_any _ _ _ _ _ _ _ _ _ _ _ (by decide)).mono ?_); rintro e w' ⟨rfl, hb⟩; obtain ⟨hc, hf⟩ := bcell hb; have hz := hb.size; (try simp at hz); (try (have hz1 := Nat.lt_of_succ_le hz; (try (have hz2 := Nat.lt_of_succ_lt hz1; (try (have hz3 := Nat.lt_of_succ_lt hz2)))))); (try (have y0 : w.heap.size < w'.heap.size := by omega)); (try (have y1 : w.heap.size + 1 < w'.heap.size := by omega)); (try (have y2 : w.heap.size ≤ w'.heap.size := by omega)); (try (have y3 : w.heap.size + 1 ≤ w'.heap.size := by omega))))
      all_goals go_ret
      refine ⟨rfl, ?_⟩
      repeat (first | exact Below.refl _ _ | (with_reducible refine Below.setCell ?_ (by first | exact Nat.le_refl _ | (simp; done) | (simp; omega) | omega) _) | (with_reducible refine Below.alloc ?_ (by first | exact Nat.le_refl _ | (simp; done) | (simp; omega) | omega) _) | (with_reducible refine Below.drew ?_) | (with_reducible refine belowN ?_ _) | (with_reducible refine Below.trans ?_ (Below.mono (by assumption) (by first | exact Nat.le_refl _ | (simp; done) | (simp; omega) | omega))))
    · have e1 := eJ 2 (show rAt r0 r1 r2 r3 _ = 0 → False from by have q := hr; simp at q; exact q)
      clear eS eJ
      go_enter Try.func8, Try.ntmps8
      go_wp2_with (first | (go_at_call 22; (with_reducible refine (shown13 _).mono ?_); rintro e w' ⟨rfl, hb⟩; obtain ⟨hc, hf⟩ := bcell hb; have hz := hb.size; (try simp at hz); (try (have hz1 := Nat.lt_of_succ_le hz; (try (have hz2 := Nat.lt_of_succ_lt hz1; (try (have hz3 := Nat.lt_of_succ_lt hz2)))))); (try (have y0 : w.heap.size < w'.heap.size := by omega)); (try (have y1 : w.heap.size + 1 < w'.heap.size := by omega)); (try (have y2 : w.heap.size ≤ w'.heap.size := by omega)); (try (have y3 : w.heap.size + 1 ≤ w'.heap.size := by omega))) | (go_at_call 27; (with_reducible refine (next_any _ _ _ _ _ _ _ _ _ _ _ (by decide)).mono ?_); rintro e w' ⟨rfl, hb⟩; obtain ⟨hc, hf⟩ := bcell hb; have hz := hb.size; (try simp at hz); (try (have hz1 := Nat.lt_of_succ_le hz; (try (have hz2 := Nat.lt_of_succ_lt hz1; (try (have hz3 := Nat.lt_of_succ_lt hz2)))))); (try (have y0 : w.heap.size < w'.heap.size := by omega)); (try (have y1 : w.heap.size + 1 < w'.heap.size := by omega)); (try (have y2 : w.heap.size ≤ w'.heap.size := by omega)); (try (have y3 : w.heap.size + 1 ≤ w'.heap.size := by omega))))
      all_goals go_ret
      refine ⟨rfl, ?_⟩
      repeat (first | exact Below.refl _ _ | (with_reducible refine Below.setCell ?_ (by first | exact Nat.le_refl _ | (simp; done) | (simp; omega) | omega) _) | (with_reducible refine Below.alloc ?_ (by first | exact Nat.le_refl _ | (simp; done) | (simp; omega) | omega) _) | (with_reducible refine Below.drew ?_) | (with_reducible refine belowN ?_ _) | (with_reducible refine Below.trans ?_ (Below.mono (by assumption) (by first | exact Nat.le_refl _ | (simp; done) | (simp; omega) | omega))))
  · generalize nOther pc = K at eK eS e2
    rcases two (r3 != 0) with hr | hr
    · have e1 := eS 3 (show rAt r0 r1 r2 r3 _ = 0 from by have q := hr; simp at q; exact q)
      clear eS eJ
      go_enter Try.func8, Try.ntmps8
      go_wp2_with (first | (go_at_call 22; (with_reducible refine (shown13 _).mono ?_); rintro e w' ⟨rfl, hb⟩; obtain ⟨hc, hf⟩ := bcell hb; have hz := hb.size; (try simp at hz); (try (have hz1 := Nat.lt_of_succ_le hz; (try (have hz2 := Nat.lt_of_succ_lt hz1; (try (have hz3 := Nat.lt_of_succ_lt hz2)))))); (try (have y0 : w.heap.size < w'.heap.size := by omega)); (try (have y1 : w.heap.size + 1 < w'.heap.size := by omega)); (try (have y2 : w.heap.size ≤ w'.heap.size := by omega)); (try (have y3 : w.heap.size + 1 ≤ w'.heap.size := by omega))) | (go_at_call 27; (with_reducible refine (next_any _ _ _ _ _ _ _ _ _ _ _ (by decide)).mono ?_); rintro e w' ⟨rfl, hb⟩; obtain ⟨hc, hf⟩ := bcell hb; have hz := hb.size; (try simp at hz); (try (have hz1 := Nat.lt_of_succ_le hz; (try (have hz2 := Nat.lt_of_succ_lt hz1; (try (have hz3 := Nat.lt_of_succ_lt hz2)))))); (try (have y0 : w.heap.size < w'.heap.size := by omega)); (try (have y1 : w.heap.size + 1 < w'.heap.size := by omega)); (try (have y2 : w.heap.size ≤ w'.heap.size := by omega)); (try (have y3 : w.heap.size + 1 ≤ w'.heap.size := by omega))))
      all_goals go_ret
      refine ⟨rfl, ?_⟩
      repeat (first | exact Below.refl _ _ | (with_reducible refine Below.setCell ?_ (by first | exact Nat.le_refl _ | (simp; done) | (simp; omega) | omega) _) | (with_reducible refine Below.alloc ?_ (by first | exact Nat.le_refl _ | (simp; done) | (simp; omega) | omega) _) | (with_reducible refine Below.drew ?_) | (with_reducible refine belowN ?_ _) | (with_reducible refine Below.trans ?_ (Below.mono (by assumption) (by first | exact Nat.le_refl _ | (simp; done) | (simp; omega) | omega))))
    · have e1 := eJ 3 (show rAt r0 r1 r2 r3 _ = 0 → False from by have q := hr; simp at q; exact q)
      clear eS eJ
      go_enter Try.func8, Try.ntmps8
      go_wp2_with (first | (go_at_call 22; (with_reducible refine (shown13 _).mono ?_); rintro e w' ⟨rfl, hb⟩; obtain ⟨hc, hf⟩ := bcell hb; have hz := hb.size; (try simp at hz); (try (have hz1 := Nat.lt_of_succ_le hz; (try (have hz2 := Nat.lt_of_succ_lt hz1; (try (have hz3 := Nat.lt_of_succ_lt hz2)))))); (try (have y0 : w.heap.size < w'.heap.size := by omega)); (try (have y1 : w.heap.size + 1 < w'.heap.size := by omega)); (try (have y2 : w.heap.size ≤ w'.heap.size := by omega)); (try (have y3 : w.heap.size + 1 ≤ w'.heap.size := by omega))) | (go_at_call 27; (with_reducible refine (next_any _ _ _ _ _ _ _ _ _ _ _ (by decide)).mono ?_); rintro e w' ⟨rfl, hb⟩; obtain ⟨hc, hf⟩ := bcell hb; have hz := hb.size; (try simp at hz); (try (have hz1 := Nat.lt_of_succ_le hz; (try (have hz2 := Nat.lt_of_succ_lt hz1; (try (have hz3 := Nat.lt_of_succ_lt hz2)))))); (try (have y0 : w.heap.size < w'.heap.size := by omega)); (try (have y1 : w.heap.size + 1 < w'.heap.size := by omega)); (try (have y2 : w.heap.size ≤ w'.heap.size := by omega)); (try (have y3 : w.heap.size + 1 ≤ w'.heap.size := by omega))))
      all_goals go_ret
      refine ⟨rfl, ?_⟩
      repeat (first | exact Below.refl _ _ | (with_reducible refine Below.setCell ?_ (by first | exact Nat.le_refl _ | (simp; done) | (simp; omega) | omega) _) | (with_reducible refine Below.alloc ?_ (by first | exact Nat.le_refl _ | (simp; done) | (simp; omega) | omega) _) | (with_reducible refine Below.drew ?_) | (with_reducible refine belowN ?_ _) | (with_reducible refine Below.trans ?_ (Below.mono (by assumption) (by first | exact Nat.le_refl _ | (simp; done) | (simp; omega) | omega))))
  · generalize nOther pc = K at eK eS e2
    rcases two (r1 != 0) with hr | hr
    · have e1 := eS 1 (show rAt r0 r1 r2 r3 _ = 0 from by have q := hr; simp at q; exact q)
      clear eS eJ
      go_enter Try.func8, Try.ntmps8
      go_wp2_with (first | (go_at_call 22; (with_reducible refine (shown13 _).mono ?_); rintro e w' ⟨rfl, hb⟩; obtain ⟨hc, hf⟩ := bcell hb; have hz := hb.size; (try simp at hz); (try (have hz1 := Nat.lt_of_succ_le hz; (try (have hz2 := Nat.lt_of_succ_lt hz1; (try (have hz3 := Nat.lt_of_succ_lt hz2)))))); (try (have y0 : w.heap.size < w'.heap.size := by omega)); (try (have y1 : w.heap.size + 1 < w'.heap.size := by omega)); (try (have y2 : w.heap.size ≤ w'.heap.size := by omega)); (try (have y3 : w.heap.size + 1 ≤ w'.heap.size := by omega))) | (go_at_call 27; (with_reducible refine (next_any _ _ _ _ _ _ _ _ _ _ _ (by decide)).mono ?_); rintro e w' ⟨rfl, hb⟩; obtain ⟨hc, hf⟩ := bcell hb; have hz := hb.size; (try simp at hz); (try (have hz1 := Nat.lt_of_succ_le hz; (try (have hz2 := Nat.lt_of_succ_lt hz1; (try (have hz3 := Nat.lt_of_succ_lt hz2)))))); (try (have y0 : w.heap.size < w'.heap.size := by omega)); (try (have y1 : w.heap.size + 1 < w'.heap.size := by omega)); (try (have y2 : w.heap.size ≤ w'.heap.size := by omega)); (try (have y3 : w.heap.size + 1 ≤ w'.heap.size := by omega))))
      all_goals go_ret
      refine ⟨rfl, ?_⟩
      repeat (first | exact Below.refl _ _ | (with_reducible refine Below.setCell ?_ (by first | exact Nat.le_refl _ | (simp; done) | (simp; omega) | omega) _) | (with_reducible refine Below.alloc ?_ (by first | exact Nat.le_refl _ | (simp; done) | (simp; omega) | omega) _) | (with_reducible refine Below.drew ?_) | (with_reducible refine belowN ?_ _) | (with_reducible refine Below.trans ?_ (Below.mono (by assumption) (by first | exact Nat.le_refl _ | (simp; done) | (simp; omega) | omega))))
    · have e1 := eJ 1 (show rAt r0 r1 r2 r3 _ = 0 → False from by have q := hr; simp at q; exact q)
      clear eS eJ
      go_enter Try.func8, Try.ntmps8
      go_wp2_with (first | (go_at_call 22; (with_reducible refine (shown13 _).mono ?_); rintro e w' ⟨rfl, hb⟩; obtain ⟨hc, hf⟩ := bcell hb; have hz := hb.size; (try simp at hz); (try (have hz1 := Nat.lt_of_succ_le hz; (try (have hz2 := Nat.lt_of_succ_lt hz1; (try (have hz3 := Nat.lt_of_succ_lt hz2)))))); (try (have y0 : w.heap.size < w'.heap.size := by omega)); (try (have y1 : w.heap.size + 1 < w'.heap.size := by omega)); (try (have y2 : w.heap.size ≤ w'.heap.size := by omega)); (try (have y3 : w.heap.size + 1 ≤ w'.heap.size := by omega))) | (go_at_call 27; (with_reducible refine (next_any _ _ _ _ _ _ _ _ _ _ _ (by decide)).mono ?_); rintro e w' ⟨rfl, hb⟩; obtain ⟨hc, hf⟩ := bcell hb; have hz := hb.size; (try simp at hz); (try (have hz1 := Nat.lt_of_succ_le hz; (try (have hz2 := Nat.lt_of_succ_lt hz1; (try (have hz3 := Nat.lt_of_succ_lt hz2)))))); (try (have y0 : w.heap.size < w'.heap.size := by omega)); (try (have y1 : w.heap.size + 1 < w'.heap.size := by omega)); (try (have y2 : w.heap.size ≤ w'.heap.size := by omega)); (try (have y3 : w.heap.size + 1 ≤ w'.heap.size := by omega))))
      all_goals go_ret
      refine ⟨rfl, ?_⟩
      repeat (first | exact Below.refl _ _ | (with_reducible refine Below.setCell ?_ (by first | exact Nat.le_refl _ | (simp; done) | (simp; omega) | omega) _) | (with_reducible refine Below.alloc ?_ (by first | exact Nat.le_refl _ | (simp; done) | (simp; omega) | omega) _) | (with_reducible refine Below.drew ?_) | (with_reducible refine belowN ?_ _) | (with_reducible refine Below.trans ?_ (Below.mono (by assumption) (by first | exact Nat.le_refl _ | (simp; done) | (simp; omega) | omega))))
  · generalize nOther pc = K at eK eS e2
    rcases two (r2 != 0) with hr | hr
    · have e1 := eS 2 (show rAt r0 r1 r2 r3 _ = 0 from by have q := hr; simp at q; exact q)
      clear eS eJ
      go_enter Try.func8, Try.ntmps8
      go_wp2_with (first | (go_at_call 22; (with_reducible refine (shown13 _).mono ?_); rintro e w' ⟨rfl, hb⟩; obtain ⟨hc, hf⟩ := bcell hb; have hz := hb.size; (try simp at hz); (try (have hz1 := Nat.lt_of_succ_le hz; (try (have hz2 := Nat.lt_of_succ_lt hz1; (try (have hz3 := Nat.lt_of_succ_lt hz2)))))); (try (have y0 : w.heap.size < w'.heap.size := by omega)); (try (have y1 : w.heap.size + 1 < w'.heap.size := by omega)); (try (have y2 : w.heap.size ≤ w'.heap.size := by omega)); (try (have y3 : w.heap.size + 1 ≤ w'.heap.size := by omega))) | (go_at_call 27; (with_reducible refine (next_any _ _ _ _ _ _ _ _ _ _ _ (by decide)).mono ?_); rintro e w' ⟨rfl, hb⟩; obtain ⟨hc, hf⟩ := bcell hb; have hz := hb.size; (try simp at hz); (try (have hz1 := Nat.lt_of_succ_le hz; (try (have hz2 := Nat.lt_of_succ_lt hz1; (try (have hz3 := Nat.lt_of_succ_lt hz2)))))); (try (have y0 : w.heap.size < w'.heap.size := by omega)); (try (have y1 : w.heap.size + 1 < w'.heap.size := by omega)); (try (have y2 : w.heap.size ≤ w'.heap.size := by omega)); (try (have y3 : w.heap.size + 1 ≤ w'.heap.size := by omega))))
      all_goals go_ret
      refine ⟨rfl, ?_⟩
      repeat (first | exact Below.refl _ _ | (with_reducible refine Below.setCell ?_ (by first | exact Nat.le_refl _ | (simp; done) | (simp; omega) | omega) _) | (with_reducible refine Below.alloc ?_ (by first | exact Nat.le_refl _ | (simp; done) | (simp; omega) | omega) _) | (with_reducible refine Below.drew ?_) | (with_reducible refine belowN ?_ _) | (with_reducible refine Below.trans ?_ (Below.mono (by assumption) (by first | exact Nat.le_refl _ | (simp; done) | (simp; omega) | omega))))
    · have e1 := eJ 2 (show rAt r0 r1 r2 r3 _ = 0 → False from by have q := hr; simp at q; exact q)
      clear eS eJ
      go_enter Try.func8, Try.ntmps8
      go_wp2_with (first | (go_at_call 22; (with_reducible refine (shown13 _).mono ?_); rintro e w' ⟨rfl, hb⟩; obtain ⟨hc, hf⟩ := bcell hb; have hz := hb.size; (try simp at hz); (try (have hz1 := Nat.lt_of_succ_le hz; (try (have hz2 := Nat.lt_of_succ_lt hz1; (try (have hz3 := Nat.lt_of_succ_lt hz2)))))); (try (have y0 : w.heap.size < w'.heap.size := by omega)); (try (have y1 : w.heap.size + 1 < w'.heap.size := by omega)); (try (have y2 : w.heap.size ≤ w'.heap.size := by omega)); (try (have y3 : w.heap.size + 1 ≤ w'.heap.size := by omega))) | (go_at_call 27; (with_reducible refine (next_any _ _ _ _ _ _ _ _ _ _ _ (by decide)).mono ?_); rintro e w' ⟨rfl, hb⟩; obtain ⟨hc, hf⟩ := bcell hb; have hz := hb.size; (try simp at hz); (try (have hz1 := Nat.lt_of_succ_le hz; (try (have hz2 := Nat.lt_of_succ_lt hz1; (try (have hz3 := Nat.lt_of_succ_lt hz2)))))); (try (have y0 : w.heap.size < w'.heap.size := by omega)); (try (have y1 : w.heap.size + 1 < w'.heap.size := by omega)); (try (have y2 : w.heap.size ≤ w'.heap.size := by omega)); (try (have y3 : w.heap.size + 1 ≤ w'.heap.size := by omega))))
      all_goals go_ret
      refine ⟨rfl, ?_⟩
      repeat (first | exact Below.refl _ _ | (with_reducible refine Below.setCell ?_ (by first | exact Nat.le_refl _ | (simp; done) | (simp; omega) | omega) _) | (with_reducible refine Below.alloc ?_ (by first | exact Nat.le_refl _ | (simp; done) | (simp; omega) | omega) _) | (with_reducible refine Below.drew ?_) | (with_reducible refine belowN ?_ _) | (with_reducible refine Below.trans ?_ (Below.mono (by assumption) (by first | exact Nat.le_refl _ | (simp; done) | (simp; omega) | omega))))
  · generalize nOther pc = K at eK eS e2
    rcases two (r3 != 0) with hr | hr
    · have e1 := eS 3 (show rAt r0 r1 r2 r3 _ = 0 from by have q := hr; simp at q; exact q)
      clear eS eJ
      go_enter Try.func8, Try.ntmps8
      go_wp2_with (first | (go_at_call 22; (with_reducible refine (shown13 _).mono ?_); rintro e w' ⟨rfl, hb⟩; obtain ⟨hc, hf⟩ := bcell hb; have hz := hb.size; (try simp at hz); (try (have hz1 := Nat.lt_of_succ_le hz; (try (have hz2 := Nat.lt_of_succ_lt hz1; (try (have hz3 := Nat.lt_of_succ_lt hz2)))))); (try (have y0 : w.heap.size < w'.heap.size := by omega)); (try (have y1 : w.heap.size + 1 < w'.heap.size := by omega)); (try (have y2 : w.heap.size ≤ w'.heap.size := by omega)); (try (have y3 : w.heap.size + 1 ≤ w'.heap.size := by omega))) | (go_at_call 27; (with_reducible refine (next_any _ _ _ _ _ _ _ _ _ _ _ (by decide)).mono ?_); rintro e w' ⟨rfl, hb⟩; obtain ⟨hc, hf⟩ := bcell hb; have hz := hb.size; (try simp at hz); (try (have hz1 := Nat.lt_of_succ_le hz; (try (have hz2 := Nat.lt_of_succ_lt hz1; (try (have hz3 := Nat.lt_of_succ_lt hz2)))))); (try (have y0 : w.heap.size < w'.heap.size := by omega)); (try (have y1 : w.heap.size + 1 < w'.heap.size := by omega)); (try (have y2 : w.heap.size ≤ w'.heap.size := by omega)); (try (have y3 : w.heap.size + 1 ≤ w'.heap.size := by omega))))
      all_goals go_ret
      refine ⟨rfl, ?_⟩
      repeat (first | exact Below.refl _ _ | (with_reducible refine Below.setCell ?_ (by first | exact Nat.le_refl _ | (simp; done) | (simp; omega) | omega) _) | (with_reducible refine Below.alloc ?_ (by first | exact Nat.le_refl _ | (simp; done) | (simp; omega) | omega) _) | (with_reducible refine Below.drew ?_) | (with_reducible refine belowN ?_ _) | (with_reducible refine Below.trans ?_ (Below.mono (by assumption) (by first | exact Nat.le_refl _ | (simp; done) | (simp; omega) | omega))))
    · have e1 := eJ 3 (show rAt r0 r1 r2 r3 _ = 0 → False from by have q := hr; simp at q; exact q)
      clear eS eJ
      go_enter Try.func8, Try.ntmps8
      go_wp2_with (first | (go_at_call 22; (with_reducible refine (shown13 _).mono ?_); rintro e w' ⟨rfl, hb⟩; obtain ⟨hc, hf⟩ := bcell hb; have hz := hb.size; (try simp at hz); (try (have hz1 := Nat.lt_of_succ_le hz; (try (have hz2 := Nat.lt_of_succ_lt hz1; (try (have hz3 := Nat.lt_of_succ_lt hz2)))))); (try (have y0 : w.heap.size < w'.heap.size := by omega)); (try (have y1 : w.heap.size + 1 < w'.heap.size := by omega)); (try (have y2 : w.heap.size ≤ w'.heap.size := by omega)); (try (have y3 : w.heap.size + 1 ≤ w'.heap.size := by omega))) | (go_at_call 27; (with_reducible refine (next_any _ _ _ _ _ _ _ _ _ _ _ (by decide)).mono ?_); rintro e w' ⟨rfl, hb⟩; obtain ⟨hc, hf⟩ := bcell hb; have hz := hb.size; (try simp at hz); (try (have hz1 := Nat.lt_of_succ_le hz; (try (have hz2 := Nat.lt_of_succ_lt hz1; (try (have hz3 := Nat.lt_of_succ_lt hz2)))))); (try (have y0 : w.heap.size < w'.heap.size := by omega)); (try (have y1 : w.heap.size + 1 < w'.heap.size := by omega)); (try (have y2 : w.heap.size ≤ w'.heap.size := by omega)); (try (have y3 : w.heap.size + 1 ≤ w'.heap.size := by omega))))
      all_goals go_ret
      refine ⟨rfl, ?_⟩
      repeat (first | exact Below.refl _ _ | (with_reducible refine Below.setCell ?_ (by first | exact Nat.le_refl _ | (simp; done) | (simp; omega) | omega) _) | (with_reducible refine Below.alloc ?_ (by first | exact Nat.le_refl _ | (simp; done) | (simp; omega) | omega) _) | (with_reducible refine Below.drew ?_) | (with_reducible refine belowN ?_ _) | (with_reducible refine Below.trans ?_ (Below.mono (by assumption) (by first | exact Nat.le_refl _ | (simp; done) | (simp; omega) | omega))))

end Go.Proofs.Ytnmdhlemenjdiab
