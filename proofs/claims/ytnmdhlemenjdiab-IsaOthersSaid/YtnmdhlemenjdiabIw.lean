/- The walks of package isa: shapes, holds. -/
import Derived.Test.YtnmdhlemenjdiabKit
import Derived.Test.YtnmdhlemenjdiabPi
import Derived.Test.YtnmdhlemenjdiabProg
namespace Go.Proofs.Ytnmdhlemenjdiab
open Go.RowKit
set_option linter.unusedSimpArgs false
set_option linter.unusedVariables false

set_option maxHeartbeats 4000000 in
theorem holds_any (s n : Int) (w : World) (h0 : 0 ≤ s) (h1 : s ≤ 7) :
    Calls Try.prog 40 #[.int .i64 s, .int .i64 n] w fun e w' => e = .returned (.bool (hold s n)) ∧ w = w' := by
  have hs : s = 0 ∨ s = 1 ∨ s = 2 ∨ s = 3 ∨ s = 5 ∨ s = 6 ∨ s = 7 ∨ s = 4 := by omega
  clear h0 h1
  rcases hs with rfl | rfl | rfl | rfl | rfl | rfl | rfl | rfl
  · go_enter Try.func40, Try.ntmps40
    go_wp2
    all_goals go_ret
    all_goals exact ⟨ret_bool (by rw [Bool.eq_iff_iff]; simp [hold, win, IntKind.wrap_i32] <;> omega), rfl⟩
  · go_enter Try.func40, Try.ntmps40
    go_wp2
    all_goals go_ret
    all_goals exact ⟨ret_bool (by rw [Bool.eq_iff_iff]; simp [hold, win, IntKind.wrap_i32] <;> omega), rfl⟩
  · go_enter Try.func40, Try.ntmps40
    go_wp2
    all_goals go_ret
    all_goals exact ⟨ret_bool (by rw [Bool.eq_iff_iff]; simp [hold, win, IntKind.wrap_i32] <;> omega), rfl⟩
  · go_enter Try.func40, Try.ntmps40
    go_wp2
    all_goals go_ret
    all_goals exact ⟨ret_bool (by rw [Bool.eq_iff_iff]; simp [hold, win, IntKind.wrap_i32] <;> omega), rfl⟩
  · go_enter Try.func40, Try.ntmps40
    go_wp2
    all_goals go_ret
    all_goals exact ⟨ret_bool (by rw [Bool.eq_iff_iff]; simp [hold, win, IntKind.wrap_i32] <;> omega), rfl⟩
  · go_enter Try.func40, Try.ntmps40
    go_wp2
    all_goals go_ret
    all_goals exact ⟨ret_bool (by rw [Bool.eq_iff_iff]; simp [hold, win, IntKind.wrap_i32] <;> omega), rfl⟩
  · go_enter Try.func40, Try.ntmps40
    go_wp2
    all_goals go_ret
    all_goals exact ⟨ret_bool (by rw [Bool.eq_iff_iff]; simp [hold, win, IntKind.wrap_i32] <;> omega), rfl⟩
  · go_enter Try.func40, Try.ntmps40
    go_wp2
    go_ret
    exact ⟨ret_bool (by rw [Bool.eq_iff_iff]; simp [hold, win]; unfold wrap64 wrap32; omega), rfl⟩

theorem op_ne {o : Int} (h : opOk o = false) (k : Int) (h0 : 0 ≤ k) (h1 : k ≤ 16) : (o == k) = false := by
  have := win_f h
  simp; omega
theorem sh_no {o : Int} (h : opOk o = false) : shA o = 0 ∧ shB o = 0 ∧ shC o = 0 ∧ shI o = 0 := by
  have := win_f h
  unfold shA shB shC shI
  refine ⟨?_, ?_, ?_, ?_⟩ <;> (repeat (rw [if_neg (by omega)]))
set_option maxHeartbeats 4000000 in
theorem shapes_any (o : Int) (w : World) :
    Calls Try.prog 39 #[.int .i64 o] w fun e w' => e = .returned (.tuple #[.agg #[.int .i64 (shA o), .int .i64 (shB o), .int .i64 (shC o), .int .i64 (shI o)], .bool (opOk o)]) ∧ Below w.heap.size w w' := by
  rcases two (opOk o) with h | h
  · obtain ⟨s1, s2, s3, s4⟩ := sh_no h
    have HA : Kp ((Value.tuple #[.agg #[.int .i64 0, .int .i64 0, .int .i64 0, .int .i64 0], .bool false]) = .tuple #[.agg #[.int .i64 (shA o), .int .i64 (shB o), .int .i64 (shC o), .int .i64 (shI o)], .bool (opOk o)]) := ⟨by rw [s1, s2, s3, s4, h]⟩
    clear s1 s2 s3 s4
    have n0 := op_ne h 0 (by decide) (by decide)
    have n1 := op_ne h 1 (by decide) (by decide)
    have n2 := op_ne h 2 (by decide) (by decide)
    have n3 := op_ne h 3 (by decide) (by decide)
    have n4 := op_ne h 4 (by decide) (by decide)
    have n5 := op_ne h 5 (by decide) (by decide)
    have n6 := op_ne h 6 (by decide) (by decide)
    have n7 := op_ne h 7 (by decide) (by decide)
    have n8 := op_ne h 8 (by decide) (by decide)
    have n9 := op_ne h 9 (by decide) (by decide)
    have n10 := op_ne h 10 (by decide) (by decide)
    have n11 := op_ne h 11 (by decide) (by decide)
    have n12 := op_ne h 12 (by decide) (by decide)
    have n13 := op_ne h 13 (by decide) (by decide)
    have n14 := op_ne h 14 (by decide) (by decide)
    have n15 := op_ne h 15 (by decide) (by decide)
    have n16 := op_ne h 16 (by decide) (by decide)
    clear h
    go_enter Try.func39, Try.ntmps39
    go_wp2
    refine bodyPost_ret (v := .tuple #[.agg #[.int .i64 0, .int .i64 0, .int .i64 0, .int .i64 0], .bool false]) (by simp only [results, Try.results39]; go_simp) rfl ⟨by rw [HA.out], ?_⟩
    repeat (first | exact Below.refl _ _ | (with_reducible refine Below.setCell ?_ (by first | exact Nat.le_refl _ | (simp; done) | (simp; omega) | omega) _) | (with_reducible refine Below.alloc ?_ (by first | exact Nat.le_refl _ | (simp; done) | (simp; omega) | omega) _) | (with_reducible refine Below.drew ?_) | (with_reducible refine belowN ?_ _) | (with_reducible refine Below.trans ?_ (Below.mono (by assumption) (by first | exact Nat.le_refl _ | (simp; done) | (simp; omega) | omega))))
  · have hc := opOk_cases h
    clear h
    rcases hc with rfl | rfl | rfl | rfl | rfl | rfl | rfl | rfl | rfl | rfl | rfl | rfl | rfl | rfl | rfl | rfl | rfl
    · go_enter Try.func39, Try.ntmps39
      go_wp2
      refine bodyPost_ret (v := .tuple #[.agg #[.int .i64 0, .int .i64 0, .int .i64 0, .int .i64 0], .bool true]) (by simp only [results, Try.results39]; go_simp) rfl ⟨rfl, ?_⟩
      repeat (first | exact Below.refl _ _ | (with_reducible refine Below.setCell ?_ (by first | exact Nat.le_refl _ | (simp; done) | (simp; omega) | omega) _) | (with_reducible refine Below.alloc ?_ (by first | exact Nat.le_refl _ | (simp; done) | (simp; omega) | omega) _) | (with_reducible refine Below.drew ?_) | (with_reducible refine belowN ?_ _) | (with_reducible refine Below.trans ?_ (Below.mono (by assumption) (by first | exact Nat.le_refl _ | (simp; done) | (simp; omega) | omega))))
    · go_enter Try.func39, Try.ntmps39
      go_wp2
      refine bodyPost_ret (v := .tuple #[.agg #[.int .i64 1, .int .i64 0, .int .i64 0, .int .i64 4], .bool true]) (by simp only [results, Try.results39]; go_simp) rfl ⟨rfl, ?_⟩
      repeat (first | exact Below.refl _ _ | (with_reducible refine Below.setCell ?_ (by first | exact Nat.le_refl _ | (simp; done) | (simp; omega) | omega) _) | (with_reducible refine Below.alloc ?_ (by first | exact Nat.le_refl _ | (simp; done) | (simp; omega) | omega) _) | (with_reducible refine Below.drew ?_) | (with_reducible refine belowN ?_ _) | (with_reducible refine Below.trans ?_ (Below.mono (by assumption) (by first | exact Nat.le_refl _ | (simp; done) | (simp; omega) | omega))))
    · go_enter Try.func39, Try.ntmps39
      go_wp2
      refine bodyPost_ret (v := .tuple #[.agg #[.int .i64 1, .int .i64 1, .int .i64 1, .int .i64 0], .bool true]) (by simp only [results, Try.results39]; go_simp) rfl ⟨rfl, ?_⟩
      repeat (first | exact Below.refl _ _ | (with_reducible refine Below.setCell ?_ (by first | exact Nat.le_refl _ | (simp; done) | (simp; omega) | omega) _) | (with_reducible refine Below.alloc ?_ (by first | exact Nat.le_refl _ | (simp; done) | (simp; omega) | omega) _) | (with_reducible refine Below.drew ?_) | (with_reducible refine belowN ?_ _) | (with_reducible refine Below.trans ?_ (Below.mono (by assumption) (by first | exact Nat.le_refl _ | (simp; done) | (simp; omega) | omega))))
    · go_enter Try.func39, Try.ntmps39
      go_wp2
      refine bodyPost_ret (v := .tuple #[.agg #[.int .i64 1, .int .i64 1, .int .i64 1, .int .i64 0], .bool true]) (by simp only [results, Try.results39]; go_simp) rfl ⟨rfl, ?_⟩
      repeat (first | exact Below.refl _ _ | (with_reducible refine Below.setCell ?_ (by first | exact Nat.le_refl _ | (simp; done) | (simp; omega) | omega) _) | (with_reducible refine Below.alloc ?_ (by first | exact Nat.le_refl _ | (simp; done) | (simp; omega) | omega) _) | (with_reducible refine Below.drew ?_) | (with_reducible refine belowN ?_ _) | (with_reducible refine Below.trans ?_ (Below.mono (by assumption) (by first | exact Nat.le_refl _ | (simp; done) | (simp; omega) | omega))))
    · go_enter Try.func39, Try.ntmps39
      go_wp2
      refine bodyPost_ret (v := .tuple #[.agg #[.int .i64 1, .int .i64 1, .int .i64 0, .int .i64 4], .bool true]) (by simp only [results, Try.results39]; go_simp) rfl ⟨rfl, ?_⟩
      repeat (first | exact Below.refl _ _ | (with_reducible refine Below.setCell ?_ (by first | exact Nat.le_refl _ | (simp; done) | (simp; omega) | omega) _) | (with_reducible refine Below.alloc ?_ (by first | exact Nat.le_refl _ | (simp; done) | (simp; omega) | omega) _) | (with_reducible refine Below.drew ?_) | (with_reducible refine belowN ?_ _) | (with_reducible refine Below.trans ?_ (Below.mono (by assumption) (by first | exact Nat.le_refl _ | (simp; done) | (simp; omega) | omega))))
    · go_enter Try.func39, Try.ntmps39
      go_wp2
      refine bodyPost_ret (v := .tuple #[.agg #[.int .i64 1, .int .i64 1, .int .i64 0, .int .i64 4], .bool true]) (by simp only [results, Try.results39]; go_simp) rfl ⟨rfl, ?_⟩
      repeat (first | exact Below.refl _ _ | (with_reducible refine Below.setCell ?_ (by first | exact Nat.le_refl _ | (simp; done) | (simp; omega) | omega) _) | (with_reducible refine Below.alloc ?_ (by first | exact Nat.le_refl _ | (simp; done) | (simp; omega) | omega) _) | (with_reducible refine Below.drew ?_) | (with_reducible refine belowN ?_ _) | (with_reducible refine Below.trans ?_ (Below.mono (by assumption) (by first | exact Nat.le_refl _ | (simp; done) | (simp; omega) | omega))))
    · go_enter Try.func39, Try.ntmps39
      go_wp2
      refine bodyPost_ret (v := .tuple #[.agg #[.int .i64 1, .int .i64 1, .int .i64 0, .int .i64 4], .bool true]) (by simp only [results, Try.results39]; go_simp) rfl ⟨rfl, ?_⟩
      repeat (first | exact Below.refl _ _ | (with_reducible refine Below.setCell ?_ (by first | exact Nat.le_refl _ | (simp; done) | (simp; omega) | omega) _) | (with_reducible refine Below.alloc ?_ (by first | exact Nat.le_refl _ | (simp; done) | (simp; omega) | omega) _) | (with_reducible refine Below.drew ?_) | (with_reducible refine belowN ?_ _) | (with_reducible refine Below.trans ?_ (Below.mono (by assumption) (by first | exact Nat.le_refl _ | (simp; done) | (simp; omega) | omega))))
    · go_enter Try.func39, Try.ntmps39
      go_wp2
      refine bodyPost_ret (v := .tuple #[.agg #[.int .i64 1, .int .i64 0, .int .i64 0, .int .i64 4], .bool true]) (by simp only [results, Try.results39]; go_simp) rfl ⟨rfl, ?_⟩
      repeat (first | exact Below.refl _ _ | (with_reducible refine Below.setCell ?_ (by first | exact Nat.le_refl _ | (simp; done) | (simp; omega) | omega) _) | (with_reducible refine Below.alloc ?_ (by first | exact Nat.le_refl _ | (simp; done) | (simp; omega) | omega) _) | (with_reducible refine Below.drew ?_) | (with_reducible refine belowN ?_ _) | (with_reducible refine Below.trans ?_ (Below.mono (by assumption) (by first | exact Nat.le_refl _ | (simp; done) | (simp; omega) | omega))))
    · go_enter Try.func39, Try.ntmps39
      go_wp2
      refine bodyPost_ret (v := .tuple #[.agg #[.int .i64 2, .int .i64 2, .int .i64 2, .int .i64 0], .bool true]) (by simp only [results, Try.results39]; go_simp) rfl ⟨rfl, ?_⟩
      repeat (first | exact Below.refl _ _ | (with_reducible refine Below.setCell ?_ (by first | exact Nat.le_refl _ | (simp; done) | (simp; omega) | omega) _) | (with_reducible refine Below.alloc ?_ (by first | exact Nat.le_refl _ | (simp; done) | (simp; omega) | omega) _) | (with_reducible refine Below.drew ?_) | (with_reducible refine belowN ?_ _) | (with_reducible refine Below.trans ?_ (Below.mono (by assumption) (by first | exact Nat.le_refl _ | (simp; done) | (simp; omega) | omega))))
    · go_enter Try.func39, Try.ntmps39
      go_wp2
      refine bodyPost_ret (v := .tuple #[.agg #[.int .i64 2, .int .i64 2, .int .i64 0, .int .i64 2], .bool true]) (by simp only [results, Try.results39]; go_simp) rfl ⟨rfl, ?_⟩
      repeat (first | exact Below.refl _ _ | (with_reducible refine Below.setCell ?_ (by first | exact Nat.le_refl _ | (simp; done) | (simp; omega) | omega) _) | (with_reducible refine Below.alloc ?_ (by first | exact Nat.le_refl _ | (simp; done) | (simp; omega) | omega) _) | (with_reducible refine Below.drew ?_) | (with_reducible refine belowN ?_ _) | (with_reducible refine Below.trans ?_ (Below.mono (by assumption) (by first | exact Nat.le_refl _ | (simp; done) | (simp; omega) | omega))))
    · go_enter Try.func39, Try.ntmps39
      go_wp2
      refine bodyPost_ret (v := .tuple #[.agg #[.int .i64 2, .int .i64 2, .int .i64 3, .int .i64 5], .bool true]) (by simp only [results, Try.results39]; go_simp) rfl ⟨rfl, ?_⟩
      repeat (first | exact Below.refl _ _ | (with_reducible refine Below.setCell ?_ (by first | exact Nat.le_refl _ | (simp; done) | (simp; omega) | omega) _) | (with_reducible refine Below.alloc ?_ (by first | exact Nat.le_refl _ | (simp; done) | (simp; omega) | omega) _) | (with_reducible refine Below.drew ?_) | (with_reducible refine belowN ?_ _) | (with_reducible refine Below.trans ?_ (Below.mono (by assumption) (by first | exact Nat.le_refl _ | (simp; done) | (simp; omega) | omega))))
    · go_enter Try.func39, Try.ntmps39
      go_wp2
      refine bodyPost_ret (v := .tuple #[.agg #[.int .i64 2, .int .i64 2, .int .i64 0, .int .i64 6], .bool true]) (by simp only [results, Try.results39]; go_simp) rfl ⟨rfl, ?_⟩
      repeat (first | exact Below.refl _ _ | (with_reducible refine Below.setCell ?_ (by first | exact Nat.le_refl _ | (simp; done) | (simp; omega) | omega) _) | (with_reducible refine Below.alloc ?_ (by first | exact Nat.le_refl _ | (simp; done) | (simp; omega) | omega) _) | (with_reducible refine Below.drew ?_) | (with_reducible refine belowN ?_ _) | (with_reducible refine Below.trans ?_ (Below.mono (by assumption) (by first | exact Nat.le_refl _ | (simp; done) | (simp; omega) | omega))))
    · go_enter Try.func39, Try.ntmps39
      go_wp2
      refine bodyPost_ret (v := .tuple #[.agg #[.int .i64 2, .int .i64 2, .int .i64 0, .int .i64 0], .bool true]) (by simp only [results, Try.results39]; go_simp) rfl ⟨rfl, ?_⟩
      repeat (first | exact Below.refl _ _ | (with_reducible refine Below.setCell ?_ (by first | exact Nat.le_refl _ | (simp; done) | (simp; omega) | omega) _) | (with_reducible refine Below.alloc ?_ (by first | exact Nat.le_refl _ | (simp; done) | (simp; omega) | omega) _) | (with_reducible refine Below.drew ?_) | (with_reducible refine belowN ?_ _) | (with_reducible refine Below.trans ?_ (Below.mono (by assumption) (by first | exact Nat.le_refl _ | (simp; done) | (simp; omega) | omega))))
    · go_enter Try.func39, Try.ntmps39
      go_wp2
      refine bodyPost_ret (v := .tuple #[.agg #[.int .i64 2, .int .i64 2, .int .i64 0, .int .i64 7], .bool true]) (by simp only [results, Try.results39]; go_simp) rfl ⟨rfl, ?_⟩
      repeat (first | exact Below.refl _ _ | (with_reducible refine Below.setCell ?_ (by first | exact Nat.le_refl _ | (simp; done) | (simp; omega) | omega) _) | (with_reducible refine Below.alloc ?_ (by first | exact Nat.le_refl _ | (simp; done) | (simp; omega) | omega) _) | (with_reducible refine Below.drew ?_) | (with_reducible refine belowN ?_ _) | (with_reducible refine Below.trans ?_ (Below.mono (by assumption) (by first | exact Nat.le_refl _ | (simp; done) | (simp; omega) | omega))))
    · go_enter Try.func39, Try.ntmps39
      go_wp2
      refine bodyPost_ret (v := .tuple #[.agg #[.int .i64 2, .int .i64 2, .int .i64 0, .int .i64 0], .bool true]) (by simp only [results, Try.results39]; go_simp) rfl ⟨rfl, ?_⟩
      repeat (first | exact Below.refl _ _ | (with_reducible refine Below.setCell ?_ (by first | exact Nat.le_refl _ | (simp; done) | (simp; omega) | omega) _) | (with_reducible refine Below.alloc ?_ (by first | exact Nat.le_refl _ | (simp; done) | (simp; omega) | omega) _) | (with_reducible refine Below.drew ?_) | (with_reducible refine belowN ?_ _) | (with_reducible refine Below.trans ?_ (Below.mono (by assumption) (by first | exact Nat.le_refl _ | (simp; done) | (simp; omega) | omega))))
    · go_enter Try.func39, Try.ntmps39
      go_wp2
      refine bodyPost_ret (v := .tuple #[.agg #[.int .i64 0, .int .i64 2, .int .i64 0, .int .i64 0], .bool true]) (by simp only [results, Try.results39]; go_simp) rfl ⟨rfl, ?_⟩
      repeat (first | exact Below.refl _ _ | (with_reducible refine Below.setCell ?_ (by first | exact Nat.le_refl _ | (simp; done) | (simp; omega) | omega) _) | (with_reducible refine Below.alloc ?_ (by first | exact Nat.le_refl _ | (simp; done) | (simp; omega) | omega) _) | (with_reducible refine Below.drew ?_) | (with_reducible refine belowN ?_ _) | (with_reducible refine Below.trans ?_ (Below.mono (by assumption) (by first | exact Nat.le_refl _ | (simp; done) | (simp; omega) | omega))))
    · go_enter Try.func39, Try.ntmps39
      go_wp2
      refine bodyPost_ret (v := .tuple #[.agg #[.int .i64 0, .int .i64 0, .int .i64 0, .int .i64 0], .bool true]) (by simp only [results, Try.results39]; go_simp) rfl ⟨rfl, ?_⟩
      repeat (first | exact Below.refl _ _ | (with_reducible refine Below.setCell ?_ (by first | exact Nat.le_refl _ | (simp; done) | (simp; omega) | omega) _) | (with_reducible refine Below.alloc ?_ (by first | exact Nat.le_refl _ | (simp; done) | (simp; omega) | omega) _) | (with_reducible refine Below.drew ?_) | (with_reducible refine belowN ?_ _) | (with_reducible refine Below.trans ?_ (Below.mono (by assumption) (by first | exact Nat.le_refl _ | (simp; done) | (simp; omega) | omega))))

end Go.Proofs.Ytnmdhlemenjdiab
