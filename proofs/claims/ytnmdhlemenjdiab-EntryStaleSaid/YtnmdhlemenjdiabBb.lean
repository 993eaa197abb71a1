/- The walks of package entry, on: End, Open. -/
import Derived.Test.YtnmdhlemenjdiabEw
namespace Go.Proofs.Ytnmdhlemenjdiab
open Go.RowKit
set_option linter.unusedSimpArgs false
set_option linter.unusedVariables false

theorem open_any (k v l : Int) (w : World) :
    Calls Try.prog 21 #[.agg #[.int .i64 k, .int .i64 v, .int .i64 l]] w fun e w' => e = .returned (.bool (isOpen k v)) ∧ Below w.heap.size w w' := by
  rcases two (k == 0) with h | h
  · go_enter Try.func21, Try.ntmps21
    go_wp2
    go_ret
    exact ⟨ret_bool (by simp [isOpen, *]), (Below.refl _ _).alloc (Nat.le_refl _) _⟩
  · go_enter Try.func21, Try.ntmps21
    go_wp2
    go_ret
    exact ⟨ret_bool (by simp [isOpen, *]), (Below.refl _ _).alloc (Nat.le_refl _) _⟩

theorem end_any (k v l : Int) (w : World) (h0 : 0 ≤ v) (h1 : v ≤ 16777215) :
    Calls Try.prog 20 #[.agg #[.int .i64 k, .int .i64 v, .int .i64 l]] w fun e w' => e = .returned (.tuple #[.agg #[.int .i64 0, .int .i64 (enV k v), .int .i64 0], .int .i64 (enE k)]) ∧ Below w.heap.size w w' := by
  rcases two (k == 0) with h | h
  · have h' : ¬ k = 0 := by simpa using h
    have HE : Kp (enE k = 0) := ⟨by unfold enE; rw [if_neg h']⟩
    by_cases hv : v = 16777215
    · have HV : Kp (enV k v = 16777215) := ⟨by unfold enV nextV; rw [if_neg h', if_pos hv, hv]⟩
      generalize enV k v = X at HV ⊢
      generalize enE k = Y at HE ⊢
      subst hv
      clear h'
      go_enter Try.func20, Try.ntmps20
      go_wp2
      refine bodyPost_ret (v := .tuple #[.agg #[.int .i64 0, .int .i64 X, .int .i64 0], .int .i64 Y]) (by simp only [results, Try.results20, HV.out, HE.out]; go_simp) rfl ⟨rfl, ?_⟩
      repeat (first | exact Below.refl _ _ | (with_reducible refine Below.setCell ?_ (by first | exact Nat.le_refl _ | (simp; done) | (simp; omega) | omega) _) | (with_reducible refine Below.alloc ?_ (by first | exact Nat.le_refl _ | (simp; done) | (simp; omega) | omega) _) | (with_reducible refine Below.drew ?_) | (with_reducible refine belowN ?_ _) | (with_reducible refine Below.trans ?_ (Below.mono (by assumption) (by first | exact Nat.le_refl _ | (simp; done) | (simp; omega) | omega))))
    · have HV : Kp (enV k v = v + 1) := ⟨by unfold enV nextV; rw [if_neg h', if_neg hv]⟩
      have hm : (if (1 : Int) ≤ 16777215 - v then (1 : Int) else 16777215 - v) = 1 := if_pos (by omega)
      have h2 : v + 1 ≤ 16777215 := by omega
      generalize enV k v = X at HV ⊢
      generalize enE k = Y at HE ⊢
      clear h' hv
      go_enter Try.func20, Try.ntmps20
      go_wp2
      refine bodyPost_ret (v := .tuple #[.agg #[.int .i64 0, .int .i64 X, .int .i64 0], .int .i64 Y]) (by simp only [results, Try.results20, HV.out, HE.out]; go_simp) rfl ⟨rfl, ?_⟩
      repeat (first | exact Below.refl _ _ | (with_reducible refine Below.setCell ?_ (by first | exact Nat.le_refl _ | (simp; done) | (simp; omega) | omega) _) | (with_reducible refine Below.alloc ?_ (by first | exact Nat.le_refl _ | (simp; done) | (simp; omega) | omega) _) | (with_reducible refine Below.drew ?_) | (with_reducible refine belowN ?_ _) | (with_reducible refine Below.trans ?_ (Below.mono (by assumption) (by first | exact Nat.le_refl _ | (simp; done) | (simp; omega) | omega))))
  · have h' : k = 0 := by simpa using h
    have HV : Kp (enV k v = 0) := ⟨by unfold enV; rw [if_pos h']⟩
    have HE : Kp (enE k = 30) := ⟨by unfold enE; rw [if_pos h']⟩
    generalize enV k v = X at HV ⊢
    generalize enE k = Y at HE ⊢
    subst h'
    go_enter Try.func20, Try.ntmps20
    go_wp2
    refine bodyPost_ret (v := .tuple #[.agg #[.int .i64 0, .int .i64 X, .int .i64 0], .int .i64 Y]) (by simp only [results, Try.results20, HV.out, HE.out]; go_simp) rfl ⟨rfl, ?_⟩
    repeat (first | exact Below.refl _ _ | (with_reducible refine Below.setCell ?_ (by first | exact Nat.le_refl _ | (simp; done) | (simp; omega) | omega) _) | (with_reducible refine Below.alloc ?_ (by first | exact Nat.le_refl _ | (simp; done) | (simp; omega) | omega) _) | (with_reducible refine Below.drew ?_) | (with_reducible refine belowN ?_ _) | (with_reducible refine Below.trans ?_ (Below.mono (by assumption) (by first | exact Nat.le_refl _ | (simp; done) | (simp; omega) | omega))))

end Go.Proofs.Ytnmdhlemenjdiab
