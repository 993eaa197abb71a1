/- The walk of the reference's Next. -/
import Derived.Test.YtnmdhlemenjdiabIn
namespace Go.Proofs.Ytnmdhlemenjdiab
open Go.RowKit
set_option linter.unusedSimpArgs false
set_option linter.unusedVariables false
set_option maxHeartbeats 4000000 in
theorem rnext_any (o a b c m pc : Int) (r0 r1 r2 r3 : Int) (w : World) (ha : o = 7 → 0 ≤ a ∧ a < 4) :
    Calls Try.prog 32 #[.agg #[.int .i64 o, .int .i64 a, .int .i64 b, .int .i64 c, .int .i64 m], .agg #[.int .u64 r0, .int .u64 r1, .int .u64 r2, .int .u64 r3], .int .i64 pc] w fun e w' => e = .returned (.int .u64 (nxt o (rAt r0 r1 r2 r3 a) m pc)) ∧ Below w.heap.size w w' := by
  by_cases ho : o = 7
  · obtain ⟨a0, a1⟩ := ha ho
    clear ha
    subst ho
    have hc : a = 0 ∨ a = 1 ∨ a = 2 ∨ a = 3 := by omega
    clear a0 a1
    rcases hc with rfl | rfl | rfl | rfl
    · rcases two (r0 != 0) with hr | hr
      · have hr' : r0 = 0 := by simpa using hr
        have HN : Kp (nxt 7 (rAt r0 r1 r2 r3 0) m pc = nOther pc) := ⟨by show nJump r0 m pc = _; unfold nJump; rw [if_pos hr']⟩
        generalize nxt 7 (rAt r0 r1 r2 r3 0) m pc = X at HN ⊢
        clear hr'
        go_enter Try.func32, Try.ntmps32
        go_wp2
        go_ret
        exact ⟨ret_int (by first | exact HN.out.symm | (rw [HN.out]; rfl)), (((Below.refl _ _).alloc (Nat.le_refl _) _).alloc (by simp) _)⟩
      · have hr' : ¬ r0 = 0 := by simpa using hr
        have HN : Kp (nxt 7 (rAt r0 r1 r2 r3 0) m pc = IntKind.u64.wrap m) := ⟨by show nJump r0 m pc = _; unfold nJump; rw [if_neg hr']⟩
        generalize nxt 7 (rAt r0 r1 r2 r3 0) m pc = X at HN ⊢
        clear hr'
        go_enter Try.func32, Try.ntmps32
        go_wp2
        go_ret
        exact ⟨ret_int (by first | exact HN.out.symm | (rw [HN.out]; rfl)), (((Below.refl _ _).alloc (Nat.le_refl _) _).alloc (by simp) _)⟩
    · rcases two (r1 != 0) with hr | hr
      · have hr' : r1 = 0 := by simpa using hr
        have HN : Kp (nxt 7 (rAt r0 r1 r2 r3 1) m pc = nOther pc) := ⟨by show nJump r1 m pc = _; unfold nJump; rw [if_pos hr']⟩
        generalize nxt 7 (rAt r0 r1 r2 r3 1) m pc = X at HN ⊢
        clear hr'
        go_enter Try.func32, Try.ntmps32
        go_wp2
        go_ret
        exact ⟨ret_int (by first | exact HN.out.symm | (rw [HN.out]; rfl)), (((Below.refl _ _).alloc (Nat.le_refl _) _).alloc (by simp) _)⟩
      · have hr' : ¬ r1 = 0 := by simpa using hr
        have HN : Kp (nxt 7 (rAt r0 r1 r2 r3 1) m pc = IntKind.u64.wrap m) := ⟨by show nJump r1 m pc = _; unfold nJump; rw [if_neg hr']⟩
        generalize nxt 7 (rAt r0 r1 r2 r3 1) m pc = X at HN ⊢
        clear hr'
        go_enter Try.func32, Try.ntmps32
        go_wp2
        go_ret
        exact ⟨ret_int (by first | exact HN.out.symm | (rw [HN.out]; rfl)), (((Below.refl _ _).alloc (Nat.le_refl _) _).alloc (by simp) _)⟩
    · rcases two (r2 != 0) with hr | hr
      · have hr' : r2 = 0 := by simpa using hr
        have HN : Kp (nxt 7 (rAt r0 r1 r2 r3 2) m pc = nOther pc) := ⟨by show nJump r2 m pc = _; unfold nJump; rw [if_pos hr']⟩
        generalize nxt 7 (rAt r0 r1 r2 r3 2) m pc = X at HN ⊢
        clear hr'
        go_enter Try.func32, Try.ntmps32
        go_wp2
        go_ret
        exact ⟨ret_int (by first | exact HN.out.symm | (rw [HN.out]; rfl)), (((Below.refl _ _).alloc (Nat.le_refl _) _).alloc (by simp) _)⟩
      · have hr' : ¬ r2 = 0 := by simpa using hr
        have HN : Kp (nxt 7 (rAt r0 r1 r2 r3 2) m pc = IntKind.u64.wrap m) := ⟨by show nJump r2 m pc = _; unfold nJump; rw [if_neg hr']⟩
        generalize nxt 7 (rAt r0 r1 r2 r3 2) m pc = X at HN ⊢
        clear hr'
        go_enter Try.func32, Try.ntmps32
        go_wp2
        go_ret
        exact ⟨ret_int (by first | exact HN.out.symm | (rw [HN.out]; rfl)), (((Below.refl _ _).alloc (Nat.le_refl _) _).alloc (by simp) _)⟩
    · rcases two (r3 != 0) with hr | hr
      · have hr' : r3 = 0 := by simpa using hr
        have HN : Kp (nxt 7 (rAt r0 r1 r2 r3 3) m pc = nOther pc) := ⟨by show nJump r3 m pc = _; unfold nJump; rw [if_pos hr']⟩
        generalize nxt 7 (rAt r0 r1 r2 r3 3) m pc = X at HN ⊢
        clear hr'
        go_enter Try.func32, Try.ntmps32
        go_wp2
        go_ret
        exact ⟨ret_int (by first | exact HN.out.symm | (rw [HN.out]; rfl)), (((Below.refl _ _).alloc (Nat.le_refl _) _).alloc (by simp) _)⟩
      · have hr' : ¬ r3 = 0 := by simpa using hr
        have HN : Kp (nxt 7 (rAt r0 r1 r2 r3 3) m pc = IntKind.u64.wrap m) := ⟨by show nJump r3 m pc = _; unfold nJump; rw [if_neg hr']⟩
        generalize nxt 7 (rAt r0 r1 r2 r3 3) m pc = X at HN ⊢
        clear hr'
        go_enter Try.func32, Try.ntmps32
        go_wp2
        go_ret
        exact ⟨ret_int (by first | exact HN.out.symm | (rw [HN.out]; rfl)), (((Below.refl _ _).alloc (Nat.le_refl _) _).alloc (by simp) _)⟩
  · have h7 : (o == 7) = false := by simpa using ho
    have HN : Kp (nxt o (rAt r0 r1 r2 r3 a) m pc = nOther pc) := ⟨by unfold nxt; rw [if_neg ho]⟩
    generalize nxt o (rAt r0 r1 r2 r3 a) m pc = X at HN ⊢
    clear ho ha
    go_enter Try.func32, Try.ntmps32
    go_wp2
    go_ret
    exact ⟨ret_int (by first | exact HN.out.symm | (rw [HN.out]; rfl)), (((Below.refl _ _).alloc (Nat.le_refl _) _).alloc (by simp) _)⟩

end Go.Proofs.Ytnmdhlemenjdiab
