/- The walks of isa.Next; the document's examples of instructions. -/
import Derived.Test.YtnmdhlemenjdiabIy
namespace Go.Proofs.Ytnmdhlemenjdiab
open Go.RowKit
set_option linter.unusedSimpArgs false
set_option linter.unusedVariables false

/-- One of four registers. -/
def rAt (r0 r1 r2 r3 a : Int) : Int := if a = 0 then r0 else if a = 1 then r1 else if a = 2 then r2 else r3
/-- The next instruction's address. -/
def nOther (pc : Int) : Int := IntKind.u64.wrap (IntKind.u64.wrap pc + 1)
def nJump (r m pc : Int) : Int := if r = 0 then nOther pc else IntKind.u64.wrap m
def nxt (o r m pc : Int) : Int := if o = 7 then nJump r m pc else nOther pc

set_option maxHeartbeats 4000000 in
theorem next_any (o a b c m pc : Int) (r0 r1 r2 r3 : Int) (w : World) (ha : o = 7 → 0 ≤ a ∧ a < 4) :
    Calls Try.prog 27 #[.agg #[.int .i64 o, .int .i64 a, .int .i64 b, .int .i64 c, .int .i64 m], .agg #[.int .u64 r0, .int .u64 r1, .int .u64 r2, .int .u64 r3], .int .i64 pc] w fun e w' => e = .returned (.int .u64 (nxt o (rAt r0 r1 r2 r3 a) m pc)) ∧ Below w.heap.size w w' := by
  by_cases ho : o = 7
  · obtain ⟨a0, a1⟩ := ha ho
    clear ha
    subst ho
    have hc : a = 0 ∨ a = 1 ∨ a = 2 ∨ a = 3 := by omega
    clear a0 a1
    rcases hc with rfl | rfl | rfl | rfl
    · rcases two (r0 != 0) with hr | hr
      · have hr' : r0 = 0 := by simpa using hr
        have HN : Kp (nxt 7 (rAt r0 r1 r2 r3 0) m pc = nOther pc) := ⟨by show nJump r0 m pc = _; unfold nJump; rw [if_pos hr']⟩
        generalize nxt 7 (rAt r0 r1 r2 r3 0) m pc = X at HN ⊢
        clear hr'
        go_enter Try.func27, Try.ntmps27
        go_wp2
        go_ret
        exact ⟨ret_int (by first | exact HN.out.symm | (rw [HN.out]; rfl)), (((Below.refl _ _).alloc (Nat.le_refl _) _).alloc (by simp) _)⟩
      · have hr' : ¬ r0 = 0 := by simpa using hr
        have HN : Kp (nxt 7 (rAt r0 r1 r2 r3 0) m pc = IntKind.u64.wrap m) := ⟨by show nJump r0 m pc = _; unfold nJump; rw [if_neg hr']⟩
        generalize nxt 7 (rAt r0 r1 r2 r3 0) m pc = X at HN ⊢
        clear hr'
        go_enter Try.func27, Try.ntmps27
        go_wp2
        go_ret
        exact ⟨ret_int (by first | exact HN.out.symm | (rw [HN.out]; rfl)), (((Below.refl _ _).alloc (Nat.le_refl _) _).alloc (by simp) _)⟩
    · rcases two (r1 != 0) with hr | hr
      · have hr' : r1 = 0 := by simpa using hr
        have HN : Kp (nxt 7 (rAt r0 r1 r2 r3 1) m pc = nOther pc) := ⟨by show nJump r1 m pc = _; unfold nJump; rw [if_pos hr']⟩
        generalize nxt 7 (rAt r0 r1 r2 r3 1) m pc = X at HN ⊢
        clear hr'
        go_enter Try.func27, Try.ntmps27
        go_wp2
        go_ret
        exact ⟨ret_int (by first | exact HN.out.symm | (rw [HN.out]; rfl)), (((Below.refl _ _).alloc (Nat.le_refl _) _).alloc (by simp) _)⟩
      · have hr' : ¬ r1 = 0 := by simpa using hr
        have HN : Kp (nxt 7 (rAt r0 r1 r2 r3 1) m pc = IntKind.u64.wrap m) := ⟨by show nJump r1 m pc = _; unfold nJump; rw [if_neg hr']⟩
        generalize nxt 7 (rAt r0 r1 r2 r3 1) m pc = X at HN ⊢
        clear hr'
        go_enter Try.func27, Try.ntmps27
        go_wp2
        go_ret
        exact ⟨ret_int (by first | exact HN.out.symm | (rw [HN.out]; rfl)), (((Below.refl _ _).alloc (Nat.le_refl _) _).alloc (by simp) _)⟩
    · rcases two (r2 != 0) with hr | hr
      · have hr' : r2 = 0 := by simpa using hr
        have HN : Kp (nxt 7 (rAt r0 r1 r2 r3 2) m pc = nOther pc) := ⟨by show nJump r2 m pc = _; unfold nJump; rw [if_pos hr']⟩
        generalize nxt 7 (rAt r0 r1 r2 r3 2) m pc = X at HN ⊢
        clear hr'
        go_enter Try.func27, Try.ntmps27
        go_wp2
        go_ret
        exact ⟨ret_int (by first | exact HN.out.symm | (rw [HN.out]; rfl)), (((Below.refl _ _).alloc (Nat.le_refl _) _).alloc (by simp) _)⟩
      · have hr' : ¬ r2 = 0 := by simpa using hr
        have HN : Kp (nxt 7 (rAt r0 r1 r2 r3 2) m pc = IntKind.u64.wrap m) := ⟨by show nJump r2 m pc = _; unfold nJump; rw [if_neg hr']⟩
        generalize nxt 7 (rAt r0 r1 r2 r3 2) m pc = X at HN ⊢
        clear hr'
        go_enter Try.func27, Try.ntmps27
        go_wp2
        go_ret
        exact ⟨ret_int (by first | exact HN.out.symm | (rw [HN.out]; rfl)), (((Below.refl _ _).alloc (Nat.le_refl _) _).alloc (by simp) _)⟩
    · rcases two (r3 != 0) with hr | hr
      · have hr' : r3 = 0 := by simpa using hr
        have HN : Kp (nxt 7 (rAt r0 r1 r2 r3 3) m pc = nOther pc) := ⟨by show nJump r3 m pc = _; unfold nJump; rw [if_pos hr']⟩
        generalize nxt 7 (rAt r0 r1 r2 r3 3) m pc = X at HN ⊢
        clear hr'
        go_enter Try.func27, Try.ntmps27
        go_wp2
        go_ret
        exact ⟨ret_int (by first | exact HN.out.symm | (rw [HN.out]; rfl)), (((Below.refl _ _).alloc (Nat.le_refl _) _).alloc (by simp) _)⟩
      · have hr' : ¬ r3 = 0 := by simpa using hr
        have HN : Kp (nxt 7 (rAt r0 r1 r2 r3 3) m pc = IntKind.u64.wrap m) := ⟨by show nJump r3 m pc = _; unfold nJump; rw [if_neg hr']⟩
        generalize nxt 7 (rAt r0 r1 r2 r3 3) m pc = X at HN ⊢
        clear hr'
        go_enter Try.func27, Try.ntmps27
        go_wp2
        go_ret
        exact ⟨ret_int (by first | exact HN.out.symm | (rw [HN.out]; rfl)), (((Below.refl _ _).alloc (Nat.le_refl _) _).alloc (by simp) _)⟩
  · have h7 : (o == 7) = false := by simpa using ho
    have HN : Kp (nxt o (rAt r0 r1 r2 r3 a) m pc = nOther pc) := ⟨by unfold nxt; rw [if_neg ho]⟩
    generalize nxt o (rAt r0 r1 r2 r3 a) m pc = X at HN ⊢
    clear ho ha
    go_enter Try.func27, Try.ntmps27
    go_wp2
    go_ret
    exact ⟨ret_int (by first | exact HN.out.symm | (rw [HN.out]; rfl)), (((Below.refl _ _).alloc (Nat.le_refl _) _).alloc (by simp) _)⟩

set_option maxHeartbeats 8000000 in
theorem shown13 (w : World) : Calls Try.prog 22 #[] w fun e w' => e = .returned (.bool true) ∧ Below w.heap.size w w' := by
  have f1 : iWord 1 2 0 0 (-1) = 18446744069414584833 := by decide +kernel
  have f2 : iErr 1 2 0 0 (-1) = 0 := by decide +kernel
  have f3 : iOk 17 = false := by decide +kernel
  have f4 : iOk 0 = true := by decide +kernel
  have f5 : uO 0 = 0 ∧ uA 0 = 0 ∧ uB 0 = 0 ∧ uC 0 = 0 ∧ uM 0 = 0 := by decide +kernel
  obtain ⟨f51, f52, f53, f54, f55⟩ := f5
  have f6 : iErr 1 4 0 0 0 = 1 := by decide +kernel
  have f7 : nxt 7 (rAt 0 5 0 0 1) 9 3 = 9 := by decide +kernel
  have f8 : nxt 7 (rAt 0 0 0 0 1) 9 3 = 4 := by decide +kernel
  go_enter Try.func22, Try.ntmps22
  go_wp2_with (first | (go_at_call 23; (with_reducible refine (iword_any _ _ _ _ _ _).mono ?_); rintro e w' ⟨rfl, hb⟩; obtain ⟨hc, hf⟩ := bcell hb; have hz := hb.size; (try simp at hz); (try (have hz1 := Nat.lt_of_succ_le hz; (try (have hz2 := Nat.lt_of_succ_lt hz1; (try (have hz3 := Nat.lt_of_succ_lt hz2)))))); (try (have y0 : w.heap.size < w'.heap.size := by omega)); (try (have y1 : w.heap.size + 1 < w'.heap.size := by omega)); (try (have y2 : w.heap.size ≤ w'.heap.size := by omega)); (try (have y3 : w.heap.size + 1 ≤ w'.heap.size := by omega))) | (go_at_call 25; (with_reducible refine (iof_any _ _ (by decide) (by decide)).mono ?_); rintro e w' ⟨rfl, hb⟩; obtain ⟨hc, hf⟩ := bcell hb; have hz := hb.size; (try simp at hz); (try (have hz1 := Nat.lt_of_succ_le hz; (try (have hz2 := Nat.lt_of_succ_lt hz1; (try (have hz3 := Nat.lt_of_succ_lt hz2)))))); (try (have y0 : w.heap.size < w'.heap.size := by omega)); (try (have y1 : w.heap.size + 1 < w'.heap.size := by omega)); (try (have y2 : w.heap.size ≤ w'.heap.size := by omega)); (try (have y3 : w.heap.size + 1 ≤ w'.heap.size := by omega))) | (go_at_call 27; (with_reducible refine (next_any _ _ _ _ _ _ _ _ _ _ _ (by decide)).mono ?_); rintro e w' ⟨rfl, hb⟩; obtain ⟨hc, hf⟩ := bcell hb; have hz := hb.size; (try simp at hz); (try (have hz1 := Nat.lt_of_succ_le hz; (try (have hz2 := Nat.lt_of_succ_lt hz1; (try (have hz3 := Nat.lt_of_succ_lt hz2)))))); (try (have y0 : w.heap.size < w'.heap.size := by omega)); (try (have y1 : w.heap.size + 1 < w'.heap.size := by omega)); (try (have y2 : w.heap.size ≤ w'.heap.size := by omega)); (try (have y3 : w.heap.size + 1 ≤ w'.heap.size := by omega))))
  go_ret
  refine ⟨rfl, ?_⟩
  repeat (first | exact Below.refl _ _ | (with_reducible refine Below.setCell ?_ (by first | exact Nat.le_refl _ | (simp; done) | (simp; omega) | omega) _) | (with_reducible refine Below.alloc ?_ (by first | exact Nat.le_refl _ | (simp; done) | (simp; omega) | omega) _) | (with_reducible refine Below.drew ?_) | (with_reducible refine belowN ?_ _) | (with_reducible refine Below.trans ?_ (Below.mono (by assumption) (by first | exact Nat.le_refl _ | (simp; done) | (simp; omega) | omega))))

end Go.Proofs.Ytnmdhlemenjdiab
