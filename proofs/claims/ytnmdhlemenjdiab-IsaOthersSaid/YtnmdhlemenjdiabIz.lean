/- The walks of the laws of what instructions do. -/
import Derived.Test.YtnmdhlemenjdiabIb
import Derived.Test.YtnmdhlemenjdiabIp
import Derived.Test.YtnmdhlemenjdiabIs
import Derived.ChangeKeysEq
namespace Go.Proofs.Ytnmdhlemenjdiab
open Go.RowKit
set_option linter.unusedSimpArgs false
set_option linter.unusedVariables false

theorem hold1 {n : Int} (h : hold 1 n = true) : 0 ≤ n ∧ n < 4 := by
  have h' : win n 0 3 = true := h
  have := win_t h'
  omega
theorem regs_a {o a b c m : Int} (h : insMay o a b c m = true) (ho : 1 ≤ o ∧ o ≤ 7) : 0 ≤ a ∧ a < 4 := by
  unfold insMay at h
  simp only [Bool.and_eq_true] at h
  obtain ⟨⟨⟨⟨h1, h2⟩, h3⟩, h4⟩, h5⟩ := h
  have hs : shA o = 1 := by unfold shA; rw [if_pos (by omega)]
  rw [hs] at h2
  exact hold1 h2
theorem regs_b {o a b c m : Int} (h : insMay o a b c m = true) (ho : 2 ≤ o ∧ o ≤ 6) : 0 ≤ b ∧ b < 4 := by
  unfold insMay at h
  simp only [Bool.and_eq_true] at h
  obtain ⟨⟨⟨⟨h1, h2⟩, h3⟩, h4⟩, h5⟩ := h
  have hs : shB o = 1 := by unfold shB; rw [if_pos (by omega)]
  rw [hs] at h3
  exact hold1 h3
theorem regs_c {o a b c m : Int} (h : insMay o a b c m = true) (ho : 2 ≤ o ∧ o ≤ 3) : 0 ≤ c ∧ c < 4 := by
  unfold insMay at h
  simp only [Bool.and_eq_true] at h
  obtain ⟨⟨⟨⟨h1, h2⟩, h3⟩, h4⟩, h5⟩ := h
  have hs : shC o = 1 := by unfold shC; rw [if_pos (by omega)]
  rw [hs] at h4
  exact hold1 h4

theorem eqR (w : World) (A B C D : Int) : (Op.equalIn 10000 50 (.agg #[.int .u64 A, .int .u64 B, .int .u64 C, .int .u64 D]) (.agg #[.int .u64 A, .int .u64 B, .int .u64 C, .int .u64 D])).run Try.prog w = .ok true w := by
  have hu : Try.prog.underlying 50 = some (.array 4 22) := by kernel_rfl
  have hc : Try.prog.cellsOf 22 = 1 := by kernel_rfl
  obtain ⟨i, hi⟩ : ∃ i, Try.prog.info? 22 = some i := Option.isSome_iff_exists.mp (by kernel_rfl)
  rw [show (10000 : Nat) = 9999 + 1 from rfl, run_equalIn_array w 9999 _ _ hu hi, hc]
  simp [Op.eqItems, List.range, List.range.loop, go_sem]

set_option maxHeartbeats 8000000 in
theorem isaDoes (o a b c m r0 r1 r2 r3 pc : Int) (w : World) :
    Calls Try.prog 11 #[.agg #[.int .i64 o, .int .i64 a, .int .i64 b, .int .i64 c, .int .i64 m], .agg #[.int .u64 r0, .int .u64 r1, .int .u64 r2, .int .u64 r3], .int .i64 pc] w fun e w' => e = .returned (.bool true) ∧ Below w.heap.size w w' := by
  rcases two (insMay o a b c m) with h | h
  · obtain ⟨e1, e2⟩ := iWord_no h
    clear h
    go_enter Try.func11, Try.ntmps11
    go_wp2_with (first | (go_at_call 22; (with_reducible refine (shown13 _).mono ?_); rintro e w' ⟨rfl, hb⟩; obtain ⟨hc, hf⟩ := bcell hb; have hz := hb.size; (try simp at hz); (try (have hz1 := Nat.lt_of_succ_le hz; (try (have hz2 := Nat.lt_of_succ_lt hz1; (try (have hz3 := Nat.lt_of_succ_lt hz2)))))); (try (have y0 : w.heap.size < w'.heap.size := by omega)); (try (have y1 : w.heap.size + 1 < w'.heap.size := by omega)); (try (have y2 : w.heap.size ≤ w'.heap.size := by omega)); (try (have y3 : w.heap.size + 1 ≤ w'.heap.size := by omega))) | (go_at_call 24; (with_reducible refine (rword13 _ _ _ _ _ _).mono ?_); rintro e w' ⟨rfl, hb⟩; obtain ⟨hc, hf⟩ := bcell hb; have hz := hb.size; (try simp at hz); (try (have hz1 := Nat.lt_of_succ_le hz; (try (have hz2 := Nat.lt_of_succ_lt hz1; (try (have hz3 := Nat.lt_of_succ_lt hz2)))))); (try (have y0 : w.heap.size < w'.heap.size := by omega)); (try (have y1 : w.heap.size + 1 < w'.heap.size := by omega)); (try (have y2 : w.heap.size ≤ w'.heap.size := by omega)); (try (have y3 : w.heap.size + 1 ≤ w'.heap.size := by omega))))
    go_ret
    refine ⟨rfl, ?_⟩
    repeat (first | exact Below.refl _ _ | (with_reducible refine Below.setCell ?_ (by first | exact Nat.le_refl _ | (simp; done) | (simp; omega) | omega) _) | (with_reducible refine Below.alloc ?_ (by first | exact Nat.le_refl _ | (simp; done) | (simp; omega) | omega) _) | (with_reducible refine Below.drew ?_) | (with_reducible refine belowN ?_ _) | (with_reducible refine Below.trans ?_ (Below.mono (by assumption) (by first | exact Nat.le_refl _ | (simp; done) | (simp; omega) | omega))))
  · obtain ⟨e1, e2⟩ := iWord_yes h
    have ra : 1 ≤ o ∧ o ≤ 3 → 0 ≤ a ∧ a < 4 := fun q => regs_a h (by omega)
    have rbc : 2 ≤ o ∧ o ≤ 3 → (0 ≤ b ∧ b < 4) ∧ (0 ≤ c ∧ c < 4) := fun q => ⟨regs_b h (by omega), regs_c h q⟩
    have rb : 4 ≤ o ∧ o ≤ 6 → 0 ≤ b ∧ b < 4 := fun q => regs_b h (by omega)
    have rn : o = 7 → 0 ≤ a ∧ a < 4 := fun q => regs_a h (by omega)
    clear h
    go_enter Try.func11, Try.ntmps11
    go_wp2_with (first | (go_at_call 22; (with_reducible refine (shown13 _).mono ?_); rintro e w1 ⟨rfl, hb1⟩; obtain ⟨hc1, hf1⟩ := bcell hb1; have hz1 := hb1.size; (try simp at hz1); (try (have hz1 := Nat.lt_of_succ_le hz1; (try (have hz2 := Nat.lt_of_succ_lt hz1; (try (have hz3 := Nat.lt_of_succ_lt hz2))))))) | (go_at_call 24; (with_reducible refine (rword13 _ _ _ _ _ _).mono ?_); rintro e w2 ⟨rfl, hb2⟩; obtain ⟨hc2, hf2⟩ := bcell hb2; have hz2 := hb2.size; (try simp at hz2); (try (have hz1 := Nat.lt_of_succ_le hz2; (try (have hz2 := Nat.lt_of_succ_lt hz1; (try (have hz3 := Nat.lt_of_succ_lt hz2))))))))
    have x0 : w2.cell? ⟨w.heap.size, 0, none⟩ = some (.int .i64 o) := kept hb2 (kept hb1 (by simp))
    have x1 : w2.cell? ⟨w.heap.size, 1, none⟩ = some (.int .i64 a) := kept hb2 (kept hb1 (by simp))
    have x2 : w2.cell? ⟨w.heap.size, 2, none⟩ = some (.int .i64 b) := kept hb2 (kept hb1 (by simp))
    have x3 : w2.cell? ⟨w.heap.size, 3, none⟩ = some (.int .i64 c) := kept hb2 (kept hb1 (by simp))
    have x4 : w2.cell? ⟨w.heap.size, 4, none⟩ = some (.int .i64 m) := kept hb2 (kept hb1 (by simp))
    have x5 : w2.cell? ⟨w.heap.size + 1, 0, none⟩ = some (.int .u64 r0) := kept hb2 (kept hb1 (by simp))
    have x6 : w2.cell? ⟨w.heap.size + 1, 1, none⟩ = some (.int .u64 r1) := kept hb2 (kept hb1 (by simp))
    have x7 : w2.cell? ⟨w.heap.size + 1, 2, none⟩ = some (.int .u64 r2) := kept hb2 (kept hb1 (by simp))
    have x8 : w2.cell? ⟨w.heap.size + 1, 3, none⟩ = some (.int .u64 r3) := kept hb2 (kept hb1 (by simp))
    have hB : Below w.heap.size w w2 := below2 (belowOn (((Below.refl _ _).alloc (Nat.le_refl _) _).alloc (by simp) _) (by simp; omega) hb1) hb2
    clear hc1 hf1 hb1 hc2 hf2 hb2
    have eR := fun w A B C D => eqR w A B C D
    go_region_held3 (fun w' => w'.cell? ⟨w.heap.size, 0, none⟩ = some (.int .i64 o) ∧ w'.cell? ⟨w.heap.size, 1, none⟩ = some (.int .i64 a) ∧ w'.cell? ⟨w.heap.size, 2, none⟩ = some (.int .i64 b) ∧ w'.cell? ⟨w.heap.size, 3, none⟩ = some (.int .i64 c) ∧ w'.cell? ⟨w.heap.size, 4, none⟩ = some (.int .i64 m) ∧ w'.cell? ⟨w.heap.size + 1, 0, none⟩ = some (.int .u64 r0) ∧ w'.cell? ⟨w.heap.size + 1, 1, none⟩ = some (.int .u64 r1) ∧ w'.cell? ⟨w.heap.size + 1, 2, none⟩ = some (.int .u64 r2) ∧ w'.cell? ⟨w.heap.size + 1, 3, none⟩ = some (.int .u64 r3) ∧ Below w.heap.size w w') (first | exact ⟨x0, x1, x2, x3, x4, x5, x6, x7, x8, hB.drew⟩ | (have hs : _ ∧ _ ∧ _ ∧ _ ∧ _ ∧ _ ∧ _ ∧ _ ∧ _ ∧ Below _ _ _ := (by assumption); obtain ⟨s0, s1, s2, s3, s4, s5, s6, s7, s8, s9⟩ := hs; exact ⟨kept hb s0, kept hb s1, kept hb s2, kept hb s3, kept hb s4, kept hb s5, kept hb s6, kept hb s7, kept hb s8, below2 s9 hb⟩))
      (first | (go_at_call 28; refine (alu_any _ _ _ _ _ _ _ _ _ _ ra rbc).mono ?_; rintro e w' ⟨rfl, hb⟩) | (go_at_call 29; refine (ralu_any _ _ _ _ _ _ _ _ _ _ ra rbc).mono ?_; rintro e w' ⟨rfl, hb⟩) | (go_at_call 30; refine (adr_any _ _ _ _ _ _ _ _ _ _ rb).mono ?_; rintro e w' ⟨rfl, hb⟩) | (go_at_call 31; refine (radr_any _ _ _ _ _ _ _ _ _ _ rb).mono ?_; rintro e w' ⟨rfl, hb⟩) | (go_at_call 27; refine (next_any _ _ _ _ _ _ _ _ _ _ _ rn).mono ?_; rintro e w' ⟨rfl, hb⟩) | (go_at_call 32; refine (rnext_any _ _ _ _ _ _ _ _ _ _ _ rn).mono ?_; rintro e w' ⟨rfl, hb⟩))
    go_wp2
    go_ret
    exact ⟨rfl, And.right (And.right (And.right (And.right (And.right (And.right (And.right (And.right (And.right (by assumption)))))))))⟩


end Go.Proofs.Ytnmdhlemenjdiab
