/- The walk of isa.Word. -/
import Derived.Test.YtnmdhlemenjdiabIw
namespace Go.Proofs.Ytnmdhlemenjdiab
open Go.RowKit
set_option linter.unusedSimpArgs false
set_option linter.unusedVariables false

theorem sh_b (o : Int) : (0 ≤ shA o ∧ shA o ≤ 7) ∧ (0 ≤ shB o ∧ shB o ≤ 7) ∧ (0 ≤ shC o ∧ shC o ≤ 7) ∧ (0 ≤ shI o ∧ shI o ≤ 7) := by
  unfold shA shB shC shI
  refine ⟨?_, ?_, ?_, ?_⟩ <;> (repeat' split) <;> omega
set_option maxHeartbeats 4000000 in
theorem iword_any (o a b c m : Int) (w : World) :
    Calls Try.prog 23 #[.agg #[.int .i64 o, .int .i64 a, .int .i64 b, .int .i64 c, .int .i64 m]] w fun e w' => e = .returned (.tuple #[.int .u64 (iWord o a b c m), .int .i64 (iErr o a b c m)]) ∧ Below w.heap.size w w' := by
  obtain ⟨⟨sa0, sa1⟩, ⟨sb0, sb1⟩, ⟨sc0, sc1⟩, ⟨si0, si1⟩⟩ := sh_b o
  go_enter Try.func23, Try.ntmps23
  go_wp2_with (first | (go_at_call 39; (with_reducible refine (shapes_any _ _).mono ?_); rintro e w1 ⟨rfl, hb1⟩; obtain ⟨hc1, hf1⟩ := bcell hb1; have hz1 := hb1.size; simp at hz1; have y1 := Nat.lt_of_succ_le hz1))
  have hx : (w1.alloc (.cells #[.int .i64 (shA o), .int .i64 (shB o), .int .i64 (shC o), .int .i64 (shI o)] 66)).heap[w.heap.size]? = some (.cells #[.int .i64 o, .int .i64 a, .int .i64 b, .int .i64 c, .int .i64 m] 45) := blk_alloc _ (blk_keep hb1 (blk_new w _))
  have hs := blk_new w1 (.cells #[.int .i64 (shA o), .int .i64 (shB o), .int .i64 (shC o), .int .i64 (shI o)] 66)
  have hB : Below w.heap.size w (w1.alloc (.cells #[.int .i64 (shA o), .int .i64 (shB o), .int .i64 (shC o), .int .i64 (shI o)] 66)) := below2 (below2 (below_alloc1 _ _) hb1) (below_alloc1 _ _)
  generalize w1.alloc (.cells #[.int .i64 (shA o), .int .i64 (shB o), .int .i64 (shC o), .int .i64 (shI o)] 66) = W at hx hs hB ⊢
  have x0 : W.cell? ⟨w.heap.size, 0, none⟩ = some (.int .i64 o) := (blk_cell hx 0).trans rfl
  have x1 : W.cell? ⟨w.heap.size, 1, none⟩ = some (.int .i64 a) := (blk_cell hx 1).trans rfl
  have x2 : W.cell? ⟨w.heap.size, 2, none⟩ = some (.int .i64 b) := (blk_cell hx 2).trans rfl
  have x3 : W.cell? ⟨w.heap.size, 3, none⟩ = some (.int .i64 c) := (blk_cell hx 3).trans rfl
  have x4 : W.cell? ⟨w.heap.size, 4, none⟩ = some (.int .i64 m) := (blk_cell hx 4).trans rfl
  have s0 : W.cell? ⟨w1.heap.size, 0, none⟩ = some (.int .i64 (shA o)) := (blk_cell hs 0).trans rfl
  have s1 : W.cell? ⟨w1.heap.size, 1, none⟩ = some (.int .i64 (shB o)) := (blk_cell hs 1).trans rfl
  have s2 : W.cell? ⟨w1.heap.size, 2, none⟩ = some (.int .i64 (shC o)) := (blk_cell hs 2).trans rfl
  have s3 : W.cell? ⟨w1.heap.size, 3, none⟩ = some (.int .i64 (shI o)) := (blk_cell hs 3).trans rfl
  have HB := Kp.mk hB
  clear hb1 hc1 hf1 hz1 y1 hx hs hB
  have i0 : ∀ w, (Instr.index 69 (.agg #[.int .i64 a, .int .i64 b, .int .i64 c, .int .i64 m]) (.int .i64 0)).run Try.prog w = .ok (.int .i64 a) w := fun _ => by kernel_rfl
  have i1 : ∀ w, (Instr.index 69 (.agg #[.int .i64 a, .int .i64 b, .int .i64 c, .int .i64 m]) (.int .i64 1)).run Try.prog w = .ok (.int .i64 b) w := fun _ => by kernel_rfl
  have i2 : ∀ w, (Instr.index 69 (.agg #[.int .i64 a, .int .i64 b, .int .i64 c, .int .i64 m]) (.int .i64 2)).run Try.prog w = .ok (.int .i64 c) w := fun _ => by kernel_rfl
  have i3 : ∀ w, (Instr.index 69 (.agg #[.int .i64 a, .int .i64 b, .int .i64 c, .int .i64 m]) (.int .i64 3)).run Try.prog w = .ok (.int .i64 m) w := fun _ => by kernel_rfl
  go_loop [5, 23] (fun q i => ∃ k : Nat, k ≤ 4 ∧ i = .int .i64 k ∧ q = .bool (upTo o a b c m k)) (fun _ i => 4 - (intOf i).toNat)
  case atStart => exact ⟨0, by decide, rfl, rfl⟩
  case round =>
    obtain ⟨k, hk, rfl, rfl⟩ := hrel
    have hk5 : k = 0 ∨ k = 1 ∨ k = 2 ∨ k = 3 ∨ k = 4 := by omega
    rcases hk5 with rfl | rfl | rfl | rfl | rfl
    · rcases two (upTo o a b c m 0) with h | h
      · rw [h]
        go_wp2
        go_round
        case rel => exact ⟨1, by decide, rfl, by simp [upTo, insMay] at h ⊢; simp_all⟩
        case measure => simp [intOf]
      · rw [h]
        go_wp2_with (first | (go_at_call 40; (with_reducible refine (holds_any _ _ _ sa0 sa1).mono ?_); rintro e w' ⟨rfl, rfl⟩))
        go_round
        case rel => exact ⟨1, by decide, rfl, by simp [upTo, insMay] at h ⊢; simp_all⟩
        case measure => simp [intOf]
    · rcases two (upTo o a b c m 1) with h | h
      · rw [h]
        go_wp2
        go_round
        case rel => exact ⟨2, by decide, rfl, by simp [upTo, insMay] at h ⊢; simp_all⟩
        case measure => simp [intOf]
      · rw [h]
        go_wp2_with (first | (go_at_call 40; (with_reducible refine (holds_any _ _ _ sb0 sb1).mono ?_); rintro e w' ⟨rfl, rfl⟩))
        go_round
        case rel => exact ⟨2, by decide, rfl, by simp [upTo, insMay] at h ⊢; simp_all⟩
        case measure => simp [intOf]
    · rcases two (upTo o a b c m 2) with h | h
      · rw [h]
        go_wp2
        go_round
        case rel => exact ⟨3, by decide, rfl, by simp [upTo, insMay] at h ⊢; simp_all⟩
        case measure => simp [intOf]
      · rw [h]
        go_wp2_with (first | (go_at_call 40; (with_reducible refine (holds_any _ _ _ sc0 sc1).mono ?_); rintro e w' ⟨rfl, rfl⟩))
        go_round
        case rel => exact ⟨3, by decide, rfl, by simp [upTo, insMay] at h ⊢; simp_all⟩
        case measure => simp [intOf]
    · rcases two (upTo o a b c m 3) with h | h
      · rw [h]
        go_wp2
        go_round
        case rel => exact ⟨4, by decide, rfl, by simp [upTo, insMay] at h ⊢; simp_all⟩
        case measure => simp [intOf]
      · rw [h]
        go_wp2_with (first | (go_at_call 40; (with_reducible refine (holds_any _ _ _ si0 si1).mono ?_); rintro e w' ⟨rfl, rfl⟩))
        go_round
        case rel => exact ⟨4, by decide, rfl, by simp [upTo, insMay] at h ⊢; simp_all⟩
        case measure => simp [intOf]
    · rcases two (insMay o a b c m) with h | h
      · obtain ⟨e1, e2⟩ := iWord_no h
        have E1 := Kp.mk e1
        have E2 := Kp.mk e2
        clear e1 e2
        rw [show upTo o a b c m 4 = false from h]
        go_wp2
        go_ret2
        exact ⟨ret_int2 E1.out.symm E2.out.symm, HB.out⟩
      · obtain ⟨e1, e2⟩ := iWord_yes h
        rw [show upTo o a b c m 4 = true from h]
        obtain ⟨⟨o0, o1⟩, ⟨a0, a1⟩, ⟨b0, b1⟩, ⟨c0, c1⟩, ⟨m0, m1⟩⟩ := insMay_t h
        have hor := insSum_or h
        have E1 := Kp.mk (hor.trans e1.symm)
        have E2 := Kp.mk e2
        clear hor e1 e2 h
        go_wp2
        go_ret2
        exact ⟨ret_int2 (by rw [← E1.out]) E2.out.symm, HB.out⟩

end Go.Proofs.Ytnmdhlemenjdiab
