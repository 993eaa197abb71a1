/- The walk of the law of the other registers. -/
import Derived.Test.YtnmdhlemenjdiabIz
namespace Go.Proofs.Ytnmdhlemenjdiab
open Go.RowKit
set_option linter.unusedSimpArgs false
set_option linter.unusedVariables false

/-- Nothing but the register A is changed. -/
theorem alu_other (o a b c m r0 r1 r2 r3 k r : Int) (h : k ≠ a) : alu o a b c m r0 r1 r2 r3 k r = r := by
  unfold alu
  simp only [if_neg h]
  split <;> (try split) <;> (try split) <;> rfl
theorem alu_own1 (a b c m r0 r1 r2 r3 r : Int) : alu 1 a b c m r0 r1 r2 r3 a r = IntKind.u64.wrap m := by
  unfold alu; rw [if_pos rfl, if_pos rfl]
theorem alu_own2 (a b c m r0 r1 r2 r3 r : Int) : alu 2 a b c m r0 r1 r2 r3 a r = IntKind.u64.wrap (rAt r0 r1 r2 r3 b + rAt r0 r1 r2 r3 c) := by
  unfold alu; rw [if_neg (by decide), if_pos rfl, if_pos rfl]
theorem alu_own3 (a b c m r0 r1 r2 r3 r : Int) : alu 3 a b c m r0 r1 r2 r3 a r = IntKind.u64.wrap (rAt r0 r1 r2 r3 b - rAt r0 r1 r2 r3 c) := by
  unfold alu; rw [if_neg (by decide), if_neg (by decide), if_pos rfl, if_pos rfl]
theorem back_u64 (x y : Int) (h0 : 0 ≤ x) (h1 : x < 18446744073709551616) : IntKind.u64.wrap (IntKind.u64.wrap (x + y) - y) = x := by
  simp only [IntKind.wrap, IntKind.bits, IntKind.signed]
  simp
  omega
theorem rAt_alu (o a b c m r0 r1 r2 r3 k : Int) (h0 : 0 ≤ k) (h4 : k < 4) : rAt (alu o a b c m r0 r1 r2 r3 0 r0) (alu o a b c m r0 r1 r2 r3 1 r1) (alu o a b c m r0 r1 r2 r3 2 r2) (alu o a b c m r0 r1 r2 r3 3 r3) k = alu o a b c m r0 r1 r2 r3 k (rAt r0 r1 r2 r3 k) := by
  have : k = 0 ∨ k = 1 ∨ k = 2 ∨ k = 3 := by omega
  rcases this with rfl | rfl | rfl | rfl <;> rfl
theorem sub_back {a b c m r0 r1 r2 r3 X0 X1 X2 X3 : Int} (ha : 0 ≤ a ∧ a < 4) (hb : 0 ≤ b ∧ b < 4) (hc : 0 ≤ c ∧ c < 4) (hne : a ≠ c)
    (p0 : 0 ≤ r0 ∧ r0 < 18446744073709551616) (p1 : 0 ≤ r1 ∧ r1 < 18446744073709551616) (p2 : 0 ≤ r2 ∧ r2 < 18446744073709551616) (p3 : 0 ≤ r3 ∧ r3 < 18446744073709551616)
    (h0 : alu 2 a b c m r0 r1 r2 r3 0 r0 = X0) (h1 : alu 2 a b c m r0 r1 r2 r3 1 r1 = X1) (h2 : alu 2 a b c m r0 r1 r2 r3 2 r2 = X2) (h3 : alu 2 a b c m r0 r1 r2 r3 3 r3 = X3) (x : Int) :
    alu 3 a a c 0 X0 X1 X2 X3 a x = rAt r0 r1 r2 r3 b := by
  subst h0 h1 h2 h3
  rw [alu_own3, rAt_alu _ _ _ _ _ _ _ _ _ _ ha.1 ha.2, rAt_alu _ _ _ _ _ _ _ _ _ _ hc.1 hc.2, alu_own2, alu_other _ _ _ _ _ _ _ _ _ _ _ (fun e => hne e.symm)]
  have hr : 0 ≤ rAt r0 r1 r2 r3 b ∧ rAt r0 r1 r2 r3 b < 18446744073709551616 := by
    unfold rAt
    split
    · exact p0
    · split
      · exact p1
      · split
        · exact p2
        · exact p3
  exact back_u64 _ _ hr.1 hr.2
theorem alu_is (o a b c m : Int) (r0 r1 r2 r3 : Int) (w : World) (ha : 1 ≤ o ∧ o ≤ 3 → 0 ≤ a ∧ a < 4) (hbc : 2 ≤ o ∧ o ≤ 3 → (0 ≤ b ∧ b < 4) ∧ (0 ≤ c ∧ c < 4)) {X0 X1 X2 X3 : Int}
    (h0 : alu o a b c m r0 r1 r2 r3 0 r0 = X0) (h1 : alu o a b c m r0 r1 r2 r3 1 r1 = X1) (h2 : alu o a b c m r0 r1 r2 r3 2 r2 = X2) (h3 : alu o a b c m r0 r1 r2 r3 3 r3 = X3) :
    Calls Try.prog 28 #[.agg #[.int .i64 o, .int .i64 a, .int .i64 b, .int .i64 c, .int .i64 m], .agg #[.int .u64 r0, .int .u64 r1, .int .u64 r2, .int .u64 r3]] w fun e w' => e = .returned (.agg #[.int .u64 X0, .int .u64 X1, .int .u64 X2, .int .u64 X3]) ∧ Below w.heap.size w w' := by
  subst h0 h1 h2 h3; exact alu_any o a b c m r0 r1 r2 r3 w ha hbc

set_option maxHeartbeats 8000000 in
theorem isaOthers (o a b c m r0 r1 r2 r3 : Int) (w : World) (p0 : 0 ≤ r0 ∧ r0 < 18446744073709551616) (p1 : 0 ≤ r1 ∧ r1 < 18446744073709551616) (p2 : 0 ≤ r2 ∧ r2 < 18446744073709551616) (p3 : 0 ≤ r3 ∧ r3 < 18446744073709551616) :
    Calls Try.prog 10 #[.agg #[.int .i64 o, .int .i64 a, .int .i64 b, .int .i64 c, .int .i64 m], .agg #[.int .u64 r0, .int .u64 r1, .int .u64 r2, .int .u64 r3]] w fun e w' => e = .returned (.bool true) ∧ Below w.heap.size w w' := by
  rcases two (insMay o a b c m) with h | h
  · obtain ⟨e1, e2⟩ := iWord_no h
    clear h
    go_enter Try.func10, Try.ntmps10
    go_wp2_with (first | (go_at_call 22; (with_reducible refine (shown13 _).mono ?_); rintro e w' ⟨rfl, hb⟩; obtain ⟨hc, hf⟩ := bcell hb; have hz := hb.size; (try simp at hz); (try (have hz1 := Nat.lt_of_succ_le hz; (try (have hz2 := Nat.lt_of_succ_lt hz1; (try (have hz3 := Nat.lt_of_succ_lt hz2)))))); (try (have y0 : w.heap.size < w'.heap.size := by omega)); (try (have y1 : w.heap.size + 1 < w'.heap.size := by omega)); (try (have y2 : w.heap.size ≤ w'.heap.size := by omega)); (try (have y3 : w.heap.size + 1 ≤ w'.heap.size := by omega))) | (go_at_call 23; (with_reducible refine (iword_any _ _ _ _ _ _).mono ?_); rintro e w' ⟨rfl, hb⟩; obtain ⟨hc, hf⟩ := bcell hb; have hz := hb.size; (try simp at hz); (try (have hz1 := Nat.lt_of_succ_le hz; (try (have hz2 := Nat.lt_of_succ_lt hz1; (try (have hz3 := Nat.lt_of_succ_lt hz2)))))); (try (have y0 : w.heap.size < w'.heap.size := by omega)); (try (have y1 : w.heap.size + 1 < w'.heap.size := by omega)); (try (have y2 : w.heap.size ≤ w'.heap.size := by omega)); (try (have y3 : w.heap.size + 1 ≤ w'.heap.size := by omega))))
    go_ret
    refine ⟨rfl, ?_⟩
    repeat (first | exact Below.refl _ _ | (with_reducible refine Below.setCell ?_ (by first | exact Nat.le_refl _ | (simp; done) | (simp; omega) | omega) _) | (with_reducible refine Below.alloc ?_ (by first | exact Nat.le_refl _ | (simp; done) | (simp; omega) | omega) _) | (with_reducible refine Below.drew ?_) | (with_reducible refine belowN ?_ _) | (with_reducible refine Below.trans ?_ (Below.mono (by assumption) (by first | exact Nat.le_refl _ | (simp; done) | (simp; omega) | omega))))
  · obtain ⟨e1, e2⟩ := iWord_yes h
    have ra : 1 ≤ o ∧ o ≤ 3 → 0 ≤ a ∧ a < 4 := fun q => regs_a h (by omega)
    have rbc : 2 ≤ o ∧ o ≤ 3 → (0 ≤ b ∧ b < 4) ∧ (0 ≤ c ∧ c < 4) := fun q => ⟨regs_b h (by omega), regs_c h q⟩
    clear h
    obtain ⟨X0, hX0⟩ : ∃ X, alu o a b c m r0 r1 r2 r3 0 r0 = X := ⟨_, rfl⟩
    obtain ⟨X1, hX1⟩ : ∃ X, alu o a b c m r0 r1 r2 r3 1 r1 = X := ⟨_, rfl⟩
    obtain ⟨X2, hX2⟩ : ∃ X, alu o a b c m r0 r1 r2 r3 2 r2 = X := ⟨_, rfl⟩
    obtain ⟨X3, hX3⟩ : ∃ X, alu o a b c m r0 r1 r2 r3 3 r3 = X := ⟨_, rfl⟩
    have F0 : ¬ (0 : Int) = a → X0 = r0 := fun q => hX0.symm.trans (alu_other _ _ _ _ _ _ _ _ _ _ _ q)
    have F1 : ¬ (1 : Int) = a → X1 = r1 := fun q => hX1.symm.trans (alu_other _ _ _ _ _ _ _ _ _ _ _ q)
    have F2 : ¬ (2 : Int) = a → X2 = r2 := fun q => hX2.symm.trans (alu_other _ _ _ _ _ _ _ _ _ _ _ q)
    have F3 : ¬ (3 : Int) = a → X3 = r3 := fun q => hX3.symm.trans (alu_other _ _ _ _ _ _ _ _ _ _ _ q)
    go_enter Try.func10, Try.ntmps10
    go_wp2_with (first | (go_at_call 22; (with_reducible refine (shown13 _).mono ?_); rintro e w1 ⟨rfl, hb1⟩; obtain ⟨hc1, hf1⟩ := bcell hb1; have hz1 := hb1.size; (try simp at hz1); (try (have hz1 := Nat.lt_of_succ_le hz1; (try (have hz2 := Nat.lt_of_succ_lt hz1; (try (have hz3 := Nat.lt_of_succ_lt hz2))))))) | (go_at_call 23; (with_reducible refine (iword_any _ _ _ _ _ _).mono ?_); rintro e w2 ⟨rfl, hb2⟩; obtain ⟨hc2, hf2⟩ := bcell hb2; have hz2 := hb2.size; (try simp at hz2); (try (have hz1 := Nat.lt_of_succ_le hz2; (try (have hz2 := Nat.lt_of_succ_lt hz1; (try (have hz3 := Nat.lt_of_succ_lt hz2))))))) | (go_at_call 28; (with_reducible refine (alu_is _ _ _ _ _ _ _ _ _ _ ra rbc hX0 hX1 hX2 hX3).mono ?_); rintro e w3 ⟨rfl, hb3⟩; obtain ⟨hc3, hf3⟩ := bcell hb3; have hz3 := hb3.size; (try simp at hz3); (try (have hz1 := Nat.lt_of_succ_le hz3; (try (have hz2 := Nat.lt_of_succ_lt hz1; (try (have hz3 := Nat.lt_of_succ_lt hz2))))))))
    have zI : w3.heap[w.heap.size]? = some (.cells #[.int .i64 o, .int .i64 a, .int .i64 b, .int .i64 c, .int .i64 m] 45) := blk_keep hb3 (blk_keep hb2 (blk_keep hb1 (blk_alloc _ (blk_new _ _))))
    have zR : w3.heap[w.heap.size + 1]? = some (.cells #[.int .u64 r0, .int .u64 r1, .int .u64 r2, .int .u64 r3] 50) := blk_keep hb3 (blk_keep hb2 (blk_keep hb1 (by have := blk_new (w.alloc (.cells #[.int .i64 o, .int .i64 a, .int .i64 b, .int .i64 c, .int .i64 m] 45)) (.cells #[.int .u64 r0, .int .u64 r1, .int .u64 r2, .int .u64 r3] 50); simpa using this)))
    have hB3 : Below w.heap.size w w3 := below2 (below2 (below2 (below2 (below_alloc1 _ _) (below_alloc1 _ _)) hb1) hb2) hb3
    clear hc1 hf1 hc2 hf2 hc3 hf3
    go_loopw [9] (fun i wr => ∃ k : Int, (0 ≤ k ∧ k ≤ 4) ∧ i = .int .i64 k ∧ wr.heap[w.heap.size]? = some (.cells #[.int .i64 o, .int .i64 a, .int .i64 b, .int .i64 c, .int .i64 m] 45) ∧ wr.heap[w.heap.size + 1]? = some (.cells #[.int .u64 r0, .int .u64 r1, .int .u64 r2, .int .u64 r3] 50) ∧ wr.heap[w3.heap.size]? = some (.cells #[.int .u64 X0, .int .u64 X1, .int .u64 X2, .int .u64 X3] 50) ∧ Below w.heap.size w wr) (fun i _ => (4 - intOf i).toNat)
    case atStart => exact ⟨0, by omega, rfl, blk_alloc _ zI, blk_alloc _ zR, blk_new _ _, below2 hB3 (below_alloc1 _ _)⟩
    case round =>
      obtain ⟨k, hk, rfl, hI, hR, hX, hB⟩ := hrel
      rename_i wr
      have hk4 : k = 0 ∨ k = 1 ∨ k = 2 ∨ k = 3 ∨ k = 4 := by omega
      clear hk
      rcases hk4 with rfl | rfl | rfl | rfl | rfl
      · rcases two (0 != a) with t | t
        · have c1 : wr.cell? ⟨w.heap.size, 1, none⟩ = some (.int .i64 a) := (blk_cell hI 1).trans rfl
          have cr : wr.cell? ⟨w.heap.size + 1, 0, none⟩ = some (.int .u64 r0) := (blk_cell hR 0).trans rfl
          have cx : wr.cell? ⟨w3.heap.size, 0, none⟩ = some (.int .u64 X0) := (blk_cell hX 0).trans rfl
          go_wp2
          go_region
          go_wp2
          go_roundw
          case rel => exact ⟨1, by omega, rfl, hI, hR, hX, hB.drew⟩
          case measure => simp [intOf]
        · have q : X0 = r0 := F0 (by simpa using t)
          have c1 : wr.cell? ⟨w.heap.size, 1, none⟩ = some (.int .i64 a) := (blk_cell hI 1).trans rfl
          have cr : wr.cell? ⟨w.heap.size + 1, 0, none⟩ = some (.int .u64 r0) := (blk_cell hR 0).trans rfl
          have cx : wr.cell? ⟨w3.heap.size, 0, none⟩ = some (.int .u64 r0) := ((blk_cell hX 0).trans rfl).trans (congrArg (fun z => some (Value.int .u64 z)) q)
          go_wp2
          go_region
          go_wp2
          go_roundw
          case rel => exact ⟨1, by omega, rfl, hI, hR, hX, hB.drew⟩
          case measure => simp [intOf]
      · rcases two (1 != a) with t | t
        · have c1 : wr.cell? ⟨w.heap.size, 1, none⟩ = some (.int .i64 a) := (blk_cell hI 1).trans rfl
          have cr : wr.cell? ⟨w.heap.size + 1, 1, none⟩ = some (.int .u64 r1) := (blk_cell hR 1).trans rfl
          have cx : wr.cell? ⟨w3.heap.size, 1, none⟩ = some (.int .u64 X1) := (blk_cell hX 1).trans rfl
          go_wp2
          go_region
          go_wp2
          go_roundw
          case rel => exact ⟨2, by omega, rfl, hI, hR, hX, hB.drew⟩
          case measure => simp [intOf]
        · have q : X1 = r1 := F1 (by simpa using t)
          have c1 : wr.cell? ⟨w.heap.size, 1, none⟩ = some (.int .i64 a) := (blk_cell hI 1).trans rfl
          have cr : wr.cell? ⟨w.heap.size + 1, 1, none⟩ = some (.int .u64 r1) := (blk_cell hR 1).trans rfl
          have cx : wr.cell? ⟨w3.heap.size, 1, none⟩ = some (.int .u64 r1) := ((blk_cell hX 1).trans rfl).trans (congrArg (fun z => some (Value.int .u64 z)) q)
          go_wp2
          go_region
          go_wp2
          go_roundw
          case rel => exact ⟨2, by omega, rfl, hI, hR, hX, hB.drew⟩
          case measure => simp [intOf]
      · rcases two (2 != a) with t | t
        · have c1 : wr.cell? ⟨w.heap.size, 1, none⟩ = some (.int .i64 a) := (blk_cell hI 1).trans rfl
          have cr : wr.cell? ⟨w.heap.size + 1, 2, none⟩ = some (.int .u64 r2) := (blk_cell hR 2).trans rfl
          have cx : wr.cell? ⟨w3.heap.size, 2, none⟩ = some (.int .u64 X2) := (blk_cell hX 2).trans rfl
          go_wp2
          go_region
          go_wp2
          go_roundw
          case rel => exact ⟨3, by omega, rfl, hI, hR, hX, hB.drew⟩
          case measure => simp [intOf]
        · have q : X2 = r2 := F2 (by simpa using t)
          have c1 : wr.cell? ⟨w.heap.size, 1, none⟩ = some (.int .i64 a) := (blk_cell hI 1).trans rfl
          have cr : wr.cell? ⟨w.heap.size + 1, 2, none⟩ = some (.int .u64 r2) := (blk_cell hR 2).trans rfl
          have cx : wr.cell? ⟨w3.heap.size, 2, none⟩ = some (.int .u64 r2) := ((blk_cell hX 2).trans rfl).trans (congrArg (fun z => some (Value.int .u64 z)) q)
          go_wp2
          go_region
          go_wp2
          go_roundw
          case rel => exact ⟨3, by omega, rfl, hI, hR, hX, hB.drew⟩
          case measure => simp [intOf]
      · rcases two (3 != a) with t | t
        · have c1 : wr.cell? ⟨w.heap.size, 1, none⟩ = some (.int .i64 a) := (blk_cell hI 1).trans rfl
          have cr : wr.cell? ⟨w.heap.size + 1, 3, none⟩ = some (.int .u64 r3) := (blk_cell hR 3).trans rfl
          have cx : wr.cell? ⟨w3.heap.size, 3, none⟩ = some (.int .u64 X3) := (blk_cell hX 3).trans rfl
          go_wp2
          go_region
          go_wp2
          go_roundw
          case rel => exact ⟨4, by omega, rfl, hI, hR, hX, hB.drew⟩
          case measure => simp [intOf]
        · have q : X3 = r3 := F3 (by simpa using t)
          have c1 : wr.cell? ⟨w.heap.size, 1, none⟩ = some (.int .i64 a) := (blk_cell hI 1).trans rfl
          have cr : wr.cell? ⟨w.heap.size + 1, 3, none⟩ = some (.int .u64 r3) := (blk_cell hR 3).trans rfl
          have cx : wr.cell? ⟨w3.heap.size, 3, none⟩ = some (.int .u64 r3) := ((blk_cell hX 3).trans rfl).trans (congrArg (fun z => some (Value.int .u64 z)) q)
          go_wp2
          go_region
          go_wp2
          go_roundw
          case rel => exact ⟨4, by omega, rfl, hI, hR, hX, hB.drew⟩
          case measure => simp [intOf]
      · rcases two (o == 2) with tq | tq
        · have c0 : wr.cell? ⟨w.heap.size, 0, none⟩ = some (.int .i64 o) := (blk_cell hI 0).trans rfl
          have c1 : wr.cell? ⟨w.heap.size, 1, none⟩ = some (.int .i64 a) := (blk_cell hI 1).trans rfl
          have c2 : wr.cell? ⟨w.heap.size, 2, none⟩ = some (.int .i64 b) := (blk_cell hI 2).trans rfl
          have c3 : wr.cell? ⟨w.heap.size, 3, none⟩ = some (.int .i64 c) := (blk_cell hI 3).trans rfl
          go_wp2
          go_ret
          exact ⟨rfl, by first | exact hB.drew | exact hB⟩
        · have ho : o = 2 := by simpa using tq
          subst ho
          obtain ⟨hb, hc⟩ := rbc ⟨by decide, by decide⟩
          obtain ⟨a0, a1⟩ := ra ⟨by decide, by decide⟩
          obtain ⟨b0, b1⟩ := hb
          rcases two (a != c) with ta | ta
          · have c0 : wr.cell? ⟨w.heap.size, 0, none⟩ = some (.int .i64 2) := (blk_cell hI 0).trans rfl
            have c1 : wr.cell? ⟨w.heap.size, 1, none⟩ = some (.int .i64 a) := (blk_cell hI 1).trans rfl
            have c2 : wr.cell? ⟨w.heap.size, 2, none⟩ = some (.int .i64 b) := (blk_cell hI 2).trans rfl
            have c3 : wr.cell? ⟨w.heap.size, 3, none⟩ = some (.int .i64 c) := (blk_cell hI 3).trans rfl
            go_wp2
            go_ret
            exact ⟨rfl, by first | exact hB.drew | exact hB⟩
          · have ha4 : a = 0 ∨ a = 1 ∨ a = 2 ∨ a = 3 := by omega
            have hb4 : b = 0 ∨ b = 1 ∨ b = 2 ∨ b = 3 := by omega
            clear a0 a1 b0 b1 ra rbc F0 F1 F2 F3
            rcases ha4 with rfl | rfl | rfl | rfl
            · rcases hb4 with rfl | rfl | rfl | rfl
              · have c0 : wr.cell? ⟨w.heap.size, 0, none⟩ = some (.int .i64 2) := (blk_cell hI 0).trans rfl
                have c1 : wr.cell? ⟨w.heap.size, 1, none⟩ = some (.int .i64 0) := (blk_cell hI 1).trans rfl
                have c2 : wr.cell? ⟨w.heap.size, 2, none⟩ = some (.int .i64 0) := (blk_cell hI 2).trans rfl
                have c3 : wr.cell? ⟨w.heap.size, 3, none⟩ = some (.int .i64 c) := (blk_cell hI 3).trans rfl
                have x0 : wr.cell? ⟨w3.heap.size, 0, none⟩ = some (.int .u64 X0) := (blk_cell hX 0).trans rfl
                have s0 : wr.cell? ⟨w.heap.size + 1, 0, none⟩ = some (.int .u64 r0) := (blk_cell hR 0).trans rfl
                have x1 : wr.cell? ⟨w3.heap.size, 1, none⟩ = some (.int .u64 X1) := (blk_cell hX 1).trans rfl
                have s1 : wr.cell? ⟨w.heap.size + 1, 1, none⟩ = some (.int .u64 r1) := (blk_cell hR 1).trans rfl
                have x2 : wr.cell? ⟨w3.heap.size, 2, none⟩ = some (.int .u64 X2) := (blk_cell hX 2).trans rfl
                have s2 : wr.cell? ⟨w.heap.size + 1, 2, none⟩ = some (.int .u64 r2) := (blk_cell hR 2).trans rfl
                have x3 : wr.cell? ⟨w3.heap.size, 3, none⟩ = some (.int .u64 X3) := (blk_cell hX 3).trans rfl
                have s3 : wr.cell? ⟨w.heap.size + 1, 3, none⟩ = some (.int .u64 r3) := (blk_cell hR 3).trans rfl
                have hY : alu 3 0 0 c 0 X0 X1 X2 X3 0 X0 = r0 := sub_back ⟨by decide, by decide⟩ ⟨by decide, by decide⟩ hc (by simpa using ta) p0 p1 p2 p3 hX0 hX1 hX2 hX3 X0
                have hY1 : alu 3 0 0 c 0 X0 X1 X2 X3 1 X1 = X1 := alu_other _ _ _ _ _ _ _ _ _ _ _ (by decide)
                have hY2 : alu 3 0 0 c 0 X0 X1 X2 X3 2 X2 = X2 := alu_other _ _ _ _ _ _ _ _ _ _ _ (by decide)
                have hY3 : alu 3 0 0 c 0 X0 X1 X2 X3 3 X3 = X3 := alu_other _ _ _ _ _ _ _ _ _ _ _ (by decide)
                go_wp2_with (first | (go_at_call 28; (with_reducible refine (alu_is 3 _ _ _ _ _ _ _ _ _ (fun _ => ⟨by decide, by decide⟩) (fun _ => ⟨⟨by decide, by decide⟩, hc⟩) hY hY1 hY2 hY3).mono ?_); rintro e w4 ⟨rfl, hb4⟩; obtain ⟨hc4, hf4⟩ := bcell hb4; have hz4 := hb4.size; (try simp at hz4); (try (have hz1 := Nat.lt_of_succ_le hz4; (try (have hz2 := Nat.lt_of_succ_lt hz1; (try (have hz3 := Nat.lt_of_succ_lt hz2))))))))
                have d1 : (w4.alloc (.cells #[.int .u64 r0, .int .u64 X1, .int .u64 X2, .int .u64 X3] 50)).cell? ⟨w.heap.size, 1, none⟩ = some (.int .i64 0) := keptA _ (kept hb4 c1)
                have d2 : (w4.alloc (.cells #[.int .u64 r0, .int .u64 X1, .int .u64 X2, .int .u64 X3] 50)).cell? ⟨w.heap.size, 2, none⟩ = some (.int .i64 0) := keptA _ (kept hb4 c2)
                have d3 : (w4.alloc (.cells #[.int .u64 r0, .int .u64 X1, .int .u64 X2, .int .u64 X3] 50)).cell? ⟨w.heap.size + 1, 0, none⟩ = some (.int .u64 r0) := keptA _ (kept hb4 s0)
                have d4 : (w4.alloc (.cells #[.int .u64 r0, .int .u64 X1, .int .u64 X2, .int .u64 X3] 50)).cell? ⟨w4.heap.size, 0, none⟩ = some (.int .u64 r0) := by simp
                go_region
                go_wp2
                go_ret
                refine ⟨rfl, ?_⟩
                first | exact (below2 (below2 hB hb4) (below_alloc1 _ _)).drew | exact below2 (below2 hB hb4) (below_alloc1 _ _) | exact (below2 (below2 hB.drew hb4) (below_alloc1 _ _)).drew | exact below2 (below2 hB.drew hb4) (below_alloc1 _ _)
              · have c0 : wr.cell? ⟨w.heap.size, 0, none⟩ = some (.int .i64 2) := (blk_cell hI 0).trans rfl
                have c1 : wr.cell? ⟨w.heap.size, 1, none⟩ = some (.int .i64 0) := (blk_cell hI 1).trans rfl
                have c2 : wr.cell? ⟨w.heap.size, 2, none⟩ = some (.int .i64 1) := (blk_cell hI 2).trans rfl
                have c3 : wr.cell? ⟨w.heap.size, 3, none⟩ = some (.int .i64 c) := (blk_cell hI 3).trans rfl
                have x0 : wr.cell? ⟨w3.heap.size, 0, none⟩ = some (.int .u64 X0) := (blk_cell hX 0).trans rfl
                have s0 : wr.cell? ⟨w.heap.size + 1, 0, none⟩ = some (.int .u64 r0) := (blk_cell hR 0).trans rfl
                have x1 : wr.cell? ⟨w3.heap.size, 1, none⟩ = some (.int .u64 X1) := (blk_cell hX 1).trans rfl
                have s1 : wr.cell? ⟨w.heap.size + 1, 1, none⟩ = some (.int .u64 r1) := (blk_cell hR 1).trans rfl
                have x2 : wr.cell? ⟨w3.heap.size, 2, none⟩ = some (.int .u64 X2) := (blk_cell hX 2).trans rfl
                have s2 : wr.cell? ⟨w.heap.size + 1, 2, none⟩ = some (.int .u64 r2) := (blk_cell hR 2).trans rfl
                have x3 : wr.cell? ⟨w3.heap.size, 3, none⟩ = some (.int .u64 X3) := (blk_cell hX 3).trans rfl
                have s3 : wr.cell? ⟨w.heap.size + 1, 3, none⟩ = some (.int .u64 r3) := (blk_cell hR 3).trans rfl
                have hY : alu 3 0 0 c 0 X0 X1 X2 X3 0 X0 = r1 := sub_back ⟨by decide, by decide⟩ ⟨by decide, by decide⟩ hc (by simpa using ta) p0 p1 p2 p3 hX0 hX1 hX2 hX3 X0
                have hY1 : alu 3 0 0 c 0 X0 X1 X2 X3 1 X1 = X1 := alu_other _ _ _ _ _ _ _ _ _ _ _ (by decide)
                have hY2 : alu 3 0 0 c 0 X0 X1 X2 X3 2 X2 = X2 := alu_other _ _ _ _ _ _ _ _ _ _ _ (by decide)
                have hY3 : alu 3 0 0 c 0 X0 X1 X2 X3 3 X3 = X3 := alu_other _ _ _ _ _ _ _ _ _ _ _ (by decide)
                go_wp2_with (first | (go_at_call 28; (with_reducible refine (alu_is 3 _ _ _ _ _ _ _ _ _ (fun _ => ⟨by decide, by decide⟩) (fun _ => ⟨⟨by decide, by decide⟩, hc⟩) hY hY1 hY2 hY3).mono ?_); rintro e w4 ⟨rfl, hb4⟩; obtain ⟨hc4, hf4⟩ := bcell hb4; have hz4 := hb4.size; (try simp at hz4); (try (have hz1 := Nat.lt_of_succ_le hz4; (try (have hz2 := Nat.lt_of_succ_lt hz1; (try (have hz3 := Nat.lt_of_succ_lt hz2))))))))
                have d1 : (w4.alloc (.cells #[.int .u64 r1, .int .u64 X1, .int .u64 X2, .int .u64 X3] 50)).cell? ⟨w.heap.size, 1, none⟩ = some (.int .i64 0) := keptA _ (kept hb4 c1)
                have d2 : (w4.alloc (.cells #[.int .u64 r1, .int .u64 X1, .int .u64 X2, .int .u64 X3] 50)).cell? ⟨w.heap.size, 2, none⟩ = some (.int .i64 1) := keptA _ (kept hb4 c2)
                have d3 : (w4.alloc (.cells #[.int .u64 r1, .int .u64 X1, .int .u64 X2, .int .u64 X3] 50)).cell? ⟨w.heap.size + 1, 1, none⟩ = some (.int .u64 r1) := keptA _ (kept hb4 s1)
                have d4 : (w4.alloc (.cells #[.int .u64 r1, .int .u64 X1, .int .u64 X2, .int .u64 X3] 50)).cell? ⟨w4.heap.size, 0, none⟩ = some (.int .u64 r1) := by simp
                go_region
                go_wp2
                go_ret
                refine ⟨rfl, ?_⟩
                first | exact (below2 (below2 hB hb4) (below_alloc1 _ _)).drew | exact below2 (below2 hB hb4) (below_alloc1 _ _) | exact (below2 (below2 hB.drew hb4) (below_alloc1 _ _)).drew | exact below2 (below2 hB.drew hb4) (below_alloc1 _ _)
              · have c0 : wr.cell? ⟨w.heap.size, 0, none⟩ = some (.int .i64 2) := (blk_cell hI 0).trans rfl
                have c1 : wr.cell? ⟨w.heap.size, 1, none⟩ = some (.int .i64 0) := (blk_cell hI 1).trans rfl
                have c2 : wr.cell? ⟨w.heap.size, 2, none⟩ = some (.int .i64 2) := (blk_cell hI 2).trans rfl
                have c3 : wr.cell? ⟨w.heap.size, 3, none⟩ = some (.int .i64 c) := (blk_cell hI 3).trans rfl
                have x0 : wr.cell? ⟨w3.heap.size, 0, none⟩ = some (.int .u64 X0) := (blk_cell hX 0).trans rfl
                have s0 : wr.cell? ⟨w.heap.size + 1, 0, none⟩ = some (.int .u64 r0) := (blk_cell hR 0).trans rfl
                have x1 : wr.cell? ⟨w3.heap.size, 1, none⟩ = some (.int .u64 X1) := (blk_cell hX 1).trans rfl
                have s1 : wr.cell? ⟨w.heap.size + 1, 1, none⟩ = some (.int .u64 r1) := (blk_cell hR 1).trans rfl
                have x2 : wr.cell? ⟨w3.heap.size, 2, none⟩ = some (.int .u64 X2) := (blk_cell hX 2).trans rfl
                have s2 : wr.cell? ⟨w.heap.size + 1, 2, none⟩ = some (.int .u64 r2) := (blk_cell hR 2).trans rfl
                have x3 : wr.cell? ⟨w3.heap.size, 3, none⟩ = some (.int .u64 X3) := (blk_cell hX 3).trans rfl
                have s3 : wr.cell? ⟨w.heap.size + 1, 3, none⟩ = some (.int .u64 r3) := (blk_cell hR 3).trans rfl
                have hY : alu 3 0 0 c 0 X0 X1 X2 X3 0 X0 = r2 := sub_back ⟨by decide, by decide⟩ ⟨by decide, by decide⟩ hc (by simpa using ta) p0 p1 p2 p3 hX0 hX1 hX2 hX3 X0
                have hY1 : alu 3 0 0 c 0 X0 X1 X2 X3 1 X1 = X1 := alu_other _ _ _ _ _ _ _ _ _ _ _ (by decide)
                have hY2 : alu 3 0 0 c 0 X0 X1 X2 X3 2 X2 = X2 := alu_other _ _ _ _ _ _ _ _ _ _ _ (by decide)
                have hY3 : alu 3 0 0 c 0 X0 X1 X2 X3 3 X3 = X3 := alu_other _ _ _ _ _ _ _ _ _ _ _ (by decide)
                go_wp2_with (first | (go_at_call 28; (with_reducible refine (alu_is 3 _ _ _ _ _ _ _ _ _ (fun _ => ⟨by decide, by decide⟩) (fun _ => ⟨⟨by decide, by decide⟩, hc⟩) hY hY1 hY2 hY3).mono ?_); rintro e w4 ⟨rfl, hb4⟩; obtain ⟨hc4, hf4⟩ := bcell hb4; have hz4 := hb4.size; (try simp at hz4); (try (have hz1 := Nat.lt_of_succ_le hz4; (try (have hz2 := Nat.lt_of_succ_lt hz1; (try (have hz3 := Nat.lt_of_succ_lt hz2))))))))
                have d1 : (w4.alloc (.cells #[.int .u64 r2, .int .u64 X1, .int .u64 X2, .int .u64 X3] 50)).cell? ⟨w.heap.size, 1, none⟩ = some (.int .i64 0) := keptA _ (kept hb4 c1)
                have d2 : (w4.alloc (.cells #[.int .u64 r2, .int .u64 X1, .int .u64 X2, .int .u64 X3] 50)).cell? ⟨w.heap.size, 2, none⟩ = some (.int .i64 2) := keptA _ (kept hb4 c2)
                have d3 : (w4.alloc (.cells #[.int .u64 r2, .int .u64 X1, .int .u64 X2, .int .u64 X3] 50)).cell? ⟨w.heap.size + 1, 2, none⟩ = some (.int .u64 r2) := keptA _ (kept hb4 s2)
                have d4 : (w4.alloc (.cells #[.int .u64 r2, .int .u64 X1, .int .u64 X2, .int .u64 X3] 50)).cell? ⟨w4.heap.size, 0, none⟩ = some (.int .u64 r2) := by simp
                go_region
                go_wp2
                go_ret
                refine ⟨rfl, ?_⟩
                first | exact (below2 (below2 hB hb4) (below_alloc1 _ _)).drew | exact below2 (below2 hB hb4) (below_alloc1 _ _) | exact (below2 (below2 hB.drew hb4) (below_alloc1 _ _)).drew | exact below2 (below2 hB.drew hb4) (below_alloc1 _ _)
              · have c0 : wr.cell? ⟨w.heap.size, 0, none⟩ = some (.int .i64 2) := (blk_cell hI 0).trans rfl
                have c1 : wr.cell? ⟨w.heap.size, 1, none⟩ = some (.int .i64 0) := (blk_cell hI 1).trans rfl
                have c2 : wr.cell? ⟨w.heap.size, 2, none⟩ = some (.int .i64 3) := (blk_cell hI 2).trans rfl
                have c3 : wr.cell? ⟨w.heap.size, 3, none⟩ = some (.int .i64 c) := (blk_cell hI 3).trans rfl
                have x0 : wr.cell? ⟨w3.heap.size, 0, none⟩ = some (.int .u64 X0) := (blk_cell hX 0).trans rfl
                have s0 : wr.cell? ⟨w.heap.size + 1, 0, none⟩ = some (.int .u64 r0) := (blk_cell hR 0).trans rfl
                have x1 : wr.cell? ⟨w3.heap.size, 1, none⟩ = some (.int .u64 X1) := (blk_cell hX 1).trans rfl
                have s1 : wr.cell? ⟨w.heap.size + 1, 1, none⟩ = some (.int .u64 r1) := (blk_cell hR 1).trans rfl
                have x2 : wr.cell? ⟨w3.heap.size, 2, none⟩ = some (.int .u64 X2) := (blk_cell hX 2).trans rfl
                have s2 : wr.cell? ⟨w.heap.size + 1, 2, none⟩ = some (.int .u64 r2) := (blk_cell hR 2).trans rfl
                have x3 : wr.cell? ⟨w3.heap.size, 3, none⟩ = some (.int .u64 X3) := (blk_cell hX 3).trans rfl
                have s3 : wr.cell? ⟨w.heap.size + 1, 3, none⟩ = some (.int .u64 r3) := (blk_cell hR 3).trans rfl
                have hY : alu 3 0 0 c 0 X0 X1 X2 X3 0 X0 = r3 := sub_back ⟨by decide, by decide⟩ ⟨by decide, by decide⟩ hc (by simpa using ta) p0 p1 p2 p3 hX0 hX1 hX2 hX3 X0
                have hY1 : alu 3 0 0 c 0 X0 X1 X2 X3 1 X1 = X1 := alu_other _ _ _ _ _ _ _ _ _ _ _ (by decide)
                have hY2 : alu 3 0 0 c 0 X0 X1 X2 X3 2 X2 = X2 := alu_other _ _ _ _ _ _ _ _ _ _ _ (by decide)
                have hY3 : alu 3 0 0 c 0 X0 X1 X2 X3 3 X3 = X3 := alu_other _ _ _ _ _ _ _ _ _ _ _ (by decide)
                go_wp2_with (first | (go_at_call 28; (with_reducible refine (alu_is 3 _ _ _ _ _ _ _ _ _ (fun _ => ⟨by decide, by decide⟩) (fun _ => ⟨⟨by decide, by decide⟩, hc⟩) hY hY1 hY2 hY3).mono ?_); rintro e w4 ⟨rfl, hb4⟩; obtain ⟨hc4, hf4⟩ := bcell hb4; have hz4 := hb4.size; (try simp at hz4); (try (have hz1 := Nat.lt_of_succ_le hz4; (try (have hz2 := Nat.lt_of_succ_lt hz1; (try (have hz3 := Nat.lt_of_succ_lt hz2))))))))
                have d1 : (w4.alloc (.cells #[.int .u64 r3, .int .u64 X1, .int .u64 X2, .int .u64 X3] 50)).cell? ⟨w.heap.size, 1, none⟩ = some (.int .i64 0) := keptA _ (kept hb4 c1)
                have d2 : (w4.alloc (.cells #[.int .u64 r3, .int .u64 X1, .int .u64 X2, .int .u64 X3] 50)).cell? ⟨w.heap.size, 2, none⟩ = some (.int .i64 3) := keptA _ (kept hb4 c2)
                have d3 : (w4.alloc (.cells #[.int .u64 r3, .int .u64 X1, .int .u64 X2, .int .u64 X3] 50)).cell? ⟨w.heap.size + 1, 3, none⟩ = some (.int .u64 r3) := keptA _ (kept hb4 s3)
                have d4 : (w4.alloc (.cells #[.int .u64 r3, .int .u64 X1, .int .u64 X2, .int .u64 X3] 50)).cell? ⟨w4.heap.size, 0, none⟩ = some (.int .u64 r3) := by simp
                go_region
                go_wp2
                go_ret
                refine ⟨rfl, ?_⟩
                first | exact (below2 (below2 hB hb4) (below_alloc1 _ _)).drew | exact below2 (below2 hB hb4) (below_alloc1 _ _) | exact (below2 (below2 hB.drew hb4) (below_alloc1 _ _)).drew | exact below2 (below2 hB.drew hb4) (below_alloc1 _ _)
            · rcases hb4 with rfl | rfl | rfl | rfl
              · have c0 : wr.cell? ⟨w.heap.size, 0, none⟩ = some (.int .i64 2) := (blk_cell hI 0).trans rfl
                have c1 : wr.cell? ⟨w.heap.size, 1, none⟩ = some (.int .i64 1) := (blk_cell hI 1).trans rfl
                have c2 : wr.cell? ⟨w.heap.size, 2, none⟩ = some (.int .i64 0) := (blk_cell hI 2).trans rfl
                have c3 : wr.cell? ⟨w.heap.size, 3, none⟩ = some (.int .i64 c) := (blk_cell hI 3).trans rfl
                have x0 : wr.cell? ⟨w3.heap.size, 0, none⟩ = some (.int .u64 X0) := (blk_cell hX 0).trans rfl
                have s0 : wr.cell? ⟨w.heap.size + 1, 0, none⟩ = some (.int .u64 r0) := (blk_cell hR 0).trans rfl
                have x1 : wr.cell? ⟨w3.heap.size, 1, none⟩ = some (.int .u64 X1) := (blk_cell hX 1).trans rfl
                have s1 : wr.cell? ⟨w.heap.size + 1, 1, none⟩ = some (.int .u64 r1) := (blk_cell hR 1).trans rfl
                have x2 : wr.cell? ⟨w3.heap.size, 2, none⟩ = some (.int .u64 X2) := (blk_cell hX 2).trans rfl
                have s2 : wr.cell? ⟨w.heap.size + 1, 2, none⟩ = some (.int .u64 r2) := (blk_cell hR 2).trans rfl
                have x3 : wr.cell? ⟨w3.heap.size, 3, none⟩ = some (.int .u64 X3) := (blk_cell hX 3).trans rfl
                have s3 : wr.cell? ⟨w.heap.size + 1, 3, none⟩ = some (.int .u64 r3) := (blk_cell hR 3).trans rfl
                have hY : alu 3 1 1 c 0 X0 X1 X2 X3 1 X1 = r0 := sub_back ⟨by decide, by decide⟩ ⟨by decide, by decide⟩ hc (by simpa using ta) p0 p1 p2 p3 hX0 hX1 hX2 hX3 X1
                have hY0 : alu 3 1 1 c 0 X0 X1 X2 X3 0 X0 = X0 := alu_other _ _ _ _ _ _ _ _ _ _ _ (by decide)
                have hY2 : alu 3 1 1 c 0 X0 X1 X2 X3 2 X2 = X2 := alu_other _ _ _ _ _ _ _ _ _ _ _ (by decide)
                have hY3 : alu 3 1 1 c 0 X0 X1 X2 X3 3 X3 = X3 := alu_other _ _ _ _ _ _ _ _ _ _ _ (by decide)
                go_wp2_with (first | (go_at_call 28; (with_reducible refine (alu_is 3 _ _ _ _ _ _ _ _ _ (fun _ => ⟨by decide, by decide⟩) (fun _ => ⟨⟨by decide, by decide⟩, hc⟩) hY0 hY hY2 hY3).mono ?_); rintro e w4 ⟨rfl, hb4⟩; obtain ⟨hc4, hf4⟩ := bcell hb4; have hz4 := hb4.size; (try simp at hz4); (try (have hz1 := Nat.lt_of_succ_le hz4; (try (have hz2 := Nat.lt_of_succ_lt hz1; (try (have hz3 := Nat.lt_of_succ_lt hz2))))))))
                have d1 : (w4.alloc (.cells #[.int .u64 X0, .int .u64 r0, .int .u64 X2, .int .u64 X3] 50)).cell? ⟨w.heap.size, 1, none⟩ = some (.int .i64 1) := keptA _ (kept hb4 c1)
                have d2 : (w4.alloc (.cells #[.int .u64 X0, .int .u64 r0, .int .u64 X2, .int .u64 X3] 50)).cell? ⟨w.heap.size, 2, none⟩ = some (.int .i64 0) := keptA _ (kept hb4 c2)
                have d3 : (w4.alloc (.cells #[.int .u64 X0, .int .u64 r0, .int .u64 X2, .int .u64 X3] 50)).cell? ⟨w.heap.size + 1, 0, none⟩ = some (.int .u64 r0) := keptA _ (kept hb4 s0)
                have d4 : (w4.alloc (.cells #[.int .u64 X0, .int .u64 r0, .int .u64 X2, .int .u64 X3] 50)).cell? ⟨w4.heap.size, 1, none⟩ = some (.int .u64 r0) := by simp
                go_region
                go_wp2
                go_ret
                refine ⟨rfl, ?_⟩
                first | exact (below2 (below2 hB hb4) (below_alloc1 _ _)).drew | exact below2 (below2 hB hb4) (below_alloc1 _ _) | exact (below2 (below2 hB.drew hb4) (below_alloc1 _ _)).drew | exact below2 (below2 hB.drew hb4) (below_alloc1 _ _)
              · have c0 : wr.cell? ⟨w.heap.size, 0, none⟩ = some (.int .i64 2) := (blk_cell hI 0).trans rfl
                have c1 : wr.cell? ⟨w.heap.size, 1, none⟩ = some (.int .i64 1) := (blk_cell hI 1).trans rfl
                have c2 : wr.cell? ⟨w.heap.size, 2, none⟩ = some (.int .i64 1) := (blk_cell hI 2).trans rfl
                have c3 : wr.cell? ⟨w.heap.size, 3, none⟩ = some (.int .i64 c) := (blk_cell hI 3).trans rfl
                have x0 : wr.cell? ⟨w3.heap.size, 0, none⟩ = some (.int .u64 X0) := (blk_cell hX 0).trans rfl
                have s0 : wr.cell? ⟨w.heap.size + 1, 0, none⟩ = some (.int .u64 r0) := (blk_cell hR 0).trans rfl
                have x1 : wr.cell? ⟨w3.heap.size, 1, none⟩ = some (.int .u64 X1) := (blk_cell hX 1).trans rfl
                have s1 : wr.cell? ⟨w.heap.size + 1, 1, none⟩ = some (.int .u64 r1) := (blk_cell hR 1).trans rfl
                have x2 : wr.cell? ⟨w3.heap.size, 2, none⟩ = some (.int .u64 X2) := (blk_cell hX 2).trans rfl
                have s2 : wr.cell? ⟨w.heap.size + 1, 2, none⟩ = some (.int .u64 r2) := (blk_cell hR 2).trans rfl
                have x3 : wr.cell? ⟨w3.heap.size, 3, none⟩ = some (.int .u64 X3) := (blk_cell hX 3).trans rfl
                have s3 : wr.cell? ⟨w.heap.size + 1, 3, none⟩ = some (.int .u64 r3) := (blk_cell hR 3).trans rfl
                have hY : alu 3 1 1 c 0 X0 X1 X2 X3 1 X1 = r1 := sub_back ⟨by decide, by decide⟩ ⟨by decide, by decide⟩ hc (by simpa using ta) p0 p1 p2 p3 hX0 hX1 hX2 hX3 X1
                have hY0 : alu 3 1 1 c 0 X0 X1 X2 X3 0 X0 = X0 := alu_other _ _ _ _ _ _ _ _ _ _ _ (by decide)
                have hY2 : alu 3 1 1 c 0 X0 X1 X2 X3 2 X2 = X2 := alu_other _ _ _ _ _ _ _ _ _ _ _ (by decide)
                have hY3 : alu 3 1 1 c 0 X0 X1 X2 X3 3 X3 = X3 := alu_other _ _ _ _ _ _ _ _ _ _ _ (by decide)
                go_wp2_with (first | (go_at_call 28; (with_reducible refine (alu_is 3 _ _ _ _ _ _ _ _ _ (fun _ => ⟨by decide, by decide⟩) (fun _ => ⟨⟨by decide, by decide⟩, hc⟩) hY0 hY hY2 hY3).mono ?_); rintro e w4 ⟨rfl, hb4⟩; obtain ⟨hc4, hf4⟩ := bcell hb4; have hz4 := hb4.size; (try simp at hz4); (try (have hz1 := Nat.lt_of_succ_le hz4; (try (have hz2 := Nat.lt_of_succ_lt hz1; (try (have hz3 := Nat.lt_of_succ_lt hz2))))))))
                have d1 : (w4.alloc (.cells #[.int .u64 X0, .int .u64 r1, .int .u64 X2, .int .u64 X3] 50)).cell? ⟨w.heap.size, 1, none⟩ = some (.int .i64 1) := keptA _ (kept hb4 c1)
                have d2 : (w4.alloc (.cells #[.int .u64 X0, .int .u64 r1, .int .u64 X2, .int .u64 X3] 50)).cell? ⟨w.heap.size, 2, none⟩ = some (.int .i64 1) := keptA _ (kept hb4 c2)
                have d3 : (w4.alloc (.cells #[.int .u64 X0, .int .u64 r1, .int .u64 X2, .int .u64 X3] 50)).cell? ⟨w.heap.size + 1, 1, none⟩ = some (.int .u64 r1) := keptA _ (kept hb4 s1)
                have d4 : (w4.alloc (.cells #[.int .u64 X0, .int .u64 r1, .int .u64 X2, .int .u64 X3] 50)).cell? ⟨w4.heap.size, 1, none⟩ = some (.int .u64 r1) := by simp
                go_region
                go_wp2
                go_ret
                refine ⟨rfl, ?_⟩
                first | exact (below2 (below2 hB hb4) (below_alloc1 _ _)).drew | exact below2 (below2 hB hb4) (below_alloc1 _ _) | exact (below2 (below2 hB.drew hb4) (below_alloc1 _ _)).drew | exact below2 (below2 hB.drew hb4) (below_alloc1 _ _)
              · have c0 : wr.cell? ⟨w.heap.size, 0, none⟩ = some (.int .i64 2) := (blk_cell hI 0).trans rfl
                have c1 : wr.cell? ⟨w.heap.size, 1, none⟩ = some (.int .i64 1) := (blk_cell hI 1).trans rfl
                have c2 : wr.cell? ⟨w.heap.size, 2, none⟩ = some (.int .i64 2) := (blk_cell hI 2).trans rfl
                have c3 : wr.cell? ⟨w.heap.size, 3, none⟩ = some (.int .i64 c) := (blk_cell hI 3).trans rfl
                have x0 : wr.cell? ⟨w3.heap.size, 0, none⟩ = some (.int .u64 X0) := (blk_cell hX 0).trans rfl
                have s0 : wr.cell? ⟨w.heap.size + 1, 0, none⟩ = some (.int .u64 r0) := (blk_cell hR 0).trans rfl
                have x1 : wr.cell? ⟨w3.heap.size, 1, none⟩ = some (.int .u64 X1) := (blk_cell hX 1).trans rfl
                have s1 : wr.cell? ⟨w.heap.size + 1, 1, none⟩ = some (.int .u64 r1) := (blk_cell hR 1).trans rfl
                have x2 : wr.cell? ⟨w3.heap.size, 2, none⟩ = some (.int .u64 X2) := (blk_cell hX 2).trans rfl
                have s2 : wr.cell? ⟨w.heap.size + 1, 2, none⟩ = some (.int .u64 r2) := (blk_cell hR 2).trans rfl
                have x3 : wr.cell? ⟨w3.heap.size, 3, none⟩ = some (.int .u64 X3) := (blk_cell hX 3).trans rfl
                have s3 : wr.cell? ⟨w.heap.size + 1, 3, none⟩ = some (.int .u64 r3) := (blk_cell hR 3).trans rfl
                have hY : alu 3 1 1 c 0 X0 X1 X2 X3 1 X1 = r2 := sub_back ⟨by decide, by decide⟩ ⟨by decide, by decide⟩ hc (by simpa using ta) p0 p1 p2 p3 hX0 hX1 hX2 hX3 X1
                have hY0 : alu 3 1 1 c 0 X0 X1 X2 X3 0 X0 = X0 := alu_other _ _ _ _ _ _ _ _ _ _ _ (by decide)
                have hY2 : alu 3 1 1 c 0 X0 X1 X2 X3 2 X2 = X2 := alu_other _ _ _ _ _ _ _ _ _ _ _ (by decide)
                have hY3 : alu 3 1 1 c 0 X0 X1 X2 X3 3 X3 = X3 := alu_other _ _ _ _ _ _ _ _ _ _ _ (by decide)
                go_wp2_with (first | (go_at_call 28; (with_reducible refine (alu_is 3 _ _ _ _ _ _ _ _ _ (fun _ => ⟨by decide, by decide⟩) (fun _ => ⟨⟨by decide, by decide⟩, hc⟩) hY0 hY hY2 hY3).mono ?_); rintro e w4 ⟨rfl, hb4⟩; obtain ⟨hc4, hf4⟩ := bcell hb4; have hz4 := hb4.size; (try simp at hz4); (try (have hz1 := Nat.lt_of_succ_le hz4; (try (have hz2 := Nat.lt_of_succ_lt hz1; (try (have hz3 := Nat.lt_of_succ_lt hz2))))))))
                have d1 : (w4.alloc (.cells #[.int .u64 X0, .int .u64 r2, .int .u64 X2, .int .u64 X3] 50)).cell? ⟨w.heap.size, 1, none⟩ = some (.int .i64 1) := keptA _ (kept hb4 c1)
                have d2 : (w4.alloc (.cells #[.int .u64 X0, .int .u64 r2, .int .u64 X2, .int .u64 X3] 50)).cell? ⟨w.heap.size, 2, none⟩ = some (.int .i64 2) := keptA _ (kept hb4 c2)
                have d3 : (w4.alloc (.cells #[.int .u64 X0, .int .u64 r2, .int .u64 X2, .int .u64 X3] 50)).cell? ⟨w.heap.size + 1, 2, none⟩ = some (.int .u64 r2) := keptA _ (kept hb4 s2)
                have d4 : (w4.alloc (.cells #[.int .u64 X0, .int .u64 r2, .int .u64 X2, .int .u64 X3] 50)).cell? ⟨w4.heap.size, 1, none⟩ = some (.int .u64 r2) := by simp
                go_region
                go_wp2
                go_ret
                refine ⟨rfl, ?_⟩
                first | exact (below2 (below2 hB hb4) (below_alloc1 _ _)).drew | exact below2 (below2 hB hb4) (below_alloc1 _ _) | exact (below2 (below2 hB.drew hb4) (below_alloc1 _ _)).drew | exact below2 (below2 hB.drew hb4) (below_alloc1 _ _)
              · have c0 : wr.cell? ⟨w.heap.size, 0, none⟩ = some (.int .i64 2) := (blk_cell hI 0).trans rfl
                have c1 : wr.cell? ⟨w.heap.size, 1, none⟩ = some (.int .i64 1) := (blk_cell hI 1).trans rfl
                have c2 : wr.cell? ⟨w.heap.size, 2, none⟩ = some (.int .i64 3) := (blk_cell hI 2).trans rfl
                have c3 : wr.cell? ⟨w.heap.size, 3, none⟩ = some (.int .i64 c) := (blk_cell hI 3).trans rfl
                have x0 : wr.cell? ⟨w3.heap.size, 0, none⟩ = some (.int .u64 X0) := (blk_cell hX 0).trans rfl
                have s0 : wr.cell? ⟨w.heap.size + 1, 0, none⟩ = some (.int .u64 r0) := (blk_cell hR 0).trans rfl
                have x1 : wr.cell? ⟨w3.heap.size, 1, none⟩ = some (.int .u64 X1) := (blk_cell hX 1).trans rfl
                have s1 : wr.cell? ⟨w.heap.size + 1, 1, none⟩ = some (.int .u64 r1) := (blk_cell hR 1).trans rfl
                have x2 : wr.cell? ⟨w3.heap.size, 2, none⟩ = some (.int .u64 X2) := (blk_cell hX 2).trans rfl
                have s2 : wr.cell? ⟨w.heap.size + 1, 2, none⟩ = some (.int .u64 r2) := (blk_cell hR 2).trans rfl
                have x3 : wr.cell? ⟨w3.heap.size, 3, none⟩ = some (.int .u64 X3) := (blk_cell hX 3).trans rfl
                have s3 : wr.cell? ⟨w.heap.size + 1, 3, none⟩ = some (.int .u64 r3) := (blk_cell hR 3).trans rfl
                have hY : alu 3 1 1 c 0 X0 X1 X2 X3 1 X1 = r3 := sub_back ⟨by decide, by decide⟩ ⟨by decide, by decide⟩ hc (by simpa using ta) p0 p1 p2 p3 hX0 hX1 hX2 hX3 X1
                have hY0 : alu 3 1 1 c 0 X0 X1 X2 X3 0 X0 = X0 := alu_other _ _ _ _ _ _ _ _ _ _ _ (by decide)
                have hY2 : alu 3 1 1 c 0 X0 X1 X2 X3 2 X2 = X2 := alu_other _ _ _ _ _ _ _ _ _ _ _ (by decide)
                have hY3 : alu 3 1 1 c 0 X0 X1 X2 X3 3 X3 = X3 := alu_other _ _ _ _ _ _ _ _ _ _ _ (by decide)
                go_wp2_with (first | (go_at_call 28; (with_reducible refine (alu_is 3 _ _ _ _ _ _ _ _ _ (fun _ => ⟨by decide, by decide⟩) (fun _ => ⟨⟨by decide, by decide⟩, hc⟩) hY0 hY hY2 hY3).mono ?_); rintro e w4 ⟨rfl, hb4⟩; obtain ⟨hc4, hf4⟩ := bcell hb4; have hz4 := hb4.size; (try simp at hz4); (try (have hz1 := Nat.lt_of_succ_le hz4; (try (have hz2 := Nat.lt_of_succ_lt hz1; (try (have hz3 := Nat.lt_of_succ_lt hz2))))))))
                have d1 : (w4.alloc (.cells #[.int .u64 X0, .int .u64 r3, .int .u64 X2, .int .u64 X3] 50)).cell? ⟨w.heap.size, 1, none⟩ = some (.int .i64 1) := keptA _ (kept hb4 c1)
                have d2 : (w4.alloc (.cells #[.int .u64 X0, .int .u64 r3, .int .u64 X2, .int .u64 X3] 50)).cell? ⟨w.heap.size, 2, none⟩ = some (.int .i64 3) := keptA _ (kept hb4 c2)
                have d3 : (w4.alloc (.cells #[.int .u64 X0, .int .u64 r3, .int .u64 X2, .int .u64 X3] 50)).cell? ⟨w.heap.size + 1, 3, none⟩ = some (.int .u64 r3) := keptA _ (kept hb4 s3)
                have d4 : (w4.alloc (.cells #[.int .u64 X0, .int .u64 r3, .int .u64 X2, .int .u64 X3] 50)).cell? ⟨w4.heap.size, 1, none⟩ = some (.int .u64 r3) := by simp
                go_region
                go_wp2
                go_ret
                refine ⟨rfl, ?_⟩
                first | exact (below2 (below2 hB hb4) (below_alloc1 _ _)).drew | exact below2 (below2 hB hb4) (below_alloc1 _ _) | exact (below2 (below2 hB.drew hb4) (below_alloc1 _ _)).drew | exact below2 (below2 hB.drew hb4) (below_alloc1 _ _)
            · rcases hb4 with rfl | rfl | rfl | rfl
              · have c0 : wr.cell? ⟨w.heap.size, 0, none⟩ = some (.int .i64 2) := (blk_cell hI 0).trans rfl
                have c1 : wr.cell? ⟨w.heap.size, 1, none⟩ = some (.int .i64 2) := (blk_cell hI 1).trans rfl
                have c2 : wr.cell? ⟨w.heap.size, 2, none⟩ = some (.int .i64 0) := (blk_cell hI 2).trans rfl
                have c3 : wr.cell? ⟨w.heap.size, 3, none⟩ = some (.int .i64 c) := (blk_cell hI 3).trans rfl
                have x0 : wr.cell? ⟨w3.heap.size, 0, none⟩ = some (.int .u64 X0) := (blk_cell hX 0).trans rfl
                have s0 : wr.cell? ⟨w.heap.size + 1, 0, none⟩ = some (.int .u64 r0) := (blk_cell hR 0).trans rfl
                have x1 : wr.cell? ⟨w3.heap.size, 1, none⟩ = some (.int .u64 X1) := (blk_cell hX 1).trans rfl
                have s1 : wr.cell? ⟨w.heap.size + 1, 1, none⟩ = some (.int .u64 r1) := (blk_cell hR 1).trans rfl
                have x2 : wr.cell? ⟨w3.heap.size, 2, none⟩ = some (.int .u64 X2) := (blk_cell hX 2).trans rfl
                have s2 : wr.cell? ⟨w.heap.size + 1, 2, none⟩ = some (.int .u64 r2) := (blk_cell hR 2).trans rfl
                have x3 : wr.cell? ⟨w3.heap.size, 3, none⟩ = some (.int .u64 X3) := (blk_cell hX 3).trans rfl
                have s3 : wr.cell? ⟨w.heap.size + 1, 3, none⟩ = some (.int .u64 r3) := (blk_cell hR 3).trans rfl
                have hY : alu 3 2 2 c 0 X0 X1 X2 X3 2 X2 = r0 := sub_back ⟨by decide, by decide⟩ ⟨by decide, by decide⟩ hc (by simpa using ta) p0 p1 p2 p3 hX0 hX1 hX2 hX3 X2
                have hY0 : alu 3 2 2 c 0 X0 X1 X2 X3 0 X0 = X0 := alu_other _ _ _ _ _ _ _ _ _ _ _ (by decide)
                have hY1 : alu 3 2 2 c 0 X0 X1 X2 X3 1 X1 = X1 := alu_other _ _ _ _ _ _ _ _ _ _ _ (by decide)
                have hY3 : alu 3 2 2 c 0 X0 X1 X2 X3 3 X3 = X3 := alu_other _ _ _ _ _ _ _ _ _ _ _ (by decide)
                go_wp2_with (first | (go_at_call 28; (with_reducible refine (alu_is 3 _ _ _ _ _ _ _ _ _ (fun _ => ⟨by decide, by decide⟩) (fun _ => ⟨⟨by decide, by decide⟩, hc⟩) hY0 hY1 hY hY3).mono ?_); rintro e w4 ⟨rfl, hb4⟩; obtain ⟨hc4, hf4⟩ := bcell hb4; have hz4 := hb4.size; (try simp at hz4); (try (have hz1 := Nat.lt_of_succ_le hz4; (try (have hz2 := Nat.lt_of_succ_lt hz1; (try (have hz3 := Nat.lt_of_succ_lt hz2))))))))
                have d1 : (w4.alloc (.cells #[.int .u64 X0, .int .u64 X1, .int .u64 r0, .int .u64 X3] 50)).cell? ⟨w.heap.size, 1, none⟩ = some (.int .i64 2) := keptA _ (kept hb4 c1)
                have d2 : (w4.alloc (.cells #[.int .u64 X0, .int .u64 X1, .int .u64 r0, .int .u64 X3] 50)).cell? ⟨w.heap.size, 2, none⟩ = some (.int .i64 0) := keptA _ (kept hb4 c2)
                have d3 : (w4.alloc (.cells #[.int .u64 X0, .int .u64 X1, .int .u64 r0, .int .u64 X3] 50)).cell? ⟨w.heap.size + 1, 0, none⟩ = some (.int .u64 r0) := keptA _ (kept hb4 s0)
                have d4 : (w4.alloc (.cells #[.int .u64 X0, .int .u64 X1, .int .u64 r0, .int .u64 X3] 50)).cell? ⟨w4.heap.size, 2, none⟩ = some (.int .u64 r0) := by simp
                go_region
                go_wp2
                go_ret
                refine ⟨rfl, ?_⟩
                first | exact (below2 (below2 hB hb4) (below_alloc1 _ _)).drew | exact below2 (below2 hB hb4) (below_alloc1 _ _) | exact (below2 (below2 hB.drew hb4) (below_alloc1 _ _)).drew | exact below2 (below2 hB.drew hb4) (below_alloc1 _ _)
              · have c0 : wr.cell? ⟨w.heap.size, 0, none⟩ = some (.int .i64 2) := (blk_cell hI 0).trans rfl
                have c1 : wr.cell? ⟨w.heap.size, 1, none⟩ = some (.int .i64 2) := (blk_cell hI 1).trans rfl
                have c2 : wr.cell? ⟨w.heap.size, 2, none⟩ = some (.int .i64 1) := (blk_cell hI 2).trans rfl
                have c3 : wr.cell? ⟨w.heap.size, 3, none⟩ = some (.int .i64 c) := (blk_cell hI 3).trans rfl
                have x0 : wr.cell? ⟨w3.heap.size, 0, none⟩ = some (.int .u64 X0) := (blk_cell hX 0).trans rfl
                have s0 : wr.cell? ⟨w.heap.size + 1, 0, none⟩ = some (.int .u64 r0) := (blk_cell hR 0).trans rfl
                have x1 : wr.cell? ⟨w3.heap.size, 1, none⟩ = some (.int .u64 X1) := (blk_cell hX 1).trans rfl
                have s1 : wr.cell? ⟨w.heap.size + 1, 1, none⟩ = some (.int .u64 r1) := (blk_cell hR 1).trans rfl
                have x2 : wr.cell? ⟨w3.heap.size, 2, none⟩ = some (.int .u64 X2) := (blk_cell hX 2).trans rfl
                have s2 : wr.cell? ⟨w.heap.size + 1, 2, none⟩ = some (.int .u64 r2) := (blk_cell hR 2).trans rfl
                have x3 : wr.cell? ⟨w3.heap.size, 3, none⟩ = some (.int .u64 X3) := (blk_cell hX 3).trans rfl
                have s3 : wr.cell? ⟨w.heap.size + 1, 3, none⟩ = some (.int .u64 r3) := (blk_cell hR 3).trans rfl
                have hY : alu 3 2 2 c 0 X0 X1 X2 X3 2 X2 = r1 := sub_back ⟨by decide, by decide⟩ ⟨by decide, by decide⟩ hc (by simpa using ta) p0 p1 p2 p3 hX0 hX1 hX2 hX3 X2
                have hY0 : alu 3 2 2 c 0 X0 X1 X2 X3 0 X0 = X0 := alu_other _ _ _ _ _ _ _ _ _ _ _ (by decide)
                have hY1 : alu 3 2 2 c 0 X0 X1 X2 X3 1 X1 = X1 := alu_other _ _ _ _ _ _ _ _ _ _ _ (by decide)
                have hY3 : alu 3 2 2 c 0 X0 X1 X2 X3 3 X3 = X3 := alu_other _ _ _ _ _ _ _ _ _ _ _ (by decide)
                go_wp2_with (first | (go_at_call 28; (with_reducible refine (alu_is 3 _ _ _ _ _ _ _ _ _ (fun _ => ⟨by decide, by decide⟩) (fun _ => ⟨⟨by decide, by decide⟩, hc⟩) hY0 hY1 hY hY3).mono ?_); rintro e w4 ⟨rfl, hb4⟩; obtain ⟨hc4, hf4⟩ := bcell hb4; have hz4 := hb4.size; (try simp at hz4); (try (have hz1 := Nat.lt_of_succ_le hz4; (try (have hz2 := Nat.lt_of_succ_lt hz1; (try (have hz3 := Nat.lt_of_succ_lt hz2))))))))
                have d1 : (w4.alloc (.cells #[.int .u64 X0, .int .u64 X1, .int .u64 r1, .int .u64 X3] 50)).cell? ⟨w.heap.size, 1, none⟩ = some (.int .i64 2) := keptA _ (kept hb4 c1)
                have d2 : (w4.alloc (.cells #[.int .u64 X0, .int .u64 X1, .int .u64 r1, .int .u64 X3] 50)).cell? ⟨w.heap.size, 2, none⟩ = some (.int .i64 1) := keptA _ (kept hb4 c2)
                have d3 : (w4.alloc (.cells #[.int .u64 X0, .int .u64 X1, .int .u64 r1, .int .u64 X3] 50)).cell? ⟨w.heap.size + 1, 1, none⟩ = some (.int .u64 r1) := keptA _ (kept hb4 s1)
                have d4 : (w4.alloc (.cells #[.int .u64 X0, .int .u64 X1, .int .u64 r1, .int .u64 X3] 50)).cell? ⟨w4.heap.size, 2, none⟩ = some (.int .u64 r1) := by simp
                go_region
                go_wp2
                go_ret
                refine ⟨rfl, ?_⟩
                first | exact (below2 (below2 hB hb4) (below_alloc1 _ _)).drew | exact below2 (below2 hB hb4) (below_alloc1 _ _) | exact (below2 (below2 hB.drew hb4) (below_alloc1 _ _)).drew | exact below2 (below2 hB.drew hb4) (below_alloc1 _ _)
              · have c0 : wr.cell? ⟨w.heap.size, 0, none⟩ = some (.int .i64 2) := (blk_cell hI 0).trans rfl
                have c1 : wr.cell? ⟨w.heap.size, 1, none⟩ = some (.int .i64 2) := (blk_cell hI 1).trans rfl
                have c2 : wr.cell? ⟨w.heap.size, 2, none⟩ = some (.int .i64 2) := (blk_cell hI 2).trans rfl
                have c3 : wr.cell? ⟨w.heap.size, 3, none⟩ = some (.int .i64 c) := (blk_cell hI 3).trans rfl
                have x0 : wr.cell? ⟨w3.heap.size, 0, none⟩ = some (.int .u64 X0) := (blk_cell hX 0).trans rfl
                have s0 : wr.cell? ⟨w.heap.size + 1, 0, none⟩ = some (.int .u64 r0) := (blk_cell hR 0).trans rfl
                have x1 : wr.cell? ⟨w3.heap.size, 1, none⟩ = some (.int .u64 X1) := (blk_cell hX 1).trans rfl
                have s1 : wr.cell? ⟨w.heap.size + 1, 1, none⟩ = some (.int .u64 r1) := (blk_cell hR 1).trans rfl
                have x2 : wr.cell? ⟨w3.heap.size, 2, none⟩ = some (.int .u64 X2) := (blk_cell hX 2).trans rfl
                have s2 : wr.cell? ⟨w.heap.size + 1, 2, none⟩ = some (.int .u64 r2) := (blk_cell hR 2).trans rfl
                have x3 : wr.cell? ⟨w3.heap.size, 3, none⟩ = some (.int .u64 X3) := (blk_cell hX 3).trans rfl
                have s3 : wr.cell? ⟨w.heap.size + 1, 3, none⟩ = some (.int .u64 r3) := (blk_cell hR 3).trans rfl
                have hY : alu 3 2 2 c 0 X0 X1 X2 X3 2 X2 = r2 := sub_back ⟨by decide, by decide⟩ ⟨by decide, by decide⟩ hc (by simpa using ta) p0 p1 p2 p3 hX0 hX1 hX2 hX3 X2
                have hY0 : alu 3 2 2 c 0 X0 X1 X2 X3 0 X0 = X0 := alu_other _ _ _ _ _ _ _ _ _ _ _ (by decide)
                have hY1 : alu 3 2 2 c 0 X0 X1 X2 X3 1 X1 = X1 := alu_other _ _ _ _ _ _ _ _ _ _ _ (by decide)
                have hY3 : alu 3 2 2 c 0 X0 X1 X2 X3 3 X3 = X3 := alu_other _ _ _ _ _ _ _ _ _ _ _ (by decide)
                go_wp2_with (first | (go_at_call 28; (with_reducible refine (alu_is 3 _ _ _ _ _ _ _ _ _ (fun _ => ⟨by decide, by decide⟩) (fun _ => ⟨⟨by decide, by decide⟩, hc⟩) hY0 hY1 hY hY3).mono ?_); rintro e w4 ⟨rfl, hb4⟩; obtain ⟨hc4, hf4⟩ := bcell hb4; have hz4 := hb4.size; (try simp at hz4); (try (have hz1 := Nat.lt_of_succ_le hz4; (try (have hz2 := Nat.lt_of_succ_lt hz1; (try (have hz3 := Nat.lt_of_succ_lt hz2))))))))
                have d1 : (w4.alloc (.cells #[.int .u64 X0, .int .u64 X1, .int .u64 r2, .int .u64 X3] 50)).cell? ⟨w.heap.size, 1, none⟩ = some (.int .i64 2) := keptA _ (kept hb4 c1)
                have d2 : (w4.alloc (.cells #[.int .u64 X0, .int .u64 X1, .int .u64 r2, .int .u64 X3] 50)).cell? ⟨w.heap.size, 2, none⟩ = some (.int .i64 2) := keptA _ (kept hb4 c2)
                have d3 : (w4.alloc (.cells #[.int .u64 X0, .int .u64 X1, .int .u64 r2, .int .u64 X3] 50)).cell? ⟨w.heap.size + 1, 2, none⟩ = some (.int .u64 r2) := keptA _ (kept hb4 s2)
                have d4 : (w4.alloc (.cells #[.int .u64 X0, .int .u64 X1, .int .u64 r2, .int .u64 X3] 50)).cell? ⟨w4.heap.size, 2, none⟩ = some (.int .u64 r2) := by simp
                go_region
                go_wp2
                go_ret
                refine ⟨rfl, ?_⟩
                first | exact (below2 (below2 hB hb4) (below_alloc1 _ _)).drew | exact below2 (below2 hB hb4) (below_alloc1 _ _) | exact (below2 (below2 hB.drew hb4) (below_alloc1 _ _)).drew | exact below2 (below2 hB.drew hb4) (below_alloc1 _ _)
              · have c0 : wr.cell? ⟨w.heap.size, 0, none⟩ = some (.int .i64 2) := (blk_cell hI 0).trans rfl
                have c1 : wr.cell? ⟨w.heap.size, 1, none⟩ = some (.int .i64 2) := (blk_cell hI 1).trans rfl
                have c2 : wr.cell? ⟨w.heap.size, 2, none⟩ = some (.int .i64 3) := (blk_cell hI 2).trans rfl
                have c3 : wr.cell? ⟨w.heap.size, 3, none⟩ = some (.int .i64 c) := (blk_cell hI 3).trans rfl
                have x0 : wr.cell? ⟨w3.heap.size, 0, none⟩ = some (.int .u64 X0) := (blk_cell hX 0).trans rfl
                have s0 : wr.cell? ⟨w.heap.size + 1, 0, none⟩ = some (.int .u64 r0) := (blk_cell hR 0).trans rfl
                have x1 : wr.cell? ⟨w3.heap.size, 1, none⟩ = some (.int .u64 X1) := (blk_cell hX 1).trans rfl
                have s1 : wr.cell? ⟨w.heap.size + 1, 1, none⟩ = some (.int .u64 r1) := (blk_cell hR 1).trans rfl
                have x2 : wr.cell? ⟨w3.heap.size, 2, none⟩ = some (.int .u64 X2) := (blk_cell hX 2).trans rfl
                have s2 : wr.cell? ⟨w.heap.size + 1, 2, none⟩ = some (.int .u64 r2) := (blk_cell hR 2).trans rfl
                have x3 : wr.cell? ⟨w3.heap.size, 3, none⟩ = some (.int .u64 X3) := (blk_cell hX 3).trans rfl
                have s3 : wr.cell? ⟨w.heap.size + 1, 3, none⟩ = some (.int .u64 r3) := (blk_cell hR 3).trans rfl
                have hY : alu 3 2 2 c 0 X0 X1 X2 X3 2 X2 = r3 := sub_back ⟨by decide, by decide⟩ ⟨by decide, by decide⟩ hc (by simpa using ta) p0 p1 p2 p3 hX0 hX1 hX2 hX3 X2
                have hY0 : alu 3 2 2 c 0 X0 X1 X2 X3 0 X0 = X0 := alu_other _ _ _ _ _ _ _ _ _ _ _ (by decide)
                have hY1 : alu 3 2 2 c 0 X0 X1 X2 X3 1 X1 = X1 := alu_other _ _ _ _ _ _ _ _ _ _ _ (by decide)
                have hY3 : alu 3 2 2 c 0 X0 X1 X2 X3 3 X3 = X3 := alu_other _ _ _ _ _ _ _ _ _ _ _ (by decide)
                go_wp2_with (first | (go_at_call 28; (with_reducible refine (alu_is 3 _ _ _ _ _ _ _ _ _ (fun _ => ⟨by decide, by decide⟩) (fun _ => ⟨⟨by decide, by decide⟩, hc⟩) hY0 hY1 hY hY3).mono ?_); rintro e w4 ⟨rfl, hb4⟩; obtain ⟨hc4, hf4⟩ := bcell hb4; have hz4 := hb4.size; (try simp at hz4); (try (have hz1 := Nat.lt_of_succ_le hz4; (try (have hz2 := Nat.lt_of_succ_lt hz1; (try (have hz3 := Nat.lt_of_succ_lt hz2))))))))
                have d1 : (w4.alloc (.cells #[.int .u64 X0, .int .u64 X1, .int .u64 r3, .int .u64 X3] 50)).cell? ⟨w.heap.size, 1, none⟩ = some (.int .i64 2) := keptA _ (kept hb4 c1)
                have d2 : (w4.alloc (.cells #[.int .u64 X0, .int .u64 X1, .int .u64 r3, .int .u64 X3] 50)).cell? ⟨w.heap.size, 2, none⟩ = some (.int .i64 3) := keptA _ (kept hb4 c2)
                have d3 : (w4.alloc (.cells #[.int .u64 X0, .int .u64 X1, .int .u64 r3, .int .u64 X3] 50)).cell? ⟨w.heap.size + 1, 3, none⟩ = some (.int .u64 r3) := keptA _ (kept hb4 s3)
                have d4 : (w4.alloc (.cells #[.int .u64 X0, .int .u64 X1, .int .u64 r3, .int .u64 X3] 50)).cell? ⟨w4.heap.size, 2, none⟩ = some (.int .u64 r3) := by simp
                go_region
                go_wp2
                go_ret
                refine ⟨rfl, ?_⟩
                first | exact (below2 (below2 hB hb4) (below_alloc1 _ _)).drew | exact below2 (below2 hB hb4) (below_alloc1 _ _) | exact (below2 (below2 hB.drew hb4) (below_alloc1 _ _)).drew | exact below2 (below2 hB.drew hb4) (below_alloc1 _ _)
            · rcases hb4 with rfl | rfl | rfl | rfl
              · have c0 : wr.cell? ⟨w.heap.size, 0, none⟩ = some (.int .i64 2) := (blk_cell hI 0).trans rfl
                have c1 : wr.cell? ⟨w.heap.size, 1, none⟩ = some (.int .i64 3) := (blk_cell hI 1).trans rfl
                have c2 : wr.cell? ⟨w.heap.size, 2, none⟩ = some (.int .i64 0) := (blk_cell hI 2).trans rfl
                have c3 : wr.cell? ⟨w.heap.size, 3, none⟩ = some (.int .i64 c) := (blk_cell hI 3).trans rfl
                have x0 : wr.cell? ⟨w3.heap.size, 0, none⟩ = some (.int .u64 X0) := (blk_cell hX 0).trans rfl
                have s0 : wr.cell? ⟨w.heap.size + 1, 0, none⟩ = some (.int .u64 r0) := (blk_cell hR 0).trans rfl
                have x1 : wr.cell? ⟨w3.heap.size, 1, none⟩ = some (.int .u64 X1) := (blk_cell hX 1).trans rfl
                have s1 : wr.cell? ⟨w.heap.size + 1, 1, none⟩ = some (.int .u64 r1) := (blk_cell hR 1).trans rfl
                have x2 : wr.cell? ⟨w3.heap.size, 2, none⟩ = some (.int .u64 X2) := (blk_cell hX 2).trans rfl
                have s2 : wr.cell? ⟨w.heap.size + 1, 2, none⟩ = some (.int .u64 r2) := (blk_cell hR 2).trans rfl
                have x3 : wr.cell? ⟨w3.heap.size, 3, none⟩ = some (.int .u64 X3) := (blk_cell hX 3).trans rfl
                have s3 : wr.cell? ⟨w.heap.size + 1, 3, none⟩ = some (.int .u64 r3) := (blk_cell hR 3).trans rfl
                have hY : alu 3 3 3 c 0 X0 X1 X2 X3 3 X3 = r0 := sub_back ⟨by decide, by decide⟩ ⟨by decide, by decide⟩ hc (by simpa using ta) p0 p1 p2 p3 hX0 hX1 hX2 hX3 X3
                have hY0 : alu 3 3 3 c 0 X0 X1 X2 X3 0 X0 = X0 := alu_other _ _ _ _ _ _ _ _ _ _ _ (by decide)
                have hY1 : alu 3 3 3 c 0 X0 X1 X2 X3 1 X1 = X1 := alu_other _ _ _ _ _ _ _ _ _ _ _ (by decide)
                have hY2 : alu 3 3 3 c 0 X0 X1 X2 X3 2 X2 = X2 := alu_other _ _ _ _ _ _ _ _ _ _ _ (by decide)
                go_wp2_with (first | (go_at_call 28; (with_reducible refine (alu_is 3 _ _ _ _ _ _ _ _ _ (fun _ => ⟨by decide, by decide⟩) (fun _ => ⟨⟨by decide, by decide⟩, hc⟩) hY0 hY1 hY2 hY).mono ?_); rintro e w4 ⟨rfl, hb4⟩; obtain ⟨hc4, hf4⟩ := bcell hb4; have hz4 := hb4.size; (try simp at hz4); (try (have hz1 := Nat.lt_of_succ_le hz4; (try (have hz2 := Nat.lt_of_succ_lt hz1; (try (have hz3 := Nat.lt_of_succ_lt hz2))))))))
                have d1 : (w4.alloc (.cells #[.int .u64 X0, .int .u64 X1, .int .u64 X2, .int .u64 r0] 50)).cell? ⟨w.heap.size, 1, none⟩ = some (.int .i64 3) := keptA _ (kept hb4 c1)
                have d2 : (w4.alloc (.cells #[.int .u64 X0, .int .u64 X1, .int .u64 X2, .int .u64 r0] 50)).cell? ⟨w.heap.size, 2, none⟩ = some (.int .i64 0) := keptA _ (kept hb4 c2)
                have d3 : (w4.alloc (.cells #[.int .u64 X0, .int .u64 X1, .int .u64 X2, .int .u64 r0] 50)).cell? ⟨w.heap.size + 1, 0, none⟩ = some (.int .u64 r0) := keptA _ (kept hb4 s0)
                have d4 : (w4.alloc (.cells #[.int .u64 X0, .int .u64 X1, .int .u64 X2, .int .u64 r0] 50)).cell? ⟨w4.heap.size, 3, none⟩ = some (.int .u64 r0) := by simp
                go_region
                go_wp2
                go_ret
                refine ⟨rfl, ?_⟩
                first | exact (below2 (below2 hB hb4) (below_alloc1 _ _)).drew | exact below2 (below2 hB hb4) (below_alloc1 _ _) | exact (below2 (below2 hB.drew hb4) (below_alloc1 _ _)).drew | exact below2 (below2 hB.drew hb4) (below_alloc1 _ _)
              · have c0 : wr.cell? ⟨w.heap.size, 0, none⟩ = some (.int .i64 2) := (blk_cell hI 0).trans rfl
                have c1 : wr.cell? ⟨w.heap.size, 1, none⟩ = some (.int .i64 3) := (blk_cell hI 1).trans rfl
                have c2 : wr.cell? ⟨w.heap.size, 2, none⟩ = some (.int .i64 1) := (blk_cell hI 2).trans rfl
                have c3 : wr.cell? ⟨w.heap.size, 3, none⟩ = some (.int .i64 c) := (blk_cell hI 3).trans rfl
                have x0 : wr.cell? ⟨w3.heap.size, 0, none⟩ = some (.int .u64 X0) := (blk_cell hX 0).trans rfl
                have s0 : wr.cell? ⟨w.heap.size + 1, 0, none⟩ = some (.int .u64 r0) := (blk_cell hR 0).trans rfl
                have x1 : wr.cell? ⟨w3.heap.size, 1, none⟩ = some (.int .u64 X1) := (blk_cell hX 1).trans rfl
                have s1 : wr.cell? ⟨w.heap.size + 1, 1, none⟩ = some (.int .u64 r1) := (blk_cell hR 1).trans rfl
                have x2 : wr.cell? ⟨w3.heap.size, 2, none⟩ = some (.int .u64 X2) := (blk_cell hX 2).trans rfl
                have s2 : wr.cell? ⟨w.heap.size + 1, 2, none⟩ = some (.int .u64 r2) := (blk_cell hR 2).trans rfl
                have x3 : wr.cell? ⟨w3.heap.size, 3, none⟩ = some (.int .u64 X3) := (blk_cell hX 3).trans rfl
                have s3 : wr.cell? ⟨w.heap.size + 1, 3, none⟩ = some (.int .u64 r3) := (blk_cell hR 3).trans rfl
                have hY : alu 3 3 3 c 0 X0 X1 X2 X3 3 X3 = r1 := sub_back ⟨by decide, by decide⟩ ⟨by decide, by decide⟩ hc (by simpa using ta) p0 p1 p2 p3 hX0 hX1 hX2 hX3 X3
                have hY0 : alu 3 3 3 c 0 X0 X1 X2 X3 0 X0 = X0 := alu_other _ _ _ _ _ _ _ _ _ _ _ (by decide)
                have hY1 : alu 3 3 3 c 0 X0 X1 X2 X3 1 X1 = X1 := alu_other _ _ _ _ _ _ _ _ _ _ _ (by decide)
                have hY2 : alu 3 3 3 c 0 X0 X1 X2 X3 2 X2 = X2 := alu_other _ _ _ _ _ _ _ _ _ _ _ (by decide)
                go_wp2_with (first | (go_at_call 28; (with_reducible refine (alu_is 3 _ _ _ _ _ _ _ _ _ (fun _ => ⟨by decide, by decide⟩) (fun _ => ⟨⟨by decide, by decide⟩, hc⟩) hY0 hY1 hY2 hY).mono ?_); rintro e w4 ⟨rfl, hb4⟩; obtain ⟨hc4, hf4⟩ := bcell hb4; have hz4 := hb4.size; (try simp at hz4); (try (have hz1 := Nat.lt_of_succ_le hz4; (try (have hz2 := Nat.lt_of_succ_lt hz1; (try (have hz3 := Nat.lt_of_succ_lt hz2))))))))
                have d1 : (w4.alloc (.cells #[.int .u64 X0, .int .u64 X1, .int .u64 X2, .int .u64 r1] 50)).cell? ⟨w.heap.size, 1, none⟩ = some (.int .i64 3) := keptA _ (kept hb4 c1)
                have d2 : (w4.alloc (.cells #[.int .u64 X0, .int .u64 X1, .int .u64 X2, .int .u64 r1] 50)).cell? ⟨w.heap.size, 2, none⟩ = some (.int .i64 1) := keptA _ (kept hb4 c2)
                have d3 : (w4.alloc (.cells #[.int .u64 X0, .int .u64 X1, .int .u64 X2, .int .u64 r1] 50)).cell? ⟨w.heap.size + 1, 1, none⟩ = some (.int .u64 r1) := keptA _ (kept hb4 s1)
                have d4 : (w4.alloc (.cells #[.int .u64 X0, .int .u64 X1, .int .u64 X2, .int .u64 r1] 50)).cell? ⟨w4.heap.size, 3, none⟩ = some (.int .u64 r1) := by simp
                go_region
                go_wp2
                go_ret
                refine ⟨rfl, ?_⟩
                first | exact (below2 (below2 hB hb4) (below_alloc1 _ _)).drew | exact below2 (below2 hB hb4) (below_alloc1 _ _) | exact (below2 (below2 hB.drew hb4) (below_alloc1 _ _)).drew | exact below2 (below2 hB.drew hb4) (below_alloc1 _ _)
              · have c0 : wr.cell? ⟨w.heap.size, 0, none⟩ = some (.int .i64 2) := (blk_cell hI 0).trans rfl
                have c1 : wr.cell? ⟨w.heap.size, 1, none⟩ = some (.int .i64 3) := (blk_cell hI 1).trans rfl
                have c2 : wr.cell? ⟨w.heap.size, 2, none⟩ = some (.int .i64 2) := (blk_cell hI 2).trans rfl
                have c3 : wr.cell? ⟨w.heap.size, 3, none⟩ = some (.int .i64 c) := (blk_cell hI 3).trans rfl
                have x0 : wr.cell? ⟨w3.heap.size, 0, none⟩ = some (.int .u64 X0) := (blk_cell hX 0).trans rfl
                have s0 : wr.cell? ⟨w.heap.size + 1, 0, none⟩ = some (.int .u64 r0) := (blk_cell hR 0).trans rfl
                have x1 : wr.cell? ⟨w3.heap.size, 1, none⟩ = some (.int .u64 X1) := (blk_cell hX 1).trans rfl
                have s1 : wr.cell? ⟨w.heap.size + 1, 1, none⟩ = some (.int .u64 r1) := (blk_cell hR 1).trans rfl
                have x2 : wr.cell? ⟨w3.heap.size, 2, none⟩ = some (.int .u64 X2) := (blk_cell hX 2).trans rfl
                have s2 : wr.cell? ⟨w.heap.size + 1, 2, none⟩ = some (.int .u64 r2) := (blk_cell hR 2).trans rfl
                have x3 : wr.cell? ⟨w3.heap.size, 3, none⟩ = some (.int .u64 X3) := (blk_cell hX 3).trans rfl
                have s3 : wr.cell? ⟨w.heap.size + 1, 3, none⟩ = some (.int .u64 r3) := (blk_cell hR 3).trans rfl
                have hY : alu 3 3 3 c 0 X0 X1 X2 X3 3 X3 = r2 := sub_back ⟨by decide, by decide⟩ ⟨by decide, by decide⟩ hc (by simpa using ta) p0 p1 p2 p3 hX0 hX1 hX2 hX3 X3
                have hY0 : alu 3 3 3 c 0 X0 X1 X2 X3 0 X0 = X0 := alu_other _ _ _ _ _ _ _ _ _ _ _ (by decide)
                have hY1 : alu 3 3 3 c 0 X0 X1 X2 X3 1 X1 = X1 := alu_other _ _ _ _ _ _ _ _ _ _ _ (by decide)
                have hY2 : alu 3 3 3 c 0 X0 X1 X2 X3 2 X2 = X2 := alu_other _ _ _ _ _ _ _ _ _ _ _ (by decide)
                go_wp2_with (first | (go_at_call 28; (with_reducible refine (alu_is 3 _ _ _ _ _ _ _ _ _ (fun _ => ⟨by decide, by decide⟩) (fun _ => ⟨⟨by decide, by decide⟩, hc⟩) hY0 hY1 hY2 hY).mono ?_); rintro e w4 ⟨rfl, hb4⟩; obtain ⟨hc4, hf4⟩ := bcell hb4; have hz4 := hb4.size; (try simp at hz4); (try (have hz1 := Nat.lt_of_succ_le hz4; (try (have hz2 := Nat.lt_of_succ_lt hz1; (try (have hz3 := Nat.lt_of_succ_lt hz2))))))))
                have d1 : (w4.alloc (.cells #[.int .u64 X0, .int .u64 X1, .int .u64 X2, .int .u64 r2] 50)).cell? ⟨w.heap.size, 1, none⟩ = some (.int .i64 3) := keptA _ (kept hb4 c1)
                have d2 : (w4.alloc (.cells #[.int .u64 X0, .int .u64 X1, .int .u64 X2, .int .u64 r2] 50)).cell? ⟨w.heap.size, 2, none⟩ = some (.int .i64 2) := keptA _ (kept hb4 c2)
                have d3 : (w4.alloc (.cells #[.int .u64 X0, .int .u64 X1, .int .u64 X2, .int .u64 r2] 50)).cell? ⟨w.heap.size + 1, 2, none⟩ = some (.int .u64 r2) := keptA _ (kept hb4 s2)
                have d4 : (w4.alloc (.cells #[.int .u64 X0, .int .u64 X1, .int .u64 X2, .int .u64 r2] 50)).cell? ⟨w4.heap.size, 3, none⟩ = some (.int .u64 r2) := by simp
                go_region
                go_wp2
                go_ret
                refine ⟨rfl, ?_⟩
                first | exact (below2 (below2 hB hb4) (below_alloc1 _ _)).drew | exact below2 (below2 hB hb4) (below_alloc1 _ _) | exact (below2 (below2 hB.drew hb4) (below_alloc1 _ _)).drew | exact below2 (below2 hB.drew hb4) (below_alloc1 _ _)
              · have c0 : wr.cell? ⟨w.heap.size, 0, none⟩ = some (.int .i64 2) := (blk_cell hI 0).trans rfl
                have c1 : wr.cell? ⟨w.heap.size, 1, none⟩ = some (.int .i64 3) := (blk_cell hI 1).trans rfl
                have c2 : wr.cell? ⟨w.heap.size, 2, none⟩ = some (.int .i64 3) := (blk_cell hI 2).trans rfl
                have c3 : wr.cell? ⟨w.heap.size, 3, none⟩ = some (.int .i64 c) := (blk_cell hI 3).trans rfl
                have x0 : wr.cell? ⟨w3.heap.size, 0, none⟩ = some (.int .u64 X0) := (blk_cell hX 0).trans rfl
                have s0 : wr.cell? ⟨w.heap.size + 1, 0, none⟩ = some (.int .u64 r0) := (blk_cell hR 0).trans rfl
                have x1 : wr.cell? ⟨w3.heap.size, 1, none⟩ = some (.int .u64 X1) := (blk_cell hX 1).trans rfl
                have s1 : wr.cell? ⟨w.heap.size + 1, 1, none⟩ = some (.int .u64 r1) := (blk_cell hR 1).trans rfl
                have x2 : wr.cell? ⟨w3.heap.size, 2, none⟩ = some (.int .u64 X2) := (blk_cell hX 2).trans rfl
                have s2 : wr.cell? ⟨w.heap.size + 1, 2, none⟩ = some (.int .u64 r2) := (blk_cell hR 2).trans rfl
                have x3 : wr.cell? ⟨w3.heap.size, 3, none⟩ = some (.int .u64 X3) := (blk_cell hX 3).trans rfl
                have s3 : wr.cell? ⟨w.heap.size + 1, 3, none⟩ = some (.int .u64 r3) := (blk_cell hR 3).trans rfl
                have hY : alu 3 3 3 c 0 X0 X1 X2 X3 3 X3 = r3 := sub_back ⟨by decide, by decide⟩ ⟨by decide, by decide⟩ hc (by simpa using ta) p0 p1 p2 p3 hX0 hX1 hX2 hX3 X3
                have hY0 : alu 3 3 3 c 0 X0 X1 X2 X3 0 X0 = X0 := alu_other _ _ _ _ _ _ _ _ _ _ _ (by decide)
                have hY1 : alu 3 3 3 c 0 X0 X1 X2 X3 1 X1 = X1 := alu_other _ _ _ _ _ _ _ _ _ _ _ (by decide)
                have hY2 : alu 3 3 3 c 0 X0 X1 X2 X3 2 X2 = X2 := alu_other _ _ _ _ _ _ _ _ _ _ _ (by decide)
                go_wp2_with (first | (go_at_call 28; (with_reducible refine (alu_is 3 _ _ _ _ _ _ _ _ _ (fun _ => ⟨by decide, by decide⟩) (fun _ => ⟨⟨by decide, by decide⟩, hc⟩) hY0 hY1 hY2 hY).mono ?_); rintro e w4 ⟨rfl, hb4⟩; obtain ⟨hc4, hf4⟩ := bcell hb4; have hz4 := hb4.size; (try simp at hz4); (try (have hz1 := Nat.lt_of_succ_le hz4; (try (have hz2 := Nat.lt_of_succ_lt hz1; (try (have hz3 := Nat.lt_of_succ_lt hz2))))))))
                have d1 : (w4.alloc (.cells #[.int .u64 X0, .int .u64 X1, .int .u64 X2, .int .u64 r3] 50)).cell? ⟨w.heap.size, 1, none⟩ = some (.int .i64 3) := keptA _ (kept hb4 c1)
                have d2 : (w4.alloc (.cells #[.int .u64 X0, .int .u64 X1, .int .u64 X2, .int .u64 r3] 50)).cell? ⟨w.heap.size, 2, none⟩ = some (.int .i64 3) := keptA _ (kept hb4 c2)
                have d3 : (w4.alloc (.cells #[.int .u64 X0, .int .u64 X1, .int .u64 X2, .int .u64 r3] 50)).cell? ⟨w.heap.size + 1, 3, none⟩ = some (.int .u64 r3) := keptA _ (kept hb4 s3)
                have d4 : (w4.alloc (.cells #[.int .u64 X0, .int .u64 X1, .int .u64 X2, .int .u64 r3] 50)).cell? ⟨w4.heap.size, 3, none⟩ = some (.int .u64 r3) := by simp
                go_region
                go_wp2
                go_ret
                refine ⟨rfl, ?_⟩
                first | exact (below2 (below2 hB hb4) (below_alloc1 _ _)).drew | exact below2 (below2 hB hb4) (below_alloc1 _ _) | exact (below2 (below2 hB.drew hb4) (below_alloc1 _ _)).drew | exact below2 (below2 hB.drew hb4) (below_alloc1 _ _)

end Go.Proofs.Ytnmdhlemenjdiab
