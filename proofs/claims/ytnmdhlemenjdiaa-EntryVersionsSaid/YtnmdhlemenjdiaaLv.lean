/- The walk of the law of versions. -/
import Derived.Test.YtnmdhlemenjdiaaL8
namespace Go.Proofs.Ytnmdhlemenjdiaa
open Go.RowKit
set_option linter.unusedSimpArgs false
set_option linter.unusedVariables false

theorem tmod_cases (a m : Int) (hm : 0 < m) : ∃ v, 0 ≤ v ∧ v < m ∧ (a.tmod m = v ∨ (a.tmod m = -v ∧ 0 < v)) := by
  have h := Int.tmod_lt_of_pos a hm
  have h2 : -m < a.tmod m := by
    have := Int.tmod_lt_of_pos (-a) hm
    rw [Int.neg_tmod] at this
    omega
  by_cases c : a.tmod m < 0
  · exact ⟨-a.tmod m, by omega, by omega, Or.inr ⟨by omega, by omega⟩⟩
  · exact ⟨a.tmod m, by omega, h, Or.inl rfl⟩

set_option maxHeartbeats 4000000 in
theorem entryVersions (a n : Int) (w : World) :
    Calls Try.prog 6 #[.int .i64 a, .int .i64 n] w fun e w' => e = .returned (.bool true) ∧ Below w.heap.size w w' := by
  obtain ⟨V, v0, v1, hv⟩ := tmod_cases a 16777216 (by decide)
  obtain ⟨M, m0, m1, hm⟩ := tmod_cases n 31 (by decide)
  have v1 : V ≤ 16777215 := by omega
  rcases hv with hv | ⟨hv, hv'⟩
  · rcases hm with hm | ⟨hm, hm'⟩
    · go_enter Try.func6, Try.ntmps6
      go_wp2_with (first | (go_at_call 15; (with_reducible refine (shown8 _).mono ?_); rintro e w1 ⟨rfl, hb1⟩; obtain ⟨hc1, hf1⟩ := bcell hb1; have hz1 := hb1.size; (try simp at hz1); (try (have hz1 := Nat.lt_of_succ_le hz1; (try (have hz2 := Nat.lt_of_succ_lt hz1; (try (have hz3 := Nat.lt_of_succ_lt hz2))))))))
      have hB1 : Below w.heap.size w w1 := hb1
      clear hb1 hc1 hf1
      go_loopw [9] (fun i wr => ∃ k : Nat, (k : Int) ≤ M ∧ i = .int .i64 k ∧ V + k ≤ 16777215 ∧ wr.heap[w1.heap.size]? = some (.cells #[.int .i64 0, .int .i64 (V + k), .int .i64 0] 23) ∧ Below w.heap.size w wr) (fun i _ => (M - intOf i).toNat)
      case atStart => exact ⟨0, m0, rfl, by simpa using v1, by simpa using blk_new w1 _, below2 hB1 (below_alloc1 _ _)⟩
      case round =>
        obtain ⟨k, hk, rfl, hV, hblk, hB⟩ := hrel
        rename_i wr
        have p0 : 0 ≤ V + k := by omega
        have c0 : wr.cell? ⟨w1.heap.size, 0, none⟩ = some (.int .i64 (0)) := (blk_cell hblk 0).trans rfl
        have cf0 : wr.frozen? ⟨w1.heap.size, 0, none⟩ = false := blk_free hblk 0
        have c1 : wr.cell? ⟨w1.heap.size, 1, none⟩ = some (.int .i64 (V + k)) := (blk_cell hblk 1).trans rfl
        have cf1 : wr.frozen? ⟨w1.heap.size, 1, none⟩ = false := blk_free hblk 1
        have c2 : wr.cell? ⟨w1.heap.size, 2, none⟩ = some (.int .i64 (0)) := (blk_cell hblk 2).trans rfl
        have cf2 : wr.frozen? ⟨w1.heap.size, 2, none⟩ = false := blk_free hblk 2
        by_cases hlt : (k : Int) < M
        · rcases two (decide (V + k < 16777215)) with ho | ho
          · have hop : isOpen 0 (V + k) = false := by unfold isOpen; rw [ho]; rfl
            have hmx : V + k = 16777215 := by have := of_decide_eq_false ho; omega
            have hmx' : (V + (k : Int) == 16777215) = true := by simpa using hmx
            clear hmx ho
            go_wp2_with (first | (go_at_call 22; (with_reducible refine (open_any _ _ _ _).mono ?_); rintro e w2 ⟨rfl, hb2⟩; have k2 := blk_keep hb2 hblk; have d0 : w2.cell? ⟨w1.heap.size, 0, none⟩ = some (.int .i64 (0)) := (blk_cell k2 0).trans rfl; have df0 : w2.frozen? ⟨w1.heap.size, 0, none⟩ = false := blk_free k2 0; have d1 : w2.cell? ⟨w1.heap.size, 1, none⟩ = some (.int .i64 (V + k)) := (blk_cell k2 1).trans rfl; have df1 : w2.frozen? ⟨w1.heap.size, 1, none⟩ = false := blk_free k2 1; have d2 : w2.cell? ⟨w1.heap.size, 2, none⟩ = some (.int .i64 (0)) := (blk_cell k2 2).trans rfl; have df2 : w2.frozen? ⟨w1.heap.size, 2, none⟩ = false := blk_free k2 2))
            go_ret
            exact ⟨rfl, below2 hB hb2⟩
          · have hop : isOpen 0 (V + k) = true := by unfold isOpen; rw [ho]; rfl
            have p1 : V + (k : Int) ≤ 16777215 := by have := of_decide_eq_true ho; omega
            have p2 : V + (k : Int) + 1 ≤ 16777215 := by have := of_decide_eq_true ho; omega
            have hE : enV 1 (V + k) = V + k + 1 := by unfold enV nextV; rw [if_neg (by decide), if_neg (by omega)]
            have hE0 : enE 1 = 0 := rfl
            clear ho
            go_wp2_with (first | (go_at_call 22; (with_reducible refine (open_any _ _ _ _).mono ?_); rintro e w2 ⟨rfl, hb2⟩; have k2 := blk_keep hb2 hblk; have d0 : w2.cell? ⟨w1.heap.size, 0, none⟩ = some (.int .i64 (0)) := (blk_cell k2 0).trans rfl; have df0 : w2.frozen? ⟨w1.heap.size, 0, none⟩ = false := blk_free k2 0; have d1 : w2.cell? ⟨w1.heap.size, 1, none⟩ = some (.int .i64 (V + k)) := (blk_cell k2 1).trans rfl; have df1 : w2.frozen? ⟨w1.heap.size, 1, none⟩ = false := blk_free k2 1; have d2 : w2.cell? ⟨w1.heap.size, 2, none⟩ = some (.int .i64 (0)) := (blk_cell k2 2).trans rfl; have df2 : w2.frozen? ⟨w1.heap.size, 2, none⟩ = false := blk_free k2 2) | (go_at_call 20; (with_reducible refine (end_any _ _ _ _ p0 p1).mono ?_); rintro e w4 ⟨rfl, hb4⟩; have k4 := blk_keep hb4 (blk_set 0 (.int .i64 1) k2); have y4 := blk_lt k4; have e0 : w4.cell? ⟨w1.heap.size, 0, none⟩ = some (.int .i64 (1)) := (blk_cell k4 0).trans rfl; have ef0 : w4.frozen? ⟨w1.heap.size, 0, none⟩ = false := blk_free k4 0; have e1 : w4.cell? ⟨w1.heap.size, 1, none⟩ = some (.int .i64 (V + k)) := (blk_cell k4 1).trans rfl; have ef1 : w4.frozen? ⟨w1.heap.size, 1, none⟩ = false := blk_free k4 1; have e2 : w4.cell? ⟨w1.heap.size, 2, none⟩ = some (.int .i64 (0)) := (blk_cell k4 2).trans rfl; have ef2 : w4.frozen? ⟨w1.heap.size, 2, none⟩ = false := blk_free k4 2))
            go_roundw
            case rel =>
              refine ⟨k + 1, by omega, by go_num, by omega, ?_, ?_⟩
              · have q := blk_alloc (.cells #[.int .i64 0, .int .i64 (V + k + 1), .int .i64 0] 23) (blk_set 2 (.int .i64 0) (blk_set 1 (.int .i64 (V + k + 1)) (blk_set 0 (.int .i64 0) k4)))
                rw [show V + ((k + 1 : Nat) : Int) = V + k + 1 by omega]
                exact q
              · have q1 : Below w.heap.size w w4 := (((below2 hB hb2).setCell (p := ⟨w1.heap.size, 0, none⟩) hz1 (.int .i64 1))).trans (hb4.mono (by simpa using (below2 hB hb2).size))
                exact below2 (((q1.setCell (p := ⟨w1.heap.size, 0, none⟩) hz1 _).setCell (p := ⟨w1.heap.size, 1, none⟩) hz1 _).setCell (p := ⟨w1.heap.size, 2, none⟩) hz1 _) (below_alloc1 _ _)
            case measure => simp [intOf]; omega
        · obtain rfl : M = k := by omega
          go_wp2
          go_ret
          exact ⟨rfl, hB⟩
    · go_enter Try.func6, Try.ntmps6
      go_wp2_with (first | (go_at_call 15; (with_reducible refine (shown8 _).mono ?_); rintro e w1 ⟨rfl, hb1⟩; obtain ⟨hc1, hf1⟩ := bcell hb1; have hz1 := hb1.size; (try simp at hz1); (try (have hz1 := Nat.lt_of_succ_le hz1; (try (have hz2 := Nat.lt_of_succ_lt hz1; (try (have hz3 := Nat.lt_of_succ_lt hz2))))))))
      have hB1 : Below w.heap.size w w1 := hb1
      clear hb1 hc1 hf1
      go_loopw [9] (fun i wr => ∃ k : Nat, (k : Int) ≤ M ∧ i = .int .i64 k ∧ V + k ≤ 16777215 ∧ wr.heap[w1.heap.size]? = some (.cells #[.int .i64 0, .int .i64 (V + k), .int .i64 0] 23) ∧ Below w.heap.size w wr) (fun i _ => (M - intOf i).toNat)
      case atStart => exact ⟨0, m0, rfl, by simpa using v1, by simpa using blk_new w1 _, below2 hB1 (below_alloc1 _ _)⟩
      case round =>
        obtain ⟨k, hk, rfl, hV, hblk, hB⟩ := hrel
        rename_i wr
        have p0 : 0 ≤ V + k := by omega
        have c0 : wr.cell? ⟨w1.heap.size, 0, none⟩ = some (.int .i64 (0)) := (blk_cell hblk 0).trans rfl
        have cf0 : wr.frozen? ⟨w1.heap.size, 0, none⟩ = false := blk_free hblk 0
        have c1 : wr.cell? ⟨w1.heap.size, 1, none⟩ = some (.int .i64 (V + k)) := (blk_cell hblk 1).trans rfl
        have cf1 : wr.frozen? ⟨w1.heap.size, 1, none⟩ = false := blk_free hblk 1
        have c2 : wr.cell? ⟨w1.heap.size, 2, none⟩ = some (.int .i64 (0)) := (blk_cell hblk 2).trans rfl
        have cf2 : wr.frozen? ⟨w1.heap.size, 2, none⟩ = false := blk_free hblk 2
        by_cases hlt : (k : Int) < M
        · rcases two (decide (V + k < 16777215)) with ho | ho
          · have hop : isOpen 0 (V + k) = false := by unfold isOpen; rw [ho]; rfl
            have hmx : V + k = 16777215 := by have := of_decide_eq_false ho; omega
            have hmx' : (V + (k : Int) == 16777215) = true := by simpa using hmx
            clear hmx ho
            go_wp2_with (first | (go_at_call 22; (with_reducible refine (open_any _ _ _ _).mono ?_); rintro e w2 ⟨rfl, hb2⟩; have k2 := blk_keep hb2 hblk; have d0 : w2.cell? ⟨w1.heap.size, 0, none⟩ = some (.int .i64 (0)) := (blk_cell k2 0).trans rfl; have df0 : w2.frozen? ⟨w1.heap.size, 0, none⟩ = false := blk_free k2 0; have d1 : w2.cell? ⟨w1.heap.size, 1, none⟩ = some (.int .i64 (V + k)) := (blk_cell k2 1).trans rfl; have df1 : w2.frozen? ⟨w1.heap.size, 1, none⟩ = false := blk_free k2 1; have d2 : w2.cell? ⟨w1.heap.size, 2, none⟩ = some (.int .i64 (0)) := (blk_cell k2 2).trans rfl; have df2 : w2.frozen? ⟨w1.heap.size, 2, none⟩ = false := blk_free k2 2))
            go_ret
            exact ⟨rfl, below2 hB hb2⟩
          · have hop : isOpen 0 (V + k) = true := by unfold isOpen; rw [ho]; rfl
            have p1 : V + (k : Int) ≤ 16777215 := by have := of_decide_eq_true ho; omega
            have p2 : V + (k : Int) + 1 ≤ 16777215 := by have := of_decide_eq_true ho; omega
            have hE : enV 1 (V + k) = V + k + 1 := by unfold enV nextV; rw [if_neg (by decide), if_neg (by omega)]
            have hE0 : enE 1 = 0 := rfl
            clear ho
            go_wp2_with (first | (go_at_call 22; (with_reducible refine (open_any _ _ _ _).mono ?_); rintro e w2 ⟨rfl, hb2⟩; have k2 := blk_keep hb2 hblk; have d0 : w2.cell? ⟨w1.heap.size, 0, none⟩ = some (.int .i64 (0)) := (blk_cell k2 0).trans rfl; have df0 : w2.frozen? ⟨w1.heap.size, 0, none⟩ = false := blk_free k2 0; have d1 : w2.cell? ⟨w1.heap.size, 1, none⟩ = some (.int .i64 (V + k)) := (blk_cell k2 1).trans rfl; have df1 : w2.frozen? ⟨w1.heap.size, 1, none⟩ = false := blk_free k2 1; have d2 : w2.cell? ⟨w1.heap.size, 2, none⟩ = some (.int .i64 (0)) := (blk_cell k2 2).trans rfl; have df2 : w2.frozen? ⟨w1.heap.size, 2, none⟩ = false := blk_free k2 2) | (go_at_call 20; (with_reducible refine (end_any _ _ _ _ p0 p1).mono ?_); rintro e w4 ⟨rfl, hb4⟩; have k4 := blk_keep hb4 (blk_set 0 (.int .i64 1) k2); have y4 := blk_lt k4; have e0 : w4.cell? ⟨w1.heap.size, 0, none⟩ = some (.int .i64 (1)) := (blk_cell k4 0).trans rfl; have ef0 : w4.frozen? ⟨w1.heap.size, 0, none⟩ = false := blk_free k4 0; have e1 : w4.cell? ⟨w1.heap.size, 1, none⟩ = some (.int .i64 (V + k)) := (blk_cell k4 1).trans rfl; have ef1 : w4.frozen? ⟨w1.heap.size, 1, none⟩ = false := blk_free k4 1; have e2 : w4.cell? ⟨w1.heap.size, 2, none⟩ = some (.int .i64 (0)) := (blk_cell k4 2).trans rfl; have ef2 : w4.frozen? ⟨w1.heap.size, 2, none⟩ = false := blk_free k4 2))
            go_roundw
            case rel =>
              refine ⟨k + 1, by omega, by go_num, by omega, ?_, ?_⟩
              · have q := blk_alloc (.cells #[.int .i64 0, .int .i64 (V + k + 1), .int .i64 0] 23) (blk_set 2 (.int .i64 0) (blk_set 1 (.int .i64 (V + k + 1)) (blk_set 0 (.int .i64 0) k4)))
                rw [show V + ((k + 1 : Nat) : Int) = V + k + 1 by omega]
                exact q
              · have q1 : Below w.heap.size w w4 := (((below2 hB hb2).setCell (p := ⟨w1.heap.size, 0, none⟩) hz1 (.int .i64 1))).trans (hb4.mono (by simpa using (below2 hB hb2).size))
                exact below2 (((q1.setCell (p := ⟨w1.heap.size, 0, none⟩) hz1 _).setCell (p := ⟨w1.heap.size, 1, none⟩) hz1 _).setCell (p := ⟨w1.heap.size, 2, none⟩) hz1 _) (below_alloc1 _ _)
            case measure => simp [intOf]; omega
        · obtain rfl : M = k := by omega
          go_wp2
          go_ret
          exact ⟨rfl, hB⟩
  · rcases hm with hm | ⟨hm, hm'⟩
    · go_enter Try.func6, Try.ntmps6
      go_wp2_with (first | (go_at_call 15; (with_reducible refine (shown8 _).mono ?_); rintro e w1 ⟨rfl, hb1⟩; obtain ⟨hc1, hf1⟩ := bcell hb1; have hz1 := hb1.size; (try simp at hz1); (try (have hz1 := Nat.lt_of_succ_le hz1; (try (have hz2 := Nat.lt_of_succ_lt hz1; (try (have hz3 := Nat.lt_of_succ_lt hz2))))))))
      have hB1 : Below w.heap.size w w1 := hb1
      clear hb1 hc1 hf1
      go_loopw [9] (fun i wr => ∃ k : Nat, (k : Int) ≤ M ∧ i = .int .i64 k ∧ V + k ≤ 16777215 ∧ wr.heap[w1.heap.size]? = some (.cells #[.int .i64 0, .int .i64 (V + k), .int .i64 0] 23) ∧ Below w.heap.size w wr) (fun i _ => (M - intOf i).toNat)
      case atStart => exact ⟨0, m0, rfl, by simpa using v1, by simpa using blk_new w1 _, below2 hB1 (below_alloc1 _ _)⟩
      case round =>
        obtain ⟨k, hk, rfl, hV, hblk, hB⟩ := hrel
        rename_i wr
        have p0 : 0 ≤ V + k := by omega
        have c0 : wr.cell? ⟨w1.heap.size, 0, none⟩ = some (.int .i64 (0)) := (blk_cell hblk 0).trans rfl
        have cf0 : wr.frozen? ⟨w1.heap.size, 0, none⟩ = false := blk_free hblk 0
        have c1 : wr.cell? ⟨w1.heap.size, 1, none⟩ = some (.int .i64 (V + k)) := (blk_cell hblk 1).trans rfl
        have cf1 : wr.frozen? ⟨w1.heap.size, 1, none⟩ = false := blk_free hblk 1
        have c2 : wr.cell? ⟨w1.heap.size, 2, none⟩ = some (.int .i64 (0)) := (blk_cell hblk 2).trans rfl
        have cf2 : wr.frozen? ⟨w1.heap.size, 2, none⟩ = false := blk_free hblk 2
        by_cases hlt : (k : Int) < M
        · rcases two (decide (V + k < 16777215)) with ho | ho
          · have hop : isOpen 0 (V + k) = false := by unfold isOpen; rw [ho]; rfl
            have hmx : V + k = 16777215 := by have := of_decide_eq_false ho; omega
            have hmx' : (V + (k : Int) == 16777215) = true := by simpa using hmx
            clear hmx ho
            go_wp2_with (first | (go_at_call 22; (with_reducible refine (open_any _ _ _ _).mono ?_); rintro e w2 ⟨rfl, hb2⟩; have k2 := blk_keep hb2 hblk; have d0 : w2.cell? ⟨w1.heap.size, 0, none⟩ = some (.int .i64 (0)) := (blk_cell k2 0).trans rfl; have df0 : w2.frozen? ⟨w1.heap.size, 0, none⟩ = false := blk_free k2 0; have d1 : w2.cell? ⟨w1.heap.size, 1, none⟩ = some (.int .i64 (V + k)) := (blk_cell k2 1).trans rfl; have df1 : w2.frozen? ⟨w1.heap.size, 1, none⟩ = false := blk_free k2 1; have d2 : w2.cell? ⟨w1.heap.size, 2, none⟩ = some (.int .i64 (0)) := (blk_cell k2 2).trans rfl; have df2 : w2.frozen? ⟨w1.heap.size, 2, none⟩ = false := blk_free k2 2))
            go_ret
            exact ⟨rfl, below2 hB hb2⟩
          · have hop : isOpen 0 (V + k) = true := by unfold isOpen; rw [ho]; rfl
            have p1 : V + (k : Int) ≤ 16777215 := by have := of_decide_eq_true ho; omega
            have p2 : V + (k : Int) + 1 ≤ 16777215 := by have := of_decide_eq_true ho; omega
            have hE : enV 1 (V + k) = V + k + 1 := by unfold enV nextV; rw [if_neg (by decide), if_neg (by omega)]
            have hE0 : enE 1 = 0 := rfl
            clear ho
            go_wp2_with (first | (go_at_call 22; (with_reducible refine (open_any _ _ _ _).mono ?_); rintro e w2 ⟨rfl, hb2⟩; have k2 := blk_keep hb2 hblk; have d0 : w2.cell? ⟨w1.heap.size, 0, none⟩ = some (.int .i64 (0)) := (blk_cell k2 0).trans rfl; have df0 : w2.frozen? ⟨w1.heap.size, 0, none⟩ = false := blk_free k2 0; have d1 : w2.cell? ⟨w1.heap.size, 1, none⟩ = some (.int .i64 (V + k)) := (blk_cell k2 1).trans rfl; have df1 : w2.frozen? ⟨w1.heap.size, 1, none⟩ = false := blk_free k2 1; have d2 : w2.cell? ⟨w1.heap.size, 2, none⟩ = some (.int .i64 (0)) := (blk_cell k2 2).trans rfl; have df2 : w2.frozen? ⟨w1.heap.size, 2, none⟩ = false := blk_free k2 2) | (go_at_call 20; (with_reducible refine (end_any _ _ _ _ p0 p1).mono ?_); rintro e w4 ⟨rfl, hb4⟩; have k4 := blk_keep hb4 (blk_set 0 (.int .i64 1) k2); have y4 := blk_lt k4; have e0 : w4.cell? ⟨w1.heap.size, 0, none⟩ = some (.int .i64 (1)) := (blk_cell k4 0).trans rfl; have ef0 : w4.frozen? ⟨w1.heap.size, 0, none⟩ = false := blk_free k4 0; have e1 : w4.cell? ⟨w1.heap.size, 1, none⟩ = some (.int .i64 (V + k)) := (blk_cell k4 1).trans rfl; have ef1 : w4.frozen? ⟨w1.heap.size, 1, none⟩ = false := blk_free k4 1; have e2 : w4.cell? ⟨w1.heap.size, 2, none⟩ = some (.int .i64 (0)) := (blk_cell k4 2).trans rfl; have ef2 : w4.frozen? ⟨w1.heap.size, 2, none⟩ = false := blk_free k4 2))
            go_roundw
            case rel =>
              refine ⟨k + 1, by omega, by go_num, by omega, ?_, ?_⟩
              · have q := blk_alloc (.cells #[.int .i64 0, .int .i64 (V + k + 1), .int .i64 0] 23) (blk_set 2 (.int .i64 0) (blk_set 1 (.int .i64 (V + k + 1)) (blk_set 0 (.int .i64 0) k4)))
                rw [show V + ((k + 1 : Nat) : Int) = V + k + 1 by omega]
                exact q
              · have q1 : Below w.heap.size w w4 := (((below2 hB hb2).setCell (p := ⟨w1.heap.size, 0, none⟩) hz1 (.int .i64 1))).trans (hb4.mono (by simpa using (below2 hB hb2).size))
                exact below2 (((q1.setCell (p := ⟨w1.heap.size, 0, none⟩) hz1 _).setCell (p := ⟨w1.heap.size, 1, none⟩) hz1 _).setCell (p := ⟨w1.heap.size, 2, none⟩) hz1 _) (below_alloc1 _ _)
            case measure => simp [intOf]; omega
        · obtain rfl : M = k := by omega
          go_wp2
          go_ret
          exact ⟨rfl, hB⟩
    · go_enter Try.func6, Try.ntmps6
      go_wp2_with (first | (go_at_call 15; (with_reducible refine (shown8 _).mono ?_); rintro e w1 ⟨rfl, hb1⟩; obtain ⟨hc1, hf1⟩ := bcell hb1; have hz1 := hb1.size; (try simp at hz1); (try (have hz1 := Nat.lt_of_succ_le hz1; (try (have hz2 := Nat.lt_of_succ_lt hz1; (try (have hz3 := Nat.lt_of_succ_lt hz2))))))))
      have hB1 : Below w.heap.size w w1 := hb1
      clear hb1 hc1 hf1
      go_loopw [9] (fun i wr => ∃ k : Nat, (k : Int) ≤ M ∧ i = .int .i64 k ∧ V + k ≤ 16777215 ∧ wr.heap[w1.heap.size]? = some (.cells #[.int .i64 0, .int .i64 (V + k), .int .i64 0] 23) ∧ Below w.heap.size w wr) (fun i _ => (M - intOf i).toNat)
      case atStart => exact ⟨0, m0, rfl, by simpa using v1, by simpa using blk_new w1 _, below2 hB1 (below_alloc1 _ _)⟩
      case round =>
        obtain ⟨k, hk, rfl, hV, hblk, hB⟩ := hrel
        rename_i wr
        have p0 : 0 ≤ V + k := by omega
        have c0 : wr.cell? ⟨w1.heap.size, 0, none⟩ = some (.int .i64 (0)) := (blk_cell hblk 0).trans rfl
        have cf0 : wr.frozen? ⟨w1.heap.size, 0, none⟩ = false := blk_free hblk 0
        have c1 : wr.cell? ⟨w1.heap.size, 1, none⟩ = some (.int .i64 (V + k)) := (blk_cell hblk 1).trans rfl
        have cf1 : wr.frozen? ⟨w1.heap.size, 1, none⟩ = false := blk_free hblk 1
        have c2 : wr.cell? ⟨w1.heap.size, 2, none⟩ = some (.int .i64 (0)) := (blk_cell hblk 2).trans rfl
        have cf2 : wr.frozen? ⟨w1.heap.size, 2, none⟩ = false := blk_free hblk 2
        by_cases hlt : (k : Int) < M
        · rcases two (decide (V + k < 16777215)) with ho | ho
          · have hop : isOpen 0 (V + k) = false := by unfold isOpen; rw [ho]; rfl
            have hmx : V + k = 16777215 := by have := of_decide_eq_false ho; omega
            have hmx' : (V + (k : Int) == 16777215) = true := by simpa using hmx
            clear hmx ho
            go_wp2_with (first | (go_at_call 22; (with_reducible refine (open_any _ _ _ _).mono ?_); rintro e w2 ⟨rfl, hb2⟩; have k2 := blk_keep hb2 hblk; have d0 : w2.cell? ⟨w1.heap.size, 0, none⟩ = some (.int .i64 (0)) := (blk_cell k2 0).trans rfl; have df0 : w2.frozen? ⟨w1.heap.size, 0, none⟩ = false := blk_free k2 0; have d1 : w2.cell? ⟨w1.heap.size, 1, none⟩ = some (.int .i64 (V + k)) := (blk_cell k2 1).trans rfl; have df1 : w2.frozen? ⟨w1.heap.size, 1, none⟩ = false := blk_free k2 1; have d2 : w2.cell? ⟨w1.heap.size, 2, none⟩ = some (.int .i64 (0)) := (blk_cell k2 2).trans rfl; have df2 : w2.frozen? ⟨w1.heap.size, 2, none⟩ = false := blk_free k2 2))
            go_ret
            exact ⟨rfl, below2 hB hb2⟩
          · have hop : isOpen 0 (V + k) = true := by unfold isOpen; rw [ho]; rfl
            have p1 : V + (k : Int) ≤ 16777215 := by have := of_decide_eq_true ho; omega
            have p2 : V + (k : Int) + 1 ≤ 16777215 := by have := of_decide_eq_true ho; omega
            have hE : enV 1 (V + k) = V + k + 1 := by unfold enV nextV; rw [if_neg (by decide), if_neg (by omega)]
            have hE0 : enE 1 = 0 := rfl
            clear ho
            go_wp2_with (first | (go_at_call 22; (with_reducible refine (open_any _ _ _ _).mono ?_); rintro e w2 ⟨rfl, hb2⟩; have k2 := blk_keep hb2 hblk; have d0 : w2.cell? ⟨w1.heap.size, 0, none⟩ = some (.int .i64 (0)) := (blk_cell k2 0).trans rfl; have df0 : w2.frozen? ⟨w1.heap.size, 0, none⟩ = false := blk_free k2 0; have d1 : w2.cell? ⟨w1.heap.size, 1, none⟩ = some (.int .i64 (V + k)) := (blk_cell k2 1).trans rfl; have df1 : w2.frozen? ⟨w1.heap.size, 1, none⟩ = false := blk_free k2 1; have d2 : w2.cell? ⟨w1.heap.size, 2, none⟩ = some (.int .i64 (0)) := (blk_cell k2 2).trans rfl; have df2 : w2.frozen? ⟨w1.heap.size, 2, none⟩ = false := blk_free k2 2) | (go_at_call 20; (with_reducible refine (end_any _ _ _ _ p0 p1).mono ?_); rintro e w4 ⟨rfl, hb4⟩; have k4 := blk_keep hb4 (blk_set 0 (.int .i64 1) k2); have y4 := blk_lt k4; have e0 : w4.cell? ⟨w1.heap.size, 0, none⟩ = some (.int .i64 (1)) := (blk_cell k4 0).trans rfl; have ef0 : w4.frozen? ⟨w1.heap.size, 0, none⟩ = false := blk_free k4 0; have e1 : w4.cell? ⟨w1.heap.size, 1, none⟩ = some (.int .i64 (V + k)) := (blk_cell k4 1).trans rfl; have ef1 : w4.frozen? ⟨w1.heap.size, 1, none⟩ = false := blk_free k4 1; have e2 : w4.cell? ⟨w1.heap.size, 2, none⟩ = some (.int .i64 (0)) := (blk_cell k4 2).trans rfl; have ef2 : w4.frozen? ⟨w1.heap.size, 2, none⟩ = false := blk_free k4 2))
            go_roundw
            case rel =>
              refine ⟨k + 1, by omega, by go_num, by omega, ?_, ?_⟩
              · have q := blk_alloc (.cells #[.int .i64 0, .int .i64 (V + k + 1), .int .i64 0] 23) (blk_set 2 (.int .i64 0) (blk_set 1 (.int .i64 (V + k + 1)) (blk_set 0 (.int .i64 0) k4)))
                rw [show V + ((k + 1 : Nat) : Int) = V + k + 1 by omega]
                exact q
              · have q1 : Below w.heap.size w w4 := (((below2 hB hb2).setCell (p := ⟨w1.heap.size, 0, none⟩) hz1 (.int .i64 1))).trans (hb4.mono (by simpa using (below2 hB hb2).size))
                exact below2 (((q1.setCell (p := ⟨w1.heap.size, 0, none⟩) hz1 _).setCell (p := ⟨w1.heap.size, 1, none⟩) hz1 _).setCell (p := ⟨w1.heap.size, 2, none⟩) hz1 _) (below_alloc1 _ _)
            case measure => simp [intOf]; omega
        · obtain rfl : M = k := by omega
          go_wp2
          go_ret
          exact ⟨rfl, hB⟩

end Go.Proofs.Ytnmdhlemenjdiaa
