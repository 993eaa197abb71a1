/- The walks of the reference of instructions: has, may. -/
import Derived.Test.YtnmdhlemenjdiabKit
import Derived.Test.YtnmdhlemenjdiabPi
import Derived.Test.YtnmdhlemenjdiabProg
namespace Go.Proofs.Ytnmdhlemenjdiab
open Go.RowKit
set_option linter.unusedSimpArgs false
set_option linter.unusedVariables false

/-- The letter of a shape. -/
def letter (s : Int) : Int := if s = 1 then 114 else if s = 2 then 115 else if s = 3 then 98 else if s = 4 then 105 else if s = 5 then 103 else if s = 6 then 107 else if s = 7 then 102 else 45
set_option maxHeartbeats 4000000 in
theorem rmay13 (s n : Int) (w : World) (h0 : 0 ≤ s) (h1 : s ≤ 7) :
    Calls Try.prog 42 #[.int .u8 (letter s), .int .i64 n] w fun e w' => e = .returned (.bool (hold s n)) ∧ w = w' := by
  have hs : s = 0 ∨ s = 1 ∨ s = 2 ∨ s = 3 ∨ s = 4 ∨ s = 5 ∨ s = 6 ∨ s = 7 := by omega
  clear h0 h1
  rcases hs with rfl | rfl | rfl | rfl | rfl | rfl | rfl | rfl
  · rw [show letter 0 = 45 from rfl]
    go_enter Try.func42, Try.ntmps42
    go_wp2
    all_goals go_ret
    all_goals exact ⟨ret_bool (by rw [Bool.eq_iff_iff]; simp [hold, win] <;> omega), rfl⟩
  · rw [show letter 1 = 114 from rfl]
    go_enter Try.func42, Try.ntmps42
    go_wp2
    all_goals go_ret
    all_goals exact ⟨ret_bool (by rw [Bool.eq_iff_iff]; simp [hold, win] <;> omega), rfl⟩
  · rw [show letter 2 = 115 from rfl]
    go_enter Try.func42, Try.ntmps42
    go_wp2
    all_goals go_ret
    all_goals exact ⟨ret_bool (by rw [Bool.eq_iff_iff]; simp [hold, win] <;> omega), rfl⟩
  · rw [show letter 3 = 98 from rfl]
    go_enter Try.func42, Try.ntmps42
    go_wp2
    all_goals go_ret
    all_goals exact ⟨ret_bool (by rw [Bool.eq_iff_iff]; simp [hold, win] <;> omega), rfl⟩
  · rw [show letter 4 = 105 from rfl]
    go_enter Try.func42, Try.ntmps42
    go_wp2
    all_goals go_ret
    all_goals exact ⟨ret_bool (by rw [Bool.eq_iff_iff]; simp [hold, win] <;> omega), rfl⟩
  · rw [show letter 5 = 103 from rfl]
    go_enter Try.func42, Try.ntmps42
    go_wp2
    all_goals go_ret
    all_goals exact ⟨ret_bool (by rw [Bool.eq_iff_iff]; simp [hold, win] <;> omega), rfl⟩
  · rw [show letter 6 = 107 from rfl]
    go_enter Try.func42, Try.ntmps42
    go_wp2
    all_goals go_ret
    all_goals exact ⟨ret_bool (by rw [Bool.eq_iff_iff]; simp [hold, win] <;> omega), rfl⟩
  · rw [show letter 7 = 102 from rfl]
    go_enter Try.func42, Try.ntmps42
    go_wp2
    all_goals go_ret
    all_goals exact ⟨ret_bool (by rw [Bool.eq_iff_iff]; simp [hold, win] <;> omega), rfl⟩

/-- What 'has' tells of an operation. -/
def hasS (o : Int) : ByteArray := if o = 0 ∨ o = 16 then (⟨#[45, 45, 45, 45]⟩ : ByteArray) else if o = 1 ∨ o = 7 then (⟨#[114, 45, 45, 105]⟩ : ByteArray) else if o = 2 ∨ o = 3 then (⟨#[114, 114, 114, 45]⟩ : ByteArray) else if o = 4 ∨ o = 5 ∨ o = 6 then (⟨#[114, 114, 45, 105]⟩ : ByteArray) else if o = 8 then (⟨#[115, 115, 115, 45]⟩ : ByteArray) else if o = 9 then (⟨#[115, 115, 45, 115]⟩ : ByteArray) else if o = 10 then (⟨#[115, 115, 98, 103]⟩ : ByteArray) else if o = 11 then (⟨#[115, 115, 45, 107]⟩ : ByteArray) else if o = 12 ∨ o = 14 then (⟨#[115, 115, 45, 45]⟩ : ByteArray) else if o = 13 then (⟨#[115, 115, 45, 102]⟩ : ByteArray) else if o = 15 then (⟨#[45, 115, 45, 45]⟩ : ByteArray) else ⟨#[]⟩
set_option maxHeartbeats 4000000 in
theorem has_any (o : Int) (w : World) :
    Calls Try.prog 41 #[.int .i64 o] w fun e w' => e = .returned (.string (hasS o)) ∧ Below w.heap.size w w' := by
  rcases two (opOk o) with h | h
  · have hw := win_f h
    have hz : hasS o = ⟨#[]⟩ := by unfold hasS; repeat (rw [if_neg (by omega)])
    have HZ := Kp.mk hz
    clear hz h
    by_cases h0 : o < 0
    · go_enter Try.func41, Try.ntmps41
      go_wp2
      go_ret
      exact ⟨by rw [HZ.out]; rfl, Below.refl _ _⟩
    · have h1 : o > 16 := by omega
      have h0' : decide (o < 0) = false := decide_eq_false h0
      clear hw h0
      go_enter Try.func41, Try.ntmps41
      go_wp2
      go_ret
      exact ⟨by rw [HZ.out]; rfl, Below.refl _ _⟩
  · have hc := opOk_cases h
    clear h
    rcases hc with rfl | rfl | rfl | rfl | rfl | rfl | rfl | rfl | rfl | rfl | rfl | rfl | rfl | rfl | rfl | rfl | rfl
    all_goals
      go_enter Try.func41, Try.ntmps41
      go_wp2
      go_ret
      exact ⟨rfl, (Below.refl _ _).alloc (Nat.le_refl _) _⟩

set_option maxRecDepth 100000 in
theorem has_idx (o : Int) (h : opOk o = true) : (∀ w, (Instr.index 9 (.string (hasS o)) (.int .i64 0)).run Try.prog w = .ok (.int .u8 (letter (shA o))) w) ∧ (∀ w, (Instr.index 9 (.string (hasS o)) (.int .i64 1)).run Try.prog w = .ok (.int .u8 (letter (shB o))) w) ∧
    (∀ w, (Instr.index 9 (.string (hasS o)) (.int .i64 2)).run Try.prog w = .ok (.int .u8 (letter (shC o))) w) ∧ (∀ w, (Instr.index 9 (.string (hasS o)) (.int .i64 3)).run Try.prog w = .ok (.int .u8 (letter (shI o))) w) := by
  rcases opOk_cases h with rfl | rfl | rfl | rfl | rfl | rfl | rfl | rfl | rfl | rfl | rfl | rfl | rfl | rfl | rfl | rfl | rfl
  all_goals exact ⟨fun _ => by kernel_rfl, fun _ => by kernel_rfl, fun _ => by kernel_rfl, fun _ => by kernel_rfl⟩
theorem has_no (o : Int) (h : opOk o = false) : (hasS o).toList.isEmpty = true := by
  have hw := win_f h
  have e : hasS o = ⟨#[]⟩ := by unfold hasS; repeat (rw [if_neg (by omega)])
  rw [e]; decide +kernel
theorem has_yes (o : Int) (h : opOk o = true) : (hasS o).toList.isEmpty = false := by
  rcases opOk_cases h with rfl | rfl | rfl | rfl | rfl | rfl | rfl | rfl | rfl | rfl | rfl | rfl | rfl | rfl | rfl | rfl | rfl
  all_goals decide +kernel

theorem sh_b2 (o : Int) : (0 ≤ shA o ∧ shA o ≤ 7) ∧ (0 ≤ shB o ∧ shB o ≤ 7) ∧ (0 ≤ shC o ∧ shC o ≤ 7) ∧ (0 ≤ shI o ∧ shI o ≤ 7) := by
  unfold shA shB shC shI
  refine ⟨?_, ?_, ?_, ?_⟩ <;> (repeat' split) <;> omega
theorem or_chain13 {o a b c m : Int} (h : insMay o a b c m = true) (q : Int) (hq : q = m % 4294967296) : bits .or .u64 (bits .or .u64 (bits .or .u64 (bits .or .u64 o (a * 256)) (b * 65536)) (c * 16777216)) (q * 4294967296) = insSum o a b c m := by
  subst hq; exact insSum_or h
set_option maxHeartbeats 8000000 in
theorem rword13 (o a b c m : Int) (w : World) :
    Calls Try.prog 24 #[.agg #[.int .i64 o, .int .i64 a, .int .i64 b, .int .i64 c, .int .i64 m]] w fun e w' => e = .returned (.tuple #[.int .u64 (iWord o a b c m), .int .i64 (iErr o a b c m)]) ∧ Below w.heap.size w w' := by
  obtain ⟨⟨sa0, sa1⟩, ⟨sb0, sb1⟩, ⟨sc0, sc1⟩, ⟨si0, si1⟩⟩ := sh_b2 o
  rcases two (insMay o a b c m) with hn | hn
  · obtain ⟨e1, e2⟩ := iWord_no hn
    have E1 := Kp.mk e1
    have E2 := Kp.mk e2
    clear e1 e2
    rcases two (opOk o) with ho | ho
    · have y1 := has_no o ho
      clear hn ho
      go_enter Try.func24, Try.ntmps24
      go_wp2_with (first | (go_at_call 41; (with_reducible refine (has_any _ _).mono ?_); rintro e w1 ⟨rfl, hb1⟩; have hx1 : w1.heap[w.heap.size]? = some (.cells #[.int .i64 o, .int .i64 a, .int .i64 b, .int .i64 c, .int .i64 m] 45) := blk_keep hb1 (blk_new w _); have HB1 := Kp.mk (below2 (below_alloc1 w _) hb1); have x0 : w1.cell? ⟨w.heap.size, 0, none⟩ = some (.int .i64 o) := (blk_cell hx1 0).trans rfl; have x1 : w1.cell? ⟨w.heap.size, 1, none⟩ = some (.int .i64 a) := (blk_cell hx1 1).trans rfl; have x2 : w1.cell? ⟨w.heap.size, 2, none⟩ = some (.int .i64 b) := (blk_cell hx1 2).trans rfl; have x3 : w1.cell? ⟨w.heap.size, 3, none⟩ = some (.int .i64 c) := (blk_cell hx1 3).trans rfl; have x4 : w1.cell? ⟨w.heap.size, 4, none⟩ = some (.int .i64 m) := (blk_cell hx1 4).trans rfl; clear hb1 hx1))
      go_quiet ((first | (go_at_call 42; (with_reducible exact Calls.quiet_of_same ((rmay13 (shA o) a _ sa0 sa1).mono fun e w' ⟨h, k⟩ => ⟨h, k.symm⟩))) | (go_at_call 42; (with_reducible exact Calls.quiet_of_same ((rmay13 (shB o) b _ sb0 sb1).mono fun e w' ⟨h, k⟩ => ⟨h, k.symm⟩))) | (go_at_call 42; (with_reducible exact Calls.quiet_of_same ((rmay13 (shC o) c _ sc0 sc1).mono fun e w' ⟨h, k⟩ => ⟨h, k.symm⟩))) | (go_at_call 42; (with_reducible exact Calls.quiet_of_same ((rmay13 (shI o) m _ si0 si1).mono fun e w' ⟨h, k⟩ => ⟨h, k.symm⟩)))))
      go_wp2
      go_ret2
      exact ⟨ret_int2 E1.out.symm E2.out.symm, belowN HB1.out _⟩
    have y1 := has_yes o ho
    obtain ⟨i0, i1, i2, i3⟩ := has_idx o ho
    rcases two (hold (shA o) a) with ha | ha
    · clear hn ho
      go_enter Try.func24, Try.ntmps24
      go_wp2_with (first | (go_at_call 41; (with_reducible refine (has_any _ _).mono ?_); rintro e w1 ⟨rfl, hb1⟩; have hx1 : w1.heap[w.heap.size]? = some (.cells #[.int .i64 o, .int .i64 a, .int .i64 b, .int .i64 c, .int .i64 m] 45) := blk_keep hb1 (blk_new w _); have HB1 := Kp.mk (below2 (below_alloc1 w _) hb1); have x0 : w1.cell? ⟨w.heap.size, 0, none⟩ = some (.int .i64 o) := (blk_cell hx1 0).trans rfl; have x1 : w1.cell? ⟨w.heap.size, 1, none⟩ = some (.int .i64 a) := (blk_cell hx1 1).trans rfl; have x2 : w1.cell? ⟨w.heap.size, 2, none⟩ = some (.int .i64 b) := (blk_cell hx1 2).trans rfl; have x3 : w1.cell? ⟨w.heap.size, 3, none⟩ = some (.int .i64 c) := (blk_cell hx1 3).trans rfl; have x4 : w1.cell? ⟨w.heap.size, 4, none⟩ = some (.int .i64 m) := (blk_cell hx1 4).trans rfl; clear hb1 hx1))
      go_quiet ((first | (go_at_call 42; (with_reducible exact Calls.quiet_of_same ((rmay13 (shA o) a _ sa0 sa1).mono fun e w' ⟨h, k⟩ => ⟨h, k.symm⟩))) | (go_at_call 42; (with_reducible exact Calls.quiet_of_same ((rmay13 (shB o) b _ sb0 sb1).mono fun e w' ⟨h, k⟩ => ⟨h, k.symm⟩))) | (go_at_call 42; (with_reducible exact Calls.quiet_of_same ((rmay13 (shC o) c _ sc0 sc1).mono fun e w' ⟨h, k⟩ => ⟨h, k.symm⟩))) | (go_at_call 42; (with_reducible exact Calls.quiet_of_same ((rmay13 (shI o) m _ si0 si1).mono fun e w' ⟨h, k⟩ => ⟨h, k.symm⟩)))))
      go_wp2
      go_ret2
      exact ⟨ret_int2 E1.out.symm E2.out.symm, belowN HB1.out _⟩
    rcases two (hold (shB o) b) with hb | hb
    · clear hn ho
      go_enter Try.func24, Try.ntmps24
      go_wp2_with (first | (go_at_call 41; (with_reducible refine (has_any _ _).mono ?_); rintro e w1 ⟨rfl, hb1⟩; have hx1 : w1.heap[w.heap.size]? = some (.cells #[.int .i64 o, .int .i64 a, .int .i64 b, .int .i64 c, .int .i64 m] 45) := blk_keep hb1 (blk_new w _); have HB1 := Kp.mk (below2 (below_alloc1 w _) hb1); have x0 : w1.cell? ⟨w.heap.size, 0, none⟩ = some (.int .i64 o) := (blk_cell hx1 0).trans rfl; have x1 : w1.cell? ⟨w.heap.size, 1, none⟩ = some (.int .i64 a) := (blk_cell hx1 1).trans rfl; have x2 : w1.cell? ⟨w.heap.size, 2, none⟩ = some (.int .i64 b) := (blk_cell hx1 2).trans rfl; have x3 : w1.cell? ⟨w.heap.size, 3, none⟩ = some (.int .i64 c) := (blk_cell hx1 3).trans rfl; have x4 : w1.cell? ⟨w.heap.size, 4, none⟩ = some (.int .i64 m) := (blk_cell hx1 4).trans rfl; clear hb1 hx1))
      go_quiet ((first | (go_at_call 42; (with_reducible exact Calls.quiet_of_same ((rmay13 (shA o) a _ sa0 sa1).mono fun e w' ⟨h, k⟩ => ⟨h, k.symm⟩))) | (go_at_call 42; (with_reducible exact Calls.quiet_of_same ((rmay13 (shB o) b _ sb0 sb1).mono fun e w' ⟨h, k⟩ => ⟨h, k.symm⟩))) | (go_at_call 42; (with_reducible exact Calls.quiet_of_same ((rmay13 (shC o) c _ sc0 sc1).mono fun e w' ⟨h, k⟩ => ⟨h, k.symm⟩))) | (go_at_call 42; (with_reducible exact Calls.quiet_of_same ((rmay13 (shI o) m _ si0 si1).mono fun e w' ⟨h, k⟩ => ⟨h, k.symm⟩)))))
      go_wp2
      go_ret2
      exact ⟨ret_int2 E1.out.symm E2.out.symm, belowN HB1.out _⟩
    rcases two (hold (shC o) c) with hc | hc
    · clear hn ho
      go_enter Try.func24, Try.ntmps24
      go_wp2_with (first | (go_at_call 41; (with_reducible refine (has_any _ _).mono ?_); rintro e w1 ⟨rfl, hb1⟩; have hx1 : w1.heap[w.heap.size]? = some (.cells #[.int .i64 o, .int .i64 a, .int .i64 b, .int .i64 c, .int .i64 m] 45) := blk_keep hb1 (blk_new w _); have HB1 := Kp.mk (below2 (below_alloc1 w _) hb1); have x0 : w1.cell? ⟨w.heap.size, 0, none⟩ = some (.int .i64 o) := (blk_cell hx1 0).trans rfl; have x1 : w1.cell? ⟨w.heap.size, 1, none⟩ = some (.int .i64 a) := (blk_cell hx1 1).trans rfl; have x2 : w1.cell? ⟨w.heap.size, 2, none⟩ = some (.int .i64 b) := (blk_cell hx1 2).trans rfl; have x3 : w1.cell? ⟨w.heap.size, 3, none⟩ = some (.int .i64 c) := (blk_cell hx1 3).trans rfl; have x4 : w1.cell? ⟨w.heap.size, 4, none⟩ = some (.int .i64 m) := (blk_cell hx1 4).trans rfl; clear hb1 hx1))
      go_quiet ((first | (go_at_call 42; (with_reducible exact Calls.quiet_of_same ((rmay13 (shA o) a _ sa0 sa1).mono fun e w' ⟨h, k⟩ => ⟨h, k.symm⟩))) | (go_at_call 42; (with_reducible exact Calls.quiet_of_same ((rmay13 (shB o) b _ sb0 sb1).mono fun e w' ⟨h, k⟩ => ⟨h, k.symm⟩))) | (go_at_call 42; (with_reducible exact Calls.quiet_of_same ((rmay13 (shC o) c _ sc0 sc1).mono fun e w' ⟨h, k⟩ => ⟨h, k.symm⟩))) | (go_at_call 42; (with_reducible exact Calls.quiet_of_same ((rmay13 (shI o) m _ si0 si1).mono fun e w' ⟨h, k⟩ => ⟨h, k.symm⟩)))))
      go_wp2
      go_ret2
      exact ⟨ret_int2 E1.out.symm E2.out.symm, belowN HB1.out _⟩
    have hi : hold (shI o) m = false := by unfold insMay at hn; rw [ho, ha, hb, hc] at hn; simpa using hn
    clear hn ho
    go_enter Try.func24, Try.ntmps24
    go_wp2_with (first | (go_at_call 41; (with_reducible refine (has_any _ _).mono ?_); rintro e w1 ⟨rfl, hb1⟩; have hx1 : w1.heap[w.heap.size]? = some (.cells #[.int .i64 o, .int .i64 a, .int .i64 b, .int .i64 c, .int .i64 m] 45) := blk_keep hb1 (blk_new w _); have HB1 := Kp.mk (below2 (below_alloc1 w _) hb1); have x0 : w1.cell? ⟨w.heap.size, 0, none⟩ = some (.int .i64 o) := (blk_cell hx1 0).trans rfl; have x1 : w1.cell? ⟨w.heap.size, 1, none⟩ = some (.int .i64 a) := (blk_cell hx1 1).trans rfl; have x2 : w1.cell? ⟨w.heap.size, 2, none⟩ = some (.int .i64 b) := (blk_cell hx1 2).trans rfl; have x3 : w1.cell? ⟨w.heap.size, 3, none⟩ = some (.int .i64 c) := (blk_cell hx1 3).trans rfl; have x4 : w1.cell? ⟨w.heap.size, 4, none⟩ = some (.int .i64 m) := (blk_cell hx1 4).trans rfl; clear hb1 hx1))
    go_quiet ((first | (go_at_call 42; (with_reducible exact Calls.quiet_of_same ((rmay13 (shA o) a _ sa0 sa1).mono fun e w' ⟨h, k⟩ => ⟨h, k.symm⟩))) | (go_at_call 42; (with_reducible exact Calls.quiet_of_same ((rmay13 (shB o) b _ sb0 sb1).mono fun e w' ⟨h, k⟩ => ⟨h, k.symm⟩))) | (go_at_call 42; (with_reducible exact Calls.quiet_of_same ((rmay13 (shC o) c _ sc0 sc1).mono fun e w' ⟨h, k⟩ => ⟨h, k.symm⟩))) | (go_at_call 42; (with_reducible exact Calls.quiet_of_same ((rmay13 (shI o) m _ si0 si1).mono fun e w' ⟨h, k⟩ => ⟨h, k.symm⟩)))))
    go_wp2
    go_ret2
    exact ⟨ret_int2 E1.out.symm E2.out.symm, belowN HB1.out _⟩
  · obtain ⟨e1, e2⟩ := iWord_yes hn
    obtain ⟨⟨o0, o1⟩, ⟨a0, a1⟩, ⟨b0, b1⟩, ⟨c0, c1⟩, ⟨m0, m1⟩⟩ := insMay_t hn
    have hs := hn
    unfold insMay at hs
    simp only [Bool.and_eq_true] at hs
    obtain ⟨⟨⟨⟨ho, ha⟩, hb⟩, hc⟩, hi⟩ := hs
    have y1 := has_yes o ho
    obtain ⟨i0, i1, i2, i3⟩ := has_idx o ho
    have E1 := Kp.mk e1
    have E2 := Kp.mk e2
    have H := Kp.mk hn
    clear e1 e2 hn ho
    by_cases hm : m < 0
    · go_enter Try.func24, Try.ntmps24
      go_wp2_with (first | (go_at_call 41; (with_reducible refine (has_any _ _).mono ?_); rintro e w1 ⟨rfl, hb1⟩; have hx1 : w1.heap[w.heap.size]? = some (.cells #[.int .i64 o, .int .i64 a, .int .i64 b, .int .i64 c, .int .i64 m] 45) := blk_keep hb1 (blk_new w _); have HB1 := Kp.mk (below2 (below_alloc1 w _) hb1); have x0 : w1.cell? ⟨w.heap.size, 0, none⟩ = some (.int .i64 o) := (blk_cell hx1 0).trans rfl; have x1 : w1.cell? ⟨w.heap.size, 1, none⟩ = some (.int .i64 a) := (blk_cell hx1 1).trans rfl; have x2 : w1.cell? ⟨w.heap.size, 2, none⟩ = some (.int .i64 b) := (blk_cell hx1 2).trans rfl; have x3 : w1.cell? ⟨w.heap.size, 3, none⟩ = some (.int .i64 c) := (blk_cell hx1 3).trans rfl; have x4 : w1.cell? ⟨w.heap.size, 4, none⟩ = some (.int .i64 m) := (blk_cell hx1 4).trans rfl; clear hb1 hx1))
      go_quiet ((first | (go_at_call 42; (with_reducible exact Calls.quiet_of_same ((rmay13 (shA o) a _ sa0 sa1).mono fun e w' ⟨h, k⟩ => ⟨h, k.symm⟩))) | (go_at_call 42; (with_reducible exact Calls.quiet_of_same ((rmay13 (shB o) b _ sb0 sb1).mono fun e w' ⟨h, k⟩ => ⟨h, k.symm⟩))) | (go_at_call 42; (with_reducible exact Calls.quiet_of_same ((rmay13 (shC o) c _ sc0 sc1).mono fun e w' ⟨h, k⟩ => ⟨h, k.symm⟩))) | (go_at_call 42; (with_reducible exact Calls.quiet_of_same ((rmay13 (shI o) m _ si0 si1).mono fun e w' ⟨h, k⟩ => ⟨h, k.symm⟩)))))
      go_wp2
      go_ret2
      exact ⟨ret_int2 ((or_chain13 H.out (m + 4294967296) (by omega)).trans E1.out.symm) E2.out.symm, belowN HB1.out _⟩
    · go_enter Try.func24, Try.ntmps24
      go_wp2_with (first | (go_at_call 41; (with_reducible refine (has_any _ _).mono ?_); rintro e w1 ⟨rfl, hb1⟩; have hx1 : w1.heap[w.heap.size]? = some (.cells #[.int .i64 o, .int .i64 a, .int .i64 b, .int .i64 c, .int .i64 m] 45) := blk_keep hb1 (blk_new w _); have HB1 := Kp.mk (below2 (below_alloc1 w _) hb1); have x0 : w1.cell? ⟨w.heap.size, 0, none⟩ = some (.int .i64 o) := (blk_cell hx1 0).trans rfl; have x1 : w1.cell? ⟨w.heap.size, 1, none⟩ = some (.int .i64 a) := (blk_cell hx1 1).trans rfl; have x2 : w1.cell? ⟨w.heap.size, 2, none⟩ = some (.int .i64 b) := (blk_cell hx1 2).trans rfl; have x3 : w1.cell? ⟨w.heap.size, 3, none⟩ = some (.int .i64 c) := (blk_cell hx1 3).trans rfl; have x4 : w1.cell? ⟨w.heap.size, 4, none⟩ = some (.int .i64 m) := (blk_cell hx1 4).trans rfl; clear hb1 hx1))
      go_quiet ((first | (go_at_call 42; (with_reducible exact Calls.quiet_of_same ((rmay13 (shA o) a _ sa0 sa1).mono fun e w' ⟨h, k⟩ => ⟨h, k.symm⟩))) | (go_at_call 42; (with_reducible exact Calls.quiet_of_same ((rmay13 (shB o) b _ sb0 sb1).mono fun e w' ⟨h, k⟩ => ⟨h, k.symm⟩))) | (go_at_call 42; (with_reducible exact Calls.quiet_of_same ((rmay13 (shC o) c _ sc0 sc1).mono fun e w' ⟨h, k⟩ => ⟨h, k.symm⟩))) | (go_at_call 42; (with_reducible exact Calls.quiet_of_same ((rmay13 (shI o) m _ si0 si1).mono fun e w' ⟨h, k⟩ => ⟨h, k.symm⟩)))))
      go_wp2
      go_ret2
      exact ⟨ret_int2 ((or_chain13 H.out m (by omega)).trans E1.out.symm) E2.out.symm, belowN HB1.out _⟩

end Go.Proofs.Ytnmdhlemenjdiab
