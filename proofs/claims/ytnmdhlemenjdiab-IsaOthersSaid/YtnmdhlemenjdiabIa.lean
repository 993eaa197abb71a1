/- The walks of isa.Alu and isa.Address. -/
import Derived.Test.YtnmdhlemenjdiabIn
import Derived.RegionTactic
import Derived.BigRegion
namespace Go.Proofs.Ytnmdhlemenjdiab
open Go.RowKit
set_option linter.unusedSimpArgs false
set_option linter.unusedVariables false

/-- What an instruction makes of a register (the k-th, that held r). -/
def alu (o a b c m r0 r1 r2 r3 k r : Int) : Int :=
  if o = 1 then (if k = a then IntKind.u64.wrap m else r)
  else if o = 2 then (if k = a then IntKind.u64.wrap (rAt r0 r1 r2 r3 b + rAt r0 r1 r2 r3 c) else r)
  else if o = 3 then (if k = a then IntKind.u64.wrap (rAt r0 r1 r2 r3 b - rAt r0 r1 r2 r3 c) else r) else r
/-- Where an instruction goes to. -/
def adr (o b m r0 r1 r2 r3 : Int) : Int := if 4 ≤ o ∧ o ≤ 6 then IntKind.u64.wrap (rAt r0 r1 r2 r3 b + IntKind.u64.wrap m) else 0
theorem at_reg {w : World} {B t : Nat} {r0 r1 r2 r3 : Int} (h : w.heap[B]? = some (.cells #[.int .u64 r0, .int .u64 r1, .int .u64 r2, .int .u64 r3] t)) (k : Nat) (hk : k < 4) :
    w.cell? ⟨B, k, none⟩ = some (.int .u64 (rAt r0 r1 r2 r3 k)) := by
  have : k = 0 ∨ k = 1 ∨ k = 2 ∨ k = 3 := by omega
  rcases this with rfl | rfl | rfl | rfl <;> exact (blk_cell h _).trans rfl
theorem list_reg {r0 r1 r2 r3 : Int} (k : Nat) (hk : k < 4) : ([Value.int .u64 r0, .int .u64 r1, .int .u64 r2, .int .u64 r3])[k]'(by simpa using hk) = .int .u64 (rAt r0 r1 r2 r3 k) := by
  have : k = 0 ∨ k = 1 ∨ k = 2 ∨ k = 3 := by omega
  rcases this with rfl | rfl | rfl | rfl <;> rfl
set_option maxHeartbeats 4000000 in
theorem adr_any (o a b c m : Int) (r0 r1 r2 r3 : Int) (w : World) (hb : 4 ≤ o ∧ o ≤ 6 → 0 ≤ b ∧ b < 4) :
    Calls Try.prog 30 #[.agg #[.int .i64 o, .int .i64 a, .int .i64 b, .int .i64 c, .int .i64 m], .agg #[.int .u64 r0, .int .u64 r1, .int .u64 r2, .int .u64 r3]] w fun e w' => e = .returned (.int .u64 (adr o b m r0 r1 r2 r3)) ∧ Below w.heap.size w w' := by
  by_cases ho : 4 ≤ o ∧ o ≤ 6
  · obtain ⟨b0, b1⟩ := hb ho
    clear hb
    obtain ⟨B, rfl⟩ := Int.eq_ofNat_of_zero_le b0
    have hB : B < 4 := by omega
    have HN : Kp (adr o B m r0 r1 r2 r3 = IntKind.u64.wrap (rAt r0 r1 r2 r3 B + IntKind.u64.wrap m)) := ⟨if_pos ho⟩
    generalize adr o B m r0 r1 r2 r3 = X at HN ⊢
    have hl : ([Value.int .u64 r0, .int .u64 r1, .int .u64 r2, .int .u64 r3])[B]'(by simpa using hB) = .int .u64 (rAt r0 r1 r2 r3 B) := list_reg B hB
    have hc : o = 4 ∨ o = 5 ∨ o = 6 := by omega
    clear ho
    rcases hc with rfl | rfl | rfl
    · go_enter Try.func30, Try.ntmps30
      go_wp2
      go_quiet (fail)
      go_wp2
      go_ret
      exact ⟨ret_int HN.out.symm, by repeat (first | exact Below.refl _ _ | (with_reducible refine Below.setCell ?_ (by first | exact Nat.le_refl _ | (simp; done) | (simp; omega) | omega) _) | (with_reducible refine Below.alloc ?_ (by first | exact Nat.le_refl _ | (simp; done) | (simp; omega) | omega) _) | (with_reducible refine Below.drew ?_) | (with_reducible refine belowN ?_ _) | (with_reducible refine Below.trans ?_ (Below.mono (by assumption) (by first | exact Nat.le_refl _ | (simp; done) | (simp; omega) | omega))))⟩
    · go_enter Try.func30, Try.ntmps30
      go_wp2
      go_quiet (fail)
      go_wp2
      go_ret
      exact ⟨ret_int HN.out.symm, by repeat (first | exact Below.refl _ _ | (with_reducible refine Below.setCell ?_ (by first | exact Nat.le_refl _ | (simp; done) | (simp; omega) | omega) _) | (with_reducible refine Below.alloc ?_ (by first | exact Nat.le_refl _ | (simp; done) | (simp; omega) | omega) _) | (with_reducible refine Below.drew ?_) | (with_reducible refine belowN ?_ _) | (with_reducible refine Below.trans ?_ (Below.mono (by assumption) (by first | exact Nat.le_refl _ | (simp; done) | (simp; omega) | omega))))⟩
    · go_enter Try.func30, Try.ntmps30
      go_wp2
      go_quiet (fail)
      go_wp2
      go_ret
      exact ⟨ret_int HN.out.symm, by repeat (first | exact Below.refl _ _ | (with_reducible refine Below.setCell ?_ (by first | exact Nat.le_refl _ | (simp; done) | (simp; omega) | omega) _) | (with_reducible refine Below.alloc ?_ (by first | exact Nat.le_refl _ | (simp; done) | (simp; omega) | omega) _) | (with_reducible refine Below.drew ?_) | (with_reducible refine belowN ?_ _) | (with_reducible refine Below.trans ?_ (Below.mono (by assumption) (by first | exact Nat.le_refl _ | (simp; done) | (simp; omega) | omega))))⟩
  · have HN : Kp (adr o b m r0 r1 r2 r3 = 0) := ⟨if_neg ho⟩
    generalize adr o b m r0 r1 r2 r3 = X at HN ⊢
    clear hb
    have n4 : (o == 4) = false := by simp; omega
    have n5 : (o == 5) = false := by simp; omega
    have n6 : (o == 6) = false := by simp; omega
    clear ho
    go_enter Try.func30, Try.ntmps30
    go_wp2
    go_ret
    exact ⟨ret_int HN.out.symm, by repeat (first | exact Below.refl _ _ | (with_reducible refine Below.setCell ?_ (by first | exact Nat.le_refl _ | (simp; done) | (simp; omega) | omega) _) | (with_reducible refine Below.alloc ?_ (by first | exact Nat.le_refl _ | (simp; done) | (simp; omega) | omega) _) | (with_reducible refine Below.drew ?_) | (with_reducible refine belowN ?_ _) | (with_reducible refine Below.trans ?_ (Below.mono (by assumption) (by first | exact Nat.le_refl _ | (simp; done) | (simp; omega) | omega))))⟩

set_option maxHeartbeats 8000000 in
theorem alu_any (o a b c m : Int) (r0 r1 r2 r3 : Int) (w : World) (ha : 1 ≤ o ∧ o ≤ 3 → 0 ≤ a ∧ a < 4) (hbc : 2 ≤ o ∧ o ≤ 3 → (0 ≤ b ∧ b < 4) ∧ (0 ≤ c ∧ c < 4)) :
    Calls Try.prog 28 #[.agg #[.int .i64 o, .int .i64 a, .int .i64 b, .int .i64 c, .int .i64 m], .agg #[.int .u64 r0, .int .u64 r1, .int .u64 r2, .int .u64 r3]] w fun e w' => e = .returned (.agg #[.int .u64 (alu o a b c m r0 r1 r2 r3 0 r0), .int .u64 (alu o a b c m r0 r1 r2 r3 1 r1), .int .u64 (alu o a b c m r0 r1 r2 r3 2 r2), .int .u64 (alu o a b c m r0 r1 r2 r3 3 r3)]) ∧ Below w.heap.size w w' := by
  by_cases h1 : o = 1
  · obtain ⟨a0, a1⟩ := ha (by omega)
    clear ha hbc
    subst h1
    have hc : a = 0 ∨ a = 1 ∨ a = 2 ∨ a = 3 := by omega
    clear a0 a1
    rcases hc with rfl | rfl | rfl | rfl
    · have H0 : Kp (alu 1 0 b c m r0 r1 r2 r3 0 r0 = IntKind.u64.wrap m) := ⟨rfl⟩
      have H1 : Kp (alu 1 0 b c m r0 r1 r2 r3 1 r1 = r1) := ⟨rfl⟩
      have H2 : Kp (alu 1 0 b c m r0 r1 r2 r3 2 r2 = r2) := ⟨rfl⟩
      have H3 : Kp (alu 1 0 b c m r0 r1 r2 r3 3 r3 = r3) := ⟨rfl⟩
      generalize alu 1 0 b c m r0 r1 r2 r3 0 r0 = V0 at H0 ⊢
      generalize alu 1 0 b c m r0 r1 r2 r3 1 r1 = V1 at H1 ⊢
      generalize alu 1 0 b c m r0 r1 r2 r3 2 r2 = V2 at H2 ⊢
      generalize alu 1 0 b c m r0 r1 r2 r3 3 r3 = V3 at H3 ⊢
      go_enter Try.func28, Try.ntmps28
      go_wp2
      refine bodyPost_ret (v := .agg #[.int .u64 V0, .int .u64 V1, .int .u64 V2, .int .u64 V3]) (by simp only [results, Try.results28, H0.out, H1.out, H2.out, H3.out]; go_simp) rfl ⟨rfl, ?_⟩
      repeat (first | exact Below.refl _ _ | (with_reducible refine Below.setCell ?_ (by first | exact Nat.le_refl _ | (simp; done) | (simp; omega) | omega) _) | (with_reducible refine Below.alloc ?_ (by first | exact Nat.le_refl _ | (simp; done) | (simp; omega) | omega) _) | (with_reducible refine Below.drew ?_) | (with_reducible refine belowN ?_ _) | (with_reducible refine Below.trans ?_ (Below.mono (by assumption) (by first | exact Nat.le_refl _ | (simp; done) | (simp; omega) | omega))))
    · have H0 : Kp (alu 1 1 b c m r0 r1 r2 r3 0 r0 = r0) := ⟨rfl⟩
      have H1 : Kp (alu 1 1 b c m r0 r1 r2 r3 1 r1 = IntKind.u64.wrap m) := ⟨rfl⟩
      have H2 : Kp (alu 1 1 b c m r0 r1 r2 r3 2 r2 = r2) := ⟨rfl⟩
      have H3 : Kp (alu 1 1 b c m r0 r1 r2 r3 3 r3 = r3) := ⟨rfl⟩
      generalize alu 1 1 b c m r0 r1 r2 r3 0 r0 = V0 at H0 ⊢
      generalize alu 1 1 b c m r0 r1 r2 r3 1 r1 = V1 at H1 ⊢
      generalize alu 1 1 b c m r0 r1 r2 r3 2 r2 = V2 at H2 ⊢
      generalize alu 1 1 b c m r0 r1 r2 r3 3 r3 = V3 at H3 ⊢
      go_enter Try.func28, Try.ntmps28
      go_wp2
      refine bodyPost_ret (v := .agg #[.int .u64 V0, .int .u64 V1, .int .u64 V2, .int .u64 V3]) (by simp only [results, Try.results28, H0.out, H1.out, H2.out, H3.out]; go_simp) rfl ⟨rfl, ?_⟩
      repeat (first | exact Below.refl _ _ | (with_reducible refine Below.setCell ?_ (by first | exact Nat.le_refl _ | (simp; done) | (simp; omega) | omega) _) | (with_reducible refine Below.alloc ?_ (by first | exact Nat.le_refl _ | (simp; done) | (simp; omega) | omega) _) | (with_reducible refine Below.drew ?_) | (with_reducible refine belowN ?_ _) | (with_reducible refine Below.trans ?_ (Below.mono (by assumption) (by first | exact Nat.le_refl _ | (simp; done) | (simp; omega) | omega))))
    · have H0 : Kp (alu 1 2 b c m r0 r1 r2 r3 0 r0 = r0) := ⟨rfl⟩
      have H1 : Kp (alu 1 2 b c m r0 r1 r2 r3 1 r1 = r1) := ⟨rfl⟩
      have H2 : Kp (alu 1 2 b c m r0 r1 r2 r3 2 r2 = IntKind.u64.wrap m) := ⟨rfl⟩
      have H3 : Kp (alu 1 2 b c m r0 r1 r2 r3 3 r3 = r3) := ⟨rfl⟩
      generalize alu 1 2 b c m r0 r1 r2 r3 0 r0 = V0 at H0 ⊢
      generalize alu 1 2 b c m r0 r1 r2 r3 1 r1 = V1 at H1 ⊢
      generalize alu 1 2 b c m r0 r1 r2 r3 2 r2 = V2 at H2 ⊢
      generalize alu 1 2 b c m r0 r1 r2 r3 3 r3 = V3 at H3 ⊢
      go_enter Try.func28, Try.ntmps28
      go_wp2
      refine bodyPost_ret (v := .agg #[.int .u64 V0, .int .u64 V1, .int .u64 V2, .int .u64 V3]) (by simp only [results, Try.results28, H0.out, H1.out, H2.out, H3.out]; go_simp) rfl ⟨rfl, ?_⟩
      repeat (first | exact Below.refl _ _ | (with_reducible refine Below.setCell ?_ (by first | exact Nat.le_refl _ | (simp; done) | (simp; omega) | omega) _) | (with_reducible refine Below.alloc ?_ (by first | exact Nat.le_refl _ | (simp; done) | (simp; omega) | omega) _) | (with_reducible refine Below.drew ?_) | (with_reducible refine belowN ?_ _) | (with_reducible refine Below.trans ?_ (Below.mono (by assumption) (by first | exact Nat.le_refl _ | (simp; done) | (simp; omega) | omega))))
    · have H0 : Kp (alu 1 3 b c m r0 r1 r2 r3 0 r0 = r0) := ⟨rfl⟩
      have H1 : Kp (alu 1 3 b c m r0 r1 r2 r3 1 r1 = r1) := ⟨rfl⟩
      have H2 : Kp (alu 1 3 b c m r0 r1 r2 r3 2 r2 = r2) := ⟨rfl⟩
      have H3 : Kp (alu 1 3 b c m r0 r1 r2 r3 3 r3 = IntKind.u64.wrap m) := ⟨rfl⟩
      generalize alu 1 3 b c m r0 r1 r2 r3 0 r0 = V0 at H0 ⊢
      generalize alu 1 3 b c m r0 r1 r2 r3 1 r1 = V1 at H1 ⊢
      generalize alu 1 3 b c m r0 r1 r2 r3 2 r2 = V2 at H2 ⊢
      generalize alu 1 3 b c m r0 r1 r2 r3 3 r3 = V3 at H3 ⊢
      go_enter Try.func28, Try.ntmps28
      go_wp2
      refine bodyPost_ret (v := .agg #[.int .u64 V0, .int .u64 V1, .int .u64 V2, .int .u64 V3]) (by simp only [results, Try.results28, H0.out, H1.out, H2.out, H3.out]; go_simp) rfl ⟨rfl, ?_⟩
      repeat (first | exact Below.refl _ _ | (with_reducible refine Below.setCell ?_ (by first | exact Nat.le_refl _ | (simp; done) | (simp; omega) | omega) _) | (with_reducible refine Below.alloc ?_ (by first | exact Nat.le_refl _ | (simp; done) | (simp; omega) | omega) _) | (with_reducible refine Below.drew ?_) | (with_reducible refine belowN ?_ _) | (with_reducible refine Below.trans ?_ (Below.mono (by assumption) (by first | exact Nat.le_refl _ | (simp; done) | (simp; omega) | omega))))
  by_cases h2 : o = 2
  · obtain ⟨a0, a1⟩ := ha (by omega)
    obtain ⟨⟨b0, b1⟩, ⟨c0, c1⟩⟩ := hbc (by omega)
    clear ha hbc
    subst h2
    obtain ⟨B, rfl⟩ := Int.eq_ofNat_of_zero_le b0
    obtain ⟨C, rfl⟩ := Int.eq_ofNat_of_zero_le c0
    have hB : B < 4 := by omega
    have hC : C < 4 := by omega
    have hc : a = 0 ∨ a = 1 ∨ a = 2 ∨ a = 3 := by omega
    clear a0 a1
    rcases hc with rfl | rfl | rfl | rfl
    · have H0 : Kp (alu 2 0 (B : Int) (C : Int) m r0 r1 r2 r3 0 r0 = IntKind.u64.wrap (rAt r0 r1 r2 r3 B + rAt r0 r1 r2 r3 C)) := ⟨rfl⟩
      have H1 : Kp (alu 2 0 (B : Int) (C : Int) m r0 r1 r2 r3 1 r1 = r1) := ⟨rfl⟩
      have H2 : Kp (alu 2 0 (B : Int) (C : Int) m r0 r1 r2 r3 2 r2 = r2) := ⟨rfl⟩
      have H3 : Kp (alu 2 0 (B : Int) (C : Int) m r0 r1 r2 r3 3 r3 = r3) := ⟨rfl⟩
      generalize alu 2 0 (B : Int) (C : Int) m r0 r1 r2 r3 0 r0 = V0 at H0 ⊢
      generalize alu 2 0 (B : Int) (C : Int) m r0 r1 r2 r3 1 r1 = V1 at H1 ⊢
      generalize alu 2 0 (B : Int) (C : Int) m r0 r1 r2 r3 2 r2 = V2 at H2 ⊢
      generalize alu 2 0 (B : Int) (C : Int) m r0 r1 r2 r3 3 r3 = V3 at H3 ⊢
      have hh := blk_alloc (.cells #[.int .u64 0, .int .u64 0, .int .u64 0, .int .u64 0] 50) (blk_new (w.alloc (.cells #[.int .i64 2, .int .i64 0, .int .i64 (B : Int), .int .i64 (C : Int), .int .i64 m] 45)) (.cells #[.int .u64 r0, .int .u64 r1, .int .u64 r2, .int .u64 r3] 50))
      have hq := at_reg hh B hB
      have hp := at_reg hh C hC
      simp at hq hp
      clear hh
      go_enter Try.func28, Try.ntmps28
      go_wp2
      go_region
      all_goals go_wp2
      all_goals (refine bodyPost_ret (v := .agg #[.int .u64 V0, .int .u64 V1, .int .u64 V2, .int .u64 V3]) (by simp only [results, Try.results28, H0.out, H1.out, H2.out, H3.out]; go_simp) rfl ⟨rfl, ?_⟩)
      all_goals (repeat (first | exact Below.refl _ _ | (with_reducible refine Below.setCell ?_ (by first | exact Nat.le_refl _ | (simp; done) | (simp; omega) | omega) _) | (with_reducible refine Below.alloc ?_ (by first | exact Nat.le_refl _ | (simp; done) | (simp; omega) | omega) _) | (with_reducible refine Below.drew ?_) | (with_reducible refine belowN ?_ _) | (with_reducible refine Below.trans ?_ (Below.mono (by assumption) (by first | exact Nat.le_refl _ | (simp; done) | (simp; omega) | omega)))))
    · have H0 : Kp (alu 2 1 (B : Int) (C : Int) m r0 r1 r2 r3 0 r0 = r0) := ⟨rfl⟩
      have H1 : Kp (alu 2 1 (B : Int) (C : Int) m r0 r1 r2 r3 1 r1 = IntKind.u64.wrap (rAt r0 r1 r2 r3 B + rAt r0 r1 r2 r3 C)) := ⟨rfl⟩
      have H2 : Kp (alu 2 1 (B : Int) (C : Int) m r0 r1 r2 r3 2 r2 = r2) := ⟨rfl⟩
      have H3 : Kp (alu 2 1 (B : Int) (C : Int) m r0 r1 r2 r3 3 r3 = r3) := ⟨rfl⟩
      generalize alu 2 1 (B : Int) (C : Int) m r0 r1 r2 r3 0 r0 = V0 at H0 ⊢
      generalize alu 2 1 (B : Int) (C : Int) m r0 r1 r2 r3 1 r1 = V1 at H1 ⊢
      generalize alu 2 1 (B : Int) (C : Int) m r0 r1 r2 r3 2 r2 = V2 at H2 ⊢
      generalize alu 2 1 (B : Int) (C : Int) m r0 r1 r2 r3 3 r3 = V3 at H3 ⊢
      have hh := blk_alloc (.cells #[.int .u64 0, .int .u64 0, .int .u64 0, .int .u64 0] 50) (blk_new (w.alloc (.cells #[.int .i64 2, .int .i64 1, .int .i64 (B : Int), .int .i64 (C : Int), .int .i64 m] 45)) (.cells #[.int .u64 r0, .int .u64 r1, .int .u64 r2, .int .u64 r3] 50))
      have hq := at_reg hh B hB
      have hp := at_reg hh C hC
      simp at hq hp
      clear hh
      go_enter Try.func28, Try.ntmps28
      go_wp2
      go_region
      all_goals go_wp2
      all_goals (refine bodyPost_ret (v := .agg #[.int .u64 V0, .int .u64 V1, .int .u64 V2, .int .u64 V3]) (by simp only [results, Try.results28, H0.out, H1.out, H2.out, H3.out]; go_simp) rfl ⟨rfl, ?_⟩)
      all_goals (repeat (first | exact Below.refl _ _ | (with_reducible refine Below.setCell ?_ (by first | exact Nat.le_refl _ | (simp; done) | (simp; omega) | omega) _) | (with_reducible refine Below.alloc ?_ (by first | exact Nat.le_refl _ | (simp; done) | (simp; omega) | omega) _) | (with_reducible refine Below.drew ?_) | (with_reducible refine belowN ?_ _) | (with_reducible refine Below.trans ?_ (Below.mono (by assumption) (by first | exact Nat.le_refl _ | (simp; done) | (simp; omega) | omega)))))
    · have H0 : Kp (alu 2 2 (B : Int) (C : Int) m r0 r1 r2 r3 0 r0 = r0) := ⟨rfl⟩
      have H1 : Kp (alu 2 2 (B : Int) (C : Int) m r0 r1 r2 r3 1 r1 = r1) := ⟨rfl⟩
      have H2 : Kp (alu 2 2 (B : Int) (C : Int) m r0 r1 r2 r3 2 r2 = IntKind.u64.wrap (rAt r0 r1 r2 r3 B + rAt r0 r1 r2 r3 C)) := ⟨rfl⟩
      have H3 : Kp (alu 2 2 (B : Int) (C : Int) m r0 r1 r2 r3 3 r3 = r3) := ⟨rfl⟩
      generalize alu 2 2 (B : Int) (C : Int) m r0 r1 r2 r3 0 r0 = V0 at H0 ⊢
      generalize alu 2 2 (B : Int) (C : Int) m r0 r1 r2 r3 1 r1 = V1 at H1 ⊢
      generalize alu 2 2 (B : Int) (C : Int) m r0 r1 r2 r3 2 r2 = V2 at H2 ⊢
      generalize alu 2 2 (B : Int) (C : Int) m r0 r1 r2 r3 3 r3 = V3 at H3 ⊢
      have hh := blk_alloc (.cells #[.int .u64 0, .int .u64 0, .int .u64 0, .int .u64 0] 50) (blk_new (w.alloc (.cells #[.int .i64 2, .int .i64 2, .int .i64 (B : Int), .int .i64 (C : Int), .int .i64 m] 45)) (.cells #[.int .u64 r0, .int .u64 r1, .int .u64 r2, .int .u64 r3] 50))
      have hq := at_reg hh B hB
      have hp := at_reg hh C hC
      simp at hq hp
      clear hh
      go_enter Try.func28, Try.ntmps28
      go_wp2
      go_region
      all_goals go_wp2
      all_goals (refine bodyPost_ret (v := .agg #[.int .u64 V0, .int .u64 V1, .int .u64 V2, .int .u64 V3]) (by simp only [results, Try.results28, H0.out, H1.out, H2.out, H3.out]; go_simp) rfl ⟨rfl, ?_⟩)
      all_goals (repeat (first | exact Below.refl _ _ | (with_reducible refine Below.setCell ?_ (by first | exact Nat.le_refl _ | (simp; done) | (simp; omega) | omega) _) | (with_reducible refine Below.alloc ?_ (by first | exact Nat.le_refl _ | (simp; done) | (simp; omega) | omega) _) | (with_reducible refine Below.drew ?_) | (with_reducible refine belowN ?_ _) | (with_reducible refine Below.trans ?_ (Below.mono (by assumption) (by first | exact Nat.le_refl _ | (simp; done) | (simp; omega) | omega)))))
    · have H0 : Kp (alu 2 3 (B : Int) (C : Int) m r0 r1 r2 r3 0 r0 = r0) := ⟨rfl⟩
      have H1 : Kp (alu 2 3 (B : Int) (C : Int) m r0 r1 r2 r3 1 r1 = r1) := ⟨rfl⟩
      have H2 : Kp (alu 2 3 (B : Int) (C : Int) m r0 r1 r2 r3 2 r2 = r2) := ⟨rfl⟩
      have H3 : Kp (alu 2 3 (B : Int) (C : Int) m r0 r1 r2 r3 3 r3 = IntKind.u64.wrap (rAt r0 r1 r2 r3 B + rAt r0 r1 r2 r3 C)) := ⟨rfl⟩
      generalize alu 2 3 (B : Int) (C : Int) m r0 r1 r2 r3 0 r0 = V0 at H0 ⊢
      generalize alu 2 3 (B : Int) (C : Int) m r0 r1 r2 r3 1 r1 = V1 at H1 ⊢
      generalize alu 2 3 (B : Int) (C : Int) m r0 r1 r2 r3 2 r2 = V2 at H2 ⊢
      generalize alu 2 3 (B : Int) (C : Int) m r0 r1 r2 r3 3 r3 = V3 at H3 ⊢
      have hh := blk_alloc (.cells #[.int .u64 0, .int .u64 0, .int .u64 0, .int .u64 0] 50) (blk_new (w.alloc (.cells #[.int .i64 2, .int .i64 3, .int .i64 (B : Int), .int .i64 (C : Int), .int .i64 m] 45)) (.cells #[.int .u64 r0, .int .u64 r1, .int .u64 r2, .int .u64 r3] 50))
      have hq := at_reg hh B hB
      have hp := at_reg hh C hC
      simp at hq hp
      clear hh
      go_enter Try.func28, Try.ntmps28
      go_wp2
      go_region
      all_goals go_wp2
      all_goals (refine bodyPost_ret (v := .agg #[.int .u64 V0, .int .u64 V1, .int .u64 V2, .int .u64 V3]) (by simp only [results, Try.results28, H0.out, H1.out, H2.out, H3.out]; go_simp) rfl ⟨rfl, ?_⟩)
      all_goals (repeat (first | exact Below.refl _ _ | (with_reducible refine Below.setCell ?_ (by first | exact Nat.le_refl _ | (simp; done) | (simp; omega) | omega) _) | (with_reducible refine Below.alloc ?_ (by first | exact Nat.le_refl _ | (simp; done) | (simp; omega) | omega) _) | (with_reducible refine Below.drew ?_) | (with_reducible refine belowN ?_ _) | (with_reducible refine Below.trans ?_ (Below.mono (by assumption) (by first | exact Nat.le_refl _ | (simp; done) | (simp; omega) | omega)))))
  by_cases h3 : o = 3
  · obtain ⟨a0, a1⟩ := ha (by omega)
    obtain ⟨⟨b0, b1⟩, ⟨c0, c1⟩⟩ := hbc (by omega)
    clear ha hbc
    subst h3
    obtain ⟨B, rfl⟩ := Int.eq_ofNat_of_zero_le b0
    obtain ⟨C, rfl⟩ := Int.eq_ofNat_of_zero_le c0
    have hB : B < 4 := by omega
    have hC : C < 4 := by omega
    have hc : a = 0 ∨ a = 1 ∨ a = 2 ∨ a = 3 := by omega
    clear a0 a1
    rcases hc with rfl | rfl | rfl | rfl
    · have H0 : Kp (alu 3 0 (B : Int) (C : Int) m r0 r1 r2 r3 0 r0 = IntKind.u64.wrap (rAt r0 r1 r2 r3 B - rAt r0 r1 r2 r3 C)) := ⟨rfl⟩
      have H1 : Kp (alu 3 0 (B : Int) (C : Int) m r0 r1 r2 r3 1 r1 = r1) := ⟨rfl⟩
      have H2 : Kp (alu 3 0 (B : Int) (C : Int) m r0 r1 r2 r3 2 r2 = r2) := ⟨rfl⟩
      have H3 : Kp (alu 3 0 (B : Int) (C : Int) m r0 r1 r2 r3 3 r3 = r3) := ⟨rfl⟩
      generalize alu 3 0 (B : Int) (C : Int) m r0 r1 r2 r3 0 r0 = V0 at H0 ⊢
      generalize alu 3 0 (B : Int) (C : Int) m r0 r1 r2 r3 1 r1 = V1 at H1 ⊢
      generalize alu 3 0 (B : Int) (C : Int) m r0 r1 r2 r3 2 r2 = V2 at H2 ⊢
      generalize alu 3 0 (B : Int) (C : Int) m r0 r1 r2 r3 3 r3 = V3 at H3 ⊢
      have hh := blk_alloc (.cells #[.int .u64 0, .int .u64 0, .int .u64 0, .int .u64 0] 50) (blk_new (w.alloc (.cells #[.int .i64 3, .int .i64 0, .int .i64 (B : Int), .int .i64 (C : Int), .int .i64 m] 45)) (.cells #[.int .u64 r0, .int .u64 r1, .int .u64 r2, .int .u64 r3] 50))
      have hq := at_reg hh B hB
      have hp := at_reg hh C hC
      simp at hq hp
      clear hh
      go_enter Try.func28, Try.ntmps28
      go_wp2
      go_region
      all_goals go_wp2
      all_goals (refine bodyPost_ret (v := .agg #[.int .u64 V0, .int .u64 V1, .int .u64 V2, .int .u64 V3]) (by simp only [results, Try.results28, H0.out, H1.out, H2.out, H3.out]; go_simp) rfl ⟨rfl, ?_⟩)
      all_goals (repeat (first | exact Below.refl _ _ | (with_reducible refine Below.setCell ?_ (by first | exact Nat.le_refl _ | (simp; done) | (simp; omega) | omega) _) | (with_reducible refine Below.alloc ?_ (by first | exact Nat.le_refl _ | (simp; done) | (simp; omega) | omega) _) | (with_reducible refine Below.drew ?_) | (with_reducible refine belowN ?_ _) | (with_reducible refine Below.trans ?_ (Below.mono (by assumption) (by first | exact Nat.le_refl _ | (simp; done) | (simp; omega) | omega)))))
    · have H0 : Kp (alu 3 1 (B : Int) (C : Int) m r0 r1 r2 r3 0 r0 = r0) := ⟨rfl⟩
      have H1 : Kp (alu 3 1 (B : Int) (C : Int) m r0 r1 r2 r3 1 r1 = IntKind.u64.wrap (rAt r0 r1 r2 r3 B - rAt r0 r1 r2 r3 C)) := ⟨rfl⟩
      have H2 : Kp (alu 3 1 (B : Int) (C : Int) m r0 r1 r2 r3 2 r2 = r2) := ⟨rfl⟩
      have H3 : Kp (alu 3 1 (B : Int) (C : Int) m r0 r1 r2 r3 3 r3 = r3) := ⟨rfl⟩
      generalize alu 3 1 (B : Int) (C : Int) m r0 r1 r2 r3 0 r0 = V0 at H0 ⊢
      generalize alu 3 1 (B : Int) (C : Int) m r0 r1 r2 r3 1 r1 = V1 at H1 ⊢
      generalize alu 3 1 (B : Int) (C : Int) m r0 r1 r2 r3 2 r2 = V2 at H2 ⊢
      generalize alu 3 1 (B : Int) (C : Int) m r0 r1 r2 r3 3 r3 = V3 at H3 ⊢
      have hh := blk_alloc (.cells #[.int .u64 0, .int .u64 0, .int .u64 0, .int .u64 0] 50) (blk_new (w.alloc (.cells #[.int .i64 3, .int .i64 1, .int .i64 (B : Int), .int .i64 (C : Int), .int .i64 m] 45)) (.cells #[.int .u64 r0, .int .u64 r1, .int .u64 r2, .int .u64 r3] 50))
      have hq := at_reg hh B hB
      have hp := at_reg hh C hC
      simp at hq hp
      clear hh
      go_enter Try.func28, Try.ntmps28
      go_wp2
      go_region
      all_goals go_wp2
      all_goals (refine bodyPost_ret (v := .agg #[.int .u64 V0, .int .u64 V1, .int .u64 V2, .int .u64 V3]) (by simp only [results, Try.results28, H0.out, H1.out, H2.out, H3.out]; go_simp) rfl ⟨rfl, ?_⟩)
      all_goals (repeat (first | exact Below.refl _ _ | (with_reducible refine Below.setCell ?_ (by first | exact Nat.le_refl _ | (simp; done) | (simp; omega) | omega) _) | (with_reducible refine Below.alloc ?_ (by first | exact Nat.le_refl _ | (simp; done) | (simp; omega) | omega) _) | (with_reducible refine Below.drew ?_) | (with_reducible refine belowN ?_ _) | (with_reducible refine Below.trans ?_ (Below.mono (by assumption) (by first | exact Nat.le_refl _ | (simp; done) | (simp; omega) | omega)))))
    · have H0 : Kp (alu 3 2 (B : Int) (C : Int) m r0 r1 r2 r3 0 r0 = r0) := ⟨rfl⟩
      have H1 : Kp (alu 3 2 (B : Int) (C : Int) m r0 r1 r2 r3 1 r1 = r1) := ⟨rfl⟩
      have H2 : Kp (alu 3 2 (B : Int) (C : Int) m r0 r1 r2 r3 2 r2 = IntKind.u64.wrap (rAt r0 r1 r2 r3 B - rAt r0 r1 r2 r3 C)) := ⟨rfl⟩
      have H3 : Kp (alu 3 2 (B : Int) (C : Int) m r0 r1 r2 r3 3 r3 = r3) := ⟨rfl⟩
      generalize alu 3 2 (B : Int) (C : Int) m r0 r1 r2 r3 0 r0 = V0 at H0 ⊢
      generalize alu 3 2 (B : Int) (C : Int) m r0 r1 r2 r3 1 r1 = V1 at H1 ⊢
      generalize alu 3 2 (B : Int) (C : Int) m r0 r1 r2 r3 2 r2 = V2 at H2 ⊢
      generalize alu 3 2 (B : Int) (C : Int) m r0 r1 r2 r3 3 r3 = V3 at H3 ⊢
      have hh := blk_alloc (.cells #[.int .u64 0, .int .u64 0, .int .u64 0, .int .u64 0] 50) (blk_new (w.alloc (.cells #[.int .i64 3, .int .i64 2, .int .i64 (B : Int), .int .i64 (C : Int), .int .i64 m] 45)) (.cells #[.int .u64 r0, .int .u64 r1, .int .u64 r2, .int .u64 r3] 50))
      have hq := at_reg hh B hB
      have hp := at_reg hh C hC
      simp at hq hp
      clear hh
      go_enter Try.func28, Try.ntmps28
      go_wp2
      go_region
      all_goals go_wp2
      all_goals (refine bodyPost_ret (v := .agg #[.int .u64 V0, .int .u64 V1, .int .u64 V2, .int .u64 V3]) (by simp only [results, Try.results28, H0.out, H1.out, H2.out, H3.out]; go_simp) rfl ⟨rfl, ?_⟩)
      all_goals (repeat (first | exact Below.refl _ _ | (with_reducible refine Below.setCell ?_ (by first | exact Nat.le_refl _ | (simp; done) | (simp; omega) | omega) _) | (with_reducible refine Below.alloc ?_ (by first | exact Nat.le_refl _ | (simp; done) | (simp; omega) | omega) _) | (with_reducible refine Below.drew ?_) | (with_reducible refine belowN ?_ _) | (with_reducible refine Below.trans ?_ (Below.mono (by assumption) (by first | exact Nat.le_refl _ | (simp; done) | (simp; omega) | omega)))))
    · have H0 : Kp (alu 3 3 (B : Int) (C : Int) m r0 r1 r2 r3 0 r0 = r0) := ⟨rfl⟩
      have H1 : Kp (alu 3 3 (B : Int) (C : Int) m r0 r1 r2 r3 1 r1 = r1) := ⟨rfl⟩
      have H2 : Kp (alu 3 3 (B : Int) (C : Int) m r0 r1 r2 r3 2 r2 = r2) := ⟨rfl⟩
      have H3 : Kp (alu 3 3 (B : Int) (C : Int) m r0 r1 r2 r3 3 r3 = IntKind.u64.wrap (rAt r0 r1 r2 r3 B - rAt r0 r1 r2 r3 C)) := ⟨rfl⟩
      generalize alu 3 3 (B : Int) (C : Int) m r0 r1 r2 r3 0 r0 = V0 at H0 ⊢
      generalize alu 3 3 (B : Int) (C : Int) m r0 r1 r2 r3 1 r1 = V1 at H1 ⊢
      generalize alu 3 3 (B : Int) (C : Int) m r0 r1 r2 r3 2 r2 = V2 at H2 ⊢
      generalize alu 3 3 (B : Int) (C : Int) m r0 r1 r2 r3 3 r3 = V3 at H3 ⊢
      have hh := blk_alloc (.cells #[.int .u64 0, .int .u64 0, .int .u64 0, .int .u64 0] 50) (blk_new (w.alloc (.cells #[.int .i64 3, .int .i64 3, .int .i64 (B : Int), .int .i64 (C : Int), .int .i64 m] 45)) (.cells #[.int .u64 r0, .int .u64 r1, .int .u64 r2, .int .u64 r3] 50))
      have hq := at_reg hh B hB
      have hp := at_reg hh C hC
      simp at hq hp
      clear hh
      go_enter Try.func28, Try.ntmps28
      go_wp2
      go_region
      all_goals go_wp2
      all_goals (refine bodyPost_ret (v := .agg #[.int .u64 V0, .int .u64 V1, .int .u64 V2, .int .u64 V3]) (by simp only [results, Try.results28, H0.out, H1.out, H2.out, H3.out]; go_simp) rfl ⟨rfl, ?_⟩)
      all_goals (repeat (first | exact Below.refl _ _ | (with_reducible refine Below.setCell ?_ (by first | exact Nat.le_refl _ | (simp; done) | (simp; omega) | omega) _) | (with_reducible refine Below.alloc ?_ (by first | exact Nat.le_refl _ | (simp; done) | (simp; omega) | omega) _) | (with_reducible refine Below.drew ?_) | (with_reducible refine belowN ?_ _) | (with_reducible refine Below.trans ?_ (Below.mono (by assumption) (by first | exact Nat.le_refl _ | (simp; done) | (simp; omega) | omega)))))
  have H0 : Kp (alu o a b c m r0 r1 r2 r3 0 r0 = r0) := ⟨by unfold alu; rw [if_neg h1, if_neg h2, if_neg h3]⟩
  have H1 : Kp (alu o a b c m r0 r1 r2 r3 1 r1 = r1) := ⟨by unfold alu; rw [if_neg h1, if_neg h2, if_neg h3]⟩
  have H2 : Kp (alu o a b c m r0 r1 r2 r3 2 r2 = r2) := ⟨by unfold alu; rw [if_neg h1, if_neg h2, if_neg h3]⟩
  have H3 : Kp (alu o a b c m r0 r1 r2 r3 3 r3 = r3) := ⟨by unfold alu; rw [if_neg h1, if_neg h2, if_neg h3]⟩
  generalize alu o a b c m r0 r1 r2 r3 0 r0 = V0 at H0 ⊢
  generalize alu o a b c m r0 r1 r2 r3 1 r1 = V1 at H1 ⊢
  generalize alu o a b c m r0 r1 r2 r3 2 r2 = V2 at H2 ⊢
  generalize alu o a b c m r0 r1 r2 r3 3 r3 = V3 at H3 ⊢
  have n1 : (o == 1) = false := by simpa using h1
  have n2 : (o == 2) = false := by simpa using h2
  have n3 : (o == 3) = false := by simpa using h3
  clear h1 h2 h3 ha hbc
  go_enter Try.func28, Try.ntmps28
  go_wp2
  refine bodyPost_ret (v := .agg #[.int .u64 V0, .int .u64 V1, .int .u64 V2, .int .u64 V3]) (by simp only [results, Try.results28, H0.out, H1.out, H2.out, H3.out]; go_simp) rfl ⟨rfl, ?_⟩
  repeat (first | exact Below.refl _ _ | (with_reducible refine Below.setCell ?_ (by first | exact Nat.le_refl _ | (simp; done) | (simp; omega) | omega) _) | (with_reducible refine Below.alloc ?_ (by first | exact Nat.le_refl _ | (simp; done) | (simp; omega) | omega) _) | (with_reducible refine Below.drew ?_) | (with_reducible refine belowN ?_ _) | (with_reducible refine Below.trans ?_ (Below.mono (by assumption) (by first | exact Nat.le_refl _ | (simp; done) | (simp; omega) | omega))))

end Go.Proofs.Ytnmdhlemenjdiab
