/- The walks of the laws of what entries name. -/
import Derived.Test.YtnmdhlemenjdiabBa
import Derived.Test.YtnmdhlemenjdiabBb
namespace Go.Proofs.Ytnmdhlemenjdiab
open Go.RowKit
set_option linter.unusedSimpArgs false
set_option linter.unusedVariables false

set_option maxHeartbeats 4000000 in
theorem shown8 (w : World) : Calls Try.prog 16 #[] w fun e w' => e = .returned (.bool true) ∧ Below w.heap.size w w' := by
  have f1 : eWord 1 2 3 = 805306401 := by decide +kernel
  have f2 : eErr 1 2 3 = 0 := by decide +kernel
  have f3 : bits .or .u64 805306401 17592186044416 = 17592991350817 := by decide +kernel
  have f4 : eOk 17592991350817 = false := by decide +kernel
  have f5 : enV 1 5 = 6 := by decide +kernel
  have f6 : enE 1 = 0 := by decide +kernel
  have f7 : enE 0 = 30 := by decide +kernel
  have f8 : isOpen 0 16777215 = false := by decide +kernel
  go_enter Try.func16, Try.ntmps16
  go_wp2_with (first | (go_at_call 19; (with_reducible refine (eword_any _ _ _ _).mono ?_); rintro e w' ⟨rfl, hb⟩; obtain ⟨hc, hf⟩ := bcell hb; have hz := hb.size; (try simp at hz); (try (have hz1 := Nat.lt_of_succ_le hz; (try (have hz2 := Nat.lt_of_succ_lt hz1; (try (have hz3 := Nat.lt_of_succ_lt hz2)))))); (try (have y0 : w.heap.size < w'.heap.size := by omega)); (try (have y1 : w.heap.size + 1 < w'.heap.size := by omega)); (try (have y2 : w.heap.size ≤ w'.heap.size := by omega)); (try (have y3 : w.heap.size + 1 ≤ w'.heap.size := by omega))) | (go_at_call 36; (with_reducible refine (eof_any _ _ (by decide) (by decide)).mono ?_); rintro e w' ⟨rfl, hb⟩; obtain ⟨hc, hf⟩ := bcell hb; have hz := hb.size; (try simp at hz); (try (have hz1 := Nat.lt_of_succ_le hz; (try (have hz2 := Nat.lt_of_succ_lt hz1; (try (have hz3 := Nat.lt_of_succ_lt hz2)))))); (try (have y0 : w.heap.size < w'.heap.size := by omega)); (try (have y1 : w.heap.size + 1 < w'.heap.size := by omega)); (try (have y2 : w.heap.size ≤ w'.heap.size := by omega)); (try (have y3 : w.heap.size + 1 ≤ w'.heap.size := by omega))) | (go_at_call 20; (with_reducible refine (end_any _ _ _ _ (by decide) (by decide)).mono ?_); rintro e w' ⟨rfl, hb⟩; obtain ⟨hc, hf⟩ := bcell hb; have hz := hb.size; (try simp at hz); (try (have hz1 := Nat.lt_of_succ_le hz; (try (have hz2 := Nat.lt_of_succ_lt hz1; (try (have hz3 := Nat.lt_of_succ_lt hz2)))))); (try (have y0 : w.heap.size < w'.heap.size := by omega)); (try (have y1 : w.heap.size + 1 < w'.heap.size := by omega)); (try (have y2 : w.heap.size ≤ w'.heap.size := by omega)); (try (have y3 : w.heap.size + 1 ≤ w'.heap.size := by omega))) | (go_at_call 21; (with_reducible refine (open_any _ _ _ _).mono ?_); rintro e w' ⟨rfl, hb⟩; obtain ⟨hc, hf⟩ := bcell hb; have hz := hb.size; (try simp at hz); (try (have hz1 := Nat.lt_of_succ_le hz; (try (have hz2 := Nat.lt_of_succ_lt hz1; (try (have hz3 := Nat.lt_of_succ_lt hz2)))))); (try (have y0 : w.heap.size < w'.heap.size := by omega)); (try (have y1 : w.heap.size + 1 < w'.heap.size := by omega)); (try (have y2 : w.heap.size ≤ w'.heap.size := by omega)); (try (have y3 : w.heap.size + 1 ≤ w'.heap.size := by omega))))
  go_ret
  refine ⟨rfl, ?_⟩
  repeat (first | exact Below.refl _ _ | (with_reducible refine Below.setCell ?_ (by first | exact Nat.le_refl _ | (simp; done) | (simp; omega) | omega) _) | (with_reducible refine Below.alloc ?_ (by first | exact Nat.le_refl _ | (simp; done) | (simp; omega) | omega) _) | (with_reducible refine Below.drew ?_) | (with_reducible refine belowN ?_ _) | (with_reducible refine Below.trans ?_ (Below.mono (by assumption) (by first | exact Nat.le_refl _ | (simp; done) | (simp; omega) | omega))))


/-- What entry.Names answers. -/
def nErr (xk xv id c : Int) : Int := if cOk c = true then (if gK c > 4 then 31 else if gI c = id then (if gV c = xv then (if xk = 0 then 30 else if gK c = xk then 0 else 31) else 33) else 30) else 31
set_option maxHeartbeats 8000000 in
theorem names_any (xk xv xl id c : Int) (w : World) (h0 : 0 ≤ c) (h1 : c < 18446744073709551616) :
    Calls Try.prog 17 #[.agg #[.int .i64 xk, .int .i64 xv, .int .i64 xl], .int .i64 id, .int .u64 c] w fun e w' => e = .returned (.int .i64 (nErr xk xv id c)) ∧ Below w.heap.size w w' := by
  rcases two (cOk c) with h | h
  · go_enter Try.func17, Try.ntmps17
    go_wp2_with (first | (go_at_call 13; (with_reducible refine (of_any _ _ h0 h1).mono ?_); rintro e w1 ⟨rfl, hb1⟩; obtain ⟨hc1, hf1⟩ := bcell hb1; have hz1 := hb1.size; (try simp at hz1); (try (have hz1 := Nat.lt_of_succ_le hz1; (try (have hz2 := Nat.lt_of_succ_lt hz1; (try (have hz3 := Nat.lt_of_succ_lt hz2)))))); have y1_0 : w.heap.size < w1.heap.size := (by omega)))
    go_ret
    refine ⟨ret_int (by simp [nErr, *]), ?_⟩
    repeat (first | exact Below.refl _ _ | (with_reducible refine Below.setCell ?_ (by first | exact Nat.le_refl _ | (simp; done) | (simp; omega) | omega) _) | (with_reducible refine Below.alloc ?_ (by first | exact Nat.le_refl _ | (simp; done) | (simp; omega) | omega) _) | (with_reducible refine Below.drew ?_) | (with_reducible refine belowN ?_ _) | (with_reducible refine Below.trans ?_ (Below.mono (by assumption) (by first | exact Nat.le_refl _ | (simp; done) | (simp; omega) | omega))))
  obtain ⟨⟨gk1, gk2⟩, _⟩ := gBounds c h
  rcases two (decide (gK c > 4)) with t | t
  · have t' : ¬ gK c > 4 := of_decide_eq_false t
    clear gk1 gk2
    rcases two (gI c != id) with hi | hi
    · have hi' : gI c = id := by simpa using hi
      rcases two (gV c != xv) with hv | hv
      · have hv' : gV c = xv := by simpa using hv
        rcases two (xk == 0) with hk | hk
        · have hk' : ¬ xk = 0 := by simpa using hk
          rcases two (gK c != xk) with hq | hq
          · have hq' : gK c = xk := by simpa using hq
            subst hq'
            clear hq
            go_enter Try.func17, Try.ntmps17
            go_wp2_with (first | (go_at_call 13; (with_reducible refine (of_any _ _ h0 h1).mono ?_); rintro e w1 ⟨rfl, hb1⟩; obtain ⟨hc1, hf1⟩ := bcell hb1; have hz1 := hb1.size; (try simp at hz1); (try (have hz1 := Nat.lt_of_succ_le hz1; (try (have hz2 := Nat.lt_of_succ_lt hz1; (try (have hz3 := Nat.lt_of_succ_lt hz2)))))); have y1_0 : w.heap.size < w1.heap.size := (by omega)))
            go_ret
            refine ⟨ret_int (by simp [nErr, *]), ?_⟩
            repeat (first | exact Below.refl _ _ | (with_reducible refine Below.setCell ?_ (by first | exact Nat.le_refl _ | (simp; done) | (simp; omega) | omega) _) | (with_reducible refine Below.alloc ?_ (by first | exact Nat.le_refl _ | (simp; done) | (simp; omega) | omega) _) | (with_reducible refine Below.drew ?_) | (with_reducible refine belowN ?_ _) | (with_reducible refine Below.trans ?_ (Below.mono (by assumption) (by first | exact Nat.le_refl _ | (simp; done) | (simp; omega) | omega))))
          · have hq' : ¬ gK c = xk := by simpa using hq
            go_enter Try.func17, Try.ntmps17
            go_wp2_with (first | (go_at_call 13; (with_reducible refine (of_any _ _ h0 h1).mono ?_); rintro e w1 ⟨rfl, hb1⟩; obtain ⟨hc1, hf1⟩ := bcell hb1; have hz1 := hb1.size; (try simp at hz1); (try (have hz1 := Nat.lt_of_succ_le hz1; (try (have hz2 := Nat.lt_of_succ_lt hz1; (try (have hz3 := Nat.lt_of_succ_lt hz2)))))); have y1_0 : w.heap.size < w1.heap.size := (by omega)))
            go_ret
            refine ⟨ret_int (by simp [nErr, *]), ?_⟩
            repeat (first | exact Below.refl _ _ | (with_reducible refine Below.setCell ?_ (by first | exact Nat.le_refl _ | (simp; done) | (simp; omega) | omega) _) | (with_reducible refine Below.alloc ?_ (by first | exact Nat.le_refl _ | (simp; done) | (simp; omega) | omega) _) | (with_reducible refine Below.drew ?_) | (with_reducible refine belowN ?_ _) | (with_reducible refine Below.trans ?_ (Below.mono (by assumption) (by first | exact Nat.le_refl _ | (simp; done) | (simp; omega) | omega))))
        · have hk' : xk = 0 := by simpa using hk
          go_enter Try.func17, Try.ntmps17
          go_wp2_with (first | (go_at_call 13; (with_reducible refine (of_any _ _ h0 h1).mono ?_); rintro e w1 ⟨rfl, hb1⟩; obtain ⟨hc1, hf1⟩ := bcell hb1; have hz1 := hb1.size; (try simp at hz1); (try (have hz1 := Nat.lt_of_succ_le hz1; (try (have hz2 := Nat.lt_of_succ_lt hz1; (try (have hz3 := Nat.lt_of_succ_lt hz2)))))); have y1_0 : w.heap.size < w1.heap.size := (by omega)))
          go_ret
          refine ⟨ret_int (by simp [nErr, *]), ?_⟩
          repeat (first | exact Below.refl _ _ | (with_reducible refine Below.setCell ?_ (by first | exact Nat.le_refl _ | (simp; done) | (simp; omega) | omega) _) | (with_reducible refine Below.alloc ?_ (by first | exact Nat.le_refl _ | (simp; done) | (simp; omega) | omega) _) | (with_reducible refine Below.drew ?_) | (with_reducible refine belowN ?_ _) | (with_reducible refine Below.trans ?_ (Below.mono (by assumption) (by first | exact Nat.le_refl _ | (simp; done) | (simp; omega) | omega))))
      · have hv' : ¬ gV c = xv := by simpa using hv
        go_enter Try.func17, Try.ntmps17
        go_wp2_with (first | (go_at_call 13; (with_reducible refine (of_any _ _ h0 h1).mono ?_); rintro e w1 ⟨rfl, hb1⟩; obtain ⟨hc1, hf1⟩ := bcell hb1; have hz1 := hb1.size; (try simp at hz1); (try (have hz1 := Nat.lt_of_succ_le hz1; (try (have hz2 := Nat.lt_of_succ_lt hz1; (try (have hz3 := Nat.lt_of_succ_lt hz2)))))); have y1_0 : w.heap.size < w1.heap.size := (by omega)))
        go_ret
        refine ⟨ret_int (by simp [nErr, *]), ?_⟩
        repeat (first | exact Below.refl _ _ | (with_reducible refine Below.setCell ?_ (by first | exact Nat.le_refl _ | (simp; done) | (simp; omega) | omega) _) | (with_reducible refine Below.alloc ?_ (by first | exact Nat.le_refl _ | (simp; done) | (simp; omega) | omega) _) | (with_reducible refine Below.drew ?_) | (with_reducible refine belowN ?_ _) | (with_reducible refine Below.trans ?_ (Below.mono (by assumption) (by first | exact Nat.le_refl _ | (simp; done) | (simp; omega) | omega))))
    · have hi' : ¬ gI c = id := by simpa using hi
      go_enter Try.func17, Try.ntmps17
      go_wp2_with (first | (go_at_call 13; (with_reducible refine (of_any _ _ h0 h1).mono ?_); rintro e w1 ⟨rfl, hb1⟩; obtain ⟨hc1, hf1⟩ := bcell hb1; have hz1 := hb1.size; (try simp at hz1); (try (have hz1 := Nat.lt_of_succ_le hz1; (try (have hz2 := Nat.lt_of_succ_lt hz1; (try (have hz3 := Nat.lt_of_succ_lt hz2)))))); have y1_0 : w.heap.size < w1.heap.size := (by omega)))
      go_ret
      refine ⟨ret_int (by simp [nErr, *]), ?_⟩
      repeat (first | exact Below.refl _ _ | (with_reducible refine Below.setCell ?_ (by first | exact Nat.le_refl _ | (simp; done) | (simp; omega) | omega) _) | (with_reducible refine Below.alloc ?_ (by first | exact Nat.le_refl _ | (simp; done) | (simp; omega) | omega) _) | (with_reducible refine Below.drew ?_) | (with_reducible refine belowN ?_ _) | (with_reducible refine Below.trans ?_ (Below.mono (by assumption) (by first | exact Nat.le_refl _ | (simp; done) | (simp; omega) | omega))))
  · have t' : gK c > 4 := of_decide_eq_true t
    go_enter Try.func17, Try.ntmps17
    go_wp2_with (first | (go_at_call 13; (with_reducible refine (of_any _ _ h0 h1).mono ?_); rintro e w1 ⟨rfl, hb1⟩; obtain ⟨hc1, hf1⟩ := bcell hb1; have hz1 := hb1.size; (try simp at hz1); (try (have hz1 := Nat.lt_of_succ_le hz1; (try (have hz2 := Nat.lt_of_succ_lt hz1; (try (have hz3 := Nat.lt_of_succ_lt hz2)))))); have y1_0 : w.heap.size < w1.heap.size := (by omega)))
    go_ret
    refine ⟨ret_int (by simp [nErr, *]), ?_⟩
    repeat (first | exact Below.refl _ _ | (with_reducible refine Below.setCell ?_ (by first | exact Nat.le_refl _ | (simp; done) | (simp; omega) | omega) _) | (with_reducible refine Below.alloc ?_ (by first | exact Nat.le_refl _ | (simp; done) | (simp; omega) | omega) _) | (with_reducible refine Below.drew ?_) | (with_reducible refine belowN ?_ _) | (with_reducible refine Below.trans ?_ (Below.mono (by assumption) (by first | exact Nat.le_refl _ | (simp; done) | (simp; omega) | omega))))

set_option maxHeartbeats 8000000 in
theorem rnames_any (xk xv xl id c : Int) (w : World) (h0 : 0 ≤ c) (h1 : c < 18446744073709551616) :
    Calls Try.prog 18 #[.agg #[.int .i64 xk, .int .i64 xv, .int .i64 xl], .int .i64 id, .int .u64 c] w fun e w' => e = .returned (.int .i64 (nErr xk xv id c)) ∧ Below w.heap.size w w' := by
  rcases two (cOk c) with h | h
  · go_enter Try.func18, Try.ntmps18
    go_wp2_with (first | (go_at_call 37; (with_reducible refine (rof_any _ _ h0 h1).mono ?_); rintro e w1 ⟨rfl, hb1⟩; obtain ⟨hc1, hf1⟩ := bcell hb1; have hz1 := hb1.size; (try simp at hz1); (try (have hz1 := Nat.lt_of_succ_le hz1; (try (have hz2 := Nat.lt_of_succ_lt hz1; (try (have hz3 := Nat.lt_of_succ_lt hz2)))))); have y1_0 : w.heap.size < w1.heap.size := (by omega)))
    go_ret
    refine ⟨ret_int (by simp [nErr, *]), ?_⟩
    repeat (first | exact Below.refl _ _ | (with_reducible refine Below.setCell ?_ (by first | exact Nat.le_refl _ | (simp; done) | (simp; omega) | omega) _) | (with_reducible refine Below.alloc ?_ (by first | exact Nat.le_refl _ | (simp; done) | (simp; omega) | omega) _) | (with_reducible refine Below.drew ?_) | (with_reducible refine belowN ?_ _) | (with_reducible refine Below.trans ?_ (Below.mono (by assumption) (by first | exact Nat.le_refl _ | (simp; done) | (simp; omega) | omega))))
  obtain ⟨⟨gk1, gk2⟩, _⟩ := gBounds c h
  rcases two (decide (gK c > 4)) with t | t
  · have t' : ¬ gK c > 4 := of_decide_eq_false t
    have t5 : (gK c == 5) = false := by simp; omega
    have t6 : (gK c == 6) = false := by simp; omega
    clear gk1 gk2
    rcases two (gI c != id) with hi | hi
    · have hi' : gI c = id := by simpa using hi
      rcases two (gV c != xv) with hv | hv
      · have hv' : gV c = xv := by simpa using hv
        rcases two (xk == 0) with hk | hk
        · have hk' : ¬ xk = 0 := by simpa using hk
          rcases two (gK c != xk) with hq | hq
          · have hq' : gK c = xk := by simpa using hq
            subst hq'
            clear hq
            go_enter Try.func18, Try.ntmps18
            go_wp2_with (first | (go_at_call 37; (with_reducible refine (rof_any _ _ h0 h1).mono ?_); rintro e w1 ⟨rfl, hb1⟩; obtain ⟨hc1, hf1⟩ := bcell hb1; have hz1 := hb1.size; (try simp at hz1); (try (have hz1 := Nat.lt_of_succ_le hz1; (try (have hz2 := Nat.lt_of_succ_lt hz1; (try (have hz3 := Nat.lt_of_succ_lt hz2)))))); have y1_0 : w.heap.size < w1.heap.size := (by omega)))
            go_ret
            refine ⟨ret_int (by simp [nErr, *]), ?_⟩
            repeat (first | exact Below.refl _ _ | (with_reducible refine Below.setCell ?_ (by first | exact Nat.le_refl _ | (simp; done) | (simp; omega) | omega) _) | (with_reducible refine Below.alloc ?_ (by first | exact Nat.le_refl _ | (simp; done) | (simp; omega) | omega) _) | (with_reducible refine Below.drew ?_) | (with_reducible refine belowN ?_ _) | (with_reducible refine Below.trans ?_ (Below.mono (by assumption) (by first | exact Nat.le_refl _ | (simp; done) | (simp; omega) | omega))))
          · have hq' : ¬ gK c = xk := by simpa using hq
            go_enter Try.func18, Try.ntmps18
            go_wp2_with (first | (go_at_call 37; (with_reducible refine (rof_any _ _ h0 h1).mono ?_); rintro e w1 ⟨rfl, hb1⟩; obtain ⟨hc1, hf1⟩ := bcell hb1; have hz1 := hb1.size; (try simp at hz1); (try (have hz1 := Nat.lt_of_succ_le hz1; (try (have hz2 := Nat.lt_of_succ_lt hz1; (try (have hz3 := Nat.lt_of_succ_lt hz2)))))); have y1_0 : w.heap.size < w1.heap.size := (by omega)))
            go_ret
            refine ⟨ret_int (by simp [nErr, *]), ?_⟩
            repeat (first | exact Below.refl _ _ | (with_reducible refine Below.setCell ?_ (by first | exact Nat.le_refl _ | (simp; done) | (simp; omega) | omega) _) | (with_reducible refine Below.alloc ?_ (by first | exact Nat.le_refl _ | (simp; done) | (simp; omega) | omega) _) | (with_reducible refine Below.drew ?_) | (with_reducible refine belowN ?_ _) | (with_reducible refine Below.trans ?_ (Below.mono (by assumption) (by first | exact Nat.le_refl _ | (simp; done) | (simp; omega) | omega))))
        · have hk' : xk = 0 := by simpa using hk
          go_enter Try.func18, Try.ntmps18
          go_wp2_with (first | (go_at_call 37; (with_reducible refine (rof_any _ _ h0 h1).mono ?_); rintro e w1 ⟨rfl, hb1⟩; obtain ⟨hc1, hf1⟩ := bcell hb1; have hz1 := hb1.size; (try simp at hz1); (try (have hz1 := Nat.lt_of_succ_le hz1; (try (have hz2 := Nat.lt_of_succ_lt hz1; (try (have hz3 := Nat.lt_of_succ_lt hz2)))))); have y1_0 : w.heap.size < w1.heap.size := (by omega)))
          go_ret
          refine ⟨ret_int (by simp [nErr, *]), ?_⟩
          repeat (first | exact Below.refl _ _ | (with_reducible refine Below.setCell ?_ (by first | exact Nat.le_refl _ | (simp; done) | (simp; omega) | omega) _) | (with_reducible refine Below.alloc ?_ (by first | exact Nat.le_refl _ | (simp; done) | (simp; omega) | omega) _) | (with_reducible refine Below.drew ?_) | (with_reducible refine belowN ?_ _) | (with_reducible refine Below.trans ?_ (Below.mono (by assumption) (by first | exact Nat.le_refl _ | (simp; done) | (simp; omega) | omega))))
      · have hv' : ¬ gV c = xv := by simpa using hv
        go_enter Try.func18, Try.ntmps18
        go_wp2_with (first | (go_at_call 37; (with_reducible refine (rof_any _ _ h0 h1).mono ?_); rintro e w1 ⟨rfl, hb1⟩; obtain ⟨hc1, hf1⟩ := bcell hb1; have hz1 := hb1.size; (try simp at hz1); (try (have hz1 := Nat.lt_of_succ_le hz1; (try (have hz2 := Nat.lt_of_succ_lt hz1; (try (have hz3 := Nat.lt_of_succ_lt hz2)))))); have y1_0 : w.heap.size < w1.heap.size := (by omega)))
        go_ret
        refine ⟨ret_int (by simp [nErr, *]), ?_⟩
        repeat (first | exact Below.refl _ _ | (with_reducible refine Below.setCell ?_ (by first | exact Nat.le_refl _ | (simp; done) | (simp; omega) | omega) _) | (with_reducible refine Below.alloc ?_ (by first | exact Nat.le_refl _ | (simp; done) | (simp; omega) | omega) _) | (with_reducible refine Below.drew ?_) | (with_reducible refine belowN ?_ _) | (with_reducible refine Below.trans ?_ (Below.mono (by assumption) (by first | exact Nat.le_refl _ | (simp; done) | (simp; omega) | omega))))
    · have hi' : ¬ gI c = id := by simpa using hi
      go_enter Try.func18, Try.ntmps18
      go_wp2_with (first | (go_at_call 37; (with_reducible refine (rof_any _ _ h0 h1).mono ?_); rintro e w1 ⟨rfl, hb1⟩; obtain ⟨hc1, hf1⟩ := bcell hb1; have hz1 := hb1.size; (try simp at hz1); (try (have hz1 := Nat.lt_of_succ_le hz1; (try (have hz2 := Nat.lt_of_succ_lt hz1; (try (have hz3 := Nat.lt_of_succ_lt hz2)))))); have y1_0 : w.heap.size < w1.heap.size := (by omega)))
      go_ret
      refine ⟨ret_int (by simp [nErr, *]), ?_⟩
      repeat (first | exact Below.refl _ _ | (with_reducible refine Below.setCell ?_ (by first | exact Nat.le_refl _ | (simp; done) | (simp; omega) | omega) _) | (with_reducible refine Below.alloc ?_ (by first | exact Nat.le_refl _ | (simp; done) | (simp; omega) | omega) _) | (with_reducible refine Below.drew ?_) | (with_reducible refine belowN ?_ _) | (with_reducible refine Below.trans ?_ (Below.mono (by assumption) (by first | exact Nat.le_refl _ | (simp; done) | (simp; omega) | omega))))
  · have t' : gK c > 4 := of_decide_eq_true t
    rcases two (gK c == 5) with t5 | t5
    · have t6 : (gK c == 6) = true := by have : ¬ gK c = 5 := (by simpa using t5); simp; omega
      clear gk1 gk2
      go_enter Try.func18, Try.ntmps18
      go_wp2_with (first | (go_at_call 37; (with_reducible refine (rof_any _ _ h0 h1).mono ?_); rintro e w1 ⟨rfl, hb1⟩; obtain ⟨hc1, hf1⟩ := bcell hb1; have hz1 := hb1.size; (try simp at hz1); (try (have hz1 := Nat.lt_of_succ_le hz1; (try (have hz2 := Nat.lt_of_succ_lt hz1; (try (have hz3 := Nat.lt_of_succ_lt hz2)))))); have y1_0 : w.heap.size < w1.heap.size := (by omega)))
      go_ret
      refine ⟨ret_int (by simp [nErr, *]), ?_⟩
      repeat (first | exact Below.refl _ _ | (with_reducible refine Below.setCell ?_ (by first | exact Nat.le_refl _ | (simp; done) | (simp; omega) | omega) _) | (with_reducible refine Below.alloc ?_ (by first | exact Nat.le_refl _ | (simp; done) | (simp; omega) | omega) _) | (with_reducible refine Below.drew ?_) | (with_reducible refine belowN ?_ _) | (with_reducible refine Below.trans ?_ (Below.mono (by assumption) (by first | exact Nat.le_refl _ | (simp; done) | (simp; omega) | omega))))
    · clear gk1 gk2
      go_enter Try.func18, Try.ntmps18
      go_wp2_with (first | (go_at_call 37; (with_reducible refine (rof_any _ _ h0 h1).mono ?_); rintro e w1 ⟨rfl, hb1⟩; obtain ⟨hc1, hf1⟩ := bcell hb1; have hz1 := hb1.size; (try simp at hz1); (try (have hz1 := Nat.lt_of_succ_le hz1; (try (have hz2 := Nat.lt_of_succ_lt hz1; (try (have hz3 := Nat.lt_of_succ_lt hz2)))))); have y1_0 : w.heap.size < w1.heap.size := (by omega)))
      go_ret
      refine ⟨ret_int (by simp [nErr, *]), ?_⟩
      repeat (first | exact Below.refl _ _ | (with_reducible refine Below.setCell ?_ (by first | exact Nat.le_refl _ | (simp; done) | (simp; omega) | omega) _) | (with_reducible refine Below.alloc ?_ (by first | exact Nat.le_refl _ | (simp; done) | (simp; omega) | omega) _) | (with_reducible refine Below.drew ?_) | (with_reducible refine belowN ?_ _) | (with_reducible refine Below.trans ?_ (Below.mono (by assumption) (by first | exact Nat.le_refl _ | (simp; done) | (simp; omega) | omega))))


set_option maxHeartbeats 8000000 in
theorem entryNames (xk xv xl id c : Int) (w : World) (h0 : 0 ≤ c) (h1 : c < 18446744073709551616) :
    Calls Try.prog 4 #[.agg #[.int .i64 xk, .int .i64 xv, .int .i64 xl], .int .i64 id, .int .u64 c] w fun e w' => e = .returned (.bool true) ∧ Below w.heap.size w w' := by
  go_enter Try.func4, Try.ntmps4
  go_wp2_with (first | (go_at_call 16; (with_reducible refine (shown8 _).mono ?_); rintro e w1 ⟨rfl, hb1⟩; obtain ⟨hc1, hf1⟩ := bcell hb1; have hz1 := hb1.size; (try simp at hz1); (try (have hz1 := Nat.lt_of_succ_le hz1; (try (have hz2 := Nat.lt_of_succ_lt hz1; (try (have hz3 := Nat.lt_of_succ_lt hz2))))))))
  have c0 : w1.cell? ⟨w.heap.size, 0, none⟩ = some (.int .i64 xk) := kept hb1 (by simp)
  have c1 : w1.cell? ⟨w.heap.size, 1, none⟩ = some (.int .i64 xv) := kept hb1 (by simp)
  have c2 : w1.cell? ⟨w.heap.size, 2, none⟩ = some (.int .i64 xl) := kept hb1 (by simp)
  have hB : Below w.heap.size w w1 := below2 (below_alloc1 _ _) hb1
  clear hc1 hf1 hb1
  go_region_held3 (fun w' => w'.cell? ⟨w.heap.size, 0, none⟩ = some (.int .i64 xk) ∧ w'.cell? ⟨w.heap.size, 1, none⟩ = some (.int .i64 xv) ∧ w'.cell? ⟨w.heap.size, 2, none⟩ = some (.int .i64 xl) ∧ Below w.heap.size w w') (first | exact ⟨c0, c1, c2, hB.drew⟩ | (have hs : _ ∧ _ ∧ _ ∧ Below _ _ _ := (by assumption); obtain ⟨s0, s1, s2, s3⟩ := hs; exact ⟨kept hb s0, kept hb s1, kept hb s2, below2 s3 hb⟩))
    (first | (go_at_call 17; refine (names_any _ _ _ _ _ _ h0 h1).mono ?_; rintro e w' ⟨rfl, hb⟩) | (go_at_call 18; refine (rnames_any _ _ _ _ _ _ h0 h1).mono ?_; rintro e w' ⟨rfl, hb⟩))
  go_wp2
  go_ret
  exact ⟨rfl, And.right (And.right (And.right (by assumption)))⟩

theorem nErr_0 {xk xv id c : Int} (h : nErr xk xv id c = 0) : cOk c = true ∧ gK c ≤ 4 ∧ gI c = id ∧ gV c = xv ∧ xk ≠ 0 ∧ gK c = xk := by
  unfold nErr at h
  by_cases a : cOk c = true
  · rw [if_pos a] at h
    by_cases b : gK c > 4
    · rw [if_pos b] at h; omega
    · rw [if_neg b] at h
      by_cases d : gI c = id
      · rw [if_pos d] at h
        by_cases e : gV c = xv
        · rw [if_pos e] at h
          by_cases f : xk = 0
          · rw [if_pos f] at h; omega
          · rw [if_neg f] at h
            by_cases g : gK c = xk
            · exact ⟨a, by omega, d, e, f, g⟩
            · rw [if_neg g] at h; omega
        · rw [if_neg e] at h; omega
      · rw [if_neg d] at h; omega
  · rw [if_neg a] at h; omega
theorem nErr_stale {xk xv id c : Int} (k xv' : Int) (h : nErr xk xv id c = 0) (hv : xv ≠ xv') : nErr k xv' id c = 33 := by
  obtain ⟨a, b, d, e, _, _⟩ := nErr_0 h
  unfold nErr
  rw [if_pos a, if_neg (by omega), if_pos d, if_neg (by omega)]
theorem nErr_none {xk xv id c : Int} (xv' : Int) (h : nErr xk xv id c = 0) : nErr 0 xv' id c ≠ 0 := fun h' => (nErr_0 h').2.2.2.2.1 rfl

set_option maxHeartbeats 8000000 in
theorem entryStale (k v l t0 t1 c : Int) (w : World) (h0 : 0 ≤ c) (h1 : c < 18446744073709551616) :
    Calls Try.prog 5 #[.agg #[.int .i64 k, .int .i64 v, .int .i64 l], .agg #[.int .i64 t0, .int .i64 t1], .int .u64 c] w fun e w' => e = .returned (.bool true) ∧ Below w.heap.size w w' := by
  rcases two (entMay k v l) with m | m
  · obtain ⟨e1, e2⟩ := eWord_no m
    have p0 : True := trivial
    have p1 : True := trivial
    clear m
    go_enter Try.func5, Try.ntmps5
    go_wp2_with (first | (go_at_call 16; (with_reducible refine (shown8 _).mono ?_); rintro e w1 ⟨rfl, hb1⟩; obtain ⟨hc1, hf1⟩ := bcell hb1; have hz1 := hb1.size; (try simp at hz1); (try (have hz1 := Nat.lt_of_succ_le hz1; (try (have hz2 := Nat.lt_of_succ_lt hz1; (try (have hz3 := Nat.lt_of_succ_lt hz2))))))) | (go_at_call 19; (with_reducible refine (eword_any _ _ _ _).mono ?_); rintro e w2 ⟨rfl, hb2⟩; obtain ⟨hc2, hf2⟩ := bcell hb2; have hz2 := hb2.size; (try simp at hz2); (try (have hz1 := Nat.lt_of_succ_le hz2; (try (have hz2 := Nat.lt_of_succ_lt hz1; (try (have hz3 := Nat.lt_of_succ_lt hz2)))))); have y2_0 : w.heap.size < w2.heap.size := (by omega); have y2_1 : w.heap.size + 1 < w2.heap.size := (by omega)))
    go_ret
    refine ⟨rfl, ?_⟩
    repeat (first | exact Below.refl _ _ | (with_reducible refine Below.setCell ?_ (by first | exact Nat.le_refl _ | (simp; done) | (simp; omega) | omega) _) | (with_reducible refine Below.alloc ?_ (by first | exact Nat.le_refl _ | (simp; done) | (simp; omega) | omega) _) | (with_reducible refine Below.drew ?_) | (with_reducible refine belowN ?_ _) | (with_reducible refine Below.trans ?_ (Below.mono (by assumption) (by first | exact Nat.le_refl _ | (simp; done) | (simp; omega) | omega))))
  obtain ⟨e1, e2⟩ := eWord_yes m
  obtain ⟨_, ⟨p0, p1⟩, _, _⟩ := entMay_t m
  rcases two (nErr k v t0 c == 0) with n | n
  · have n' : (nErr k v t0 c != 0) = true := by simpa using n
    clear m
    go_enter Try.func5, Try.ntmps5
    go_wp2_with (first | (go_at_call 16; (with_reducible refine (shown8 _).mono ?_); rintro e w1 ⟨rfl, hb1⟩; obtain ⟨hc1, hf1⟩ := bcell hb1; have hz1 := hb1.size; (try simp at hz1); (try (have hz1 := Nat.lt_of_succ_le hz1; (try (have hz2 := Nat.lt_of_succ_lt hz1; (try (have hz3 := Nat.lt_of_succ_lt hz2))))))) | (go_at_call 19; (with_reducible refine (eword_any _ _ _ _).mono ?_); rintro e w2 ⟨rfl, hb2⟩; obtain ⟨hc2, hf2⟩ := bcell hb2; have hz2 := hb2.size; (try simp at hz2); (try (have hz1 := Nat.lt_of_succ_le hz2; (try (have hz2 := Nat.lt_of_succ_lt hz1; (try (have hz3 := Nat.lt_of_succ_lt hz2)))))); have y2_0 : w.heap.size < w2.heap.size := (by omega); have y2_1 : w.heap.size + 1 < w2.heap.size := (by omega)) | (go_at_call 17; (with_reducible refine (names_any k v l _ _ _ h0 h1).mono ?_); rintro e w3 ⟨rfl, hb3⟩; obtain ⟨hc3, hf3⟩ := bcell hb3; have hz3 := hb3.size; (try simp at hz3); (try (have hz1 := Nat.lt_of_succ_le hz3; (try (have hz2 := Nat.lt_of_succ_lt hz1; (try (have hz3 := Nat.lt_of_succ_lt hz2)))))); have y3_0 : w.heap.size < w3.heap.size := (by omega); have y3_1 : w.heap.size + 1 < w3.heap.size := (by omega)))
    go_ret
    refine ⟨rfl, ?_⟩
    repeat (first | exact Below.refl _ _ | (with_reducible refine Below.setCell ?_ (by first | exact Nat.le_refl _ | (simp; done) | (simp; omega) | omega) _) | (with_reducible refine Below.alloc ?_ (by first | exact Nat.le_refl _ | (simp; done) | (simp; omega) | omega) _) | (with_reducible refine Below.drew ?_) | (with_reducible refine belowN ?_ _) | (with_reducible refine Below.trans ?_ (Below.mono (by assumption) (by first | exact Nat.le_refl _ | (simp; done) | (simp; omega) | omega))))
  have n' : nErr k v t0 c = 0 := by simpa using n
  obtain ⟨_, _, _, _, hk0, _⟩ := nErr_0 n'
  have q1 : enE k = 0 := by unfold enE; rw [if_neg hk0]
  by_cases hm : v = 16777215
  · have q2 : enV k v = 16777215 := by unfold enV nextV; rw [if_neg hk0, if_pos hm, hm]
    have q3 : (nErr 0 16777215 t0 c == 0) = false := by simpa using nErr_none 16777215 n'
    have q4 : isOpen 0 16777215 = false := by decide +kernel
    clear m n hm hk0
    go_enter Try.func5, Try.ntmps5
    go_wp2_with (first | (go_at_call 16; (with_reducible refine (shown8 _).mono ?_); rintro e w1 ⟨rfl, hb1⟩; obtain ⟨hc1, hf1⟩ := bcell hb1; have hz1 := hb1.size; (try simp at hz1); (try (have hz1 := Nat.lt_of_succ_le hz1; (try (have hz2 := Nat.lt_of_succ_lt hz1; (try (have hz3 := Nat.lt_of_succ_lt hz2))))))) | (go_at_call 19; (with_reducible refine (eword_any _ _ _ _).mono ?_); rintro e w2 ⟨rfl, hb2⟩; obtain ⟨hc2, hf2⟩ := bcell hb2; have hz2 := hb2.size; (try simp at hz2); (try (have hz1 := Nat.lt_of_succ_le hz2; (try (have hz2 := Nat.lt_of_succ_lt hz1; (try (have hz3 := Nat.lt_of_succ_lt hz2)))))); have y2_0 : w.heap.size < w2.heap.size := (by omega); have y2_1 : w.heap.size + 1 < w2.heap.size := (by omega)) | (go_at_call 17; (with_reducible refine (names_any k v l _ _ _ h0 h1).mono ?_); rintro e w3 ⟨rfl, hb3⟩; obtain ⟨hc3, hf3⟩ := bcell hb3; have hz3 := hb3.size; (try simp at hz3); (try (have hz1 := Nat.lt_of_succ_le hz3; (try (have hz2 := Nat.lt_of_succ_lt hz1; (try (have hz3 := Nat.lt_of_succ_lt hz2)))))); have y3_0 : w.heap.size < w3.heap.size := (by omega); have y3_1 : w.heap.size + 1 < w3.heap.size := (by omega)) | (go_at_call 20; (with_reducible refine (end_any _ _ _ _ p0 p1).mono ?_); rintro e w4 ⟨rfl, hb4⟩; obtain ⟨hc4, hf4⟩ := bcell hb4; have hz4 := hb4.size; (try simp at hz4); (try (have hz1 := Nat.lt_of_succ_le hz4; (try (have hz2 := Nat.lt_of_succ_lt hz1; (try (have hz3 := Nat.lt_of_succ_lt hz2)))))); have y4_0 : w.heap.size < w4.heap.size := (by omega); have y4_1 : w.heap.size + 1 < w4.heap.size := (by omega)) | (go_at_call 17; (with_reducible refine (names_any 0 _ _ _ _ _ h0 h1).mono ?_); rintro e w5 ⟨rfl, hb5⟩; obtain ⟨hc5, hf5⟩ := bcell hb5; have hz5 := hb5.size; (try simp at hz5); (try (have hz1 := Nat.lt_of_succ_le hz5; (try (have hz2 := Nat.lt_of_succ_lt hz1; (try (have hz3 := Nat.lt_of_succ_lt hz2)))))); have y5_0 : w.heap.size < w5.heap.size := (by omega); have y5_1 : w.heap.size + 1 < w5.heap.size := (by omega); have y5_2 : w4.heap.size < w5.heap.size := (by omega)) | (go_at_call 21; (with_reducible refine (open_any _ _ _ _).mono ?_); rintro e w6 ⟨rfl, hb6⟩; obtain ⟨hc6, hf6⟩ := bcell hb6; have hz6 := hb6.size; (try simp at hz6); (try (have hz1 := Nat.lt_of_succ_le hz6; (try (have hz2 := Nat.lt_of_succ_lt hz1; (try (have hz3 := Nat.lt_of_succ_lt hz2)))))); have y6_0 : w.heap.size < w6.heap.size := (by omega); have y6_1 : w.heap.size + 1 < w6.heap.size := (by omega); have y6_2 : w4.heap.size < w6.heap.size := (by omega)) | (go_at_call 17; (with_reducible refine (names_any _ _ _ _ _ _ h0 h1).mono ?_); rintro e w7 ⟨rfl, hb7⟩; obtain ⟨hc7, hf7⟩ := bcell hb7; have hz7 := hb7.size; (try simp at hz7); (try (have hz1 := Nat.lt_of_succ_le hz7; (try (have hz2 := Nat.lt_of_succ_lt hz1; (try (have hz3 := Nat.lt_of_succ_lt hz2)))))); have y7_0 : w.heap.size < w7.heap.size := (by omega); have y7_1 : w.heap.size + 1 < w7.heap.size := (by omega)))
    go_ret
    refine ⟨ret_bool (by simp [*]), ?_⟩
    repeat (first | exact Below.refl _ _ | (with_reducible refine Below.setCell ?_ (by first | exact Nat.le_refl _ | (simp; done) | (simp; omega) | omega) _) | (with_reducible refine Below.alloc ?_ (by first | exact Nat.le_refl _ | (simp; done) | (simp; omega) | omega) _) | (with_reducible refine Below.drew ?_) | (with_reducible refine belowN ?_ _) | (with_reducible refine Below.trans ?_ (Below.mono (by assumption) (by first | exact Nat.le_refl _ | (simp; done) | (simp; omega) | omega))))
  · have q2 : enV k v = v + 1 := by unfold enV nextV; rw [if_neg hk0, if_neg hm]
    have q3 : (nErr 0 (v + 1) t0 c == 0) = false := by rw [nErr_stale 0 (v + 1) n' (by omega)]; rfl
    have q5 : nErr t1 (v + 1) t0 c = 33 := nErr_stale t1 (v + 1) n' (by omega)
    rcases two (isOpen 0 (v + 1)) with o | o
    · have hx : v + 1 = 16777215 := by unfold isOpen at o; simp at o; omega
      have hx' : (v + 1 == 16777215) = true := by simpa using hx
      clear m n hm hk0 hx
      go_enter Try.func5, Try.ntmps5
      go_wp2_with (first | (go_at_call 16; (with_reducible refine (shown8 _).mono ?_); rintro e w1 ⟨rfl, hb1⟩; obtain ⟨hc1, hf1⟩ := bcell hb1; have hz1 := hb1.size; (try simp at hz1); (try (have hz1 := Nat.lt_of_succ_le hz1; (try (have hz2 := Nat.lt_of_succ_lt hz1; (try (have hz3 := Nat.lt_of_succ_lt hz2))))))) | (go_at_call 19; (with_reducible refine (eword_any _ _ _ _).mono ?_); rintro e w2 ⟨rfl, hb2⟩; obtain ⟨hc2, hf2⟩ := bcell hb2; have hz2 := hb2.size; (try simp at hz2); (try (have hz1 := Nat.lt_of_succ_le hz2; (try (have hz2 := Nat.lt_of_succ_lt hz1; (try (have hz3 := Nat.lt_of_succ_lt hz2)))))); have y2_0 : w.heap.size < w2.heap.size := (by omega); have y2_1 : w.heap.size + 1 < w2.heap.size := (by omega)) | (go_at_call 17; (with_reducible refine (names_any k v l _ _ _ h0 h1).mono ?_); rintro e w3 ⟨rfl, hb3⟩; obtain ⟨hc3, hf3⟩ := bcell hb3; have hz3 := hb3.size; (try simp at hz3); (try (have hz1 := Nat.lt_of_succ_le hz3; (try (have hz2 := Nat.lt_of_succ_lt hz1; (try (have hz3 := Nat.lt_of_succ_lt hz2)))))); have y3_0 : w.heap.size < w3.heap.size := (by omega); have y3_1 : w.heap.size + 1 < w3.heap.size := (by omega)) | (go_at_call 20; (with_reducible refine (end_any _ _ _ _ p0 p1).mono ?_); rintro e w4 ⟨rfl, hb4⟩; obtain ⟨hc4, hf4⟩ := bcell hb4; have hz4 := hb4.size; (try simp at hz4); (try (have hz1 := Nat.lt_of_succ_le hz4; (try (have hz2 := Nat.lt_of_succ_lt hz1; (try (have hz3 := Nat.lt_of_succ_lt hz2)))))); have y4_0 : w.heap.size < w4.heap.size := (by omega); have y4_1 : w.heap.size + 1 < w4.heap.size := (by omega)) | (go_at_call 17; (with_reducible refine (names_any 0 _ _ _ _ _ h0 h1).mono ?_); rintro e w5 ⟨rfl, hb5⟩; obtain ⟨hc5, hf5⟩ := bcell hb5; have hz5 := hb5.size; (try simp at hz5); (try (have hz1 := Nat.lt_of_succ_le hz5; (try (have hz2 := Nat.lt_of_succ_lt hz1; (try (have hz3 := Nat.lt_of_succ_lt hz2)))))); have y5_0 : w.heap.size < w5.heap.size := (by omega); have y5_1 : w.heap.size + 1 < w5.heap.size := (by omega); have y5_2 : w4.heap.size < w5.heap.size := (by omega)) | (go_at_call 21; (with_reducible refine (open_any _ _ _ _).mono ?_); rintro e w6 ⟨rfl, hb6⟩; obtain ⟨hc6, hf6⟩ := bcell hb6; have hz6 := hb6.size; (try simp at hz6); (try (have hz1 := Nat.lt_of_succ_le hz6; (try (have hz2 := Nat.lt_of_succ_lt hz1; (try (have hz3 := Nat.lt_of_succ_lt hz2)))))); have y6_0 : w.heap.size < w6.heap.size := (by omega); have y6_1 : w.heap.size + 1 < w6.heap.size := (by omega); have y6_2 : w4.heap.size < w6.heap.size := (by omega)) | (go_at_call 17; (with_reducible refine (names_any _ _ _ _ _ _ h0 h1).mono ?_); rintro e w7 ⟨rfl, hb7⟩; obtain ⟨hc7, hf7⟩ := bcell hb7; have hz7 := hb7.size; (try simp at hz7); (try (have hz1 := Nat.lt_of_succ_le hz7; (try (have hz2 := Nat.lt_of_succ_lt hz1; (try (have hz3 := Nat.lt_of_succ_lt hz2)))))); have y7_0 : w.heap.size < w7.heap.size := (by omega); have y7_1 : w.heap.size + 1 < w7.heap.size := (by omega)))
      go_ret
      refine ⟨ret_bool (by simp [*]), ?_⟩
      repeat (first | exact Below.refl _ _ | (with_reducible refine Below.setCell ?_ (by first | exact Nat.le_refl _ | (simp; done) | (simp; omega) | omega) _) | (with_reducible refine Below.alloc ?_ (by first | exact Nat.le_refl _ | (simp; done) | (simp; omega) | omega) _) | (with_reducible refine Below.drew ?_) | (with_reducible refine belowN ?_ _) | (with_reducible refine Below.trans ?_ (Below.mono (by assumption) (by first | exact Nat.le_refl _ | (simp; done) | (simp; omega) | omega))))
    · clear m n hm hk0
      go_enter Try.func5, Try.ntmps5
      go_wp2_with (first | (go_at_call 16; (with_reducible refine (shown8 _).mono ?_); rintro e w1 ⟨rfl, hb1⟩; obtain ⟨hc1, hf1⟩ := bcell hb1; have hz1 := hb1.size; (try simp at hz1); (try (have hz1 := Nat.lt_of_succ_le hz1; (try (have hz2 := Nat.lt_of_succ_lt hz1; (try (have hz3 := Nat.lt_of_succ_lt hz2))))))) | (go_at_call 19; (with_reducible refine (eword_any _ _ _ _).mono ?_); rintro e w2 ⟨rfl, hb2⟩; obtain ⟨hc2, hf2⟩ := bcell hb2; have hz2 := hb2.size; (try simp at hz2); (try (have hz1 := Nat.lt_of_succ_le hz2; (try (have hz2 := Nat.lt_of_succ_lt hz1; (try (have hz3 := Nat.lt_of_succ_lt hz2)))))); have y2_0 : w.heap.size < w2.heap.size := (by omega); have y2_1 : w.heap.size + 1 < w2.heap.size := (by omega)) | (go_at_call 17; (with_reducible refine (names_any k v l _ _ _ h0 h1).mono ?_); rintro e w3 ⟨rfl, hb3⟩; obtain ⟨hc3, hf3⟩ := bcell hb3; have hz3 := hb3.size; (try simp at hz3); (try (have hz1 := Nat.lt_of_succ_le hz3; (try (have hz2 := Nat.lt_of_succ_lt hz1; (try (have hz3 := Nat.lt_of_succ_lt hz2)))))); have y3_0 : w.heap.size < w3.heap.size := (by omega); have y3_1 : w.heap.size + 1 < w3.heap.size := (by omega)) | (go_at_call 20; (with_reducible refine (end_any _ _ _ _ p0 p1).mono ?_); rintro e w4 ⟨rfl, hb4⟩; obtain ⟨hc4, hf4⟩ := bcell hb4; have hz4 := hb4.size; (try simp at hz4); (try (have hz1 := Nat.lt_of_succ_le hz4; (try (have hz2 := Nat.lt_of_succ_lt hz1; (try (have hz3 := Nat.lt_of_succ_lt hz2)))))); have y4_0 : w.heap.size < w4.heap.size := (by omega); have y4_1 : w.heap.size + 1 < w4.heap.size := (by omega)) | (go_at_call 17; (with_reducible refine (names_any 0 _ _ _ _ _ h0 h1).mono ?_); rintro e w5 ⟨rfl, hb5⟩; obtain ⟨hc5, hf5⟩ := bcell hb5; have hz5 := hb5.size; (try simp at hz5); (try (have hz1 := Nat.lt_of_succ_le hz5; (try (have hz2 := Nat.lt_of_succ_lt hz1; (try (have hz3 := Nat.lt_of_succ_lt hz2)))))); have y5_0 : w.heap.size < w5.heap.size := (by omega); have y5_1 : w.heap.size + 1 < w5.heap.size := (by omega); have y5_2 : w4.heap.size < w5.heap.size := (by omega)) | (go_at_call 21; (with_reducible refine (open_any _ _ _ _).mono ?_); rintro e w6 ⟨rfl, hb6⟩; obtain ⟨hc6, hf6⟩ := bcell hb6; have hz6 := hb6.size; (try simp at hz6); (try (have hz1 := Nat.lt_of_succ_le hz6; (try (have hz2 := Nat.lt_of_succ_lt hz1; (try (have hz3 := Nat.lt_of_succ_lt hz2)))))); have y6_0 : w.heap.size < w6.heap.size := (by omega); have y6_1 : w.heap.size + 1 < w6.heap.size := (by omega); have y6_2 : w4.heap.size < w6.heap.size := (by omega)) | (go_at_call 17; (with_reducible refine (names_any _ _ _ _ _ _ h0 h1).mono ?_); rintro e w7 ⟨rfl, hb7⟩; obtain ⟨hc7, hf7⟩ := bcell hb7; have hz7 := hb7.size; (try simp at hz7); (try (have hz1 := Nat.lt_of_succ_le hz7; (try (have hz2 := Nat.lt_of_succ_lt hz1; (try (have hz3 := Nat.lt_of_succ_lt hz2)))))); have y7_0 : w.heap.size < w7.heap.size := (by omega); have y7_1 : w.heap.size + 1 < w7.heap.size := (by omega)))
      go_ret
      refine ⟨ret_bool (by simp [*]), ?_⟩
      repeat (first | exact Below.refl _ _ | (with_reducible refine Below.setCell ?_ (by first | exact Nat.le_refl _ | (simp; done) | (simp; omega) | omega) _) | (with_reducible refine Below.alloc ?_ (by first | exact Nat.le_refl _ | (simp; done) | (simp; omega) | omega) _) | (with_reducible refine Below.drew ?_) | (with_reducible refine belowN ?_ _) | (with_reducible refine Below.trans ?_ (Below.mono (by assumption) (by first | exact Nat.le_refl _ | (simp; done) | (simp; omega) | omega))))

end Go.Proofs.Ytnmdhlemenjdiab
