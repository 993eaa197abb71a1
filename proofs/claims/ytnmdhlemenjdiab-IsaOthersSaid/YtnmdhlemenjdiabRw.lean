/- The walks of the reference of words: is, bit, Field, With. -/
import Derived.Test.YtnmdhlemenjdiabProg
import Derived.Test.YtnmdhlemenjdiabPb
import Derived.Test.YtnmdhlemenjdiabKit
namespace Go.Proofs.Ytnmdhlemenjdiab
open Go.RowKit
set_option linter.unusedSimpArgs false
set_option linter.unusedVariables false

theorem is_any (a n : Int) (w : World) (h0 : 0 ≤ a) (h1 : 1 ≤ n) (h2 : a + n ≤ 64) :
    Calls Try.prog 51 #[.int .i64 a, .int .i64 n] w fun e w' => e = .returned (.bool true) ∧ w = w' := by
  have k1 : a ≤ 63 := by omega
  have k2 : n ≤ 64 := by omega
  go_enter Try.func51, Try.ntmps51
  go_wp2
  go_ret
  exact ⟨rfl, rfl⟩

theorem bit_any (x i : Int) (w : World) (h0 : 0 ≤ x) (h1 : x < 18446744073709551616) (h2 : 0 ≤ i) (h3 : i ≤ 63) :
    Calls Try.prog 52 #[.int .u64 x, .int .i64 i] w fun e w' => e = .returned (.int .u64 (bitv x i)) ∧ w = w' := by
  have hm : min i.toNat 64 = i.toNat := by omega
  have hd : 0 ≤ x / 2 ^ i.toNat ∧ x / 2 ^ i.toNat < 18446744073709551616 := by
    have a1 := Int.ediv_nonneg h0 (show (0 : Int) ≤ 2 ^ i.toNat from Int.le_of_lt (Int.pow_pos (by decide)))
    have a2 := Int.ediv_le_self (2 ^ i.toNat) h0
    omega
  have hx := u64_mask 1 (by decide) (x / 2 ^ i.toNat) hd.1 hd.2
  have hx' : bits .and .u64 (x / 2 ^ i.toNat) 1 = bitv x i := hx
  clear hx hd
  go_enter Try.func52, Try.ntmps52
  go_wp2
  go_ret
  exact ⟨rfl, rfl⟩

set_option maxHeartbeats 1000000 in
theorem field_any (x a n : Int) (w : World) (h0 : 0 ≤ x) (h1 : x < 18446744073709551616) (h2 : 0 ≤ a) (h3 : 1 ≤ n) (h4 : a + n ≤ 64) :
    Calls Try.prog 45 #[.int .u64 x, .int .i64 a, .int .i64 n] w fun e w' => e = .returned (.int .u64 (fld x a n)) ∧ w = w' := by
  obtain ⟨X, rfl⟩ := Int.eq_ofNat_of_zero_le h0
  obtain ⟨A, rfl⟩ := Int.eq_ofNat_of_zero_le h2
  obtain ⟨N, rfl⟩ := Int.eq_ofNat_of_zero_le (show 0 ≤ n by omega)
  go_enter Try.func45, Try.ntmps45
  go_wp2_with (first | (go_at_call 51; (with_reducible refine (is_any _ _ _ (by omega) (by omega) (by omega)).mono ?_); rintro e w' ⟨rfl, rfl⟩))
  go_loop [7, 8] (fun o i => ∃ k : Nat, k ≤ N ∧ i = .int .i64 k ∧ o = .int .u64 (fld X A k)) (fun _ i => N - (intOf i).toNat)
  case atStart => exact ⟨0, Nat.zero_le _, rfl, by rw [show ((0 : Nat) : Int) = 0 from rfl, fld_zero]⟩
  case round =>
    obtain ⟨k, hk, rfl, rfl⟩ := hrel
    by_cases hlt : k < N
    · have hr := fld_round X A k (by omega)
      go_wp2_with (first | (go_at_call 52; (with_reducible refine (bit_any _ _ _ (by omega) (by omega) (by omega) (by omega)).mono ?_); rintro e w' ⟨rfl, rfl⟩))
      go_round
      case rel => exact ⟨k + 1, by omega, by go_num, by simp⟩
      case measure => simp [intOf]; omega
    · go_wp2
      go_ret
      have e : k = N := by omega
      subst e
      exact ⟨rfl, rfl⟩


set_option maxHeartbeats 1000000 in
theorem with_any (x a n v : Int) (w : World) (h0 : 0 ≤ x) (h1 : x < 2 ^ a.toNat) (h2 : 0 ≤ a) (h3 : 1 ≤ n) (h4 : a + n ≤ 64) (h5 : 0 ≤ v) (h6 : v < 2 ^ n.toNat) :
    Calls Try.prog 53 #[.int .u64 x, .int .i64 a, .int .i64 n, .int .u64 v] w fun e w' => e = .returned (.tuple #[.int .u64 (x + v * 2 ^ a.toNat), .int .i64 0]) ∧ w = w' := by
  obtain ⟨X, rfl⟩ := Int.eq_ofNat_of_zero_le h0
  obtain ⟨A, rfl⟩ := Int.eq_ofNat_of_zero_le h2
  obtain ⟨V, rfl⟩ := Int.eq_ofNat_of_zero_le h5
  obtain ⟨N, rfl⟩ := Int.eq_ofNat_of_zero_le (show 0 ≤ n by omega)
  have HL := Lib.hid (lay_full X A V N h5 h6)
  rw [Int.toNat_natCast, ← pow_cast] at h1 h6
  have hX : X < 2 ^ A := by omega
  have hV : V < 2 ^ N := by omega
  have hX64 := two_lt64 (show A < 64 by omega)
  have hV64 := two_le64 (show N ≤ 64 by omega)
  have HX := Lib.hid hX
  have HV := Lib.hid hV
  have x1 : (X : Int) < 18446744073709551616 := by omega
  have v1 : (V : Int) < 18446744073709551616 := by omega
  have HZ := Lib.hid (lay_zero X A V)
  have HX1 := Kp.mk x1
  have HV1 := Kp.mk v1

  clear h1 h6 hX hV hX64 hV64 v1 x1
  go_enter Try.func53, Try.ntmps53
  go_wp2_with (first | (go_at_call 51; (with_reducible refine (is_any _ _ _ (by omega) (by omega) (by omega)).mono ?_); rintro e w' ⟨rfl, rfl⟩))
  go_loop [10] (fun i => ∃ k : Nat, N ≤ k ∧ k ≤ 64 ∧ i = .int .i64 k) (fun i => 64 - (intOf i).toNat)
  case atStart => exact ⟨N, Nat.le_refl _, by omega, rfl⟩
  case round =>
    obtain ⟨k, hk, hk', rfl⟩ := hrel
    by_cases hlt : k < 64
    · have hz := bitv_hi V k N HV.out hk
      go_wp2_with (first | (go_at_call 52; (with_reducible refine (bit_any _ _ _ (by omega) (by have := HV1.out; omega) (by omega) (by omega)).mono ?_); rintro e w' ⟨rfl, rfl⟩))
      go_round
      case rel => exact ⟨k + 1, by omega, by omega, by go_num⟩
      case measure => simp [intOf]; omega
    · go_wp2
      go_loop [0, 11] (fun o i => ∃ k : Nat, k ≤ N ∧ i = .int .i64 k ∧ o = .int .u64 (lay X A V k)) (fun _ i => N - (intOf i).toNat)
      case atStart => exact ⟨0, Nat.zero_le _, rfl, by rw [show ((0 : Nat) : Int) = 0 from rfl, HZ.out]⟩
      case round =>
        obtain ⟨k, hk, rfl, rfl⟩ := hrel
        by_cases hlt : k < N
        · obtain ⟨r1, r2, r3, r4, r5⟩ := lay_round X A V k HX.out (by omega)
          have HR4 := Lib.hid r4
          have HR5 := Lib.hid r5
          have HR3 := Lib.hid r3
          clear r3 r4 r5
          rcases bitv_01 V k with hb | hb
          · have hL := HR4.out hb
            go_wp2_with (first | (go_at_call 52; (with_reducible refine (bit_any V _ _ (by omega) (by have := HV1.out; omega) (by omega) (by omega)).mono ?_); rintro e w' ⟨rfl, rfl⟩) | (go_at_call 52; (with_reducible refine (bit_any (lay X A V k) _ _ (by omega) (by have := HR3.out; omega) (by omega) (by omega)).mono ?_); rintro e w' ⟨rfl, rfl⟩))
            go_round
            case rel => exact ⟨k + 1, by omega, by go_num, by simp [hL]⟩
            case measure => simp [intOf]; omega
          · have hL := HR5.out hb
            go_wp2_with (first | (go_at_call 52; (with_reducible refine (bit_any V _ _ (by omega) (by have := HV1.out; omega) (by omega) (by omega)).mono ?_); rintro e w' ⟨rfl, rfl⟩) | (go_at_call 52; (with_reducible refine (bit_any (lay X A V k) _ _ (by omega) (by have := HR3.out; omega) (by omega) (by omega)).mono ?_); rintro e w' ⟨rfl, rfl⟩))
            go_round
            case rel => exact ⟨k + 1, by omega, by go_num, by simp [hL]⟩
            case measure => simp [intOf]; omega
        · go_wp2
          go_ret2
          have e : k = N := by omega
          subst e
          exact ⟨ret_int2 (by rw [HL.out]; simp) rfl, rfl⟩

end Go.Proofs.Ytnmdhlemenjdiab
