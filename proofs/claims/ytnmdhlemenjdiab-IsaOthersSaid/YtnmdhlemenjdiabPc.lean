/- The plain laws of capabilities: what is diminished, what is within what. No program in sight. -/
import Derived.Test.YtnmdhlemenjdiabPa
namespace Go.Proofs.Ytnmdhlemenjdiab
open Go
set_option linter.unusedVariables false

/-- What caps.Diminish answers. -/
def dWord (x r b : Int) : Int := if cOk x = true then (if win r 0 15 = true then (if win b 0 65535 = true then cWord (gK x) (bits .and .i64 (gR x) r) (gI x) (gV x) (if gB x = 0 then b else gB x) else 0) else 0) else 0
def dErr (x r b : Int) : Int := if cOk x = true then (if win r 0 15 = true then (if win b 0 65535 = true then cErr (gK x) (bits .and .i64 (gR x) r) (gI x) (gV x) (if gB x = 0 then b else gB x) else 1) else 1) else 31

/-- What caps.May answers. -/
def mErr (x k r : Int) : Int := if cOk x = true then (if gK x = k then (if bits .andNot .i64 r (gR x) = 0 then 0 else 32) else 31) else 31
/-- What caps.Within answers. -/
def wIn (x y : Int) : Bool := cOk x && (cOk y && (bits .andNot .i64 (gR x) (gR y) == 0 && (gK x == gK y && (gI x == gI y && gV x == gV y))))

theorem wrap_i64_toNat (v : BitVec 64) : IntKind.i64.wrap (v.toNat : Int) = v.toInt := by
  have := v.isLt
  rw [IntKind.wrap_i64, BitVec.toInt_eq_toNat_cond]
  split <;> omega
theorem toInt_ofInt (r : Int) (h0 : -9223372036854775808 ≤ r) (h1 : r < 9223372036854775808) : (BitVec.ofInt 64 r).toInt = r := by
  rw [BitVec.toInt_ofInt, Int.bmod_def]; omega
theorem bv_iff (a b : BitVec 64) : b &&& a = a ↔ a &&& ~~~b = 0#64 := by
  constructor
  · intro h
    ext i hi
    have h1 : (b &&& a)[i] = a[i] := by rw [h]
    rw [BitVec.getElem_and] at h1
    rw [BitVec.getElem_and, BitVec.getElem_not, BitVec.getElem_zero]
    generalize a[i] = x at h1
    generalize b[i] = y at h1
    revert h1
    cases x <;> cases y <;> decide
  · intro h
    ext i hi
    have h1 : (a &&& ~~~b)[i] = (0#64)[i] := by rw [h]
    rw [BitVec.getElem_and, BitVec.getElem_not, BitVec.getElem_zero] at h1
    rw [BitVec.getElem_and]
    generalize a[i] = x at h1
    generalize b[i] = y at h1
    revert h1
    cases x <;> cases y <;> decide
theorem and_andNot (c r : Int) (h0 : -9223372036854775808 ≤ r) (h1 : r < 9223372036854775808) : bits .and .i64 c r = r ↔ bits .andNot .i64 r c = 0 := by
  show IntKind.i64.wrap (((BitVec.ofInt 64 c &&& BitVec.ofInt 64 r).toNat : Nat) : Int) = r ↔ IntKind.i64.wrap (((BitVec.ofInt 64 r &&& ~~~BitVec.ofInt 64 c).toNat : Nat) : Int) = 0
  have e := toInt_ofInt r h0 h1
  generalize BitVec.ofInt 64 r = a at e
  generalize BitVec.ofInt 64 c = b
  rw [wrap_i64_toNat, wrap_i64_toNat, ← e]
  have z : (0 : Int) = (0#64).toInt := by decide
  rw [z, BitVec.toInt_inj, BitVec.toInt_inj]
  exact bv_iff a b

theorem i64_and15 (a b : Int) (h0 : 0 ≤ a) (h1 : a ≤ 15) (h2 : 0 ≤ b) (h3 : b ≤ 15) : 0 ≤ bits .and .i64 a b ∧ bits .and .i64 a b ≤ 15 ∧ bits .and .i64 a b = ((a.toNat &&& b.toNat : Nat) : Int) := by
  obtain ⟨a, rfl⟩ := Int.eq_ofNat_of_zero_le h0
  obtain ⟨b, rfl⟩ := Int.eq_ofNat_of_zero_le h2
  have e := (bits_nat .i64 62 (by decide) (fun n h k => by rw [IntKind.wrap_i64]; omega) a b (by omega) (by omega)).1
  have hl : a &&& b < 2 ^ 4 := Nat.and_lt_two_pow _ (by omega)
  rw [e, Int.toNat_natCast, Int.toNat_natCast]
  exact ⟨by omega, by omega, rfl⟩
theorem i64_or15 (a b : Int) (h0 : 0 ≤ a) (h1 : a ≤ 15) (h2 : 0 ≤ b) (h3 : b ≤ 15) : bits .or .i64 a b = ((a.toNat ||| b.toNat : Nat) : Int) := by
  obtain ⟨a, rfl⟩ := Int.eq_ofNat_of_zero_le h0
  obtain ⟨b, rfl⟩ := Int.eq_ofNat_of_zero_le h2
  have e := (bits_nat .i64 62 (by decide) (fun n h k => by rw [IntKind.wrap_i64]; omega) a b (by omega) (by omega)).2
  rw [e, Int.toNat_natCast, Int.toNat_natCast]

/-! ### a word of parts -/
theorem g_sum {k r i v b : Int} (h : capMay k r i v b = true) : gK (capSum k r i v b) = k ∧ gR (capSum k r i v b) = r ∧ gI (capSum k r i v b) = i ∧ gV (capSum k r i v b) = v ∧ gB (capSum k r i v b) = b := by
  obtain ⟨a1, a2, a3, a4, a5⟩ := parts_sum h
  obtain ⟨b1, b2, b3, b4, b5⟩ := g_yes _ (ok_sum h)
  exact ⟨b1.trans a1, b2.trans a2, b3.trans a3, b4.trans a4, b5.trans a5⟩
theorem sum_g {x : Int} (h : cOk x = true) : capMay (gK x) (gR x) (gI x) (gV x) (gB x) = true ∧ capSum (gK x) (gR x) (gI x) (gV x) (gB x) = x := by
  obtain ⟨b1, b2, b3, b4, b5⟩ := g_yes x h
  rw [b1, b2, b3, b4, b5]
  exact ⟨h, sum_parts x⟩
theorem word_yes {k r i v b : Int} (h : capMay k r i v b = true) : cWord k r i v b = capSum k r i v b ∧ cErr k r i v b = 0 := by
  unfold cWord cErr; rw [h]; exact ⟨rfl, rfl⟩
theorem word_no {k r i v b : Int} (h : capMay k r i v b = false) : cWord k r i v b = 0 ∧ cErr k r i v b = 1 := by
  unfold cWord cErr; rw [h]; exact ⟨rfl, rfl⟩
theorem word_g {x : Int} (h : cOk x = true) : cWord (gK x) (gR x) (gI x) (gV x) (gB x) = x ∧ cErr (gK x) (gR x) (gI x) (gV x) (gB x) = 0 := by
  obtain ⟨a, b⟩ := sum_g h
  obtain ⟨c, d⟩ := word_yes a
  exact ⟨c.trans b, d⟩
theorem sum_inj {k r i v b k' r' i' v' b' : Int} (h : capMay k r i v b = true) (h' : capMay k' r' i' v' b' = true) (e : capSum k r i v b = capSum k' r' i' v' b') : k = k' ∧ r = r' ∧ i = i' ∧ v = v' ∧ b = b' := by
  obtain ⟨a1, a2, a3, a4, a5⟩ := parts_sum h
  obtain ⟨b1, b2, b3, b4, b5⟩ := parts_sum h'
  rw [e] at a1 a2 a3 a4 a5
  exact ⟨a1.symm.trans b1, a2.symm.trans b2, a3.symm.trans b3, a4.symm.trans b4, a5.symm.trans b5⟩
theorem sum_pos {k r i v b : Int} (h : capMay k r i v b = true) : capSum k r i v b ≠ 0 := by
  obtain ⟨h1, h2, h3, h4, h5, _⟩ := capMay_t h
  unfold capSum; omega

/-! ### diminished -/
def dB (x b : Int) : Int := if gB x = 0 then b else gB x
theorem dim_may {x r b : Int} (h : cOk x = true) (h1 : win r 0 15 = true) (h2 : win b 0 65535 = true) : capMay (gK x) (bits .and .i64 (gR x) r) (gI x) (gV x) (dB x b) = true := by
  obtain ⟨a1, a2, a3, a4, a5, a6⟩ := gBounds x h
  have h1' := win_t h1
  have h2' := win_t h2
  have hr := i64_and15 (gR x) r a2.1 a2.2 h1'.1 h1'.2
  exact capMay_mk a1 ⟨hr.1, hr.2.1⟩ a3 a4 (by unfold dB; split <;> omega) a6
theorem dim_yes {x r b : Int} (h : cOk x = true) (h1 : win r 0 15 = true) (h2 : win b 0 65535 = true) : dWord x r b = capSum (gK x) (bits .and .i64 (gR x) r) (gI x) (gV x) (dB x b) ∧ dErr x r b = 0 := by
  obtain ⟨a, b'⟩ := word_yes (dim_may h h1 h2)
  unfold dWord dErr
  rw [if_pos h, if_pos h1, if_pos h2, if_pos h, if_pos h1, if_pos h2]
  exact ⟨a, b'⟩
/-- What is diminished without an error. -/
theorem dim_inv {x r b : Int} (h : dErr x r b = 0) : cOk x = true ∧ win r 0 15 = true ∧ win b 0 65535 = true := by
  unfold dErr at h
  by_cases c : cOk x = true
  · rw [if_pos c] at h
    by_cases c1 : win r 0 15 = true
    · rw [if_pos c1] at h
      by_cases c2 : win b 0 65535 = true
      · exact ⟨c, c1, c2⟩
      · rw [if_neg c2] at h; omega
    · rw [if_neg c1] at h; omega
  · rw [if_neg c] at h; omega
theorem dErr_ne {x r b : Int} (h : dErr x r b ≠ 0) : dWord x r b = 0 := by
  by_cases c : cOk x = true
  · by_cases c1 : win r 0 15 = true
    · by_cases c2 : win b 0 65535 = true
      · exact absurd (dim_yes c c1 c2).2 h
      · unfold dWord; rw [if_pos c, if_pos c1, if_neg c2]
    · unfold dWord; rw [if_pos c, if_neg c1]
  · unfold dWord; rw [if_neg c]
theorem dWord_u64 (x r b : Int) : 0 ≤ dWord x r b ∧ dWord x r b < 18446744073709551616 := by
  by_cases h : dErr x r b = 0
  · obtain ⟨a, b', c⟩ := dim_inv h
    rw [(dim_yes a b' c).1]
    exact sum_u64 (dim_may a b' c)
  · rw [dErr_ne h]; omega
theorem andNot_and (c r : Int) (h0 : 0 ≤ c) (h1 : c ≤ 15) (h2 : 0 ≤ r) (h3 : r ≤ 15) : bits .andNot .i64 (bits .and .i64 c r) c = 0 := by
  have e := i64_and15 c r h0 h1 h2 h3
  refine (and_andNot c (bits .and .i64 c r) (by omega) (by omega)).1 ?_
  have f := i64_and15 c (bits .and .i64 c r) h0 h1 e.1 e.2.1
  rw [f.2.2, e.2.2, Int.toNat_natCast, ← Nat.and_assoc, Nat.and_self]
theorem dim_within {x r b : Int} (h : dErr x r b = 0) : wIn (dWord x r b) x = true := by
  obtain ⟨h1, h2, h3⟩ := dim_inv h
  have hm := dim_may h1 h2 h3
  obtain ⟨e, -⟩ := dim_yes h1 h2 h3
  obtain ⟨a1, a2, a3, a4, a5⟩ := g_sum hm
  obtain ⟨c1, c2, c3, c4, c5, c6⟩ := gBounds x h1
  have h2' := win_t h2
  unfold wIn
  rw [e, ok_sum hm, a1, a2, a3, a4, h1, andNot_and _ _ c2.1 c2.2 h2'.1 h2'.2]
  simp
theorem dim_twice {x r0 r1 b0 b1 : Int} (h : dErr x r0 b0 = 0) (h' : dErr (dWord x r0 b0) r1 b1 = 0) :
    dWord (dWord x r0 b0) r1 b1 = dWord x (bits .and .i64 r0 r1) (if b0 = 0 then b1 else b0) ∧ dErr x (bits .and .i64 r0 r1) (if b0 = 0 then b1 else b0) = 0 := by
  obtain ⟨h1, h2, h3⟩ := dim_inv h
  obtain ⟨k1, k2, k3⟩ := dim_inv h'
  have hm := dim_may h1 h2 h3
  obtain ⟨e, -⟩ := dim_yes h1 h2 h3
  obtain ⟨f, -⟩ := dim_yes k1 k2 k3
  obtain ⟨a1, a2, a3, a4, a5⟩ := g_sum hm
  obtain ⟨c1, c2, c3, c4, c5, c6⟩ := gBounds x h1
  have h2' := win_t h2
  have k2' := win_t k2
  have h3' := win_t h3
  have k3' := win_t k3
  have hr := i64_and15 r0 r1 h2'.1 h2'.2 k2'.1 k2'.2
  have hx := i64_and15 (gR x) r0 c2.1 c2.2 h2'.1 h2'.2
  obtain ⟨p, q⟩ := dim_yes h1 (win_mk hr.1 hr.2.1) (show win (if b0 = 0 then b1 else b0) 0 65535 = true from by split <;> assumption)
  refine ⟨?_, q⟩
  rw [f, p]
  unfold dB
  rw [e, a1, a2, a3, a4, a5]
  have hR : bits .and .i64 (bits .and .i64 (gR x) r0) r1 = bits .and .i64 (gR x) (bits .and .i64 r0 r1) := by
    rw [(i64_and15 _ r1 hx.1 hx.2.1 k2'.1 k2'.2).2.2, (i64_and15 (gR x) _ c2.1 c2.2 hr.1 hr.2.1).2.2, hx.2.2, hr.2.2, Int.toNat_natCast, Int.toNat_natCast, Nat.and_assoc]
  rw [hR]
  unfold dB
  congr 1
  by_cases g : gB x = 0
  · simp [g]
  · simp [g]

/-! ### within -/
theorem wIn_t {x y : Int} (h : wIn x y = true) : cOk x = true ∧ cOk y = true ∧ bits .andNot .i64 (gR x) (gR y) = 0 ∧ gK x = gK y ∧ gI x = gI y ∧ gV x = gV y := by
  unfold wIn at h
  simpa using h
theorem wIn_mk {x y : Int} (h1 : cOk x = true) (h2 : cOk y = true) (h3 : bits .andNot .i64 (gR x) (gR y) = 0) (h4 : gK x = gK y) (h5 : gI x = gI y) (h6 : gV x = gV y) : wIn x y = true := by
  unfold wIn
  simp [*]
/-- In the numbers of rights: to have no more. -/
theorem noMore (a b : Int) (h0 : 0 ≤ a) (h1 : a ≤ 15) (h2 : 0 ≤ b) (h3 : b ≤ 15) : bits .andNot .i64 a b = 0 ↔ b.toNat &&& a.toNat = a.toNat := by
  rw [← and_andNot b a (by omega) (by omega), (i64_and15 b a h2 h3 h0 h1).2.2]
  omega
theorem wIn_refl (x : Int) : wIn x x = cOk x := by
  rcases Bool.eq_false_or_eq_true (cOk x) with h | h
  · obtain ⟨c1, c2, c3, c4, c5, c6⟩ := gBounds x h
    rw [h]
    exact wIn_mk h h ((noMore _ _ c2.1 c2.2 c2.1 c2.2).2 (Nat.and_self _)) rfl rfl rfl
  · unfold wIn; rw [h]; rfl
theorem nat_and_trans {a b c : Nat} (h : b &&& a = a) (k : c &&& b = b) : c &&& a = a := by
  rw [← h, ← Nat.and_assoc, k]
theorem wIn_trans {x y z : Int} (h : wIn x y = true) (k : wIn y z = true) : wIn x z = true := by
  obtain ⟨a1, a2, a3, a4, a5, a6⟩ := wIn_t h
  obtain ⟨b1, b2, b3, b4, b5, b6⟩ := wIn_t k
  obtain ⟨_, p, _⟩ := gBounds x a1
  obtain ⟨_, q, _⟩ := gBounds y a2
  obtain ⟨_, r, _⟩ := gBounds z b2
  refine wIn_mk a1 b2 ?_ (a4.trans b4) (a5.trans b5) (a6.trans b6)
  rw [noMore _ _ p.1 p.2 q.1 q.2] at a3
  rw [noMore _ _ q.1 q.2 r.1 r.2] at b3
  rw [noMore _ _ p.1 p.2 r.1 r.2]
  exact nat_and_trans a3 b3
theorem wIn_anti {x y : Int} (h : wIn x y = true) (k : wIn y x = true) : gR x = gR y := by
  obtain ⟨a1, a2, a3, a4, a5, a6⟩ := wIn_t h
  obtain ⟨b1, b2, b3, b4, b5, b6⟩ := wIn_t k
  obtain ⟨_, p, _⟩ := gBounds x a1
  obtain ⟨_, q, _⟩ := gBounds y a2
  rw [noMore _ _ p.1 p.2 q.1 q.2] at a3
  rw [noMore _ _ q.1 q.2 p.1 p.2] at b3
  rw [Nat.and_comm] at b3
  have e : (gR x).toNat = (gR y).toNat := a3.symm.trans b3
  omega
theorem bv_andNot_trans (a b r : BitVec 64) (h : a &&& ~~~b = 0#64) (k : r &&& ~~~a = 0#64) : r &&& ~~~b = 0#64 := by
  ext i hi
  have h1 : (a &&& ~~~b)[i] = (0#64)[i] := by rw [h]
  have h2 : (r &&& ~~~a)[i] = (0#64)[i] := by rw [k]
  rw [BitVec.getElem_and, BitVec.getElem_not, BitVec.getElem_zero] at h1 h2
  rw [BitVec.getElem_and, BitVec.getElem_not, BitVec.getElem_zero]
  generalize a[i] = x at h1 h2
  generalize b[i] = y at h1
  generalize r[i] = z at h2
  revert h1 h2
  cases x <;> cases y <;> cases z <;> decide
theorem andNot_zero (r a : Int) : bits .andNot .i64 r a = 0 ↔ BitVec.ofInt 64 r &&& ~~~BitVec.ofInt 64 a = 0#64 := by
  show IntKind.i64.wrap (((BitVec.ofInt 64 r &&& ~~~BitVec.ofInt 64 a).toNat : Nat) : Int) = 0 ↔ _
  rw [wrap_i64_toNat]
  have z : (0 : Int) = (0#64).toInt := by decide
  rw [z, BitVec.toInt_inj]
theorem andNot_trans (a b r : Int) (h : bits .andNot .i64 a b = 0) (k : bits .andNot .i64 r a = 0) : bits .andNot .i64 r b = 0 := by
  rw [andNot_zero] at h k ⊢
  exact bv_andNot_trans _ _ _ h k
theorem mErr_0 {x k r : Int} (h : mErr x k r = 0) : cOk x = true ∧ gK x = k ∧ bits .andNot .i64 r (gR x) = 0 := by
  unfold mErr at h
  by_cases c : cOk x = true
  · rw [if_pos c] at h
    by_cases c1 : gK x = k
    · rw [if_pos c1] at h
      by_cases c2 : bits .andNot .i64 r (gR x) = 0
      · exact ⟨c, c1, c2⟩
      · rw [if_neg c2] at h; omega
    · rw [if_neg c1] at h; omega
  · rw [if_neg c] at h; omega
theorem mErr_mk {x k r : Int} (h : cOk x = true) (h1 : gK x = k) (h2 : bits .andNot .i64 r (gR x) = 0) : mErr x k r = 0 := by
  unfold mErr; rw [if_pos h, if_pos h1, if_pos h2]
theorem wIn_may {x y k r : Int} (h : wIn x y = true) (m : mErr x k r = 0) : mErr y k r = 0 := by
  obtain ⟨a1, a2, a3, a4, a5, a6⟩ := wIn_t h
  obtain ⟨b1, b2, b3⟩ := mErr_0 m
  exact mErr_mk a2 (a4.symm.trans b2) (andNot_trans _ _ _ a3 b3)

/-- The reference's 'within' is that of package caps. -/
theorem wIn_ref (x y : Int) : (cOk x && (cOk y && (gK x == gK y && (gI x == gI y && (gV x == gV y && bits .and .i64 (gR x) (gR y) == gR x))))) = wIn x y := by
  unfold wIn
  rcases Bool.eq_false_or_eq_true (cOk x) with h | h
  · rcases Bool.eq_false_or_eq_true (cOk y) with k | k
    · obtain ⟨_, p, _⟩ := gBounds x h
      obtain ⟨_, q, _⟩ := gBounds y k
      have e : (bits .and .i64 (gR x) (gR y) == gR x) = (bits .andNot .i64 (gR x) (gR y) == 0) := by
        rw [Bool.eq_iff_iff, beq_iff_eq, beq_iff_eq, noMore _ _ p.1 p.2 q.1 q.2, (i64_and15 _ _ p.1 p.2 q.1 q.2).2.2, Nat.and_comm]
        omega
      rw [e, h, k]
      generalize (bits .andNot .i64 (gR x) (gR y) == 0) = b1
      generalize (gK x == gK y) = b2
      generalize (gI x == gI y) = b3
      generalize (gV x == gV y) = b4
      cases b1 <;> cases b2 <;> cases b3 <;> cases b4 <;> rfl
    · rw [k]; simp
  · rw [h]; simp
theorem mErr_or {x k r : Int} (h : cOk x = true) (hk : gK x = k) (h0 : 0 ≤ r) (h1 : r ≤ 15) : (mErr x k r == 0) = (bits .or .i64 (gR x) r == gR x) := by
  obtain ⟨_, p, _⟩ := gBounds x h
  have e : mErr x k r = 0 ↔ bits .andNot .i64 r (gR x) = 0 := ⟨fun m => (mErr_0 m).2.2, fun m => mErr_mk h hk m⟩
  rw [Bool.eq_iff_iff, beq_iff_eq, beq_iff_eq, e, noMore _ _ h0 h1 p.1 p.2, i64_or15 _ _ p.1 p.2 h0 h1]
  generalize hx : (gR x).toNat = X
  generalize hr : r.toNat = R
  have hx' : gR x = (X : Int) := by omega
  rw [hx']
  have c : X &&& R = R ↔ X ||| R = X := by
    constructor
    · intro e; rw [← e, Nat.or_comm]
      apply Nat.eq_of_testBit_eq; intro i
      simp only [Nat.testBit_or, Nat.testBit_and]
      cases X.testBit i <;> cases R.testBit i <;> rfl
    · intro e; rw [← e]
      apply Nat.eq_of_testBit_eq; intro i
      simp only [Nat.testBit_or, Nat.testBit_and]
      cases X.testBit i <;> cases R.testBit i <;> rfl
  rw [c]; omega
theorem mErr_self {x : Int} (h : cOk x = true) : mErr x (gK x) (gR x) = 0 ∧ mErr x (gK x) 0 = 0 := by
  obtain ⟨_, p, _⟩ := gBounds x h
  refine ⟨mErr_mk h rfl ((noMore _ _ p.1 p.2 p.1 p.2).2 (Nat.and_self _)), mErr_mk h rfl ((noMore 0 _ (by decide) (by decide) p.1 p.2).2 (by simp))⟩

end Go.Proofs.Ytnmdhlemenjdiab
