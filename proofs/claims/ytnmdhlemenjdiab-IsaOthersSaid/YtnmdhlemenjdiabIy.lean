/- The walk of isa.Of. -/
import Derived.Test.YtnmdhlemenjdiabIx
import Derived.Test.YtnmdhlemenjdiabEw
import Derived.Deep.DeepCutAuto
import Derived.Deep.CutBlock
namespace Go.Proofs.Ytnmdhlemenjdiab
open Go.RowKit
set_option linter.unusedSimpArgs false
set_option linter.unusedVariables false

set_option maxHeartbeats 1000000 in
theorem ipart_any (x a q : Int) (b : Nat) (w : World) (hc : w.cell? ⟨b, 0, none⟩ = some (.int .u64 x)) (h0 : 0 ≤ x) (h1 : x < 18446744073709551616) (h2 : 0 ≤ a) (h4 : a + 8 ≤ 64) (hq : fld x a 8 = q) (q0 : 0 ≤ q) (q1 : q < 9223372036854775808) :
    Calls Try.prog 43 #[.int .i64 a, .pointer (some ⟨b, 0, none⟩)] w fun e w' => e = .returned (.int .i64 q) ∧ ∃ k, w' = w.drewN k := by
  subst hq
  go_enter Try.func43, Try.ntmps43
  go_wp2_with (first | (go_at_call 44; (with_reducible refine (wfield_any _ _ _ _ h0 h1 h2 (by decide) h4).mono ?_); rintro e w' ⟨rfl, k, rfl⟩))
  go_ret
  exact ⟨rfl, k, rfl⟩

theorem wrapM (x : Int) (h0 : 0 ≤ x) (h1 : x < 18446744073709551616) : IntKind.i64.wrap (IntKind.i32.wrap (x / 4294967296)) = rM x := by
  rw [IntKind.wrap_i32, IntKind.wrap_i64]; unfold rM; omega
theorem fld_r (x : Int) : fld x 0 8 = rO x ∧ fld x 8 8 = rA x ∧ fld x 16 8 = rB x ∧ fld x 24 8 = rC x := by
  refine ⟨?_, rfl, rfl, rfl⟩
  show x / 1 % 256 = x % 256
  omega
theorem uAgg_yes (w : Int) (h : iOk w = true) : (Value.tuple #[.agg #[.int .i64 (rO w), .int .i64 (rA w), .int .i64 (rB w), .int .i64 (rC w), .int .i64 (rM w)], .bool true]) = .tuple #[.agg #[.int .i64 (uO w), .int .i64 (uA w), .int .i64 (uB w), .int .i64 (uC w), .int .i64 (uM w)], .bool (iOk w)] := by
  obtain ⟨a, b, c, d, e⟩ := u_yes h
  rw [a, b, c, d, e, h]
theorem uAgg_no (w : Int) (h : iOk w = false) : (Value.tuple #[.agg #[.int .i64 0, .int .i64 0, .int .i64 0, .int .i64 0, .int .i64 0], .bool false]) = .tuple #[.agg #[.int .i64 (uO w), .int .i64 (uA w), .int .i64 (uB w), .int .i64 (uC w), .int .i64 (uM w)], .bool (iOk w)] := by
  obtain ⟨a, b, c, d, e⟩ := u_no h
  rw [a, b, c, d, e, h]

/-- What stands behind the reading of the parts. -/
def OfCut (x : Int) (w : World) (v5 : Value) (wc : World) : Prop := ∃ b5 : Nat, v5 = .pointer (some ⟨b5, 0, none⟩) ∧ wc.heap[b5]? = some (.cells #[.int .i64 (rO x), .int .i64 (rA x), .int .i64 (rB x), .int .i64 (rC x), .int .i64 (rM x)] 45) ∧ wc.heap[w.heap.size + 1]? = some (.cells #[.int .i64 0, .int .i64 0, .int .i64 0, .int .i64 0, .int .i64 0] 45) ∧ Below w.heap.size w wc
theorem ofcut_A {x : Int} {w W : World} (n : Nat) (hr : W.heap[w.heap.size + 1]? = some (.cells #[.int .i64 0, .int .i64 0, .int .i64 0, .int .i64 0, .int .i64 0] 45)) (hB : Below w.heap.size w W) :
    OfCut x w (.pointer (some ⟨W.heap.size, 0, none⟩)) ((W.drewN n).alloc (.cells #[.int .i64 (rO x), .int .i64 (rA x), .int .i64 (rB x), .int .i64 (rC x), .int .i64 (rM x)] 45)) :=
  ⟨W.heap.size, rfl, blk_new (W.drewN n) _, blk_alloc (w := W.drewN n) _ hr, below2 (belowN hB n) (below_alloc1 _ _)⟩
theorem ofcut_B {x : Int} {w W : World} (n m : Nat) (hr : W.heap[w.heap.size + 1]? = some (.cells #[.int .i64 0, .int .i64 0, .int .i64 0, .int .i64 0, .int .i64 0] 45)) (hB : Below w.heap.size w W) :
    OfCut x w (.pointer (some ⟨W.heap.size, 0, none⟩)) (((((((((W.drewN n).alloc (.cells #[.int .i64 0, .int .i64 0, .int .i64 0, .int .i64 0, .int .i64 0] 45)).drewN m).setCell ⟨W.heap.size, 0, none⟩ (.int .i64 (rO x))).setCell ⟨W.heap.size, 1, none⟩ (.int .i64 (rA x))).setCell ⟨W.heap.size, 2, none⟩ (.int .i64 (rB x))).setCell ⟨W.heap.size, 3, none⟩ (.int .i64 (rC x))).setCell ⟨W.heap.size, 4, none⟩ (.int .i64 (rM x)))) := by
  have hl := blk_lt hr
  have h0 : (((W.drewN n).alloc (.cells #[.int .i64 0, .int .i64 0, .int .i64 0, .int .i64 0, .int .i64 0] 45)).drewN m).heap[W.heap.size]? = some (.cells #[.int .i64 0, .int .i64 0, .int .i64 0, .int .i64 0, .int .i64 0] 45) := blk_new (W.drewN n) _
  have h1 : (((W.drewN n).alloc (.cells #[.int .i64 0, .int .i64 0, .int .i64 0, .int .i64 0, .int .i64 0] 45)).drewN m).heap[w.heap.size + 1]? = some (.cells #[.int .i64 0, .int .i64 0, .int .i64 0, .int .i64 0, .int .i64 0] 45) := blk_alloc (w := W.drewN n) _ hr
  have hne : w.heap.size + 1 ≠ W.heap.size := by omega
  have hle : w.heap.size ≤ W.heap.size := by omega
  refine ⟨W.heap.size, rfl, blk_set 4 _ (blk_set 3 _ (blk_set 2 _ (blk_set 1 _ (blk_set 0 _ h0)))), blk_other _ _ (blk_other _ _ (blk_other _ _ (blk_other _ _ (blk_other _ _ h1 hne) hne) hne) hne) hne, ?_⟩
  have b := belowN (below2 (belowN hB n) (below_alloc1 (W.drewN n) (.cells #[.int .i64 0, .int .i64 0, .int .i64 0, .int .i64 0, .int .i64 0] 45))) m
  exact ((((b.setCell (p := ⟨W.heap.size, 0, none⟩) hle _).setCell (p := ⟨W.heap.size, 1, none⟩) hle _).setCell (p := ⟨W.heap.size, 2, none⟩) hle _).setCell (p := ⟨W.heap.size, 3, none⟩) hle _).setCell (p := ⟨W.heap.size, 4, none⟩) hle _
theorem ofcut_C {x : Int} {w W : World} (m : Nat) (hr : W.heap[w.heap.size + 1]? = some (.cells #[.int .i64 0, .int .i64 0, .int .i64 0, .int .i64 0, .int .i64 0] 45)) (hB : Below w.heap.size w W) :
    OfCut x w (.pointer (some ⟨W.heap.size, 0, none⟩)) ((((((((W.alloc (.cells #[.int .i64 0, .int .i64 0, .int .i64 0, .int .i64 0, .int .i64 0] 45)).drewN m).setCell ⟨W.heap.size, 0, none⟩ (.int .i64 (rO x))).setCell ⟨W.heap.size, 1, none⟩ (.int .i64 (rA x))).setCell ⟨W.heap.size, 2, none⟩ (.int .i64 (rB x))).setCell ⟨W.heap.size, 3, none⟩ (.int .i64 (rC x))).setCell ⟨W.heap.size, 4, none⟩ (.int .i64 (rM x)))) :=
  ofcut_B 0 m hr hB
set_option maxHeartbeats 8000000 in
theorem iof_any (x : Int) (w : World) (h0 : 0 ≤ x) (h1 : x < 18446744073709551616) :
    Calls Try.prog 25 #[.int .u64 x] w fun e w' => e = .returned (.tuple #[.agg #[.int .i64 (uO x), .int .i64 (uA x), .int .i64 (uB x), .int .i64 (uC x), .int .i64 (uM x)], .bool (iOk x)]) ∧ Below w.heap.size w w' := by
  obtain ⟨f1, f2, f3, f4⟩ := fld_r x
  obtain ⟨⟨a1, a2⟩, ⟨b1, b2⟩, ⟨c1, c2⟩, ⟨d1, d2⟩, ⟨e1, e2⟩⟩ := rbounds x h0 h1
  have F1 := Kp.mk f1
  have F2 := Kp.mk f2
  have F3 := Kp.mk f3
  have F4 := Kp.mk f4
  clear f1 f2 f3 f4
  go_enter Try.func25, Try.ntmps25
  go_upto_region 2 with (fail)
  go_cut [5] (fun v5 wc => OfCut x w v5 wc)
  case first =>
    have x0 : ((w.alloc (.cells #[.int .u64 x] 22)).alloc (.cells #[.int .i64 0, .int .i64 0, .int .i64 0, .int .i64 0, .int .i64 0] 45)).cell? ⟨w.heap.size, 0, none⟩ = some (.int .u64 x) := keptA _ (by simp)
    have hr : ((w.alloc (.cells #[.int .u64 x] 22)).alloc (.cells #[.int .i64 0, .int .i64 0, .int .i64 0, .int .i64 0, .int .i64 0] 45)).heap[w.heap.size + 1]? = some (.cells #[.int .i64 0, .int .i64 0, .int .i64 0, .int .i64 0, .int .i64 0] 45) := by simpa using blk_new (w.alloc (.cells #[.int .u64 x] 22)) (.cells #[.int .i64 0, .int .i64 0, .int .i64 0, .int .i64 0, .int .i64 0] 45)
    have hB : Below w.heap.size w ((w.alloc (.cells #[.int .u64 x] 22)).alloc (.cells #[.int .i64 0, .int .i64 0, .int .i64 0, .int .i64 0, .int .i64 0] 45)) := below2 (below_alloc1 _ _) (below_alloc1 _ _)
    generalize ((w.alloc (.cells #[.int .u64 x] 22)).alloc (.cells #[.int .i64 0, .int .i64 0, .int .i64 0, .int .i64 0, .int .i64 0] 45)) = W at x0 hr hB ⊢
    have HR := Kp.mk hr
    have HB := Kp.mk hB
    have yw : w.heap.size < W.heap.size := by have := blk_lt hr; omega
    have yw3 : w.heap.size + 1 < W.heap.size := by have := blk_lt hr; omega
    have yw2 : w.heap.size ≠ W.heap.size := by omega
    clear hr hB
    have hM : IntKind.i64.wrap (IntKind.i32.wrap (x / 4294967296)) = rM x := wrapM x h0 h1
    have hn1 : ∀ (n : Nat) (C : Array Value) (t o : Nat), ((W.drewN n).alloc (.cells C t)).cell? ⟨W.heap.size, o, none⟩ = C[o]? := fun n C t o => World.cell?_alloc_new (w := W.drewN n) C t o
    have hn2 : ∀ (n : Nat) (C : Array Value) (t o : Nat), ((W.drewN n).alloc (.cells C t)).frozen? ⟨W.heap.size, o, none⟩ = false := fun n C t o => blk_free (blk_new (W.drewN n) (.cells C t)) o
    have hn3 : ∀ (n : Nat) (C : Array Value) (t o : Nat) (v : Value), ((W.drewN n).alloc (.cells C t)).setCell ⟨W.heap.size, o, none⟩ v = (W.drewN n).alloc (.cells (C.setIfInBounds o v) t) := fun n C t o v => World.setCell_alloc_new (w := W.drewN n) C t o v
    go_region_held3 (fun w' => w'.cell? ⟨w.heap.size, 0, none⟩ = some (.int .u64 x)) (((repeat (first | (with_reducible refine cellDrewN _ ?_) | (with_reducible refine cellDrew ?_) | (with_reducible refine keptA _ ?_) | (with_reducible refine cellSetB yw2 ?_))); with_reducible exact x0))
      (first | (go_at_call 43; (with_reducible refine (ipart_any x 0 (rO x) w.heap.size _ (by assumption) h0 h1 (by decide) (by decide) F1.out (by omega) (by omega)).mono ?_); rintro e w' ⟨rfl, k, rfl⟩) | (go_at_call 43; (with_reducible refine (ipart_any x 8 (rA x) w.heap.size _ (by assumption) h0 h1 (by decide) (by decide) F2.out (by omega) (by omega)).mono ?_); rintro e w' ⟨rfl, k, rfl⟩) | (go_at_call 43; (with_reducible refine (ipart_any x 16 (rB x) w.heap.size _ (by assumption) h0 h1 (by decide) (by decide) F3.out (by omega) (by omega)).mono ?_); rintro e w' ⟨rfl, k, rfl⟩) | (go_at_call 43; (with_reducible refine (ipart_any x 24 (rC x) w.heap.size _ (by assumption) h0 h1 (by decide) (by decide) F4.out (by omega) (by omega)).mono ?_); rintro e w' ⟨rfl, k, rfl⟩))
    all_goals (go_wp2; go_meet)
    all_goals first | (with_reducible exact ofcut_A _ HR.out HB.out) | (with_reducible exact ofcut_B _ _ HR.out HB.out) | (with_reducible exact ofcut_C _ HR.out HB.out)
  case rest =>
    obtain ⟨b5, rfl, hb5, hbr, hB⟩ := hcut
    have d0 : wc.cell? ⟨b5, 0, none⟩ = some (.int .i64 (rO x)) := (blk_cell hb5 0).trans rfl
    have d1 : wc.cell? ⟨b5, 1, none⟩ = some (.int .i64 (rA x)) := (blk_cell hb5 1).trans rfl
    have d2 : wc.cell? ⟨b5, 2, none⟩ = some (.int .i64 (rB x)) := (blk_cell hb5 2).trans rfl
    have d3 : wc.cell? ⟨b5, 3, none⟩ = some (.int .i64 (rC x)) := (blk_cell hb5 3).trans rfl
    have d4 : wc.cell? ⟨b5, 4, none⟩ = some (.int .i64 (rM x)) := (blk_cell hb5 4).trans rfl
    have HB := Kp.mk hB
    clear hB
    rcases two (iOk x) with h | h
    · have HA := Kp.mk (uAgg_no x h)
      obtain ⟨g1, g2⟩ := iWord_no (show insMay (rO x) (rA x) (rB x) (rC x) (rM x) = false from h)
      clear h
      go_wp2_with (first | (go_at_call 23; (with_reducible refine (iword_any _ _ _ _ _ _).mono ?_); rintro e w3 ⟨rfl, hb3⟩; have r3 : w3.heap[w.heap.size + 1]? = some _ := blk_keep hb3 hbr; have t3 : w3.heap[b5]? = some _ := blk_keep hb3 hb5; have B3 := Kp.mk (below2 HB.out hb3); have z3 : w.heap.size + 1 < w3.heap.size := blk_lt r3; have q0 : w3.cell? ⟨w.heap.size + 1, 0, none⟩ = some (.int .i64 0) := (blk_cell r3 0).trans rfl; have qf0 : w3.frozen? ⟨w.heap.size + 1, 0, none⟩ = false := blk_free r3 0; have q1 : w3.cell? ⟨w.heap.size + 1, 1, none⟩ = some (.int .i64 0) := (blk_cell r3 1).trans rfl; have qf1 : w3.frozen? ⟨w.heap.size + 1, 1, none⟩ = false := blk_free r3 1; have q2 : w3.cell? ⟨w.heap.size + 1, 2, none⟩ = some (.int .i64 0) := (blk_cell r3 2).trans rfl; have qf2 : w3.frozen? ⟨w.heap.size + 1, 2, none⟩ = false := blk_free r3 2; have q3 : w3.cell? ⟨w.heap.size + 1, 3, none⟩ = some (.int .i64 0) := (blk_cell r3 3).trans rfl; have qf3 : w3.frozen? ⟨w.heap.size + 1, 3, none⟩ = false := blk_free r3 3; have q4 : w3.cell? ⟨w.heap.size + 1, 4, none⟩ = some (.int .i64 0) := (blk_cell r3 4).trans rfl; have qf4 : w3.frozen? ⟨w.heap.size + 1, 4, none⟩ = false := blk_free r3 4; have p0 : w3.cell? ⟨b5, 0, none⟩ = some (.int .i64 (rO x)) := (blk_cell t3 0).trans rfl; have p1 : w3.cell? ⟨b5, 1, none⟩ = some (.int .i64 (rA x)) := (blk_cell t3 1).trans rfl; have p2 : w3.cell? ⟨b5, 2, none⟩ = some (.int .i64 (rB x)) := (blk_cell t3 2).trans rfl; have p3 : w3.cell? ⟨b5, 3, none⟩ = some (.int .i64 (rC x)) := (blk_cell t3 3).trans rfl; have p4 : w3.cell? ⟨b5, 4, none⟩ = some (.int .i64 (rM x)) := (blk_cell t3 4).trans rfl; clear hb3))
      refine bodyPost_ret (v := .tuple #[.agg #[.int .i64 0, .int .i64 0, .int .i64 0, .int .i64 0, .int .i64 0], .bool false]) (by simp only [results, Try.results25]; go_simp) rfl ⟨by rw [HA.out], ?_⟩
      exact (((((B3.out.setCell (p := ⟨w.heap.size + 1, 0, none⟩) (Nat.le_succ _) _).setCell (p := ⟨w.heap.size + 1, 1, none⟩) (Nat.le_succ _) _).setCell (p := ⟨w.heap.size + 1, 2, none⟩) (Nat.le_succ _) _).setCell (p := ⟨w.heap.size + 1, 3, none⟩) (Nat.le_succ _) _).setCell (p := ⟨w.heap.size + 1, 4, none⟩) (Nat.le_succ _) _)
    · have HA := Kp.mk (uAgg_yes x h)
      obtain ⟨g1, g2⟩ := iWord_yes (show insMay (rO x) (rA x) (rB x) (rC x) (rM x) = true from h)
      clear h
      go_wp2_with (first | (go_at_call 23; (with_reducible refine (iword_any _ _ _ _ _ _).mono ?_); rintro e w3 ⟨rfl, hb3⟩; have r3 : w3.heap[w.heap.size + 1]? = some _ := blk_keep hb3 hbr; have t3 : w3.heap[b5]? = some _ := blk_keep hb3 hb5; have B3 := Kp.mk (below2 HB.out hb3); have z3 : w.heap.size + 1 < w3.heap.size := blk_lt r3; have q0 : w3.cell? ⟨w.heap.size + 1, 0, none⟩ = some (.int .i64 0) := (blk_cell r3 0).trans rfl; have qf0 : w3.frozen? ⟨w.heap.size + 1, 0, none⟩ = false := blk_free r3 0; have q1 : w3.cell? ⟨w.heap.size + 1, 1, none⟩ = some (.int .i64 0) := (blk_cell r3 1).trans rfl; have qf1 : w3.frozen? ⟨w.heap.size + 1, 1, none⟩ = false := blk_free r3 1; have q2 : w3.cell? ⟨w.heap.size + 1, 2, none⟩ = some (.int .i64 0) := (blk_cell r3 2).trans rfl; have qf2 : w3.frozen? ⟨w.heap.size + 1, 2, none⟩ = false := blk_free r3 2; have q3 : w3.cell? ⟨w.heap.size + 1, 3, none⟩ = some (.int .i64 0) := (blk_cell r3 3).trans rfl; have qf3 : w3.frozen? ⟨w.heap.size + 1, 3, none⟩ = false := blk_free r3 3; have q4 : w3.cell? ⟨w.heap.size + 1, 4, none⟩ = some (.int .i64 0) := (blk_cell r3 4).trans rfl; have qf4 : w3.frozen? ⟨w.heap.size + 1, 4, none⟩ = false := blk_free r3 4; have p0 : w3.cell? ⟨b5, 0, none⟩ = some (.int .i64 (rO x)) := (blk_cell t3 0).trans rfl; have p1 : w3.cell? ⟨b5, 1, none⟩ = some (.int .i64 (rA x)) := (blk_cell t3 1).trans rfl; have p2 : w3.cell? ⟨b5, 2, none⟩ = some (.int .i64 (rB x)) := (blk_cell t3 2).trans rfl; have p3 : w3.cell? ⟨b5, 3, none⟩ = some (.int .i64 (rC x)) := (blk_cell t3 3).trans rfl; have p4 : w3.cell? ⟨b5, 4, none⟩ = some (.int .i64 (rM x)) := (blk_cell t3 4).trans rfl; clear hb3))
      refine bodyPost_ret (v := .tuple #[.agg #[.int .i64 (rO x), .int .i64 (rA x), .int .i64 (rB x), .int .i64 (rC x), .int .i64 (rM x)], .bool true]) (by simp only [results, Try.results25]; go_simp) rfl ⟨by rw [HA.out], ?_⟩
      exact (((((B3.out.setCell (p := ⟨w.heap.size + 1, 0, none⟩) (Nat.le_succ _) _).setCell (p := ⟨w.heap.size + 1, 1, none⟩) (Nat.le_succ _) _).setCell (p := ⟨w.heap.size + 1, 2, none⟩) (Nat.le_succ _) _).setCell (p := ⟨w.heap.size + 1, 3, none⟩) (Nat.le_succ _) _).setCell (p := ⟨w.heap.size + 1, 4, none⟩) (Nat.le_succ _) _)

end Go.Proofs.Ytnmdhlemenjdiab
