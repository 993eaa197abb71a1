/- Small lemmas for walks: endings, worlds that are as they were below a block. -/
import Derived.WalkKit
import Derived.WalkSpells
import Derived.WalkLawsBesides
import Derived.Deep.QuietTactic
import Derived.Deep.Draws
import Derived.BigQuiet
import Derived.BigGuardPart
import Derived.Deep.RegionHeld3
import Derived.Lib.Hide
namespace Go.Proofs.Ytnmdhlemenjdiab
open Go.RowKit
set_option linter.unusedVariables false

theorem ret_bool {a b : Bool} (h : a = b) : Ending.returned (.bool a) = .returned (.bool b) := by rw [h]
theorem ret_int {k : IntKind} {a b : Int} (h : a = b) : Ending.returned (.int k a) = .returned (.int k b) := by rw [h]
theorem ret_int2 {k k' : IntKind} {a b c d : Int} (h : a = b) (h' : c = d) : Ending.returned (.tuple #[.int k a, .int k' c]) = .returned (.tuple #[.int k b, .int k' d]) := by rw [h, h']
theorem bcell {W w1 : World} (hb : Below W.heap.size W w1) : (∀ b o, b < W.heap.size → w1.cell? ⟨b, o, none⟩ = W.cell? ⟨b, o, none⟩) ∧ (∀ b o, b < W.heap.size → w1.frozen? ⟨b, o, none⟩ = W.frozen? ⟨b, o, none⟩) :=
  ⟨fun b o h => hb.cell (p := ⟨b, o, none⟩) h, fun b o h => hb.frozen (p := ⟨b, o, none⟩) h⟩

/-- A cell that was there is there, and holds what it held. -/
theorem kept {W w1 : World} (hb : Below W.heap.size W w1) {b o : Nat} {v : Value} (h : W.cell? ⟨b, o, none⟩ = some v) : w1.cell? ⟨b, o, none⟩ = some v := by
  have hl : b < W.heap.size := by
    refine Decidable.byContradiction fun hn => ?_
    have e : W.heap[b]? = none := Array.getElem?_eq_none (by omega)
    simp [World.cell?, e] at h
  exact (hb.cell (p := ⟨b, o, none⟩) hl).trans h
theorem belowOn {B : Nat} {a W w1 : World} (h : Below B a W) (hB : B ≤ W.heap.size) (hb : Below W.heap.size W w1) : Below B a w1 := h.trans (hb.mono hB)
theorem below_alloc1 (w : World) (o : Obj) : Below w.heap.size w (w.alloc o) := (Below.refl _ _).alloc (Nat.le_refl _) _
theorem keptA {w : World} {b o : Nat} {v : Value} (x : Obj) (h : w.cell? ⟨b, o, none⟩ = some v) : (w.alloc x).cell? ⟨b, o, none⟩ = some v := kept (below_alloc1 w x) h
theorem cellSetB {w : World} {b B i o : Nat} {u : Value} {v : Option Value} (hne : b ≠ B) (h : w.cell? ⟨b, i, none⟩ = v) : (w.setCell ⟨B, o, none⟩ u).cell? ⟨b, i, none⟩ = v :=
  (World.cell?_setCell_far w ⟨B, o, none⟩ ⟨b, i, none⟩ u (fun e => hne e.symm)).trans h
theorem cellDrewN {w : World} {a : Addr} {v : Option Value} (n : Nat) (h : w.cell? a = v) : (w.drewN n).cell? a = v := h
theorem cellDrew {w : World} {a : Addr} {v : Option Value} (h : w.cell? a = v) : w.drew.cell? a = v := h
theorem allocDrewN (w : World) (n m : Nat) (x : Obj) : ((w.drewN n).alloc x).drewN m = (w.drewN (n + m)).alloc x := by
  show ({ w with drawn := w.drawn + n + m, heap := w.heap.push x } : World) = { w with drawn := w.drawn + (n + m), heap := w.heap.push x }
  rw [Nat.add_assoc]
theorem below2 {a W w1 : World} (h : Below a.heap.size a W) (hb : Below W.heap.size W w1) : Below a.heap.size a w1 := h.trans (hb.mono h.size)
theorem belowN {B : Nat} {a w : World} (h : Below B a w) (n : Nat) : Below B a (w.drewN n) := ⟨h.os, h.tape, h.output, h.size, h.block⟩
/-! ### blocks -/
theorem blk_cell {w : World} {b : Nat} {cs : Array Value} {t : TypeId} (h : w.heap[b]? = some (.cells cs t)) (o : Nat) : w.cell? ⟨b, o, none⟩ = cs[o]? := by simp [World.cell?, h]
theorem blk_free {w : World} {b : Nat} {cs : Array Value} {t : TypeId} (h : w.heap[b]? = some (.cells cs t)) (o : Nat) : w.frozen? ⟨b, o, none⟩ = false := by simp [World.frozen?, h]
theorem blk_lt {w : World} {b : Nat} {x : Obj} (h : w.heap[b]? = some x) : b < w.heap.size := by
  rcases Nat.lt_or_ge b w.heap.size with h' | h'
  · exact h'
  · simp [Array.getElem?_eq_none h'] at h
theorem blk_keep {W w1 : World} {b : Nat} {x : Obj} (hb : Below W.heap.size W w1) (h : W.heap[b]? = some x) : w1.heap[b]? = some x := (hb.block b (blk_lt h)).trans h
theorem blk_new (w : World) (x : Obj) : (w.alloc x).heap[w.heap.size]? = some x := by
  show (w.heap.push x)[w.heap.size]? = _
  simp
theorem blk_alloc {w : World} {b : Nat} {x : Obj} (y : Obj) (h : w.heap[b]? = some x) : (w.alloc y).heap[b]? = some x := blk_keep (below_alloc1 w y) h
theorem blk_set {w : World} {b : Nat} {cs : Array Value} {t : TypeId} (o : Nat) (v : Value) (h : w.heap[b]? = some (.cells cs t)) : (w.setCell ⟨b, o, none⟩ v).heap[b]? = some (.cells (cs.setIfInBounds o v) t) := by
  have hlt := blk_lt h
  have h' : w.heap[b] = .cells cs t := by simpa [Array.getElem?_eq_getElem hlt] using h
  show (w.heap.modify b _)[b]? = _
  rw [Array.getElem?_eq_getElem (by simpa using hlt), Array.getElem_modify_self, h']
  rfl
theorem blk_other {w : World} {b : Nat} {x : Obj} (a : Addr) (v : Value) (h : w.heap[b]? = some x) (hne : b ≠ a.block) : (w.setCell a v).heap[b]? = some x := by
  rw [Below.heap_setCell w a v b hne]; exact h
theorem two (b : Bool) : b = false ∨ b = true := by cases b <;> simp

end Go.Proofs.Ytnmdhlemenjdiab
