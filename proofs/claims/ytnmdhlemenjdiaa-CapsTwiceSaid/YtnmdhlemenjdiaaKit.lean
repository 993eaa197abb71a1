/- Small lemmas for walks: endings, worlds that are as they were below a block. -/
import Derived.WalkKit
import Derived.WalkSpells
import Derived.WalkLawsBesides
import Derived.Deep.QuietTactic
import Derived.BigQuiet
import Derived.BigGuardPart
import Derived.Deep.RegionHeld3
import Derived.Lib.Hide
namespace Go.Proofs.Ytnmdhlemenjdiaa
open Go.RowKit
set_option linter.unusedVariables false

theorem ret_bool {a b : Bool} (h : a = b) : Ending.returned (.bool a) = .returned (.bool b) := by rw [h]
theorem ret_int {k : IntKind} {a b : Int} (h : a = b) : Ending.returned (.int k a) = .returned (.int k b) := by rw [h]
theorem ret_int2 {k k' : IntKind} {a b c d : Int} (h : a = b) (h' : c = d) : Ending.returned (.tuple #[.int k a, .int k' c]) = .returned (.tuple #[.int k b, .int k' d]) := by rw [h, h']
theorem bcell {W w1 : World} (hb : Below W.heap.size W w1) : (∀ b o, b < W.heap.size → w1.cell? ⟨b, o, none⟩ = W.cell? ⟨b, o, none⟩) ∧ (∀ b o, b < W.heap.size → w1.frozen? ⟨b, o, none⟩ = W.frozen? ⟨b, o, none⟩) :=
  ⟨fun b o h => hb.cell (p := ⟨b, o, none⟩) h, fun b o h => hb.frozen (p := ⟨b, o, none⟩) h⟩

/-- A cell that was there is there, and holds what it held. -/
theorem kept {W w1 : World} (hb : Below W.heap.size W w1) {b o : Nat} {v : Value} (h : W.cell? ⟨b, o, none⟩ = some v) : w1.cell? ⟨b, o, none⟩ = some v := by
  have hl : b < W.heap.size := by
    refine Decidable.byContradiction fun hn => ?_
    have e : W.heap[b]? = none := Array.getElem?_eq_none (by omega)
    simp [World.cell?, e] at h
  exact (hb.cell (p := ⟨b, o, none⟩) hl).trans h
theorem belowOn {B : Nat} {a W w1 : World} (h : Below B a W) (hB : B ≤ W.heap.size) (hb : Below W.heap.size W w1) : Below B a w1 := h.trans (hb.mono hB)
theorem below2 {a W w1 : World} (h : Below a.heap.size a W) (hb : Below W.heap.size W w1) : Below a.heap.size a w1 := h.trans (hb.mono h.size)
theorem two (b : Bool) : b = false ∨ b = true := by cases b <;> simp

end Go.Proofs.Ytnmdhlemenjdiaa
