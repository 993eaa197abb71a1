/-
  No cell of these rows narrows 'for every input' (looked for: loops, veiled, ifaces, maps, wideKeys, modest, calm, conditions, laid).
  DERIVED. THE GIVEN ROWS OF THIS SEAT. 9 by the template 'for every input the law returns true; each argument reads behind the call as it read before'; 0 by the template 'total and deterministic' (their statements: YtnmdhlemenjdiabTotals.lean).
  GIVEN WITH THE SEED: the statements are not yours to turn. If you find one false, say at which input.
  Laid BY PROGRAM, IN A SANDBOX (cutbox-rows.mjs): the forced cells as the released guide's own fill.sh prints them over the translation 6fb79b39a501a197… (all of the seat's roots in one cut). By AI agents, Wed Nov 11 2026. No macro, syntax, notation, axiom, sorry.
-/
import Derived.Test.YtnmdhlemenjdiabChecked
import GoSem.Claim
import GoSem.ClaimJoined
import GoSem.ClaimMapViews
import Derived.JoinedTies
import Derived.KernelRfl
namespace Go.Proofs.Ytnmdhlemenjdiab
/- THE CELL 'sum', in the pinned program and in every row, IS THE sha256 OF THE DUMP (.gsa) THAT YtnmdhlemenjdiabProg.lean LOADS. Nothing in Lean hashes anything: it is a label: what it is worth is what the hold of that sum in a sandbox is worth. -/
noncomputable def Try.pinned : Pinned := { name := "ytnmdhlemenjdiab", sum := "6fb79b39a501a1977770c5cc78c461659078909823cf002870de24df3027ec99", checked := Try.checked }
namespace Rows
def none {H : Type} : Left H := { results := [], args := [] }

/-- 'steadfastlaw07.CapsOrder': WHATEVER THE INPUT: true; the input reads as it did. -/
def capsOrderSpec : ChangeSpec := { name := "capsOrder", fn := fun _ => fun
  | [d1, d2] => { results := [.lit (.bool true)], args := [d1, d2] }
  | _ => none }
def capsOrderRow : OpenClaim := { program := "ytnmdhlemenjdiab", sum := "6fb79b39a501a1977770c5cc78c461659078909823cf002870de24df3027ec99", func := "steadfast/steadfastlaw07.CapsOrder", spec := "capsOrder", apart := false }
def CapsOrderSaid : Prop := capsOrderRow.holds Try.pinned (OpenSpec.ofChange capsOrderSpec)

/-- ITS FALSE NEIGHBOUR: 'it returns false'. Refute it at one input. -/
def capsOrderWrong : ChangeSpec := { name := "capsOrder", fn := fun _ => fun
  | [d1, d2] => { results := [.lit (.bool false)], args := [d1, d2] }
  | _ => none }
def CapsOrderWrongFalsely : Prop := capsOrderRow.holds Try.pinned (OpenSpec.ofChange capsOrderWrong)

/-- 'steadfastlaw08.EntryNames': WHATEVER THE INPUT: true; the input reads as it did. -/
def entryNamesSpec : ChangeSpec := { name := "entryNames", fn := fun _ => fun
  | [d1, d2, d3] => { results := [.lit (.bool true)], args := [d1, d2, d3] }
  | _ => none }
def entryNamesRow : OpenClaim := { program := "ytnmdhlemenjdiab", sum := "6fb79b39a501a1977770c5cc78c461659078909823cf002870de24df3027ec99", func := "steadfast/steadfastlaw08.EntryNames", spec := "entryNames", unfollowed := true, recurses := true, apart := false }
def EntryNamesSaid : Prop := entryNamesRow.holds Try.pinned (OpenSpec.ofChange entryNamesSpec)

/-- ITS FALSE NEIGHBOUR: 'it returns false'. Refute it at one input. -/
def entryNamesWrong : ChangeSpec := { name := "entryNames", fn := fun _ => fun
  | [d1, d2, d3] => { results := [.lit (.bool false)], args := [d1, d2, d3] }
  | _ => none }
def EntryNamesWrongFalsely : Prop := entryNamesRow.holds Try.pinned (OpenSpec.ofChange entryNamesWrong)

/-- 'steadfastlaw08.EntryStale': WHATEVER THE INPUT: true; the input reads as it did. -/
def entryStaleSpec : ChangeSpec := { name := "entryStale", fn := fun _ => fun
  | [d1, d2, d3] => { results := [.lit (.bool true)], args := [d1, d2, d3] }
  | _ => none }
def entryStaleRow : OpenClaim := { program := "ytnmdhlemenjdiab", sum := "6fb79b39a501a1977770c5cc78c461659078909823cf002870de24df3027ec99", func := "steadfast/steadfastlaw08.EntryStale", spec := "entryStale", unfollowed := true, recurses := true, apart := false }
def EntryStaleSaid : Prop := entryStaleRow.holds Try.pinned (OpenSpec.ofChange entryStaleSpec)

/-- ITS FALSE NEIGHBOUR: 'it returns false'. Refute it at one input. -/
def entryStaleWrong : ChangeSpec := { name := "entryStale", fn := fun _ => fun
  | [d1, d2, d3] => { results := [.lit (.bool false)], args := [d1, d2, d3] }
  | _ => none }
def EntryStaleWrongFalsely : Prop := entryStaleRow.holds Try.pinned (OpenSpec.ofChange entryStaleWrong)

/-- 'steadfastlaw13.IsaWords': WHATEVER THE INPUT: true; the input reads as it did. -/
def isaWordsSpec : ChangeSpec := { name := "isaWords", fn := fun _ => fun
  | [d1, d2] => { results := [.lit (.bool true)], args := [d1, d2] }
  | _ => none }
def isaWordsRow : OpenClaim := { program := "ytnmdhlemenjdiab", sum := "6fb79b39a501a1977770c5cc78c461659078909823cf002870de24df3027ec99", func := "steadfast/steadfastlaw13.IsaWords", spec := "isaWords", unfollowed := true, recurses := true, apart := false }
def IsaWordsSaid : Prop := isaWordsRow.holds Try.pinned (OpenSpec.ofChange isaWordsSpec)

/-- ITS FALSE NEIGHBOUR: 'it returns false'. Refute it at one input. -/
def isaWordsWrong : ChangeSpec := { name := "isaWords", fn := fun _ => fun
  | [d1, d2] => { results := [.lit (.bool false)], args := [d1, d2] }
  | _ => none }
def IsaWordsWrongFalsely : Prop := isaWordsRow.holds Try.pinned (OpenSpec.ofChange isaWordsWrong)

/-- 'steadfastlaw13.IsaBack': WHATEVER THE INPUT: true; the input reads as it did. -/
def isaBackSpec : ChangeSpec := { name := "isaBack", fn := fun _ => fun
  | [d1, d2] => { results := [.lit (.bool true)], args := [d1, d2] }
  | _ => none }
def isaBackRow : OpenClaim := { program := "ytnmdhlemenjdiab", sum := "6fb79b39a501a1977770c5cc78c461659078909823cf002870de24df3027ec99", func := "steadfast/steadfastlaw13.IsaBack", spec := "isaBack", unfollowed := true, recurses := true, apart := false }
def IsaBackSaid : Prop := isaBackRow.holds Try.pinned (OpenSpec.ofChange isaBackSpec)

/-- ITS FALSE NEIGHBOUR: 'it returns false'. Refute it at one input. -/
def isaBackWrong : ChangeSpec := { name := "isaBack", fn := fun _ => fun
  | [d1, d2] => { results := [.lit (.bool false)], args := [d1, d2] }
  | _ => none }
def IsaBackWrongFalsely : Prop := isaBackRow.holds Try.pinned (OpenSpec.ofChange isaBackWrong)

/-- 'steadfastlaw13.IsaJumps': WHATEVER THE INPUT: true; the input reads as it did. -/
def isaJumpsSpec : ChangeSpec := { name := "isaJumps", fn := fun _ => fun
  | [d1, d2, d3] => { results := [.lit (.bool true)], args := [d1, d2, d3] }
  | _ => none }
def isaJumpsRow : OpenClaim := { program := "ytnmdhlemenjdiab", sum := "6fb79b39a501a1977770c5cc78c461659078909823cf002870de24df3027ec99", func := "steadfast/steadfastlaw13.IsaJumps", spec := "isaJumps", unfollowed := true, recurses := true, apart := false }
def IsaJumpsSaid : Prop := isaJumpsRow.holds Try.pinned (OpenSpec.ofChange isaJumpsSpec)

/-- ITS FALSE NEIGHBOUR: 'it returns false'. Refute it at one input. -/
def isaJumpsWrong : ChangeSpec := { name := "isaJumps", fn := fun _ => fun
  | [d1, d2, d3] => { results := [.lit (.bool false)], args := [d1, d2, d3] }
  | _ => none }
def IsaJumpsWrongFalsely : Prop := isaJumpsRow.holds Try.pinned (OpenSpec.ofChange isaJumpsWrong)

/-- 'steadfastlaw13.IsaApart': WHATEVER THE INPUT: true; the input reads as it did. -/
def isaApartSpec : ChangeSpec := { name := "isaApart", fn := fun _ => fun
  | [d1, d2] => { results := [.lit (.bool true)], args := [d1, d2] }
  | _ => none }
def isaApartRow : OpenClaim := { program := "ytnmdhlemenjdiab", sum := "6fb79b39a501a1977770c5cc78c461659078909823cf002870de24df3027ec99", func := "steadfast/steadfastlaw13.IsaApart", spec := "isaApart", unfollowed := true, recurses := true, apart := false }
def IsaApartSaid : Prop := isaApartRow.holds Try.pinned (OpenSpec.ofChange isaApartSpec)

/-- ITS FALSE NEIGHBOUR: 'it returns false'. Refute it at one input. -/
def isaApartWrong : ChangeSpec := { name := "isaApart", fn := fun _ => fun
  | [d1, d2] => { results := [.lit (.bool false)], args := [d1, d2] }
  | _ => none }
def IsaApartWrongFalsely : Prop := isaApartRow.holds Try.pinned (OpenSpec.ofChange isaApartWrong)

/-- 'steadfastlaw13.IsaOthers': WHATEVER THE INPUT: true; the input reads as it did. -/
def isaOthersSpec : ChangeSpec := { name := "isaOthers", fn := fun _ => fun
  | [d1, d2] => { results := [.lit (.bool true)], args := [d1, d2] }
  | _ => none }
def isaOthersRow : OpenClaim := { program := "ytnmdhlemenjdiab", sum := "6fb79b39a501a1977770c5cc78c461659078909823cf002870de24df3027ec99", func := "steadfast/steadfastlaw13.IsaOthers", spec := "isaOthers", unfollowed := true, recurses := true, apart := false }
def IsaOthersSaid : Prop := isaOthersRow.holds Try.pinned (OpenSpec.ofChange isaOthersSpec)

/-- ITS FALSE NEIGHBOUR: 'it returns false'. Refute it at one input. -/
def isaOthersWrong : ChangeSpec := { name := "isaOthers", fn := fun _ => fun
  | [d1, d2] => { results := [.lit (.bool false)], args := [d1, d2] }
  | _ => none }
def IsaOthersWrongFalsely : Prop := isaOthersRow.holds Try.pinned (OpenSpec.ofChange isaOthersWrong)

/-- 'steadfastlaw13.IsaDoes': WHATEVER THE INPUT: true; the input reads as it did. -/
def isaDoesSpec : ChangeSpec := { name := "isaDoes", fn := fun _ => fun
  | [d1, d2, d3] => { results := [.lit (.bool true)], args := [d1, d2, d3] }
  | _ => none }
def isaDoesRow : OpenClaim := { program := "ytnmdhlemenjdiab", sum := "6fb79b39a501a1977770c5cc78c461659078909823cf002870de24df3027ec99", func := "steadfast/steadfastlaw13.IsaDoes", spec := "isaDoes", unfollowed := true, recurses := true, apart := false }
def IsaDoesSaid : Prop := isaDoesRow.holds Try.pinned (OpenSpec.ofChange isaDoesSpec)

/-- ITS FALSE NEIGHBOUR: 'it returns false'. Refute it at one input. -/
def isaDoesWrong : ChangeSpec := { name := "isaDoes", fn := fun _ => fun
  | [d1, d2, d3] => { results := [.lit (.bool false)], args := [d1, d2, d3] }
  | _ => none }
def IsaDoesWrongFalsely : Prop := isaDoesRow.holds Try.pinned (OpenSpec.ofChange isaDoesWrong)

/- THE SECOND FORM. 'bulk': how many values and letters a reading holds, each counted each time it is reached (what is shared counts as often as it is met; a slice's spare places count too). A statement '..UptoSaid' is the law's where the arguments, and the package variables that the reading takes, are together of bulk at most 1048576: NARROWER than '..Said'. Prove '..Said' where nothing that the law and all that it calls make is longer than what came in: it says more and counts as full. Else prove '..UptoSaid'. A law counts once. -/
mutual
def uptoBulk {H : Type} : DataW H → Nat
  | .lit (.string bytes) => bytes.length + 1
  | .lit _ => 1
  | .nil => 1
  | .ptr d => uptoBulk d + 1
  | .slice elems spare => uptoBulkAll elems + uptoBulkAll spare + 1
  | .agg parts => uptoBulkAll parts + 1
  | .iface _ d => uptoBulk d + 1
  | .map entries => uptoBulkEntries entries + 1
  | .held _ => 1
def uptoBulkAll {H : Type} : List (DataW H) → Nat
  | [] => 0
  | d :: r => uptoBulk d + uptoBulkAll r
def uptoBulkEntries {H : Type} : List (Lit × DataW H) → Nat
  | [] => 0
  | x :: r => uptoBulkEntry x + uptoBulkEntries r
def uptoBulkEntry {H : Type} : Lit × DataW H → Nat
  | (.string bytes, d) => bytes.length + uptoBulk d + 1
  | (_, d) => uptoBulk d + 1
 end
def uptoSmall : (H : Type) → List (DataW H) → Bool := fun _ ds => decide (uptoBulkAll ds ≤ 1048576)
def OpenSpec.upto (s : _root_.Go.ChangeSpec) : _root_.Go.OpenSpec := { _root_.Go.OpenSpec.ofChange s with cond := some uptoSmall }

/-- 'steadfastlaw07.CapsOrder', WHERE WHAT IT READS IS OF BULK AT MOST 1048576: true; the input reads as it did. -/
def capsOrderUptoRow : OpenClaim := { program := "ytnmdhlemenjdiab", sum := "6fb79b39a501a1977770c5cc78c461659078909823cf002870de24df3027ec99", func := "steadfast/steadfastlaw07.CapsOrder", spec := "capsOrder", apart := false, narrowed := true }
def CapsOrderUptoSaid : Prop := capsOrderUptoRow.holds Try.pinned (OpenSpec.upto capsOrderSpec)

/-- 'steadfastlaw08.EntryNames', WHERE WHAT IT READS IS OF BULK AT MOST 1048576: true; the input reads as it did. -/
def entryNamesUptoRow : OpenClaim := { program := "ytnmdhlemenjdiab", sum := "6fb79b39a501a1977770c5cc78c461659078909823cf002870de24df3027ec99", func := "steadfast/steadfastlaw08.EntryNames", spec := "entryNames", unfollowed := true, recurses := true, apart := false, narrowed := true }
def EntryNamesUptoSaid : Prop := entryNamesUptoRow.holds Try.pinned (OpenSpec.upto entryNamesSpec)

/-- 'steadfastlaw08.EntryStale', WHERE WHAT IT READS IS OF BULK AT MOST 1048576: true; the input reads as it did. -/
def entryStaleUptoRow : OpenClaim := { program := "ytnmdhlemenjdiab", sum := "6fb79b39a501a1977770c5cc78c461659078909823cf002870de24df3027ec99", func := "steadfast/steadfastlaw08.EntryStale", spec := "entryStale", unfollowed := true, recurses := true, apart := false, narrowed := true }
def EntryStaleUptoSaid : Prop := entryStaleUptoRow.holds Try.pinned (OpenSpec.upto entryStaleSpec)

/-- 'steadfastlaw13.IsaWords', WHERE WHAT IT READS IS OF BULK AT MOST 1048576: true; the input reads as it did. -/
def isaWordsUptoRow : OpenClaim := { program := "ytnmdhlemenjdiab", sum := "6fb79b39a501a1977770c5cc78c461659078909823cf002870de24df3027ec99", func := "steadfast/steadfastlaw13.IsaWords", spec := "isaWords", unfollowed := true, recurses := true, apart := false, narrowed := true }
def IsaWordsUptoSaid : Prop := isaWordsUptoRow.holds Try.pinned (OpenSpec.upto isaWordsSpec)

/-- 'steadfastlaw13.IsaBack', WHERE WHAT IT READS IS OF BULK AT MOST 1048576: true; the input reads as it did. -/
def isaBackUptoRow : OpenClaim := { program := "ytnmdhlemenjdiab", sum := "6fb79b39a501a1977770c5cc78c461659078909823cf002870de24df3027ec99", func := "steadfast/steadfastlaw13.IsaBack", spec := "isaBack", unfollowed := true, recurses := true, apart := false, narrowed := true }
def IsaBackUptoSaid : Prop := isaBackUptoRow.holds Try.pinned (OpenSpec.upto isaBackSpec)

/-- 'steadfastlaw13.IsaJumps', WHERE WHAT IT READS IS OF BULK AT MOST 1048576: true; the input reads as it did. -/
def isaJumpsUptoRow : OpenClaim := { program := "ytnmdhlemenjdiab", sum := "6fb79b39a501a1977770c5cc78c461659078909823cf002870de24df3027ec99", func := "steadfast/steadfastlaw13.IsaJumps", spec := "isaJumps", unfollowed := true, recurses := true, apart := false, narrowed := true }
def IsaJumpsUptoSaid : Prop := isaJumpsUptoRow.holds Try.pinned (OpenSpec.upto isaJumpsSpec)

/-- 'steadfastlaw13.IsaApart', WHERE WHAT IT READS IS OF BULK AT MOST 1048576: true; the input reads as it did. -/
def isaApartUptoRow : OpenClaim := { program := "ytnmdhlemenjdiab", sum := "6fb79b39a501a1977770c5cc78c461659078909823cf002870de24df3027ec99", func := "steadfast/steadfastlaw13.IsaApart", spec := "isaApart", unfollowed := true, recurses := true, apart := false, narrowed := true }
def IsaApartUptoSaid : Prop := isaApartUptoRow.holds Try.pinned (OpenSpec.upto isaApartSpec)

/-- 'steadfastlaw13.IsaOthers', WHERE WHAT IT READS IS OF BULK AT MOST 1048576: true; the input reads as it did. -/
def isaOthersUptoRow : OpenClaim := { program := "ytnmdhlemenjdiab", sum := "6fb79b39a501a1977770c5cc78c461659078909823cf002870de24df3027ec99", func := "steadfast/steadfastlaw13.IsaOthers", spec := "isaOthers", unfollowed := true, recurses := true, apart := false, narrowed := true }
def IsaOthersUptoSaid : Prop := isaOthersUptoRow.holds Try.pinned (OpenSpec.upto isaOthersSpec)

/-- 'steadfastlaw13.IsaDoes', WHERE WHAT IT READS IS OF BULK AT MOST 1048576: true; the input reads as it did. -/
def isaDoesUptoRow : OpenClaim := { program := "ytnmdhlemenjdiab", sum := "6fb79b39a501a1977770c5cc78c461659078909823cf002870de24df3027ec99", func := "steadfast/steadfastlaw13.IsaDoes", spec := "isaDoes", unfollowed := true, recurses := true, apart := false, narrowed := true }
def IsaDoesUptoSaid : Prop := isaDoesUptoRow.holds Try.pinned (OpenSpec.upto isaDoesSpec)

end Rows
end Go.Proofs.Ytnmdhlemenjdiab
