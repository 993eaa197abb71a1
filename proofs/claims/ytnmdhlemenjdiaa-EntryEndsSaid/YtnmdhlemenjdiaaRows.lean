/-
  No cell of these rows narrows 'for every input' (looked for: loops, veiled, ifaces, maps, wideKeys, modest, calm, conditions, laid).
  DERIVED. THE GIVEN ROWS OF THIS SEAT. 12 by the template 'for every input the law returns true; each argument reads behind the call as it read before'; 0 by the template 'total and deterministic' (their statements: YtnmdhlemenjdiaaTotals.lean).
  GIVEN WITH THE SEED: the statements are not yours to turn. If you find one false, say at which input.
  Laid BY PROGRAM, IN A SANDBOX (cutbox-rows.mjs): the forced cells as the released guide's own fill.sh prints them over the translation 0000c224bcc9b95c… (all of the seat's roots in one cut). By AI agents, Wed Nov 11 2026. No macro, syntax, notation, axiom, sorry.
-/
import Derived.Test.YtnmdhlemenjdiaaChecked
import GoSem.Claim
import GoSem.ClaimJoined
import GoSem.ClaimMapViews
import Derived.JoinedTies
import Derived.KernelRfl
namespace Go.Proofs.Ytnmdhlemenjdiaa
/- THE CELL 'sum', in the pinned program and in every row, IS THE sha256 OF THE DUMP (.gsa) THAT YtnmdhlemenjdiaaProg.lean LOADS. Nothing in Lean hashes anything: it is a label: what it is worth is what the hold of that sum in a sandbox is worth. -/
noncomputable def Try.pinned : Pinned := { name := "ytnmdhlemenjdiaa", sum := "0000c224bcc9b95ce4c6875ba476d1ba0a16fb9dc5f1f4a7c32f1bc4e4009441", checked := Try.checked }
namespace Rows
def none {H : Type} : Left H := { results := [], args := [] }

/-- 'steadfastlaw08.EntryWords': WHATEVER THE INPUT: true; the input reads as it did. -/
def entryWordsSpec : ChangeSpec := { name := "entryWords", fn := fun _ => fun
  | [d1, d2] => { results := [.lit (.bool true)], args := [d1, d2] }
  | _ => none }
def entryWordsRow : OpenClaim := { program := "ytnmdhlemenjdiaa", sum := "0000c224bcc9b95ce4c6875ba476d1ba0a16fb9dc5f1f4a7c32f1bc4e4009441", func := "steadfast/steadfastlaw08.EntryWords", spec := "entryWords", unfollowed := true, recurses := true, apart := false }
def EntryWordsSaid : Prop := entryWordsRow.holds Try.pinned (OpenSpec.ofChange entryWordsSpec)

/-- ITS FALSE NEIGHBOUR: 'it returns false'. Refute it at one input. -/
def entryWordsWrong : ChangeSpec := { name := "entryWords", fn := fun _ => fun
  | [d1, d2] => { results := [.lit (.bool false)], args := [d1, d2] }
  | _ => none }
def EntryWordsWrongFalsely : Prop := entryWordsRow.holds Try.pinned (OpenSpec.ofChange entryWordsWrong)

/-- 'steadfastlaw08.EntryBack': WHATEVER THE INPUT: true; the input reads as it did. -/
def entryBackSpec : ChangeSpec := { name := "entryBack", fn := fun _ => fun
  | [d1, d2] => { results := [.lit (.bool true)], args := [d1, d2] }
  | _ => none }
def entryBackRow : OpenClaim := { program := "ytnmdhlemenjdiaa", sum := "0000c224bcc9b95ce4c6875ba476d1ba0a16fb9dc5f1f4a7c32f1bc4e4009441", func := "steadfast/steadfastlaw08.EntryBack", spec := "entryBack", unfollowed := true, recurses := true, apart := false }
def EntryBackSaid : Prop := entryBackRow.holds Try.pinned (OpenSpec.ofChange entryBackSpec)

/-- ITS FALSE NEIGHBOUR: 'it returns false'. Refute it at one input. -/
def entryBackWrong : ChangeSpec := { name := "entryBack", fn := fun _ => fun
  | [d1, d2] => { results := [.lit (.bool false)], args := [d1, d2] }
  | _ => none }
def EntryBackWrongFalsely : Prop := entryBackRow.holds Try.pinned (OpenSpec.ofChange entryBackWrong)

/-- 'steadfastlaw08.EntryEnds': WHATEVER THE INPUT: true; the input reads as it did. -/
def entryEndsSpec : ChangeSpec := { name := "entryEnds", fn := fun _ => fun
  | [d] => { results := [.lit (.bool true)], args := [d] }
  | _ => none }
def entryEndsRow : OpenClaim := { program := "ytnmdhlemenjdiaa", sum := "0000c224bcc9b95ce4c6875ba476d1ba0a16fb9dc5f1f4a7c32f1bc4e4009441", func := "steadfast/steadfastlaw08.EntryEnds", spec := "entryEnds", unfollowed := true, recurses := true, apart := false }
def EntryEndsSaid : Prop := entryEndsRow.holds Try.pinned (OpenSpec.ofChange entryEndsSpec)

/-- ITS FALSE NEIGHBOUR: 'it returns false'. Refute it at one input. -/
def entryEndsWrong : ChangeSpec := { name := "entryEnds", fn := fun _ => fun
  | [d] => { results := [.lit (.bool false)], args := [d] }
  | _ => none }
def EntryEndsWrongFalsely : Prop := entryEndsRow.holds Try.pinned (OpenSpec.ofChange entryEndsWrong)

/-- 'steadfastlaw08.EntryVersions': WHATEVER THE INPUT: true; the input reads as it did. -/
def entryVersionsSpec : ChangeSpec := { name := "entryVersions", fn := fun _ => fun
  | [d1, d2] => { results := [.lit (.bool true)], args := [d1, d2] }
  | _ => none }
def entryVersionsRow : OpenClaim := { program := "ytnmdhlemenjdiaa", sum := "0000c224bcc9b95ce4c6875ba476d1ba0a16fb9dc5f1f4a7c32f1bc4e4009441", func := "steadfast/steadfastlaw08.EntryVersions", spec := "entryVersions", unfollowed := true, recurses := true, apart := false }
def EntryVersionsSaid : Prop := entryVersionsRow.holds Try.pinned (OpenSpec.ofChange entryVersionsSpec)

/-- ITS FALSE NEIGHBOUR: 'it returns false'. Refute it at one input. -/
def entryVersionsWrong : ChangeSpec := { name := "entryVersions", fn := fun _ => fun
  | [d1, d2] => { results := [.lit (.bool false)], args := [d1, d2] }
  | _ => none }
def EntryVersionsWrongFalsely : Prop := entryVersionsRow.holds Try.pinned (OpenSpec.ofChange entryVersionsWrong)

/-- 'steadfastlaw08.EntryApart': WHATEVER THE INPUT: true; the input reads as it did. -/
def entryApartSpec : ChangeSpec := { name := "entryApart", fn := fun _ => fun
  | [d1, d2] => { results := [.lit (.bool true)], args := [d1, d2] }
  | _ => none }
def entryApartRow : OpenClaim := { program := "ytnmdhlemenjdiaa", sum := "0000c224bcc9b95ce4c6875ba476d1ba0a16fb9dc5f1f4a7c32f1bc4e4009441", func := "steadfast/steadfastlaw08.EntryApart", spec := "entryApart", unfollowed := true, recurses := true, apart := false }
def EntryApartSaid : Prop := entryApartRow.holds Try.pinned (OpenSpec.ofChange entryApartSpec)

/-- ITS FALSE NEIGHBOUR: 'it returns false'. Refute it at one input. -/
def entryApartWrong : ChangeSpec := { name := "entryApart", fn := fun _ => fun
  | [d1, d2] => { results := [.lit (.bool false)], args := [d1, d2] }
  | _ => none }
def EntryApartWrongFalsely : Prop := entryApartRow.holds Try.pinned (OpenSpec.ofChange entryApartWrong)

/-- 'steadfastlaw07.CapsWords': WHATEVER THE INPUT: true; the input reads as it did. -/
def capsWordsSpec : ChangeSpec := { name := "capsWords", fn := fun _ => fun
  | [d1, d2] => { results := [.lit (.bool true)], args := [d1, d2] }
  | _ => none }
def capsWordsRow : OpenClaim := { program := "ytnmdhlemenjdiaa", sum := "0000c224bcc9b95ce4c6875ba476d1ba0a16fb9dc5f1f4a7c32f1bc4e4009441", func := "steadfast/steadfastlaw07.CapsWords", spec := "capsWords", apart := false }
def CapsWordsSaid : Prop := capsWordsRow.holds Try.pinned (OpenSpec.ofChange capsWordsSpec)

/-- ITS FALSE NEIGHBOUR: 'it returns false'. Refute it at one input. -/
def capsWordsWrong : ChangeSpec := { name := "capsWords", fn := fun _ => fun
  | [d1, d2] => { results := [.lit (.bool false)], args := [d1, d2] }
  | _ => none }
def CapsWordsWrongFalsely : Prop := capsWordsRow.holds Try.pinned (OpenSpec.ofChange capsWordsWrong)

/-- 'steadfastlaw07.CapsBack': WHATEVER THE INPUT: true; the input reads as it did. -/
def capsBackSpec : ChangeSpec := { name := "capsBack", fn := fun _ => fun
  | [d1, d2] => { results := [.lit (.bool true)], args := [d1, d2] }
  | _ => none }
def capsBackRow : OpenClaim := { program := "ytnmdhlemenjdiaa", sum := "0000c224bcc9b95ce4c6875ba476d1ba0a16fb9dc5f1f4a7c32f1bc4e4009441", func := "steadfast/steadfastlaw07.CapsBack", spec := "capsBack", apart := false }
def CapsBackSaid : Prop := capsBackRow.holds Try.pinned (OpenSpec.ofChange capsBackSpec)

/-- ITS FALSE NEIGHBOUR: 'it returns false'. Refute it at one input. -/
def capsBackWrong : ChangeSpec := { name := "capsBack", fn := fun _ => fun
  | [d1, d2] => { results := [.lit (.bool false)], args := [d1, d2] }
  | _ => none }
def CapsBackWrongFalsely : Prop := capsBackRow.holds Try.pinned (OpenSpec.ofChange capsBackWrong)

/-- 'steadfastlaw07.CapsTwice': WHATEVER THE INPUT: true; the input reads as it did. -/
def capsTwiceSpec : ChangeSpec := { name := "capsTwice", fn := fun _ => fun
  | [d1, d2, d3] => { results := [.lit (.bool true)], args := [d1, d2, d3] }
  | _ => none }
def capsTwiceRow : OpenClaim := { program := "ytnmdhlemenjdiaa", sum := "0000c224bcc9b95ce4c6875ba476d1ba0a16fb9dc5f1f4a7c32f1bc4e4009441", func := "steadfast/steadfastlaw07.CapsTwice", spec := "capsTwice", apart := false }
def CapsTwiceSaid : Prop := capsTwiceRow.holds Try.pinned (OpenSpec.ofChange capsTwiceSpec)

/-- ITS FALSE NEIGHBOUR: 'it returns false'. Refute it at one input. -/
def capsTwiceWrong : ChangeSpec := { name := "capsTwice", fn := fun _ => fun
  | [d1, d2, d3] => { results := [.lit (.bool false)], args := [d1, d2, d3] }
  | _ => none }
def CapsTwiceWrongFalsely : Prop := capsTwiceRow.holds Try.pinned (OpenSpec.ofChange capsTwiceWrong)

/-- 'steadfastlaw07.CapsParts': WHATEVER THE INPUT: true; the input reads as it did. -/
def capsPartsSpec : ChangeSpec := { name := "capsParts", fn := fun _ => fun
  | [d1, d2] => { results := [.lit (.bool true)], args := [d1, d2] }
  | _ => none }
def capsPartsRow : OpenClaim := { program := "ytnmdhlemenjdiaa", sum := "0000c224bcc9b95ce4c6875ba476d1ba0a16fb9dc5f1f4a7c32f1bc4e4009441", func := "steadfast/steadfastlaw07.CapsParts", spec := "capsParts", apart := false }
def CapsPartsSaid : Prop := capsPartsRow.holds Try.pinned (OpenSpec.ofChange capsPartsSpec)

/-- ITS FALSE NEIGHBOUR: 'it returns false'. Refute it at one input. -/
def capsPartsWrong : ChangeSpec := { name := "capsParts", fn := fun _ => fun
  | [d1, d2] => { results := [.lit (.bool false)], args := [d1, d2] }
  | _ => none }
def CapsPartsWrongFalsely : Prop := capsPartsRow.holds Try.pinned (OpenSpec.ofChange capsPartsWrong)

/-- 'steadfastlaw07.CapsKinds': WHATEVER THE INPUT: true; the input reads as it did. -/
def capsKindsSpec : ChangeSpec := { name := "capsKinds", fn := fun _ => fun
  | [d1, d2, d3] => { results := [.lit (.bool true)], args := [d1, d2, d3] }
  | _ => none }
def capsKindsRow : OpenClaim := { program := "ytnmdhlemenjdiaa", sum := "0000c224bcc9b95ce4c6875ba476d1ba0a16fb9dc5f1f4a7c32f1bc4e4009441", func := "steadfast/steadfastlaw07.CapsKinds", spec := "capsKinds", apart := false }
def CapsKindsSaid : Prop := capsKindsRow.holds Try.pinned (OpenSpec.ofChange capsKindsSpec)

/-- ITS FALSE NEIGHBOUR: 'it returns false'. Refute it at one input. -/
def capsKindsWrong : ChangeSpec := { name := "capsKinds", fn := fun _ => fun
  | [d1, d2, d3] => { results := [.lit (.bool false)], args := [d1, d2, d3] }
  | _ => none }
def CapsKindsWrongFalsely : Prop := capsKindsRow.holds Try.pinned (OpenSpec.ofChange capsKindsWrong)

/-- 'steadfastlaw07.CapsDiminish': WHATEVER THE INPUT: true; the input reads as it did. -/
def capsDiminishSpec : ChangeSpec := { name := "capsDiminish", fn := fun _ => fun
  | [d1, d2, d3] => { results := [.lit (.bool true)], args := [d1, d2, d3] }
  | _ => none }
def capsDiminishRow : OpenClaim := { program := "ytnmdhlemenjdiaa", sum := "0000c224bcc9b95ce4c6875ba476d1ba0a16fb9dc5f1f4a7c32f1bc4e4009441", func := "steadfast/steadfastlaw07.CapsDiminish", spec := "capsDiminish", apart := false }
def CapsDiminishSaid : Prop := capsDiminishRow.holds Try.pinned (OpenSpec.ofChange capsDiminishSpec)

/-- ITS FALSE NEIGHBOUR: 'it returns false'. Refute it at one input. -/
def capsDiminishWrong : ChangeSpec := { name := "capsDiminish", fn := fun _ => fun
  | [d1, d2, d3] => { results := [.lit (.bool false)], args := [d1, d2, d3] }
  | _ => none }
def CapsDiminishWrongFalsely : Prop := capsDiminishRow.holds Try.pinned (OpenSpec.ofChange capsDiminishWrong)

/-- 'steadfastlaw07.CapsMay': WHATEVER THE INPUT: true; the input reads as it did. -/
def capsMaySpec : ChangeSpec := { name := "capsMay", fn := fun _ => fun
  | [d1, d2, d3] => { results := [.lit (.bool true)], args := [d1, d2, d3] }
  | _ => none }
def capsMayRow : OpenClaim := { program := "ytnmdhlemenjdiaa", sum := "0000c224bcc9b95ce4c6875ba476d1ba0a16fb9dc5f1f4a7c32f1bc4e4009441", func := "steadfast/steadfastlaw07.CapsMay", spec := "capsMay", apart := false }
def CapsMaySaid : Prop := capsMayRow.holds Try.pinned (OpenSpec.ofChange capsMaySpec)

/-- ITS FALSE NEIGHBOUR: 'it returns false'. Refute it at one input. -/
def capsMayWrong : ChangeSpec := { name := "capsMay", fn := fun _ => fun
  | [d1, d2, d3] => { results := [.lit (.bool false)], args := [d1, d2, d3] }
  | _ => none }
def CapsMayWrongFalsely : Prop := capsMayRow.holds Try.pinned (OpenSpec.ofChange capsMayWrong)

/- THE SECOND FORM. 'bulk': how many values and letters a reading holds, each counted each time it is reached (what is shared counts as often as it is met; a slice's spare places count too). A statement '..UptoSaid' is the law's where the arguments, and the package variables that the reading takes, are together of bulk at most 1048576: NARROWER than '..Said'. Prove '..Said' where nothing that the law and all that it calls make is longer than what came in: it says more and counts as full. Else prove '..UptoSaid'. A law counts once. -/
mutual
def uptoBulk {H : Type} : DataW H → Nat
  | .lit (.string bytes) => bytes.length + 1
  | .lit _ => 1
  | .nil => 1
  | .ptr d => uptoBulk d + 1
  | .slice elems spare => uptoBulkAll elems + uptoBulkAll spare + 1
  | .agg parts => uptoBulkAll parts + 1
  | .iface _ d => uptoBulk d + 1
  | .map entries => uptoBulkEntries entries + 1
  | .held _ => 1
def uptoBulkAll {H : Type} : List (DataW H) → Nat
  | [] => 0
  | d :: r => uptoBulk d + uptoBulkAll r
def uptoBulkEntries {H : Type} : List (Lit × DataW H) → Nat
  | [] => 0
  | x :: r => uptoBulkEntry x + uptoBulkEntries r
def uptoBulkEntry {H : Type} : Lit × DataW H → Nat
  | (.string bytes, d) => bytes.length + uptoBulk d + 1
  | (_, d) => uptoBulk d + 1
 end
def uptoSmall : (H : Type) → List (DataW H) → Bool := fun _ ds => decide (uptoBulkAll ds ≤ 1048576)
def OpenSpec.upto (s : _root_.Go.ChangeSpec) : _root_.Go.OpenSpec := { _root_.Go.OpenSpec.ofChange s with cond := some uptoSmall }

/-- 'steadfastlaw08.EntryWords', WHERE WHAT IT READS IS OF BULK AT MOST 1048576: true; the input reads as it did. -/
def entryWordsUptoRow : OpenClaim := { program := "ytnmdhlemenjdiaa", sum := "0000c224bcc9b95ce4c6875ba476d1ba0a16fb9dc5f1f4a7c32f1bc4e4009441", func := "steadfast/steadfastlaw08.EntryWords", spec := "entryWords", unfollowed := true, recurses := true, apart := false, narrowed := true }
def EntryWordsUptoSaid : Prop := entryWordsUptoRow.holds Try.pinned (OpenSpec.upto entryWordsSpec)

/-- 'steadfastlaw08.EntryBack', WHERE WHAT IT READS IS OF BULK AT MOST 1048576: true; the input reads as it did. -/
def entryBackUptoRow : OpenClaim := { program := "ytnmdhlemenjdiaa", sum := "0000c224bcc9b95ce4c6875ba476d1ba0a16fb9dc5f1f4a7c32f1bc4e4009441", func := "steadfast/steadfastlaw08.EntryBack", spec := "entryBack", unfollowed := true, recurses := true, apart := false, narrowed := true }
def EntryBackUptoSaid : Prop := entryBackUptoRow.holds Try.pinned (OpenSpec.upto entryBackSpec)

/-- 'steadfastlaw08.EntryEnds', WHERE WHAT IT READS IS OF BULK AT MOST 1048576: true; the input reads as it did. -/
def entryEndsUptoRow : OpenClaim := { program := "ytnmdhlemenjdiaa", sum := "0000c224bcc9b95ce4c6875ba476d1ba0a16fb9dc5f1f4a7c32f1bc4e4009441", func := "steadfast/steadfastlaw08.EntryEnds", spec := "entryEnds", unfollowed := true, recurses := true, apart := false, narrowed := true }
def EntryEndsUptoSaid : Prop := entryEndsUptoRow.holds Try.pinned (OpenSpec.upto entryEndsSpec)

/-- 'steadfastlaw08.EntryVersions', WHERE WHAT IT READS IS OF BULK AT MOST 1048576: true; the input reads as it did. -/
def entryVersionsUptoRow : OpenClaim := { program := "ytnmdhlemenjdiaa", sum := "0000c224bcc9b95ce4c6875ba476d1ba0a16fb9dc5f1f4a7c32f1bc4e4009441", func := "steadfast/steadfastlaw08.EntryVersions", spec := "entryVersions", unfollowed := true, recurses := true, apart := false, narrowed := true }
def EntryVersionsUptoSaid : Prop := entryVersionsUptoRow.holds Try.pinned (OpenSpec.upto entryVersionsSpec)

/-- 'steadfastlaw08.EntryApart', WHERE WHAT IT READS IS OF BULK AT MOST 1048576: true; the input reads as it did. -/
def entryApartUptoRow : OpenClaim := { program := "ytnmdhlemenjdiaa", sum := "0000c224bcc9b95ce4c6875ba476d1ba0a16fb9dc5f1f4a7c32f1bc4e4009441", func := "steadfast/steadfastlaw08.EntryApart", spec := "entryApart", unfollowed := true, recurses := true, apart := false, narrowed := true }
def EntryApartUptoSaid : Prop := entryApartUptoRow.holds Try.pinned (OpenSpec.upto entryApartSpec)

/-- 'steadfastlaw07.CapsWords', WHERE WHAT IT READS IS OF BULK AT MOST 1048576: true; the input reads as it did. -/
def capsWordsUptoRow : OpenClaim := { program := "ytnmdhlemenjdiaa", sum := "0000c224bcc9b95ce4c6875ba476d1ba0a16fb9dc5f1f4a7c32f1bc4e4009441", func := "steadfast/steadfastlaw07.CapsWords", spec := "capsWords", apart := false, narrowed := true }
def CapsWordsUptoSaid : Prop := capsWordsUptoRow.holds Try.pinned (OpenSpec.upto capsWordsSpec)

/-- 'steadfastlaw07.CapsBack', WHERE WHAT IT READS IS OF BULK AT MOST 1048576: true; the input reads as it did. -/
def capsBackUptoRow : OpenClaim := { program := "ytnmdhlemenjdiaa", sum := "0000c224bcc9b95ce4c6875ba476d1ba0a16fb9dc5f1f4a7c32f1bc4e4009441", func := "steadfast/steadfastlaw07.CapsBack", spec := "capsBack", apart := false, narrowed := true }
def CapsBackUptoSaid : Prop := capsBackUptoRow.holds Try.pinned (OpenSpec.upto capsBackSpec)

/-- 'steadfastlaw07.CapsTwice', WHERE WHAT IT READS IS OF BULK AT MOST 1048576: true; the input reads as it did. -/
def capsTwiceUptoRow : OpenClaim := { program := "ytnmdhlemenjdiaa", sum := "0000c224bcc9b95ce4c6875ba476d1ba0a16fb9dc5f1f4a7c32f1bc4e4009441", func := "steadfast/steadfastlaw07.CapsTwice", spec := "capsTwice", apart := false, narrowed := true }
def CapsTwiceUptoSaid : Prop := capsTwiceUptoRow.holds Try.pinned (OpenSpec.upto capsTwiceSpec)

/-- 'steadfastlaw07.CapsParts', WHERE WHAT IT READS IS OF BULK AT MOST 1048576: true; the input reads as it did. -/
def capsPartsUptoRow : OpenClaim := { program := "ytnmdhlemenjdiaa", sum := "0000c224bcc9b95ce4c6875ba476d1ba0a16fb9dc5f1f4a7c32f1bc4e4009441", func := "steadfast/steadfastlaw07.CapsParts", spec := "capsParts", apart := false, narrowed := true }
def CapsPartsUptoSaid : Prop := capsPartsUptoRow.holds Try.pinned (OpenSpec.upto capsPartsSpec)

/-- 'steadfastlaw07.CapsKinds', WHERE WHAT IT READS IS OF BULK AT MOST 1048576: true; the input reads as it did. -/
def capsKindsUptoRow : OpenClaim := { program := "ytnmdhlemenjdiaa", sum := "0000c224bcc9b95ce4c6875ba476d1ba0a16fb9dc5f1f4a7c32f1bc4e4009441", func := "steadfast/steadfastlaw07.CapsKinds", spec := "capsKinds", apart := false, narrowed := true }
def CapsKindsUptoSaid : Prop := capsKindsUptoRow.holds Try.pinned (OpenSpec.upto capsKindsSpec)

/-- 'steadfastlaw07.CapsDiminish', WHERE WHAT IT READS IS OF BULK AT MOST 1048576: true; the input reads as it did. -/
def capsDiminishUptoRow : OpenClaim := { program := "ytnmdhlemenjdiaa", sum := "0000c224bcc9b95ce4c6875ba476d1ba0a16fb9dc5f1f4a7c32f1bc4e4009441", func := "steadfast/steadfastlaw07.CapsDiminish", spec := "capsDiminish", apart := false, narrowed := true }
def CapsDiminishUptoSaid : Prop := capsDiminishUptoRow.holds Try.pinned (OpenSpec.upto capsDiminishSpec)

/-- 'steadfastlaw07.CapsMay', WHERE WHAT IT READS IS OF BULK AT MOST 1048576: true; the input reads as it did. -/
def capsMayUptoRow : OpenClaim := { program := "ytnmdhlemenjdiaa", sum := "0000c224bcc9b95ce4c6875ba476d1ba0a16fb9dc5f1f4a7c32f1bc4e4009441", func := "steadfast/steadfastlaw07.CapsMay", spec := "capsMay", apart := false, narrowed := true }
def CapsMayUptoSaid : Prop := capsMayUptoRow.holds Try.pinned (OpenSpec.upto capsMaySpec)

end Rows
end Go.Proofs.Ytnmdhlemenjdiaa
