/-
  No cell of these rows narrows 'for every input' (looked for: loops, veiled, ifaces, maps, wideKeys, modest, calm, conditions, laid).
  DERIVED. THE GIVEN ROWS OF THIS SEAT. 9 by the template 'for every input the law returns true; each argument reads behind the call as it read before'; 0 by the template 'total and deterministic' (their statements: YtblianhdcnpgjaaTotals.lean).
  GIVEN WITH THE SEED: the statements are not yours to turn. If you find one false, say at which input.
  Laid BY PROGRAM, IN A SANDBOX (cutbox-rows.mjs): the forced cells as the released guide's own fill.sh prints them over the translation 4dbed7138d228250… (all of the seat's roots in one cut). By AI agents, Wed Nov 11 2026. No macro, syntax, notation, axiom, sorry.
-/
import Derived.Test.YtblianhdcnpgjaaChecked
import GoSem.Claim
import GoSem.ClaimJoined
import GoSem.ClaimMapViews
import Derived.JoinedTies
import Derived.KernelRfl
namespace Go.Proofs.Ytblianhdcnpgjaa
/- THE CELL 'sum', in the pinned program and in every row, IS THE sha256 OF THE DUMP (.gsa) THAT YtblianhdcnpgjaaProg.lean LOADS. Nothing in Lean hashes anything: it is a label: what it is worth is what the hold of that sum in a sandbox is worth. -/
noncomputable def Try.pinned : Pinned := { name := "ytblianhdcnpgjaa", sum := "4dbed7138d2282507ba86fefe03f93fc4237d0343173060766a68c51d8dbd9a0", checked := Try.checked }
namespace Rows
def none {H : Type} : Left H := { results := [], args := [] }

/-- 'grapnellaw01.WordInts': WHATEVER THE INPUT: true; the input reads as it did. -/
def wordIntsSpec : ChangeSpec := { name := "wordInts", fn := fun _ => fun
  | [d1, d2] => { results := [.lit (.bool true)], args := [d1, d2] }
  | _ => none }
def wordIntsRow : OpenClaim := { program := "ytblianhdcnpgjaa", sum := "4dbed7138d2282507ba86fefe03f93fc4237d0343173060766a68c51d8dbd9a0", func := "grapnel/grapnellaw01.WordInts", spec := "wordInts", apart := false }
def WordIntsSaid : Prop := wordIntsRow.holds Try.pinned (OpenSpec.ofChange wordIntsSpec)

/-- ITS FALSE NEIGHBOUR: 'it returns false'. Refute it at one input. -/
def wordIntsWrong : ChangeSpec := { name := "wordInts", fn := fun _ => fun
  | [d1, d2] => { results := [.lit (.bool false)], args := [d1, d2] }
  | _ => none }
def WordIntsWrongFalsely : Prop := wordIntsRow.holds Try.pinned (OpenSpec.ofChange wordIntsWrong)

/-- 'grapnellaw01.WordPtrs': WHATEVER THE INPUT: true; the input reads as it did. -/
def wordPtrsSpec : ChangeSpec := { name := "wordPtrs", fn := fun _ => fun
  | [d1, d2] => { results := [.lit (.bool true)], args := [d1, d2] }
  | _ => none }
def wordPtrsRow : OpenClaim := { program := "ytblianhdcnpgjaa", sum := "4dbed7138d2282507ba86fefe03f93fc4237d0343173060766a68c51d8dbd9a0", func := "grapnel/grapnellaw01.WordPtrs", spec := "wordPtrs", apart := false }
def WordPtrsSaid : Prop := wordPtrsRow.holds Try.pinned (OpenSpec.ofChange wordPtrsSpec)

/-- ITS FALSE NEIGHBOUR: 'it returns false'. Refute it at one input. -/
def wordPtrsWrong : ChangeSpec := { name := "wordPtrs", fn := fun _ => fun
  | [d1, d2] => { results := [.lit (.bool false)], args := [d1, d2] }
  | _ => none }
def WordPtrsWrongFalsely : Prop := wordPtrsRow.holds Try.pinned (OpenSpec.ofChange wordPtrsWrong)

/-- 'grapnellaw01.WordHeads': WHATEVER THE INPUT: true; the input reads as it did. -/
def wordHeadsSpec : ChangeSpec := { name := "wordHeads", fn := fun _ => fun
  | [d1, d2, d3] => { results := [.lit (.bool true)], args := [d1, d2, d3] }
  | _ => none }
def wordHeadsRow : OpenClaim := { program := "ytblianhdcnpgjaa", sum := "4dbed7138d2282507ba86fefe03f93fc4237d0343173060766a68c51d8dbd9a0", func := "grapnel/grapnellaw01.WordHeads", spec := "wordHeads", apart := false }
def WordHeadsSaid : Prop := wordHeadsRow.holds Try.pinned (OpenSpec.ofChange wordHeadsSpec)

/-- ITS FALSE NEIGHBOUR: 'it returns false'. Refute it at one input. -/
def wordHeadsWrong : ChangeSpec := { name := "wordHeads", fn := fun _ => fun
  | [d1, d2, d3] => { results := [.lit (.bool false)], args := [d1, d2, d3] }
  | _ => none }
def WordHeadsWrongFalsely : Prop := wordHeadsRow.holds Try.pinned (OpenSpec.ofChange wordHeadsWrong)

/-- 'grapnellaw01.WordDoes': WHATEVER THE INPUT: true; the input reads as it did. -/
def wordDoesSpec : ChangeSpec := { name := "wordDoes", fn := fun _ => fun
  | [d1, d2, d3] => { results := [.lit (.bool true)], args := [d1, d2, d3] }
  | _ => none }
def wordDoesRow : OpenClaim := { program := "ytblianhdcnpgjaa", sum := "4dbed7138d2282507ba86fefe03f93fc4237d0343173060766a68c51d8dbd9a0", func := "grapnel/grapnellaw01.WordDoes", spec := "wordDoes", apart := false }
def WordDoesSaid : Prop := wordDoesRow.holds Try.pinned (OpenSpec.ofChange wordDoesSpec)

/-- ITS FALSE NEIGHBOUR: 'it returns false'. Refute it at one input. -/
def wordDoesWrong : ChangeSpec := { name := "wordDoes", fn := fun _ => fun
  | [d1, d2, d3] => { results := [.lit (.bool false)], args := [d1, d2, d3] }
  | _ => none }
def WordDoesWrongFalsely : Prop := wordDoesRow.holds Try.pinned (OpenSpec.ofChange wordDoesWrong)

/-- 'grapnellaw01.WordRing': WHATEVER THE INPUT: true; the input reads as it did. -/
def wordRingSpec : ChangeSpec := { name := "wordRing", fn := fun _ => fun
  | [d1, d2, d3] => { results := [.lit (.bool true)], args := [d1, d2, d3] }
  | _ => none }
def wordRingRow : OpenClaim := { program := "ytblianhdcnpgjaa", sum := "4dbed7138d2282507ba86fefe03f93fc4237d0343173060766a68c51d8dbd9a0", func := "grapnel/grapnellaw01.WordRing", spec := "wordRing", unfollowed := true, recurses := true, apart := false }
def WordRingSaid : Prop := wordRingRow.holds Try.pinned (OpenSpec.ofChange wordRingSpec)

/-- ITS FALSE NEIGHBOUR: 'it returns false'. Refute it at one input. -/
def wordRingWrong : ChangeSpec := { name := "wordRing", fn := fun _ => fun
  | [d1, d2, d3] => { results := [.lit (.bool false)], args := [d1, d2, d3] }
  | _ => none }
def WordRingWrongFalsely : Prop := wordRingRow.holds Try.pinned (OpenSpec.ofChange wordRingWrong)

/-- 'grapnellaw01.WordSplits': WHATEVER THE INPUT: true; the input reads as it did. -/
def wordSplitsSpec : ChangeSpec := { name := "wordSplits", fn := fun _ => fun
  | [d1, d2] => { results := [.lit (.bool true)], args := [d1, d2] }
  | _ => none }
def wordSplitsRow : OpenClaim := { program := "ytblianhdcnpgjaa", sum := "4dbed7138d2282507ba86fefe03f93fc4237d0343173060766a68c51d8dbd9a0", func := "grapnel/grapnellaw01.WordSplits", spec := "wordSplits", apart := false }
def WordSplitsSaid : Prop := wordSplitsRow.holds Try.pinned (OpenSpec.ofChange wordSplitsSpec)

/-- ITS FALSE NEIGHBOUR: 'it returns false'. Refute it at one input. -/
def wordSplitsWrong : ChangeSpec := { name := "wordSplits", fn := fun _ => fun
  | [d1, d2] => { results := [.lit (.bool false)], args := [d1, d2] }
  | _ => none }
def WordSplitsWrongFalsely : Prop := wordSplitsRow.holds Try.pinned (OpenSpec.ofChange wordSplitsWrong)

/-- 'grapnellaw01.WordLess': WHATEVER THE INPUT: true; the input reads as it did. -/
def wordLessSpec : ChangeSpec := { name := "wordLess", fn := fun _ => fun
  | [d1, d2, d3] => { results := [.lit (.bool true)], args := [d1, d2, d3] }
  | _ => none }
def wordLessRow : OpenClaim := { program := "ytblianhdcnpgjaa", sum := "4dbed7138d2282507ba86fefe03f93fc4237d0343173060766a68c51d8dbd9a0", func := "grapnel/grapnellaw01.WordLess", spec := "wordLess", unfollowed := true, recurses := true, apart := false }
def WordLessSaid : Prop := wordLessRow.holds Try.pinned (OpenSpec.ofChange wordLessSpec)

/-- ITS FALSE NEIGHBOUR: 'it returns false'. Refute it at one input. -/
def wordLessWrong : ChangeSpec := { name := "wordLess", fn := fun _ => fun
  | [d1, d2, d3] => { results := [.lit (.bool false)], args := [d1, d2, d3] }
  | _ => none }
def WordLessWrongFalsely : Prop := wordLessRow.holds Try.pinned (OpenSpec.ofChange wordLessWrong)

/-- 'grapnellaw01.WordShifts': WHATEVER THE INPUT: true; the input reads as it did. -/
def wordShiftsSpec : ChangeSpec := { name := "wordShifts", fn := fun _ => fun
  | [d1, d2] => { results := [.lit (.bool true)], args := [d1, d2] }
  | _ => none }
def wordShiftsRow : OpenClaim := { program := "ytblianhdcnpgjaa", sum := "4dbed7138d2282507ba86fefe03f93fc4237d0343173060766a68c51d8dbd9a0", func := "grapnel/grapnellaw01.WordShifts", spec := "wordShifts", apart := false }
def WordShiftsSaid : Prop := wordShiftsRow.holds Try.pinned (OpenSpec.ofChange wordShiftsSpec)

/-- ITS FALSE NEIGHBOUR: 'it returns false'. Refute it at one input. -/
def wordShiftsWrong : ChangeSpec := { name := "wordShifts", fn := fun _ => fun
  | [d1, d2] => { results := [.lit (.bool false)], args := [d1, d2] }
  | _ => none }
def WordShiftsWrongFalsely : Prop := wordShiftsRow.holds Try.pinned (OpenSpec.ofChange wordShiftsWrong)

/-- 'grapnellaw01.WordBits': WHATEVER THE INPUT: true; the input reads as it did. -/
def wordBitsSpec : ChangeSpec := { name := "wordBits", fn := fun _ => fun
  | [d1, d2] => { results := [.lit (.bool true)], args := [d1, d2] }
  | _ => none }
def wordBitsRow : OpenClaim := { program := "ytblianhdcnpgjaa", sum := "4dbed7138d2282507ba86fefe03f93fc4237d0343173060766a68c51d8dbd9a0", func := "grapnel/grapnellaw01.WordBits", spec := "wordBits", apart := false }
def WordBitsSaid : Prop := wordBitsRow.holds Try.pinned (OpenSpec.ofChange wordBitsSpec)

/-- ITS FALSE NEIGHBOUR: 'it returns false'. Refute it at one input. -/
def wordBitsWrong : ChangeSpec := { name := "wordBits", fn := fun _ => fun
  | [d1, d2] => { results := [.lit (.bool false)], args := [d1, d2] }
  | _ => none }
def WordBitsWrongFalsely : Prop := wordBitsRow.holds Try.pinned (OpenSpec.ofChange wordBitsWrong)

/- THE SECOND FORM. 'bulk': how many values and letters a reading holds, each counted each time it is reached (what is shared counts as often as it is met; a slice's spare places count too). A statement '..UptoSaid' is the law's where the arguments, and the package variables that the reading takes, are together of bulk at most 1048576: NARROWER than '..Said'. Prove '..Said' where nothing that the law and all that it calls make is longer than what came in: it says more and counts as full. Else prove '..UptoSaid'. A law counts once. -/
mutual
def uptoBulk {H : Type} : DataW H → Nat
  | .lit (.string bytes) => bytes.length + 1
  | .lit _ => 1
  | .nil => 1
  | .ptr d => uptoBulk d + 1
  | .slice elems spare => uptoBulkAll elems + uptoBulkAll spare + 1
  | .agg parts => uptoBulkAll parts + 1
  | .iface _ d => uptoBulk d + 1
  | .map entries => uptoBulkEntries entries + 1
  | .held _ => 1
def uptoBulkAll {H : Type} : List (DataW H) → Nat
  | [] => 0
  | d :: r => uptoBulk d + uptoBulkAll r
def uptoBulkEntries {H : Type} : List (Lit × DataW H) → Nat
  | [] => 0
  | x :: r => uptoBulkEntry x + uptoBulkEntries r
def uptoBulkEntry {H : Type} : Lit × DataW H → Nat
  | (.string bytes, d) => bytes.length + uptoBulk d + 1
  | (_, d) => uptoBulk d + 1
 end
def uptoSmall : (H : Type) → List (DataW H) → Bool := fun _ ds => decide (uptoBulkAll ds ≤ 1048576)
def OpenSpec.upto (s : _root_.Go.ChangeSpec) : _root_.Go.OpenSpec := { _root_.Go.OpenSpec.ofChange s with cond := some uptoSmall }

/-- 'grapnellaw01.WordInts', WHERE WHAT IT READS IS OF BULK AT MOST 1048576: true; the input reads as it did. -/
def wordIntsUptoRow : OpenClaim := { program := "ytblianhdcnpgjaa", sum := "4dbed7138d2282507ba86fefe03f93fc4237d0343173060766a68c51d8dbd9a0", func := "grapnel/grapnellaw01.WordInts", spec := "wordInts", apart := false, narrowed := true }
def WordIntsUptoSaid : Prop := wordIntsUptoRow.holds Try.pinned (OpenSpec.upto wordIntsSpec)

/-- 'grapnellaw01.WordPtrs', WHERE WHAT IT READS IS OF BULK AT MOST 1048576: true; the input reads as it did. -/
def wordPtrsUptoRow : OpenClaim := { program := "ytblianhdcnpgjaa", sum := "4dbed7138d2282507ba86fefe03f93fc4237d0343173060766a68c51d8dbd9a0", func := "grapnel/grapnellaw01.WordPtrs", spec := "wordPtrs", apart := false, narrowed := true }
def WordPtrsUptoSaid : Prop := wordPtrsUptoRow.holds Try.pinned (OpenSpec.upto wordPtrsSpec)

/-- 'grapnellaw01.WordHeads', WHERE WHAT IT READS IS OF BULK AT MOST 1048576: true; the input reads as it did. -/
def wordHeadsUptoRow : OpenClaim := { program := "ytblianhdcnpgjaa", sum := "4dbed7138d2282507ba86fefe03f93fc4237d0343173060766a68c51d8dbd9a0", func := "grapnel/grapnellaw01.WordHeads", spec := "wordHeads", apart := false, narrowed := true }
def WordHeadsUptoSaid : Prop := wordHeadsUptoRow.holds Try.pinned (OpenSpec.upto wordHeadsSpec)

/-- 'grapnellaw01.WordDoes', WHERE WHAT IT READS IS OF BULK AT MOST 1048576: true; the input reads as it did. -/
def wordDoesUptoRow : OpenClaim := { program := "ytblianhdcnpgjaa", sum := "4dbed7138d2282507ba86fefe03f93fc4237d0343173060766a68c51d8dbd9a0", func := "grapnel/grapnellaw01.WordDoes", spec := "wordDoes", apart := false, narrowed := true }
def WordDoesUptoSaid : Prop := wordDoesUptoRow.holds Try.pinned (OpenSpec.upto wordDoesSpec)

/-- 'grapnellaw01.WordRing', WHERE WHAT IT READS IS OF BULK AT MOST 1048576: true; the input reads as it did. -/
def wordRingUptoRow : OpenClaim := { program := "ytblianhdcnpgjaa", sum := "4dbed7138d2282507ba86fefe03f93fc4237d0343173060766a68c51d8dbd9a0", func := "grapnel/grapnellaw01.WordRing", spec := "wordRing", unfollowed := true, recurses := true, apart := false, narrowed := true }
def WordRingUptoSaid : Prop := wordRingUptoRow.holds Try.pinned (OpenSpec.upto wordRingSpec)

/-- 'grapnellaw01.WordSplits', WHERE WHAT IT READS IS OF BULK AT MOST 1048576: true; the input reads as it did. -/
def wordSplitsUptoRow : OpenClaim := { program := "ytblianhdcnpgjaa", sum := "4dbed7138d2282507ba86fefe03f93fc4237d0343173060766a68c51d8dbd9a0", func := "grapnel/grapnellaw01.WordSplits", spec := "wordSplits", apart := false, narrowed := true }
def WordSplitsUptoSaid : Prop := wordSplitsUptoRow.holds Try.pinned (OpenSpec.upto wordSplitsSpec)

/-- 'grapnellaw01.WordLess', WHERE WHAT IT READS IS OF BULK AT MOST 1048576: true; the input reads as it did. -/
def wordLessUptoRow : OpenClaim := { program := "ytblianhdcnpgjaa", sum := "4dbed7138d2282507ba86fefe03f93fc4237d0343173060766a68c51d8dbd9a0", func := "grapnel/grapnellaw01.WordLess", spec := "wordLess", unfollowed := true, recurses := true, apart := false, narrowed := true }
def WordLessUptoSaid : Prop := wordLessUptoRow.holds Try.pinned (OpenSpec.upto wordLessSpec)

/-- 'grapnellaw01.WordShifts', WHERE WHAT IT READS IS OF BULK AT MOST 1048576: true; the input reads as it did. -/
def wordShiftsUptoRow : OpenClaim := { program := "ytblianhdcnpgjaa", sum := "4dbed7138d2282507ba86fefe03f93fc4237d0343173060766a68c51d8dbd9a0", func := "grapnel/grapnellaw01.WordShifts", spec := "wordShifts", apart := false, narrowed := true }
def WordShiftsUptoSaid : Prop := wordShiftsUptoRow.holds Try.pinned (OpenSpec.upto wordShiftsSpec)

/-- 'grapnellaw01.WordBits', WHERE WHAT IT READS IS OF BULK AT MOST 1048576: true; the input reads as it did. -/
def wordBitsUptoRow : OpenClaim := { program := "ytblianhdcnpgjaa", sum := "4dbed7138d2282507ba86fefe03f93fc4237d0343173060766a68c51d8dbd9a0", func := "grapnel/grapnellaw01.WordBits", spec := "wordBits", apart := false, narrowed := true }
def WordBitsUptoSaid : Prop := wordBitsUptoRow.holds Try.pinned (OpenSpec.upto wordBitsSpec)

end Rows
end Go.Proofs.Ytblianhdcnpgjaa
