/-
  No cell of these rows narrows 'for every input' (looked for: loops, veiled, ifaces, maps, wideKeys, modest, calm, conditions, laid).
  DERIVED. THE GIVEN ROWS OF THIS SEAT. 7 by the template 'for every input the law returns true; each argument reads behind the call as it read before'; 0 by the template 'total and deterministic' (their statements: YtnmibcmeaakljaaTotals.lean).
  GIVEN WITH THE SEED: the statements are not yours to turn. If you find one false, say at which input.
  Laid BY PROGRAM, IN A SANDBOX (cutbox-rows.mjs): the forced cells as the released guide's own fill.sh prints them over the translation 0fc30eb557e09b55… (all of the seat's roots in one cut). By AI agents, Wed Nov 11 2026. No macro, syntax, notation, axiom, sorry.
-/
import Derived.Test.YtnmibcmeaakljaaChecked
import GoSem.Claim
import GoSem.ClaimJoined
import GoSem.ClaimMapViews
import Derived.JoinedTies
import Derived.KernelRfl
namespace Go.Proofs.Ytnmibcmeaakljaa
/- THE CELL 'sum', in the pinned program and in every row, IS THE sha256 OF THE DUMP (.gsa) THAT YtnmibcmeaakljaaProg.lean LOADS. Nothing in Lean hashes anything: it is a label: what it is worth is what the hold of that sum in a sandbox is worth. -/
noncomputable def Try.pinned : Pinned := { name := "ytnmibcmeaakljaa", sum := "0fc30eb557e09b551d061da861bbbe5d7844ca7a3a9cd4eefb71ee36563f6b42", checked := Try.checked }
namespace Rows
def none {H : Type} : Left H := { results := [], args := [] }

/-- 'attorneylaw02.WordTells': WHATEVER THE INPUT: true; the input reads as it did. -/
def wordTellsSpec : ChangeSpec := { name := "wordTells", fn := fun _ => fun
  | [d1, d2, d3, d4] => { results := [.lit (.bool true)], args := [d1, d2, d3, d4] }
  | _ => none }
def wordTellsRow : OpenClaim := { program := "ytnmibcmeaakljaa", sum := "0fc30eb557e09b551d061da861bbbe5d7844ca7a3a9cd4eefb71ee36563f6b42", func := "attorney/attorneylaw02.WordTells", spec := "wordTells", inPlace := ["internal/abi.NoEscape"], apart := false }
def WordTellsSaid : Prop := wordTellsRow.holds Try.pinned (OpenSpec.ofChange wordTellsSpec)

/-- ITS FALSE NEIGHBOUR: 'it returns false'. Refute it at one input. -/
def wordTellsWrong : ChangeSpec := { name := "wordTells", fn := fun _ => fun
  | [d1, d2, d3, d4] => { results := [.lit (.bool false)], args := [d1, d2, d3, d4] }
  | _ => none }
def WordTellsWrongFalsely : Prop := wordTellsRow.holds Try.pinned (OpenSpec.ofChange wordTellsWrong)

/-- 'attorneylaw02.WordMakes': WHATEVER THE INPUT: true; the input reads as it did. -/
def wordMakesSpec : ChangeSpec := { name := "wordMakes", fn := fun _ => fun
  | [d1, d2, d3, d4] => { results := [.lit (.bool true)], args := [d1, d2, d3, d4] }
  | _ => none }
def wordMakesRow : OpenClaim := { program := "ytnmibcmeaakljaa", sum := "0fc30eb557e09b551d061da861bbbe5d7844ca7a3a9cd4eefb71ee36563f6b42", func := "attorney/attorneylaw02.WordMakes", spec := "wordMakes", inPlace := ["internal/abi.NoEscape"], apart := false }
def WordMakesSaid : Prop := wordMakesRow.holds Try.pinned (OpenSpec.ofChange wordMakesSpec)

/-- ITS FALSE NEIGHBOUR: 'it returns false'. Refute it at one input. -/
def wordMakesWrong : ChangeSpec := { name := "wordMakes", fn := fun _ => fun
  | [d1, d2, d3, d4] => { results := [.lit (.bool false)], args := [d1, d2, d3, d4] }
  | _ => none }
def WordMakesWrongFalsely : Prop := wordMakesRow.holds Try.pinned (OpenSpec.ofChange wordMakesWrong)

/-- 'attorneylaw02.WordBack': WHATEVER THE INPUT: true; the input reads as it did. -/
def wordBackSpec : ChangeSpec := { name := "wordBack", fn := fun _ => fun
  | [d1, d2] => { results := [.lit (.bool true)], args := [d1, d2] }
  | _ => none }
def wordBackRow : OpenClaim := { program := "ytnmibcmeaakljaa", sum := "0fc30eb557e09b551d061da861bbbe5d7844ca7a3a9cd4eefb71ee36563f6b42", func := "attorney/attorneylaw02.WordBack", spec := "wordBack", inPlace := ["internal/abi.NoEscape"], apart := false }
def WordBackSaid : Prop := wordBackRow.holds Try.pinned (OpenSpec.ofChange wordBackSpec)

/-- ITS FALSE NEIGHBOUR: 'it returns false'. Refute it at one input. -/
def wordBackWrong : ChangeSpec := { name := "wordBack", fn := fun _ => fun
  | [d1, d2] => { results := [.lit (.bool false)], args := [d1, d2] }
  | _ => none }
def WordBackWrongFalsely : Prop := wordBackRow.holds Try.pinned (OpenSpec.ofChange wordBackWrong)

/-- 'attorneylaw02.WordLess': WHATEVER THE INPUT: true; the input reads as it did. -/
def wordLessSpec : ChangeSpec := { name := "wordLess", fn := fun _ => fun
  | [d1, d2, d3] => { results := [.lit (.bool true)], args := [d1, d2, d3] }
  | _ => none }
def wordLessRow : OpenClaim := { program := "ytnmibcmeaakljaa", sum := "0fc30eb557e09b551d061da861bbbe5d7844ca7a3a9cd4eefb71ee36563f6b42", func := "attorney/attorneylaw02.WordLess", spec := "wordLess", inPlace := ["internal/abi.NoEscape"], apart := false }
def WordLessSaid : Prop := wordLessRow.holds Try.pinned (OpenSpec.ofChange wordLessSpec)

/-- ITS FALSE NEIGHBOUR: 'it returns false'. Refute it at one input. -/
def wordLessWrong : ChangeSpec := { name := "wordLess", fn := fun _ => fun
  | [d1, d2, d3] => { results := [.lit (.bool false)], args := [d1, d2, d3] }
  | _ => none }
def WordLessWrongFalsely : Prop := wordLessRow.holds Try.pinned (OpenSpec.ofChange wordLessWrong)

/-- 'attorneylaw02.WordSwaps': WHATEVER THE INPUT: true; the input reads as it did. -/
def wordSwapsSpec : ChangeSpec := { name := "wordSwaps", fn := fun _ => fun
  | [d1, d2, d3, d4] => { results := [.lit (.bool true)], args := [d1, d2, d3, d4] }
  | _ => none }
def wordSwapsRow : OpenClaim := { program := "ytnmibcmeaakljaa", sum := "0fc30eb557e09b551d061da861bbbe5d7844ca7a3a9cd4eefb71ee36563f6b42", func := "attorney/attorneylaw02.WordSwaps", spec := "wordSwaps", inPlace := ["internal/abi.NoEscape"], apart := false }
def WordSwapsSaid : Prop := wordSwapsRow.holds Try.pinned (OpenSpec.ofChange wordSwapsSpec)

/-- ITS FALSE NEIGHBOUR: 'it returns false'. Refute it at one input. -/
def wordSwapsWrong : ChangeSpec := { name := "wordSwaps", fn := fun _ => fun
  | [d1, d2, d3, d4] => { results := [.lit (.bool false)], args := [d1, d2, d3, d4] }
  | _ => none }
def WordSwapsWrongFalsely : Prop := wordSwapsRow.holds Try.pinned (OpenSpec.ofChange wordSwapsWrong)

/-- 'attorneylaw02.WordFinds': WHATEVER THE INPUT: true; the input reads as it did. -/
def wordFindsSpec : ChangeSpec := { name := "wordFinds", fn := fun _ => fun
  | [d1, d2, d3, d4] => { results := [.lit (.bool true)], args := [d1, d2, d3, d4] }
  | _ => none }
def wordFindsRow : OpenClaim := { program := "ytnmibcmeaakljaa", sum := "0fc30eb557e09b551d061da861bbbe5d7844ca7a3a9cd4eefb71ee36563f6b42", func := "attorney/attorneylaw02.WordFinds", spec := "wordFinds", inPlace := ["internal/abi.NoEscape"], apart := false }
def WordFindsSaid : Prop := wordFindsRow.holds Try.pinned (OpenSpec.ofChange wordFindsSpec)

/-- ITS FALSE NEIGHBOUR: 'it returns false'. Refute it at one input. -/
def wordFindsWrong : ChangeSpec := { name := "wordFinds", fn := fun _ => fun
  | [d1, d2, d3, d4] => { results := [.lit (.bool false)], args := [d1, d2, d3, d4] }
  | _ => none }
def WordFindsWrongFalsely : Prop := wordFindsRow.holds Try.pinned (OpenSpec.ofChange wordFindsWrong)

/-- 'attorneylaw02.WordCats': WHATEVER THE INPUT: true; the input reads as it did. -/
def wordCatsSpec : ChangeSpec := { name := "wordCats", fn := fun _ => fun
  | [d1, d2, d3] => { results := [.lit (.bool true)], args := [d1, d2, d3] }
  | _ => none }
def wordCatsRow : OpenClaim := { program := "ytnmibcmeaakljaa", sum := "0fc30eb557e09b551d061da861bbbe5d7844ca7a3a9cd4eefb71ee36563f6b42", func := "attorney/attorneylaw02.WordCats", spec := "wordCats", inPlace := ["internal/abi.NoEscape"], apart := false }
def WordCatsSaid : Prop := wordCatsRow.holds Try.pinned (OpenSpec.ofChange wordCatsSpec)

/-- ITS FALSE NEIGHBOUR: 'it returns false'. Refute it at one input. -/
def wordCatsWrong : ChangeSpec := { name := "wordCats", fn := fun _ => fun
  | [d1, d2, d3] => { results := [.lit (.bool false)], args := [d1, d2, d3] }
  | _ => none }
def WordCatsWrongFalsely : Prop := wordCatsRow.holds Try.pinned (OpenSpec.ofChange wordCatsWrong)

/- THE SECOND FORM. 'bulk': how many values and letters a reading holds, each counted each time it is reached (what is shared counts as often as it is met; a slice's spare places count too). A statement '..UptoSaid' is the law's where the arguments, and the package variables that the reading takes, are together of bulk at most 1048576: NARROWER than '..Said'. Prove '..Said' where nothing that the law and all that it calls make is longer than what came in: it says more and counts as full. Else prove '..UptoSaid'. A law counts once. -/
mutual
def uptoBulk {H : Type} : DataW H → Nat
  | .lit (.string bytes) => bytes.length + 1
  | .lit _ => 1
  | .nil => 1
  | .ptr d => uptoBulk d + 1
  | .slice elems spare => uptoBulkAll elems + uptoBulkAll spare + 1
  | .agg parts => uptoBulkAll parts + 1
  | .iface _ d => uptoBulk d + 1
  | .map entries => uptoBulkEntries entries + 1
  | .held _ => 1
def uptoBulkAll {H : Type} : List (DataW H) → Nat
  | [] => 0
  | d :: r => uptoBulk d + uptoBulkAll r
def uptoBulkEntries {H : Type} : List (Lit × DataW H) → Nat
  | [] => 0
  | x :: r => uptoBulkEntry x + uptoBulkEntries r
def uptoBulkEntry {H : Type} : Lit × DataW H → Nat
  | (.string bytes, d) => bytes.length + uptoBulk d + 1
  | (_, d) => uptoBulk d + 1
 end
def uptoSmall : (H : Type) → List (DataW H) → Bool := fun _ ds => decide (uptoBulkAll ds ≤ 1048576)
def OpenSpec.upto (s : _root_.Go.ChangeSpec) : _root_.Go.OpenSpec := { _root_.Go.OpenSpec.ofChange s with cond := some uptoSmall }

/-- 'attorneylaw02.WordTells', WHERE WHAT IT READS IS OF BULK AT MOST 1048576: true; the input reads as it did. -/
def wordTellsUptoRow : OpenClaim := { program := "ytnmibcmeaakljaa", sum := "0fc30eb557e09b551d061da861bbbe5d7844ca7a3a9cd4eefb71ee36563f6b42", func := "attorney/attorneylaw02.WordTells", spec := "wordTells", inPlace := ["internal/abi.NoEscape"], apart := false, narrowed := true }
def WordTellsUptoSaid : Prop := wordTellsUptoRow.holds Try.pinned (OpenSpec.upto wordTellsSpec)

/-- 'attorneylaw02.WordMakes', WHERE WHAT IT READS IS OF BULK AT MOST 1048576: true; the input reads as it did. -/
def wordMakesUptoRow : OpenClaim := { program := "ytnmibcmeaakljaa", sum := "0fc30eb557e09b551d061da861bbbe5d7844ca7a3a9cd4eefb71ee36563f6b42", func := "attorney/attorneylaw02.WordMakes", spec := "wordMakes", inPlace := ["internal/abi.NoEscape"], apart := false, narrowed := true }
def WordMakesUptoSaid : Prop := wordMakesUptoRow.holds Try.pinned (OpenSpec.upto wordMakesSpec)

/-- 'attorneylaw02.WordBack', WHERE WHAT IT READS IS OF BULK AT MOST 1048576: true; the input reads as it did. -/
def wordBackUptoRow : OpenClaim := { program := "ytnmibcmeaakljaa", sum := "0fc30eb557e09b551d061da861bbbe5d7844ca7a3a9cd4eefb71ee36563f6b42", func := "attorney/attorneylaw02.WordBack", spec := "wordBack", inPlace := ["internal/abi.NoEscape"], apart := false, narrowed := true }
def WordBackUptoSaid : Prop := wordBackUptoRow.holds Try.pinned (OpenSpec.upto wordBackSpec)

/-- 'attorneylaw02.WordLess', WHERE WHAT IT READS IS OF BULK AT MOST 1048576: true; the input reads as it did. -/
def wordLessUptoRow : OpenClaim := { program := "ytnmibcmeaakljaa", sum := "0fc30eb557e09b551d061da861bbbe5d7844ca7a3a9cd4eefb71ee36563f6b42", func := "attorney/attorneylaw02.WordLess", spec := "wordLess", inPlace := ["internal/abi.NoEscape"], apart := false, narrowed := true }
def WordLessUptoSaid : Prop := wordLessUptoRow.holds Try.pinned (OpenSpec.upto wordLessSpec)

/-- 'attorneylaw02.WordSwaps', WHERE WHAT IT READS IS OF BULK AT MOST 1048576: true; the input reads as it did. -/
def wordSwapsUptoRow : OpenClaim := { program := "ytnmibcmeaakljaa", sum := "0fc30eb557e09b551d061da861bbbe5d7844ca7a3a9cd4eefb71ee36563f6b42", func := "attorney/attorneylaw02.WordSwaps", spec := "wordSwaps", inPlace := ["internal/abi.NoEscape"], apart := false, narrowed := true }
def WordSwapsUptoSaid : Prop := wordSwapsUptoRow.holds Try.pinned (OpenSpec.upto wordSwapsSpec)

/-- 'attorneylaw02.WordFinds', WHERE WHAT IT READS IS OF BULK AT MOST 1048576: true; the input reads as it did. -/
def wordFindsUptoRow : OpenClaim := { program := "ytnmibcmeaakljaa", sum := "0fc30eb557e09b551d061da861bbbe5d7844ca7a3a9cd4eefb71ee36563f6b42", func := "attorney/attorneylaw02.WordFinds", spec := "wordFinds", inPlace := ["internal/abi.NoEscape"], apart := false, narrowed := true }
def WordFindsUptoSaid : Prop := wordFindsUptoRow.holds Try.pinned (OpenSpec.upto wordFindsSpec)

/-- 'attorneylaw02.WordCats', WHERE WHAT IT READS IS OF BULK AT MOST 1048576: true; the input reads as it did. -/
def wordCatsUptoRow : OpenClaim := { program := "ytnmibcmeaakljaa", sum := "0fc30eb557e09b551d061da861bbbe5d7844ca7a3a9cd4eefb71ee36563f6b42", func := "attorney/attorneylaw02.WordCats", spec := "wordCats", inPlace := ["internal/abi.NoEscape"], apart := false, narrowed := true }
def WordCatsUptoSaid : Prop := wordCatsUptoRow.holds Try.pinned (OpenSpec.upto wordCatsSpec)

end Rows
end Go.Proofs.Ytnmibcmeaakljaa
