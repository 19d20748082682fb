/-
  No cell of these rows narrows 'for every input' (looked for: loops, veiled, ifaces, maps, wideKeys, modest, calm, conditions, laid).
  DERIVED. THE GIVEN ROWS OF THIS SEAT. 5 by the template 'for every input the law returns true; each argument reads behind the call as it read before'; 0 by the template 'total and deterministic' (their statements: YtkldepflfomegaaTotals.lean).
  GIVEN WITH THE SEED: the statements are not yours to turn. If you find one false, say at which input.
  Laid BY PROGRAM, IN A SANDBOX (cutbox-rows.mjs): the forced cells as the released guide's own fill.sh prints them over the translation 2452cc8571459fbf… (all of the seat's roots in one cut). By AI agents, Wed Nov 11 2026. No macro, syntax, notation, axiom, sorry.
-/
import Derived.Test.YtkldepflfomegaaChecked
import GoSem.Claim
import GoSem.ClaimJoined
import GoSem.ClaimMapViews
import Derived.JoinedTies
import Derived.KernelRfl
namespace Go.Proofs.Ytkldepflfomegaa
/- THE CELL 'sum', in the pinned program and in every row, IS THE sha256 OF THE DUMP (.gsa) THAT YtkldepflfomegaaProg.lean LOADS. Nothing in Lean hashes anything: it is a label: what it is worth is what the hold of that sum in a sandbox is worth. -/
noncomputable def Try.pinned : Pinned := { name := "ytkldepflfomegaa", sum := "2452cc8571459fbf6b7a88b82cb6b28c862e74727ddff04952af1aa600f25ebb", checked := Try.checked }
namespace Rows
def none {H : Type} : Left H := { results := [], args := [] }

/-- 'attorneylaw09.LedgerDoes': WHATEVER THE INPUT: true; the input reads as it did. -/
def ledgerDoesSpec : ChangeSpec := { name := "ledgerDoes", fn := fun _ => fun
  | [d] => { results := [.lit (.bool true)], args := [d] }
  | _ => none }
def ledgerDoesRow : OpenClaim := { program := "ytkldepflfomegaa", sum := "2452cc8571459fbf6b7a88b82cb6b28c862e74727ddff04952af1aa600f25ebb", func := "attorney/attorneylaw09.LedgerDoes", spec := "ledgerDoes", plainKeys := false, apart := false }
def LedgerDoesSaid : Prop := ledgerDoesRow.holds Try.pinned (OpenSpec.ofChange ledgerDoesSpec)

/-- ITS FALSE NEIGHBOUR: 'it returns false'. Refute it at one input. -/
def ledgerDoesWrong : ChangeSpec := { name := "ledgerDoes", fn := fun _ => fun
  | [d] => { results := [.lit (.bool false)], args := [d] }
  | _ => none }
def LedgerDoesWrongFalsely : Prop := ledgerDoesRow.holds Try.pinned (OpenSpec.ofChange ledgerDoesWrong)

/-- 'attorneylaw09.LedgerTrue': WHATEVER THE INPUT: true; the input reads as it did. -/
def ledgerTrueSpec : ChangeSpec := { name := "ledgerTrue", fn := fun _ => fun
  | [d] => { results := [.lit (.bool true)], args := [d] }
  | _ => none }
def ledgerTrueRow : OpenClaim := { program := "ytkldepflfomegaa", sum := "2452cc8571459fbf6b7a88b82cb6b28c862e74727ddff04952af1aa600f25ebb", func := "attorney/attorneylaw09.LedgerTrue", spec := "ledgerTrue", plainKeys := false, apart := false }
def LedgerTrueSaid : Prop := ledgerTrueRow.holds Try.pinned (OpenSpec.ofChange ledgerTrueSpec)

/-- ITS FALSE NEIGHBOUR: 'it returns false'. Refute it at one input. -/
def ledgerTrueWrong : ChangeSpec := { name := "ledgerTrue", fn := fun _ => fun
  | [d] => { results := [.lit (.bool false)], args := [d] }
  | _ => none }
def LedgerTrueWrongFalsely : Prop := ledgerTrueRow.holds Try.pinned (OpenSpec.ofChange ledgerTrueWrong)

/-- 'attorneylaw09.LedgerOrder': WHATEVER THE INPUT: true; the input reads as it did. -/
def ledgerOrderSpec : ChangeSpec := { name := "ledgerOrder", fn := fun _ => fun
  | [d1, d2, d3] => { results := [.lit (.bool true)], args := [d1, d2, d3] }
  | _ => none }
def ledgerOrderRow : OpenClaim := { program := "ytkldepflfomegaa", sum := "2452cc8571459fbf6b7a88b82cb6b28c862e74727ddff04952af1aa600f25ebb", func := "attorney/attorneylaw09.LedgerOrder", spec := "ledgerOrder", plainKeys := false, apart := false }
def LedgerOrderSaid : Prop := ledgerOrderRow.holds Try.pinned (OpenSpec.ofChange ledgerOrderSpec)

/-- ITS FALSE NEIGHBOUR: 'it returns false'. Refute it at one input. -/
def ledgerOrderWrong : ChangeSpec := { name := "ledgerOrder", fn := fun _ => fun
  | [d1, d2, d3] => { results := [.lit (.bool false)], args := [d1, d2, d3] }
  | _ => none }
def LedgerOrderWrongFalsely : Prop := ledgerOrderRow.holds Try.pinned (OpenSpec.ofChange ledgerOrderWrong)

/-- 'attorneylaw09.LedgerMakers': WHATEVER THE INPUT: true; the input reads as it did. -/
def ledgerMakersSpec : ChangeSpec := { name := "ledgerMakers", fn := fun _ => fun
  | [d1, d2] => { results := [.lit (.bool true)], args := [d1, d2] }
  | _ => none }
def ledgerMakersRow : OpenClaim := { program := "ytkldepflfomegaa", sum := "2452cc8571459fbf6b7a88b82cb6b28c862e74727ddff04952af1aa600f25ebb", func := "attorney/attorneylaw09.LedgerMakers", spec := "ledgerMakers", plainKeys := false, apart := false }
def LedgerMakersSaid : Prop := ledgerMakersRow.holds Try.pinned (OpenSpec.ofChange ledgerMakersSpec)

/-- ITS FALSE NEIGHBOUR: 'it returns false'. Refute it at one input. -/
def ledgerMakersWrong : ChangeSpec := { name := "ledgerMakers", fn := fun _ => fun
  | [d1, d2] => { results := [.lit (.bool false)], args := [d1, d2] }
  | _ => none }
def LedgerMakersWrongFalsely : Prop := ledgerMakersRow.holds Try.pinned (OpenSpec.ofChange ledgerMakersWrong)

/-- 'attorneylaw09.LedgerSteals': WHATEVER THE INPUT: true; the input reads as it did. -/
def ledgerStealsSpec : ChangeSpec := { name := "ledgerSteals", fn := fun _ => fun
  | [d1, d2] => { results := [.lit (.bool true)], args := [d1, d2] }
  | _ => none }
def ledgerStealsRow : OpenClaim := { program := "ytkldepflfomegaa", sum := "2452cc8571459fbf6b7a88b82cb6b28c862e74727ddff04952af1aa600f25ebb", func := "attorney/attorneylaw09.LedgerSteals", spec := "ledgerSteals", plainKeys := false, apart := false }
def LedgerStealsSaid : Prop := ledgerStealsRow.holds Try.pinned (OpenSpec.ofChange ledgerStealsSpec)

/-- ITS FALSE NEIGHBOUR: 'it returns false'. Refute it at one input. -/
def ledgerStealsWrong : ChangeSpec := { name := "ledgerSteals", fn := fun _ => fun
  | [d1, d2] => { results := [.lit (.bool false)], args := [d1, d2] }
  | _ => none }
def LedgerStealsWrongFalsely : Prop := ledgerStealsRow.holds Try.pinned (OpenSpec.ofChange ledgerStealsWrong)

/- THE SECOND FORM. 'bulk': how many values and letters a reading holds, each counted each time it is reached (what is shared counts as often as it is met; a slice's spare places count too). A statement '..UptoSaid' is the law's where the arguments, and the package variables that the reading takes, are together of bulk at most 1048576: NARROWER than '..Said'. Prove '..Said' where nothing that the law and all that it calls make is longer than what came in: it says more and counts as full. Else prove '..UptoSaid'. A law counts once. -/
mutual
def uptoBulk {H : Type} : DataW H → Nat
  | .lit (.string bytes) => bytes.length + 1
  | .lit _ => 1
  | .nil => 1
  | .ptr d => uptoBulk d + 1
  | .slice elems spare => uptoBulkAll elems + uptoBulkAll spare + 1
  | .agg parts => uptoBulkAll parts + 1
  | .iface _ d => uptoBulk d + 1
  | .map entries => uptoBulkEntries entries + 1
  | .held _ => 1
def uptoBulkAll {H : Type} : List (DataW H) → Nat
  | [] => 0
  | d :: r => uptoBulk d + uptoBulkAll r
def uptoBulkEntries {H : Type} : List (Lit × DataW H) → Nat
  | [] => 0
  | x :: r => uptoBulkEntry x + uptoBulkEntries r
def uptoBulkEntry {H : Type} : Lit × DataW H → Nat
  | (.string bytes, d) => bytes.length + uptoBulk d + 1
  | (_, d) => uptoBulk d + 1
 end
def uptoSmall : (H : Type) → List (DataW H) → Bool := fun _ ds => decide (uptoBulkAll ds ≤ 1048576)
def OpenSpec.upto (s : _root_.Go.ChangeSpec) : _root_.Go.OpenSpec := { _root_.Go.OpenSpec.ofChange s with cond := some uptoSmall }

/-- 'attorneylaw09.LedgerDoes', WHERE WHAT IT READS IS OF BULK AT MOST 1048576: true; the input reads as it did. -/
def ledgerDoesUptoRow : OpenClaim := { program := "ytkldepflfomegaa", sum := "2452cc8571459fbf6b7a88b82cb6b28c862e74727ddff04952af1aa600f25ebb", func := "attorney/attorneylaw09.LedgerDoes", spec := "ledgerDoes", plainKeys := false, apart := false, narrowed := true }
def LedgerDoesUptoSaid : Prop := ledgerDoesUptoRow.holds Try.pinned (OpenSpec.upto ledgerDoesSpec)

/-- 'attorneylaw09.LedgerTrue', WHERE WHAT IT READS IS OF BULK AT MOST 1048576: true; the input reads as it did. -/
def ledgerTrueUptoRow : OpenClaim := { program := "ytkldepflfomegaa", sum := "2452cc8571459fbf6b7a88b82cb6b28c862e74727ddff04952af1aa600f25ebb", func := "attorney/attorneylaw09.LedgerTrue", spec := "ledgerTrue", plainKeys := false, apart := false, narrowed := true }
def LedgerTrueUptoSaid : Prop := ledgerTrueUptoRow.holds Try.pinned (OpenSpec.upto ledgerTrueSpec)

/-- 'attorneylaw09.LedgerOrder', WHERE WHAT IT READS IS OF BULK AT MOST 1048576: true; the input reads as it did. -/
def ledgerOrderUptoRow : OpenClaim := { program := "ytkldepflfomegaa", sum := "2452cc8571459fbf6b7a88b82cb6b28c862e74727ddff04952af1aa600f25ebb", func := "attorney/attorneylaw09.LedgerOrder", spec := "ledgerOrder", plainKeys := false, apart := false, narrowed := true }
def LedgerOrderUptoSaid : Prop := ledgerOrderUptoRow.holds Try.pinned (OpenSpec.upto ledgerOrderSpec)

/-- 'attorneylaw09.LedgerMakers', WHERE WHAT IT READS IS OF BULK AT MOST 1048576: true; the input reads as it did. -/
def ledgerMakersUptoRow : OpenClaim := { program := "ytkldepflfomegaa", sum := "2452cc8571459fbf6b7a88b82cb6b28c862e74727ddff04952af1aa600f25ebb", func := "attorney/attorneylaw09.LedgerMakers", spec := "ledgerMakers", plainKeys := false, apart := false, narrowed := true }
def LedgerMakersUptoSaid : Prop := ledgerMakersUptoRow.holds Try.pinned (OpenSpec.upto ledgerMakersSpec)

/-- 'attorneylaw09.LedgerSteals', WHERE WHAT IT READS IS OF BULK AT MOST 1048576: true; the input reads as it did. -/
def ledgerStealsUptoRow : OpenClaim := { program := "ytkldepflfomegaa", sum := "2452cc8571459fbf6b7a88b82cb6b28c862e74727ddff04952af1aa600f25ebb", func := "attorney/attorneylaw09.LedgerSteals", spec := "ledgerSteals", plainKeys := false, apart := false, narrowed := true }
def LedgerStealsUptoSaid : Prop := ledgerStealsUptoRow.holds Try.pinned (OpenSpec.upto ledgerStealsSpec)

end Rows
end Go.Proofs.Ytkldepflfomegaa
