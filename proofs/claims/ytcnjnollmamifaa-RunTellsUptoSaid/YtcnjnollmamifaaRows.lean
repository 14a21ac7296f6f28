/-
  No cell of these rows narrows 'for every input' (looked for: loops, veiled, ifaces, maps, wideKeys, modest, calm, conditions, laid).
  DERIVED. THE GIVEN ROWS OF THIS SEAT. 3 by the template 'for every input the law returns true; each argument reads behind the call as it read before'; 0 by the template 'total and deterministic' (their statements: YtcnjnollmamifaaTotals.lean).
  GIVEN WITH THE SEED: the statements are not yours to turn. If you find one false, say at which input.
  Laid BY PROGRAM, IN A SANDBOX (cutbox-rows.mjs): the forced cells as the released guide's own fill.sh prints them over the translation 2d8ee2ad001a9198… (all of the seat's roots in one cut). By AI agents, Wed Nov 11 2026. No macro, syntax, notation, axiom, sorry.
-/
import Derived.Test.YtcnjnollmamifaaChecked
import GoSem.Claim
import GoSem.ClaimJoined
import GoSem.ClaimMapViews
import Derived.JoinedTies
import Derived.KernelRfl
namespace Go.Proofs.Ytcnjnollmamifaa
/- THE CELL 'sum', in the pinned program and in every row, IS THE sha256 OF THE DUMP (.gsa) THAT YtcnjnollmamifaaProg.lean LOADS. Nothing in Lean hashes anything: it is a label: what it is worth is what the hold of that sum in a sandbox is worth. -/
noncomputable def Try.pinned : Pinned := { name := "ytcnjnollmamifaa", sum := "2d8ee2ad001a919824b9bfe51f9e05f22f5c63ac7d04e317fe4591e37dd7057e", checked := Try.checked }
namespace Rows
def none {H : Type} : Left H := { results := [], args := [] }

/-- 'eyewitnesslaw22.RunTells': WHATEVER THE INPUT: true; the input reads as it did. -/
def runTellsSpec : ChangeSpec := { name := "runTells", fn := fun _ => fun
  | [d] => { results := [.lit (.bool true)], args := [d] }
  | _ => none }
def runTellsRow : OpenClaim := { program := "ytcnjnollmamifaa", sum := "2d8ee2ad001a919824b9bfe51f9e05f22f5c63ac7d04e317fe4591e37dd7057e", func := "eyewitness/eyewitnesslaw22.RunTells", spec := "runTells", apart := false }
def RunTellsSaid : Prop := runTellsRow.holds Try.pinned (OpenSpec.ofChange runTellsSpec)

/-- ITS FALSE NEIGHBOUR: 'it returns false'. Refute it at one input. -/
def runTellsWrong : ChangeSpec := { name := "runTells", fn := fun _ => fun
  | [d] => { results := [.lit (.bool false)], args := [d] }
  | _ => none }
def RunTellsWrongFalsely : Prop := runTellsRow.holds Try.pinned (OpenSpec.ofChange runTellsWrong)

/-- 'eyewitnesslaw22.RunFewer': WHATEVER THE INPUT: true; the input reads as it did. -/
def runFewerSpec : ChangeSpec := { name := "runFewer", fn := fun _ => fun
  | [d1, d2] => { results := [.lit (.bool true)], args := [d1, d2] }
  | _ => none }
def runFewerRow : OpenClaim := { program := "ytcnjnollmamifaa", sum := "2d8ee2ad001a919824b9bfe51f9e05f22f5c63ac7d04e317fe4591e37dd7057e", func := "eyewitness/eyewitnesslaw22.RunFewer", spec := "runFewer", apart := false }
def RunFewerSaid : Prop := runFewerRow.holds Try.pinned (OpenSpec.ofChange runFewerSpec)

/-- ITS FALSE NEIGHBOUR: 'it returns false'. Refute it at one input. -/
def runFewerWrong : ChangeSpec := { name := "runFewer", fn := fun _ => fun
  | [d1, d2] => { results := [.lit (.bool false)], args := [d1, d2] }
  | _ => none }
def RunFewerWrongFalsely : Prop := runFewerRow.holds Try.pinned (OpenSpec.ofChange runFewerWrong)

/-- 'eyewitnesslaw22.RunSwaps': WHATEVER THE INPUT: true; the input reads as it did. -/
def runSwapsSpec : ChangeSpec := { name := "runSwaps", fn := fun _ => fun
  | [d1, d2] => { results := [.lit (.bool true)], args := [d1, d2] }
  | _ => none }
def runSwapsRow : OpenClaim := { program := "ytcnjnollmamifaa", sum := "2d8ee2ad001a919824b9bfe51f9e05f22f5c63ac7d04e317fe4591e37dd7057e", func := "eyewitness/eyewitnesslaw22.RunSwaps", spec := "runSwaps", apart := false }
def RunSwapsSaid : Prop := runSwapsRow.holds Try.pinned (OpenSpec.ofChange runSwapsSpec)

/-- ITS FALSE NEIGHBOUR: 'it returns false'. Refute it at one input. -/
def runSwapsWrong : ChangeSpec := { name := "runSwaps", fn := fun _ => fun
  | [d1, d2] => { results := [.lit (.bool false)], args := [d1, d2] }
  | _ => none }
def RunSwapsWrongFalsely : Prop := runSwapsRow.holds Try.pinned (OpenSpec.ofChange runSwapsWrong)

/- THE SECOND FORM. 'bulk': how many values and letters a reading holds, each counted each time it is reached (what is shared counts as often as it is met; a slice's spare places count too). A statement '..UptoSaid' is the law's where the arguments, and the package variables that the reading takes, are together of bulk at most 1048576: NARROWER than '..Said'. Prove '..Said' where nothing that the law and all that it calls make is longer than what came in: it says more and counts as full. Else prove '..UptoSaid'. A law counts once. -/
mutual
def uptoBulk {H : Type} : DataW H → Nat
  | .lit (.string bytes) => bytes.length + 1
  | .lit _ => 1
  | .nil => 1
  | .ptr d => uptoBulk d + 1
  | .slice elems spare => uptoBulkAll elems + uptoBulkAll spare + 1
  | .agg parts => uptoBulkAll parts + 1
  | .iface _ d => uptoBulk d + 1
  | .map entries => uptoBulkEntries entries + 1
  | .held _ => 1
def uptoBulkAll {H : Type} : List (DataW H) → Nat
  | [] => 0
  | d :: r => uptoBulk d + uptoBulkAll r
def uptoBulkEntries {H : Type} : List (Lit × DataW H) → Nat
  | [] => 0
  | x :: r => uptoBulkEntry x + uptoBulkEntries r
def uptoBulkEntry {H : Type} : Lit × DataW H → Nat
  | (.string bytes, d) => bytes.length + uptoBulk d + 1
  | (_, d) => uptoBulk d + 1
 end
def uptoSmall : (H : Type) → List (DataW H) → Bool := fun _ ds => decide (uptoBulkAll ds ≤ 1048576)
def OpenSpec.upto (s : _root_.Go.ChangeSpec) : _root_.Go.OpenSpec := { _root_.Go.OpenSpec.ofChange s with cond := some uptoSmall }

/-- 'eyewitnesslaw22.RunTells', WHERE WHAT IT READS IS OF BULK AT MOST 1048576: true; the input reads as it did. -/
def runTellsUptoRow : OpenClaim := { program := "ytcnjnollmamifaa", sum := "2d8ee2ad001a919824b9bfe51f9e05f22f5c63ac7d04e317fe4591e37dd7057e", func := "eyewitness/eyewitnesslaw22.RunTells", spec := "runTells", apart := false, narrowed := true }
def RunTellsUptoSaid : Prop := runTellsUptoRow.holds Try.pinned (OpenSpec.upto runTellsSpec)

/-- 'eyewitnesslaw22.RunFewer', WHERE WHAT IT READS IS OF BULK AT MOST 1048576: true; the input reads as it did. -/
def runFewerUptoRow : OpenClaim := { program := "ytcnjnollmamifaa", sum := "2d8ee2ad001a919824b9bfe51f9e05f22f5c63ac7d04e317fe4591e37dd7057e", func := "eyewitness/eyewitnesslaw22.RunFewer", spec := "runFewer", apart := false, narrowed := true }
def RunFewerUptoSaid : Prop := runFewerUptoRow.holds Try.pinned (OpenSpec.upto runFewerSpec)

/-- 'eyewitnesslaw22.RunSwaps', WHERE WHAT IT READS IS OF BULK AT MOST 1048576: true; the input reads as it did. -/
def runSwapsUptoRow : OpenClaim := { program := "ytcnjnollmamifaa", sum := "2d8ee2ad001a919824b9bfe51f9e05f22f5c63ac7d04e317fe4591e37dd7057e", func := "eyewitness/eyewitnesslaw22.RunSwaps", spec := "runSwaps", apart := false, narrowed := true }
def RunSwapsUptoSaid : Prop := runSwapsUptoRow.holds Try.pinned (OpenSpec.upto runSwapsSpec)

end Rows
end Go.Proofs.Ytcnjnollmamifaa
