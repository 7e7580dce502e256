/-
  No cell of these rows narrows 'for every input' (looked for: loops, veiled, ifaces, maps, wideKeys, modest, calm, conditions, laid).
  DERIVED. THE GIVEN ROWS OF THIS SEAT. 4 by the template 'for every input the law returns true; each argument reads behind the call as it read before'; 0 by the template 'total and deterministic' (their statements: YtoiahldbahdaoaaTotals.lean).
  GIVEN WITH THE SEED: the statements are not yours to turn. If you find one false, say at which input.
  Laid BY PROGRAM, IN A SANDBOX (cutbox-rows.mjs): the forced cells as the released guide's own fill.sh prints them over the translation b0f5013305fb5193… (all of the seat's roots in one cut). By AI agents, Wed Nov 11 2026. No macro, syntax, notation, axiom, sorry.
-/
import Derived.Test.YtoiahldbahdaoaaChecked
import GoSem.Claim
import GoSem.ClaimJoined
import GoSem.ClaimMapViews
import Derived.JoinedTies
import Derived.KernelRfl
namespace Go.Proofs.Ytoiahldbahdaoaa
/- THE CELL 'sum', in the pinned program and in every row, IS THE sha256 OF THE DUMP (.gsa) THAT YtoiahldbahdaoaaProg.lean LOADS. Nothing in Lean hashes anything: it is a label: what it is worth is what the hold of that sum in a sandbox is worth. -/
noncomputable def Try.pinned : Pinned := { name := "ytoiahldbahdaoaa", sum := "b0f5013305fb519303ce84e436447ac8971f1a610154d89cd61d27a9f995fb6c", checked := Try.checked }
namespace Rows
def none {H : Type} : Left H := { results := [], args := [] }

/-- 'plimsolllaw08.FlowSteps': WHATEVER THE INPUT: true; the input reads as it did. -/
def flowStepsSpec : ChangeSpec := { name := "flowSteps", fn := fun _ => fun
  | [d1, d2, d3, d4] => { results := [.lit (.bool true)], args := [d1, d2, d3, d4] }
  | _ => none }
def flowStepsRow : OpenClaim := { program := "ytoiahldbahdaoaa", sum := "b0f5013305fb519303ce84e436447ac8971f1a610154d89cd61d27a9f995fb6c", func := "plimsoll/plimsolllaw08.FlowSteps", spec := "flowSteps", unfollowed := true, recurses := true, apart := false }
def FlowStepsSaid : Prop := flowStepsRow.holds Try.pinned (OpenSpec.ofChange flowStepsSpec)

/-- ITS FALSE NEIGHBOUR: 'it returns false'. Refute it at one input. -/
def flowStepsWrong : ChangeSpec := { name := "flowSteps", fn := fun _ => fun
  | [d1, d2, d3, d4] => { results := [.lit (.bool false)], args := [d1, d2, d3, d4] }
  | _ => none }
def FlowStepsWrongFalsely : Prop := flowStepsRow.holds Try.pinned (OpenSpec.ofChange flowStepsWrong)

/-- 'plimsolllaw08.FlowTakes': WHATEVER THE INPUT: true; the input reads as it did. -/
def flowTakesSpec : ChangeSpec := { name := "flowTakes", fn := fun _ => fun
  | [d1, d2, d3, d4] => { results := [.lit (.bool true)], args := [d1, d2, d3, d4] }
  | _ => none }
def flowTakesRow : OpenClaim := { program := "ytoiahldbahdaoaa", sum := "b0f5013305fb519303ce84e436447ac8971f1a610154d89cd61d27a9f995fb6c", func := "plimsoll/plimsolllaw08.FlowTakes", spec := "flowTakes", unfollowed := true, recurses := true, apart := false }
def FlowTakesSaid : Prop := flowTakesRow.holds Try.pinned (OpenSpec.ofChange flowTakesSpec)

/-- ITS FALSE NEIGHBOUR: 'it returns false'. Refute it at one input. -/
def flowTakesWrong : ChangeSpec := { name := "flowTakes", fn := fun _ => fun
  | [d1, d2, d3, d4] => { results := [.lit (.bool false)], args := [d1, d2, d3, d4] }
  | _ => none }
def FlowTakesWrongFalsely : Prop := flowTakesRow.holds Try.pinned (OpenSpec.ofChange flowTakesWrong)

/-- 'plimsolllaw08.FlowBelow': WHATEVER THE INPUT: true; the input reads as it did. -/
def flowBelowSpec : ChangeSpec := { name := "flowBelow", fn := fun _ => fun
  | [d1, d2, d3, d4, d5] => { results := [.lit (.bool true)], args := [d1, d2, d3, d4, d5] }
  | _ => none }
def flowBelowRow : OpenClaim := { program := "ytoiahldbahdaoaa", sum := "b0f5013305fb519303ce84e436447ac8971f1a610154d89cd61d27a9f995fb6c", func := "plimsoll/plimsolllaw08.FlowBelow", spec := "flowBelow", unfollowed := true, recurses := true, apart := false }
def FlowBelowSaid : Prop := flowBelowRow.holds Try.pinned (OpenSpec.ofChange flowBelowSpec)

/-- ITS FALSE NEIGHBOUR: 'it returns false'. Refute it at one input. -/
def flowBelowWrong : ChangeSpec := { name := "flowBelow", fn := fun _ => fun
  | [d1, d2, d3, d4, d5] => { results := [.lit (.bool false)], args := [d1, d2, d3, d4, d5] }
  | _ => none }
def FlowBelowWrongFalsely : Prop := flowBelowRow.holds Try.pinned (OpenSpec.ofChange flowBelowWrong)

/-- 'plimsolllaw08.FlowFits': WHATEVER THE INPUT: true; the input reads as it did. -/
def flowFitsSpec : ChangeSpec := { name := "flowFits", fn := fun _ => fun
  | [d1, d2, d3, d4, d5] => { results := [.lit (.bool true)], args := [d1, d2, d3, d4, d5] }
  | _ => none }
def flowFitsRow : OpenClaim := { program := "ytoiahldbahdaoaa", sum := "b0f5013305fb519303ce84e436447ac8971f1a610154d89cd61d27a9f995fb6c", func := "plimsoll/plimsolllaw08.FlowFits", spec := "flowFits", unfollowed := true, recurses := true, apart := false }
def FlowFitsSaid : Prop := flowFitsRow.holds Try.pinned (OpenSpec.ofChange flowFitsSpec)

/-- ITS FALSE NEIGHBOUR: 'it returns false'. Refute it at one input. -/
def flowFitsWrong : ChangeSpec := { name := "flowFits", fn := fun _ => fun
  | [d1, d2, d3, d4, d5] => { results := [.lit (.bool false)], args := [d1, d2, d3, d4, d5] }
  | _ => none }
def FlowFitsWrongFalsely : Prop := flowFitsRow.holds Try.pinned (OpenSpec.ofChange flowFitsWrong)

/- THE SECOND FORM. 'bulk': how many values and letters a reading holds, each counted each time it is reached (what is shared counts as often as it is met; a slice's spare places count too). A statement '..UptoSaid' is the law's where the arguments, and the package variables that the reading takes, are together of bulk at most 1048576: NARROWER than '..Said'. Prove '..Said' where nothing that the law and all that it calls make is longer than what came in: it says more and counts as full. Else prove '..UptoSaid'. A law counts once. -/
mutual
def uptoBulk {H : Type} : DataW H → Nat
  | .lit (.string bytes) => bytes.length + 1
  | .lit _ => 1
  | .nil => 1
  | .ptr d => uptoBulk d + 1
  | .slice elems spare => uptoBulkAll elems + uptoBulkAll spare + 1
  | .agg parts => uptoBulkAll parts + 1
  | .iface _ d => uptoBulk d + 1
  | .map entries => uptoBulkEntries entries + 1
  | .held _ => 1
def uptoBulkAll {H : Type} : List (DataW H) → Nat
  | [] => 0
  | d :: r => uptoBulk d + uptoBulkAll r
def uptoBulkEntries {H : Type} : List (Lit × DataW H) → Nat
  | [] => 0
  | x :: r => uptoBulkEntry x + uptoBulkEntries r
def uptoBulkEntry {H : Type} : Lit × DataW H → Nat
  | (.string bytes, d) => bytes.length + uptoBulk d + 1
  | (_, d) => uptoBulk d + 1
 end
def uptoSmall : (H : Type) → List (DataW H) → Bool := fun _ ds => decide (uptoBulkAll ds ≤ 1048576)
def OpenSpec.upto (s : _root_.Go.ChangeSpec) : _root_.Go.OpenSpec := { _root_.Go.OpenSpec.ofChange s with cond := some uptoSmall }

/-- 'plimsolllaw08.FlowSteps', WHERE WHAT IT READS IS OF BULK AT MOST 1048576: true; the input reads as it did. -/
def flowStepsUptoRow : OpenClaim := { program := "ytoiahldbahdaoaa", sum := "b0f5013305fb519303ce84e436447ac8971f1a610154d89cd61d27a9f995fb6c", func := "plimsoll/plimsolllaw08.FlowSteps", spec := "flowSteps", unfollowed := true, recurses := true, apart := false, narrowed := true }
def FlowStepsUptoSaid : Prop := flowStepsUptoRow.holds Try.pinned (OpenSpec.upto flowStepsSpec)

/-- 'plimsolllaw08.FlowTakes', WHERE WHAT IT READS IS OF BULK AT MOST 1048576: true; the input reads as it did. -/
def flowTakesUptoRow : OpenClaim := { program := "ytoiahldbahdaoaa", sum := "b0f5013305fb519303ce84e436447ac8971f1a610154d89cd61d27a9f995fb6c", func := "plimsoll/plimsolllaw08.FlowTakes", spec := "flowTakes", unfollowed := true, recurses := true, apart := false, narrowed := true }
def FlowTakesUptoSaid : Prop := flowTakesUptoRow.holds Try.pinned (OpenSpec.upto flowTakesSpec)

/-- 'plimsolllaw08.FlowBelow', WHERE WHAT IT READS IS OF BULK AT MOST 1048576: true; the input reads as it did. -/
def flowBelowUptoRow : OpenClaim := { program := "ytoiahldbahdaoaa", sum := "b0f5013305fb519303ce84e436447ac8971f1a610154d89cd61d27a9f995fb6c", func := "plimsoll/plimsolllaw08.FlowBelow", spec := "flowBelow", unfollowed := true, recurses := true, apart := false, narrowed := true }
def FlowBelowUptoSaid : Prop := flowBelowUptoRow.holds Try.pinned (OpenSpec.upto flowBelowSpec)

/-- 'plimsolllaw08.FlowFits', WHERE WHAT IT READS IS OF BULK AT MOST 1048576: true; the input reads as it did. -/
def flowFitsUptoRow : OpenClaim := { program := "ytoiahldbahdaoaa", sum := "b0f5013305fb519303ce84e436447ac8971f1a610154d89cd61d27a9f995fb6c", func := "plimsoll/plimsolllaw08.FlowFits", spec := "flowFits", unfollowed := true, recurses := true, apart := false, narrowed := true }
def FlowFitsUptoSaid : Prop := flowFitsUptoRow.holds Try.pinned (OpenSpec.upto flowFitsSpec)

end Rows
end Go.Proofs.Ytoiahldbahdaoaa
