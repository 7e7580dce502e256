/-
  No cell of these rows narrows 'for every input' (looked for: loops, veiled, ifaces, maps, wideKeys, modest, calm, conditions, laid).
  DERIVED. THE GIVEN ROWS OF THIS SEAT. 4 by the template 'for every input the law returns true; each argument reads behind the call as it read before'; 0 by the template 'total and deterministic' (their statements: YtbbpfeljcnkcdaaTotals.lean).
  GIVEN WITH THE SEED: the statements are not yours to turn. If you find one false, say at which input.
  Laid BY PROGRAM, IN A SANDBOX (cutbox-rows.mjs): the forced cells as the released guide's own fill.sh prints them over the translation a0d92454bb82c50a… (all of the seat's roots in one cut). By AI agents, Wed Nov 11 2026. No macro, syntax, notation, axiom, sorry.
-/
import Derived.Test.YtbbpfeljcnkcdaaChecked
import GoSem.Claim
import GoSem.ClaimJoined
import GoSem.ClaimMapViews
import Derived.JoinedTies
import Derived.KernelRfl
namespace Go.Proofs.Ytbbpfeljcnkcdaa
/- THE CELL 'sum', in the pinned program and in every row, IS THE sha256 OF THE DUMP (.gsa) THAT YtbbpfeljcnkcdaaProg.lean LOADS. Nothing in Lean hashes anything: it is a label: what it is worth is what the hold of that sum in a sandbox is worth. -/
noncomputable def Try.pinned : Pinned := { name := "ytbbpfeljcnkcdaa", sum := "a0d92454bb82c50a8af6f7ca5f0af18dd359d37069d5f7e9e894890b2bc19f36", checked := Try.checked }
namespace Rows
def none {H : Type} : Left H := { results := [], args := [] }

/-- 'plimsolllaw07.ClassHas': WHATEVER THE INPUT: true; the input reads as it did. -/
def classHasSpec : ChangeSpec := { name := "classHas", fn := fun _ => fun
  | [d1, d2, d3] => { results := [.lit (.bool true)], args := [d1, d2, d3] }
  | _ => none }
def classHasRow : OpenClaim := { program := "ytbbpfeljcnkcdaa", sum := "a0d92454bb82c50a8af6f7ca5f0af18dd359d37069d5f7e9e894890b2bc19f36", func := "plimsoll/plimsolllaw07.ClassHas", spec := "classHas", apart := false }
def ClassHasSaid : Prop := classHasRow.holds Try.pinned (OpenSpec.ofChange classHasSpec)

/-- ITS FALSE NEIGHBOUR: 'it returns false'. Refute it at one input. -/
def classHasWrong : ChangeSpec := { name := "classHas", fn := fun _ => fun
  | [d1, d2, d3] => { results := [.lit (.bool false)], args := [d1, d2, d3] }
  | _ => none }
def ClassHasWrongFalsely : Prop := classHasRow.holds Try.pinned (OpenSpec.ofChange classHasWrong)

/-- 'plimsolllaw07.ClassLocals': WHATEVER THE INPUT: true; the input reads as it did. -/
def classLocalsSpec : ChangeSpec := { name := "classLocals", fn := fun _ => fun
  | [d1, d2] => { results := [.lit (.bool true)], args := [d1, d2] }
  | _ => none }
def classLocalsRow : OpenClaim := { program := "ytbbpfeljcnkcdaa", sum := "a0d92454bb82c50a8af6f7ca5f0af18dd359d37069d5f7e9e894890b2bc19f36", func := "plimsoll/plimsolllaw07.ClassLocals", spec := "classLocals", apart := false }
def ClassLocalsSaid : Prop := classLocalsRow.holds Try.pinned (OpenSpec.ofChange classLocalsSpec)

/-- ITS FALSE NEIGHBOUR: 'it returns false'. Refute it at one input. -/
def classLocalsWrong : ChangeSpec := { name := "classLocals", fn := fun _ => fun
  | [d1, d2] => { results := [.lit (.bool false)], args := [d1, d2] }
  | _ => none }
def ClassLocalsWrongFalsely : Prop := classLocalsRow.holds Try.pinned (OpenSpec.ofChange classLocalsWrong)

/-- 'plimsolllaw07.ClassAbove': WHATEVER THE INPUT: true; the input reads as it did. -/
def classAboveSpec : ChangeSpec := { name := "classAbove", fn := fun _ => fun
  | [d1, d2] => { results := [.lit (.bool true)], args := [d1, d2] }
  | _ => none }
def classAboveRow : OpenClaim := { program := "ytbbpfeljcnkcdaa", sum := "a0d92454bb82c50a8af6f7ca5f0af18dd359d37069d5f7e9e894890b2bc19f36", func := "plimsoll/plimsolllaw07.ClassAbove", spec := "classAbove", apart := false }
def ClassAboveSaid : Prop := classAboveRow.holds Try.pinned (OpenSpec.ofChange classAboveSpec)

/-- ITS FALSE NEIGHBOUR: 'it returns false'. Refute it at one input. -/
def classAboveWrong : ChangeSpec := { name := "classAbove", fn := fun _ => fun
  | [d1, d2] => { results := [.lit (.bool false)], args := [d1, d2] }
  | _ => none }
def ClassAboveWrongFalsely : Prop := classAboveRow.holds Try.pinned (OpenSpec.ofChange classAboveWrong)

/-- 'plimsolllaw07.ClassTree': WHATEVER THE INPUT: true; the input reads as it did. -/
def classTreeSpec : ChangeSpec := { name := "classTree", fn := fun _ => fun
  | [d1, d2, d3, d4] => { results := [.lit (.bool true)], args := [d1, d2, d3, d4] }
  | _ => none }
def classTreeRow : OpenClaim := { program := "ytbbpfeljcnkcdaa", sum := "a0d92454bb82c50a8af6f7ca5f0af18dd359d37069d5f7e9e894890b2bc19f36", func := "plimsoll/plimsolllaw07.ClassTree", spec := "classTree", apart := false }
def ClassTreeSaid : Prop := classTreeRow.holds Try.pinned (OpenSpec.ofChange classTreeSpec)

/-- ITS FALSE NEIGHBOUR: 'it returns false'. Refute it at one input. -/
def classTreeWrong : ChangeSpec := { name := "classTree", fn := fun _ => fun
  | [d1, d2, d3, d4] => { results := [.lit (.bool false)], args := [d1, d2, d3, d4] }
  | _ => none }
def ClassTreeWrongFalsely : Prop := classTreeRow.holds Try.pinned (OpenSpec.ofChange classTreeWrong)

/- THE SECOND FORM. 'bulk': how many values and letters a reading holds, each counted each time it is reached (what is shared counts as often as it is met; a slice's spare places count too). A statement '..UptoSaid' is the law's where the arguments, and the package variables that the reading takes, are together of bulk at most 1048576: NARROWER than '..Said'. Prove '..Said' where nothing that the law and all that it calls make is longer than what came in: it says more and counts as full. Else prove '..UptoSaid'. A law counts once. -/
mutual
def uptoBulk {H : Type} : DataW H → Nat
  | .lit (.string bytes) => bytes.length + 1
  | .lit _ => 1
  | .nil => 1
  | .ptr d => uptoBulk d + 1
  | .slice elems spare => uptoBulkAll elems + uptoBulkAll spare + 1
  | .agg parts => uptoBulkAll parts + 1
  | .iface _ d => uptoBulk d + 1
  | .map entries => uptoBulkEntries entries + 1
  | .held _ => 1
def uptoBulkAll {H : Type} : List (DataW H) → Nat
  | [] => 0
  | d :: r => uptoBulk d + uptoBulkAll r
def uptoBulkEntries {H : Type} : List (Lit × DataW H) → Nat
  | [] => 0
  | x :: r => uptoBulkEntry x + uptoBulkEntries r
def uptoBulkEntry {H : Type} : Lit × DataW H → Nat
  | (.string bytes, d) => bytes.length + uptoBulk d + 1
  | (_, d) => uptoBulk d + 1
 end
def uptoSmall : (H : Type) → List (DataW H) → Bool := fun _ ds => decide (uptoBulkAll ds ≤ 1048576)
def OpenSpec.upto (s : _root_.Go.ChangeSpec) : _root_.Go.OpenSpec := { _root_.Go.OpenSpec.ofChange s with cond := some uptoSmall }

/-- 'plimsolllaw07.ClassHas', WHERE WHAT IT READS IS OF BULK AT MOST 1048576: true; the input reads as it did. -/
def classHasUptoRow : OpenClaim := { program := "ytbbpfeljcnkcdaa", sum := "a0d92454bb82c50a8af6f7ca5f0af18dd359d37069d5f7e9e894890b2bc19f36", func := "plimsoll/plimsolllaw07.ClassHas", spec := "classHas", apart := false, narrowed := true }
def ClassHasUptoSaid : Prop := classHasUptoRow.holds Try.pinned (OpenSpec.upto classHasSpec)

/-- 'plimsolllaw07.ClassLocals', WHERE WHAT IT READS IS OF BULK AT MOST 1048576: true; the input reads as it did. -/
def classLocalsUptoRow : OpenClaim := { program := "ytbbpfeljcnkcdaa", sum := "a0d92454bb82c50a8af6f7ca5f0af18dd359d37069d5f7e9e894890b2bc19f36", func := "plimsoll/plimsolllaw07.ClassLocals", spec := "classLocals", apart := false, narrowed := true }
def ClassLocalsUptoSaid : Prop := classLocalsUptoRow.holds Try.pinned (OpenSpec.upto classLocalsSpec)

/-- 'plimsolllaw07.ClassAbove', WHERE WHAT IT READS IS OF BULK AT MOST 1048576: true; the input reads as it did. -/
def classAboveUptoRow : OpenClaim := { program := "ytbbpfeljcnkcdaa", sum := "a0d92454bb82c50a8af6f7ca5f0af18dd359d37069d5f7e9e894890b2bc19f36", func := "plimsoll/plimsolllaw07.ClassAbove", spec := "classAbove", apart := false, narrowed := true }
def ClassAboveUptoSaid : Prop := classAboveUptoRow.holds Try.pinned (OpenSpec.upto classAboveSpec)

/-- 'plimsolllaw07.ClassTree', WHERE WHAT IT READS IS OF BULK AT MOST 1048576: true; the input reads as it did. -/
def classTreeUptoRow : OpenClaim := { program := "ytbbpfeljcnkcdaa", sum := "a0d92454bb82c50a8af6f7ca5f0af18dd359d37069d5f7e9e894890b2bc19f36", func := "plimsoll/plimsolllaw07.ClassTree", spec := "classTree", apart := false, narrowed := true }
def ClassTreeUptoSaid : Prop := classTreeUptoRow.holds Try.pinned (OpenSpec.upto classTreeSpec)

end Rows
end Go.Proofs.Ytbbpfeljcnkcdaa
