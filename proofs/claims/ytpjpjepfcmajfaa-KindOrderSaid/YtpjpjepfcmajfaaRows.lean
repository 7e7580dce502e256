/-
  No cell of these rows narrows 'for every input' (looked for: loops, veiled, ifaces, maps, wideKeys, modest, calm, conditions, laid).
  DERIVED. THE GIVEN ROWS OF THIS SEAT. 5 by the template 'for every input the law returns true; each argument reads behind the call as it read before'; 0 by the template 'total and deterministic' (their statements: YtpjpjepfcmajfaaTotals.lean).
  GIVEN WITH THE SEED: the statements are not yours to turn. If you find one false, say at which input.
  Laid BY PROGRAM, IN A SANDBOX (cutbox-rows.mjs): the forced cells as the released guide's own fill.sh prints them over the translation 7a3c5d2745573e03… (all of the seat's roots in one cut). By AI agents, Wed Nov 11 2026. No macro, syntax, notation, axiom, sorry.
-/
import Derived.Test.YtpjpjepfcmajfaaChecked
import GoSem.Claim
import GoSem.ClaimJoined
import GoSem.ClaimMapViews
import Derived.JoinedTies
import Derived.KernelRfl
namespace Go.Proofs.Ytpjpjepfcmajfaa
/- THE CELL 'sum', in the pinned program and in every row, IS THE sha256 OF THE DUMP (.gsa) THAT YtpjpjepfcmajfaaProg.lean LOADS. Nothing in Lean hashes anything: it is a label: what it is worth is what the hold of that sum in a sandbox is worth. -/
noncomputable def Try.pinned : Pinned := { name := "ytpjpjepfcmajfaa", sum := "7a3c5d2745573e0393e0add122efb5dee1a41814f7724811a1ba959b55333825", checked := Try.checked }
namespace Rows
def none {H : Type} : Left H := { results := [], args := [] }

/-- 'plimsolllaw03.KindTypes': WHATEVER THE INPUT: true; the input reads as it did. -/
def kindTypesSpec : ChangeSpec := { name := "kindTypes", fn := fun _ => fun
  | [d1, d2, d3, d4] => { results := [.lit (.bool true)], args := [d1, d2, d3, d4] }
  | _ => none }
def kindTypesRow : OpenClaim := { program := "ytpjpjepfcmajfaa", sum := "7a3c5d2745573e0393e0add122efb5dee1a41814f7724811a1ba959b55333825", func := "plimsoll/plimsolllaw03.KindTypes", spec := "kindTypes", apart := false }
def KindTypesSaid : Prop := kindTypesRow.holds Try.pinned (OpenSpec.ofChange kindTypesSpec)

/-- ITS FALSE NEIGHBOUR: 'it returns false'. Refute it at one input. -/
def kindTypesWrong : ChangeSpec := { name := "kindTypes", fn := fun _ => fun
  | [d1, d2, d3, d4] => { results := [.lit (.bool false)], args := [d1, d2, d3, d4] }
  | _ => none }
def KindTypesWrongFalsely : Prop := kindTypesRow.holds Try.pinned (OpenSpec.ofChange kindTypesWrong)

/-- 'plimsolllaw03.KindBelow': WHATEVER THE INPUT: true; the input reads as it did. -/
def kindBelowSpec : ChangeSpec := { name := "kindBelow", fn := fun _ => fun
  | [d1, d2, d3] => { results := [.lit (.bool true)], args := [d1, d2, d3] }
  | _ => none }
def kindBelowRow : OpenClaim := { program := "ytpjpjepfcmajfaa", sum := "7a3c5d2745573e0393e0add122efb5dee1a41814f7724811a1ba959b55333825", func := "plimsoll/plimsolllaw03.KindBelow", spec := "kindBelow", apart := false }
def KindBelowSaid : Prop := kindBelowRow.holds Try.pinned (OpenSpec.ofChange kindBelowSpec)

/-- ITS FALSE NEIGHBOUR: 'it returns false'. Refute it at one input. -/
def kindBelowWrong : ChangeSpec := { name := "kindBelow", fn := fun _ => fun
  | [d1, d2, d3] => { results := [.lit (.bool false)], args := [d1, d2, d3] }
  | _ => none }
def KindBelowWrongFalsely : Prop := kindBelowRow.holds Try.pinned (OpenSpec.ofChange kindBelowWrong)

/-- 'plimsolllaw03.KindLattice': WHATEVER THE INPUT: true; the input reads as it did. -/
def kindLatticeSpec : ChangeSpec := { name := "kindLattice", fn := fun _ => fun
  | [d1, d2, d3, d4] => { results := [.lit (.bool true)], args := [d1, d2, d3, d4] }
  | _ => none }
def kindLatticeRow : OpenClaim := { program := "ytpjpjepfcmajfaa", sum := "7a3c5d2745573e0393e0add122efb5dee1a41814f7724811a1ba959b55333825", func := "plimsoll/plimsolllaw03.KindLattice", spec := "kindLattice", apart := false }
def KindLatticeSaid : Prop := kindLatticeRow.holds Try.pinned (OpenSpec.ofChange kindLatticeSpec)

/-- ITS FALSE NEIGHBOUR: 'it returns false'. Refute it at one input. -/
def kindLatticeWrong : ChangeSpec := { name := "kindLattice", fn := fun _ => fun
  | [d1, d2, d3, d4] => { results := [.lit (.bool false)], args := [d1, d2, d3, d4] }
  | _ => none }
def KindLatticeWrongFalsely : Prop := kindLatticeRow.holds Try.pinned (OpenSpec.ofChange kindLatticeWrong)

/-- 'plimsolllaw03.KindTurned': WHATEVER THE INPUT: true; the input reads as it did. -/
def kindTurnedSpec : ChangeSpec := { name := "kindTurned", fn := fun _ => fun
  | [d1, d2, d3] => { results := [.lit (.bool true)], args := [d1, d2, d3] }
  | _ => none }
def kindTurnedRow : OpenClaim := { program := "ytpjpjepfcmajfaa", sum := "7a3c5d2745573e0393e0add122efb5dee1a41814f7724811a1ba959b55333825", func := "plimsoll/plimsolllaw03.KindTurned", spec := "kindTurned", apart := false }
def KindTurnedSaid : Prop := kindTurnedRow.holds Try.pinned (OpenSpec.ofChange kindTurnedSpec)

/-- ITS FALSE NEIGHBOUR: 'it returns false'. Refute it at one input. -/
def kindTurnedWrong : ChangeSpec := { name := "kindTurned", fn := fun _ => fun
  | [d1, d2, d3] => { results := [.lit (.bool false)], args := [d1, d2, d3] }
  | _ => none }
def KindTurnedWrongFalsely : Prop := kindTurnedRow.holds Try.pinned (OpenSpec.ofChange kindTurnedWrong)

/-- 'plimsolllaw03.KindOrder': WHATEVER THE INPUT: true; the input reads as it did. -/
def kindOrderSpec : ChangeSpec := { name := "kindOrder", fn := fun _ => fun
  | [d1, d2, d3, d4] => { results := [.lit (.bool true)], args := [d1, d2, d3, d4] }
  | _ => none }
def kindOrderRow : OpenClaim := { program := "ytpjpjepfcmajfaa", sum := "7a3c5d2745573e0393e0add122efb5dee1a41814f7724811a1ba959b55333825", func := "plimsoll/plimsolllaw03.KindOrder", spec := "kindOrder", apart := false }
def KindOrderSaid : Prop := kindOrderRow.holds Try.pinned (OpenSpec.ofChange kindOrderSpec)

/-- ITS FALSE NEIGHBOUR: 'it returns false'. Refute it at one input. -/
def kindOrderWrong : ChangeSpec := { name := "kindOrder", fn := fun _ => fun
  | [d1, d2, d3, d4] => { results := [.lit (.bool false)], args := [d1, d2, d3, d4] }
  | _ => none }
def KindOrderWrongFalsely : Prop := kindOrderRow.holds Try.pinned (OpenSpec.ofChange kindOrderWrong)

/- THE SECOND FORM. 'bulk': how many values and letters a reading holds, each counted each time it is reached (what is shared counts as often as it is met; a slice's spare places count too). A statement '..UptoSaid' is the law's where the arguments, and the package variables that the reading takes, are together of bulk at most 1048576: NARROWER than '..Said'. Prove '..Said' where nothing that the law and all that it calls make is longer than what came in: it says more and counts as full. Else prove '..UptoSaid'. A law counts once. -/
mutual
def uptoBulk {H : Type} : DataW H → Nat
  | .lit (.string bytes) => bytes.length + 1
  | .lit _ => 1
  | .nil => 1
  | .ptr d => uptoBulk d + 1
  | .slice elems spare => uptoBulkAll elems + uptoBulkAll spare + 1
  | .agg parts => uptoBulkAll parts + 1
  | .iface _ d => uptoBulk d + 1
  | .map entries => uptoBulkEntries entries + 1
  | .held _ => 1
def uptoBulkAll {H : Type} : List (DataW H) → Nat
  | [] => 0
  | d :: r => uptoBulk d + uptoBulkAll r
def uptoBulkEntries {H : Type} : List (Lit × DataW H) → Nat
  | [] => 0
  | x :: r => uptoBulkEntry x + uptoBulkEntries r
def uptoBulkEntry {H : Type} : Lit × DataW H → Nat
  | (.string bytes, d) => bytes.length + uptoBulk d + 1
  | (_, d) => uptoBulk d + 1
 end
def uptoSmall : (H : Type) → List (DataW H) → Bool := fun _ ds => decide (uptoBulkAll ds ≤ 1048576)
def OpenSpec.upto (s : _root_.Go.ChangeSpec) : _root_.Go.OpenSpec := { _root_.Go.OpenSpec.ofChange s with cond := some uptoSmall }

/-- 'plimsolllaw03.KindTypes', WHERE WHAT IT READS IS OF BULK AT MOST 1048576: true; the input reads as it did. -/
def kindTypesUptoRow : OpenClaim := { program := "ytpjpjepfcmajfaa", sum := "7a3c5d2745573e0393e0add122efb5dee1a41814f7724811a1ba959b55333825", func := "plimsoll/plimsolllaw03.KindTypes", spec := "kindTypes", apart := false, narrowed := true }
def KindTypesUptoSaid : Prop := kindTypesUptoRow.holds Try.pinned (OpenSpec.upto kindTypesSpec)

/-- 'plimsolllaw03.KindBelow', WHERE WHAT IT READS IS OF BULK AT MOST 1048576: true; the input reads as it did. -/
def kindBelowUptoRow : OpenClaim := { program := "ytpjpjepfcmajfaa", sum := "7a3c5d2745573e0393e0add122efb5dee1a41814f7724811a1ba959b55333825", func := "plimsoll/plimsolllaw03.KindBelow", spec := "kindBelow", apart := false, narrowed := true }
def KindBelowUptoSaid : Prop := kindBelowUptoRow.holds Try.pinned (OpenSpec.upto kindBelowSpec)

/-- 'plimsolllaw03.KindLattice', WHERE WHAT IT READS IS OF BULK AT MOST 1048576: true; the input reads as it did. -/
def kindLatticeUptoRow : OpenClaim := { program := "ytpjpjepfcmajfaa", sum := "7a3c5d2745573e0393e0add122efb5dee1a41814f7724811a1ba959b55333825", func := "plimsoll/plimsolllaw03.KindLattice", spec := "kindLattice", apart := false, narrowed := true }
def KindLatticeUptoSaid : Prop := kindLatticeUptoRow.holds Try.pinned (OpenSpec.upto kindLatticeSpec)

/-- 'plimsolllaw03.KindTurned', WHERE WHAT IT READS IS OF BULK AT MOST 1048576: true; the input reads as it did. -/
def kindTurnedUptoRow : OpenClaim := { program := "ytpjpjepfcmajfaa", sum := "7a3c5d2745573e0393e0add122efb5dee1a41814f7724811a1ba959b55333825", func := "plimsoll/plimsolllaw03.KindTurned", spec := "kindTurned", apart := false, narrowed := true }
def KindTurnedUptoSaid : Prop := kindTurnedUptoRow.holds Try.pinned (OpenSpec.upto kindTurnedSpec)

/-- 'plimsolllaw03.KindOrder', WHERE WHAT IT READS IS OF BULK AT MOST 1048576: true; the input reads as it did. -/
def kindOrderUptoRow : OpenClaim := { program := "ytpjpjepfcmajfaa", sum := "7a3c5d2745573e0393e0add122efb5dee1a41814f7724811a1ba959b55333825", func := "plimsoll/plimsolllaw03.KindOrder", spec := "kindOrder", apart := false, narrowed := true }
def KindOrderUptoSaid : Prop := kindOrderUptoRow.holds Try.pinned (OpenSpec.upto kindOrderSpec)

end Rows
end Go.Proofs.Ytpjpjepfcmajfaa
