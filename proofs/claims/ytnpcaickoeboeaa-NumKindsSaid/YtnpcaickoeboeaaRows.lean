/-
  No cell of these rows narrows 'for every input' (looked for: loops, veiled, ifaces, maps, wideKeys, modest, calm, conditions, laid).
  DERIVED. THE GIVEN ROWS OF THIS SEAT. 5 by the template 'for every input the law returns true; each argument reads behind the call as it read before'; 0 by the template 'total and deterministic' (their statements: YtnpcaickoeboeaaTotals.lean).
  GIVEN WITH THE SEED: the statements are not yours to turn. If you find one false, say at which input.
  Laid BY PROGRAM, IN A SANDBOX (cutbox-rows.mjs): the forced cells as the released guide's own fill.sh prints them over the translation 32112ff66f778f95… (all of the seat's roots in one cut). By AI agents, Wed Nov 11 2026. No macro, syntax, notation, axiom, sorry.
-/
import Derived.Test.YtnpcaickoeboeaaChecked
import GoSem.Claim
import GoSem.ClaimJoined
import GoSem.ClaimMapViews
import Derived.JoinedTies
import Derived.KernelRfl
namespace Go.Proofs.Ytnpcaickoeboeaa
/- THE CELL 'sum', in the pinned program and in every row, IS THE sha256 OF THE DUMP (.gsa) THAT YtnpcaickoeboeaaProg.lean LOADS. Nothing in Lean hashes anything: it is a label: what it is worth is what the hold of that sum in a sandbox is worth. -/
noncomputable def Try.pinned : Pinned := { name := "ytnpcaickoeboeaa", sum := "32112ff66f778f95abfdb4fd139f95a57420f1fb23c65864240a8863052a198c", checked := Try.checked }
namespace Rows
def none {H : Type} : Left H := { results := [], args := [] }

/-- 'plimsolllaw01.NumDoes': WHATEVER THE INPUT: true; the input reads as it did. -/
def numDoesSpec : ChangeSpec := { name := "numDoes", fn := fun _ => fun
  | [d1, d2, d3] => { results := [.lit (.bool true)], args := [d1, d2, d3] }
  | _ => none }
def numDoesRow : OpenClaim := { program := "ytnpcaickoeboeaa", sum := "32112ff66f778f95abfdb4fd139f95a57420f1fb23c65864240a8863052a198c", func := "plimsoll/plimsolllaw01.NumDoes", spec := "numDoes", apart := false }
def NumDoesSaid : Prop := numDoesRow.holds Try.pinned (OpenSpec.ofChange numDoesSpec)

/-- ITS FALSE NEIGHBOUR: 'it returns false'. Refute it at one input. -/
def numDoesWrong : ChangeSpec := { name := "numDoes", fn := fun _ => fun
  | [d1, d2, d3] => { results := [.lit (.bool false)], args := [d1, d2, d3] }
  | _ => none }
def NumDoesWrongFalsely : Prop := numDoesRow.holds Try.pinned (OpenSpec.ofChange numDoesWrong)

/-- 'plimsolllaw01.NumKinds': WHATEVER THE INPUT: true; the input reads as it did. -/
def numKindsSpec : ChangeSpec := { name := "numKinds", fn := fun _ => fun
  | [d] => { results := [.lit (.bool true)], args := [d] }
  | _ => none }
def numKindsRow : OpenClaim := { program := "ytnpcaickoeboeaa", sum := "32112ff66f778f95abfdb4fd139f95a57420f1fb23c65864240a8863052a198c", func := "plimsoll/plimsolllaw01.NumKinds", spec := "numKinds", apart := false }
def NumKindsSaid : Prop := numKindsRow.holds Try.pinned (OpenSpec.ofChange numKindsSpec)

/-- ITS FALSE NEIGHBOUR: 'it returns false'. Refute it at one input. -/
def numKindsWrong : ChangeSpec := { name := "numKinds", fn := fun _ => fun
  | [d] => { results := [.lit (.bool false)], args := [d] }
  | _ => none }
def NumKindsWrongFalsely : Prop := numKindsRow.holds Try.pinned (OpenSpec.ofChange numKindsWrong)

/-- 'plimsolllaw01.NumRests': WHATEVER THE INPUT: true; the input reads as it did. -/
def numRestsSpec : ChangeSpec := { name := "numRests", fn := fun _ => fun
  | [d1, d2] => { results := [.lit (.bool true)], args := [d1, d2] }
  | _ => none }
def numRestsRow : OpenClaim := { program := "ytnpcaickoeboeaa", sum := "32112ff66f778f95abfdb4fd139f95a57420f1fb23c65864240a8863052a198c", func := "plimsoll/plimsolllaw01.NumRests", spec := "numRests", apart := false }
def NumRestsSaid : Prop := numRestsRow.holds Try.pinned (OpenSpec.ofChange numRestsSpec)

/-- ITS FALSE NEIGHBOUR: 'it returns false'. Refute it at one input. -/
def numRestsWrong : ChangeSpec := { name := "numRests", fn := fun _ => fun
  | [d1, d2] => { results := [.lit (.bool false)], args := [d1, d2] }
  | _ => none }
def NumRestsWrongFalsely : Prop := numRestsRow.holds Try.pinned (OpenSpec.ofChange numRestsWrong)

/-- 'plimsolllaw01.NumShifts': WHATEVER THE INPUT: true; the input reads as it did. -/
def numShiftsSpec : ChangeSpec := { name := "numShifts", fn := fun _ => fun
  | [d1, d2] => { results := [.lit (.bool true)], args := [d1, d2] }
  | _ => none }
def numShiftsRow : OpenClaim := { program := "ytnpcaickoeboeaa", sum := "32112ff66f778f95abfdb4fd139f95a57420f1fb23c65864240a8863052a198c", func := "plimsoll/plimsolllaw01.NumShifts", spec := "numShifts", apart := false }
def NumShiftsSaid : Prop := numShiftsRow.holds Try.pinned (OpenSpec.ofChange numShiftsSpec)

/-- ITS FALSE NEIGHBOUR: 'it returns false'. Refute it at one input. -/
def numShiftsWrong : ChangeSpec := { name := "numShifts", fn := fun _ => fun
  | [d1, d2] => { results := [.lit (.bool false)], args := [d1, d2] }
  | _ => none }
def NumShiftsWrongFalsely : Prop := numShiftsRow.holds Try.pinned (OpenSpec.ofChange numShiftsWrong)

/-- 'plimsolllaw01.NumRings': WHATEVER THE INPUT: true; the input reads as it did. -/
def numRingsSpec : ChangeSpec := { name := "numRings", fn := fun _ => fun
  | [d1, d2, d3] => { results := [.lit (.bool true)], args := [d1, d2, d3] }
  | _ => none }
def numRingsRow : OpenClaim := { program := "ytnpcaickoeboeaa", sum := "32112ff66f778f95abfdb4fd139f95a57420f1fb23c65864240a8863052a198c", func := "plimsoll/plimsolllaw01.NumRings", spec := "numRings", apart := false }
def NumRingsSaid : Prop := numRingsRow.holds Try.pinned (OpenSpec.ofChange numRingsSpec)

/-- ITS FALSE NEIGHBOUR: 'it returns false'. Refute it at one input. -/
def numRingsWrong : ChangeSpec := { name := "numRings", fn := fun _ => fun
  | [d1, d2, d3] => { results := [.lit (.bool false)], args := [d1, d2, d3] }
  | _ => none }
def NumRingsWrongFalsely : Prop := numRingsRow.holds Try.pinned (OpenSpec.ofChange numRingsWrong)

/- THE SECOND FORM. 'bulk': how many values and letters a reading holds, each counted each time it is reached (what is shared counts as often as it is met; a slice's spare places count too). A statement '..UptoSaid' is the law's where the arguments, and the package variables that the reading takes, are together of bulk at most 1048576: NARROWER than '..Said'. Prove '..Said' where nothing that the law and all that it calls make is longer than what came in: it says more and counts as full. Else prove '..UptoSaid'. A law counts once. -/
mutual
def uptoBulk {H : Type} : DataW H → Nat
  | .lit (.string bytes) => bytes.length + 1
  | .lit _ => 1
  | .nil => 1
  | .ptr d => uptoBulk d + 1
  | .slice elems spare => uptoBulkAll elems + uptoBulkAll spare + 1
  | .agg parts => uptoBulkAll parts + 1
  | .iface _ d => uptoBulk d + 1
  | .map entries => uptoBulkEntries entries + 1
  | .held _ => 1
def uptoBulkAll {H : Type} : List (DataW H) → Nat
  | [] => 0
  | d :: r => uptoBulk d + uptoBulkAll r
def uptoBulkEntries {H : Type} : List (Lit × DataW H) → Nat
  | [] => 0
  | x :: r => uptoBulkEntry x + uptoBulkEntries r
def uptoBulkEntry {H : Type} : Lit × DataW H → Nat
  | (.string bytes, d) => bytes.length + uptoBulk d + 1
  | (_, d) => uptoBulk d + 1
 end
def uptoSmall : (H : Type) → List (DataW H) → Bool := fun _ ds => decide (uptoBulkAll ds ≤ 1048576)
def OpenSpec.upto (s : _root_.Go.ChangeSpec) : _root_.Go.OpenSpec := { _root_.Go.OpenSpec.ofChange s with cond := some uptoSmall }

/-- 'plimsolllaw01.NumDoes', WHERE WHAT IT READS IS OF BULK AT MOST 1048576: true; the input reads as it did. -/
def numDoesUptoRow : OpenClaim := { program := "ytnpcaickoeboeaa", sum := "32112ff66f778f95abfdb4fd139f95a57420f1fb23c65864240a8863052a198c", func := "plimsoll/plimsolllaw01.NumDoes", spec := "numDoes", apart := false, narrowed := true }
def NumDoesUptoSaid : Prop := numDoesUptoRow.holds Try.pinned (OpenSpec.upto numDoesSpec)

/-- 'plimsolllaw01.NumKinds', WHERE WHAT IT READS IS OF BULK AT MOST 1048576: true; the input reads as it did. -/
def numKindsUptoRow : OpenClaim := { program := "ytnpcaickoeboeaa", sum := "32112ff66f778f95abfdb4fd139f95a57420f1fb23c65864240a8863052a198c", func := "plimsoll/plimsolllaw01.NumKinds", spec := "numKinds", apart := false, narrowed := true }
def NumKindsUptoSaid : Prop := numKindsUptoRow.holds Try.pinned (OpenSpec.upto numKindsSpec)

/-- 'plimsolllaw01.NumRests', WHERE WHAT IT READS IS OF BULK AT MOST 1048576: true; the input reads as it did. -/
def numRestsUptoRow : OpenClaim := { program := "ytnpcaickoeboeaa", sum := "32112ff66f778f95abfdb4fd139f95a57420f1fb23c65864240a8863052a198c", func := "plimsoll/plimsolllaw01.NumRests", spec := "numRests", apart := false, narrowed := true }
def NumRestsUptoSaid : Prop := numRestsUptoRow.holds Try.pinned (OpenSpec.upto numRestsSpec)

/-- 'plimsolllaw01.NumShifts', WHERE WHAT IT READS IS OF BULK AT MOST 1048576: true; the input reads as it did. -/
def numShiftsUptoRow : OpenClaim := { program := "ytnpcaickoeboeaa", sum := "32112ff66f778f95abfdb4fd139f95a57420f1fb23c65864240a8863052a198c", func := "plimsoll/plimsolllaw01.NumShifts", spec := "numShifts", apart := false, narrowed := true }
def NumShiftsUptoSaid : Prop := numShiftsUptoRow.holds Try.pinned (OpenSpec.upto numShiftsSpec)

/-- 'plimsolllaw01.NumRings', WHERE WHAT IT READS IS OF BULK AT MOST 1048576: true; the input reads as it did. -/
def numRingsUptoRow : OpenClaim := { program := "ytnpcaickoeboeaa", sum := "32112ff66f778f95abfdb4fd139f95a57420f1fb23c65864240a8863052a198c", func := "plimsoll/plimsolllaw01.NumRings", spec := "numRings", apart := false, narrowed := true }
def NumRingsUptoSaid : Prop := numRingsUptoRow.holds Try.pinned (OpenSpec.upto numRingsSpec)

end Rows
end Go.Proofs.Ytnpcaickoeboeaa
