/-
  No cell of these rows narrows 'for every input' (looked for: loops, veiled, ifaces, maps, wideKeys, modest, calm, conditions, laid).
  DERIVED. THE GIVEN ROWS OF THIS SEAT. 3 by the template 'for every input the law returns true; each argument reads behind the call as it read before'; 0 by the template 'total and deterministic' (their statements: YtcfbhobpfnlkpaaTotals.lean).
  GIVEN WITH THE SEED: the statements are not yours to turn. If you find one false, say at which input.
  Laid BY PROGRAM, IN A SANDBOX (cutbox-rows.mjs): the forced cells as the released guide's own fill.sh prints them over the translation 1114fa0ed6d4cbb6… (all of the seat's roots in one cut). By AI agents, Wed Nov 11 2026. No macro, syntax, notation, axiom, sorry.
-/
import Derived.Test.YtcfbhobpfnlkpaaChecked
import GoSem.Claim
import GoSem.ClaimJoined
import GoSem.ClaimMapViews
import Derived.JoinedTies
import Derived.KernelRfl
namespace Go.Proofs.Ytcfbhobpfnlkpaa
/- THE CELL 'sum', in the pinned program and in every row, IS THE sha256 OF THE DUMP (.gsa) THAT YtcfbhobpfnlkpaaProg.lean LOADS. Nothing in Lean hashes anything: it is a label: what it is worth is what the hold of that sum in a sandbox is worth. -/
noncomputable def Try.pinned : Pinned := { name := "ytcfbhobpfnlkpaa", sum := "1114fa0ed6d4cbb6c25a39651370d1613523c85652cb3326d078046433bbd2b2", checked := Try.checked }
namespace Rows
def none {H : Type} : Left H := { results := [], args := [] }

/-- 'plimsolllaw10.JudgeFound': WHATEVER THE INPUT: true; the input reads as it did. -/
def judgeFoundSpec : ChangeSpec := { name := "judgeFound", fn := fun _ => fun
  | [d1, d2] => { results := [.lit (.bool true)], args := [d1, d2] }
  | _ => none }
def judgeFoundRow : OpenClaim := { program := "ytcfbhobpfnlkpaa", sum := "1114fa0ed6d4cbb6c25a39651370d1613523c85652cb3326d078046433bbd2b2", func := "plimsoll/plimsolllaw10.JudgeFound", spec := "judgeFound", unfollowed := true, recurses := true, apart := false }
def JudgeFoundSaid : Prop := judgeFoundRow.holds Try.pinned (OpenSpec.ofChange judgeFoundSpec)

/-- ITS FALSE NEIGHBOUR: 'it returns false'. Refute it at one input. -/
def judgeFoundWrong : ChangeSpec := { name := "judgeFound", fn := fun _ => fun
  | [d1, d2] => { results := [.lit (.bool false)], args := [d1, d2] }
  | _ => none }
def JudgeFoundWrongFalsely : Prop := judgeFoundRow.holds Try.pinned (OpenSpec.ofChange judgeFoundWrong)

/-- 'plimsolllaw10.JudgeSpoilt': WHATEVER THE INPUT: true; the input reads as it did. -/
def judgeSpoiltSpec : ChangeSpec := { name := "judgeSpoilt", fn := fun _ => fun
  | [d1, d2, d3, d4] => { results := [.lit (.bool true)], args := [d1, d2, d3, d4] }
  | _ => none }
def judgeSpoiltRow : OpenClaim := { program := "ytcfbhobpfnlkpaa", sum := "1114fa0ed6d4cbb6c25a39651370d1613523c85652cb3326d078046433bbd2b2", func := "plimsoll/plimsolllaw10.JudgeSpoilt", spec := "judgeSpoilt", unfollowed := true, recurses := true, apart := false }
def JudgeSpoiltSaid : Prop := judgeSpoiltRow.holds Try.pinned (OpenSpec.ofChange judgeSpoiltSpec)

/-- ITS FALSE NEIGHBOUR: 'it returns false'. Refute it at one input. -/
def judgeSpoiltWrong : ChangeSpec := { name := "judgeSpoilt", fn := fun _ => fun
  | [d1, d2, d3, d4] => { results := [.lit (.bool false)], args := [d1, d2, d3, d4] }
  | _ => none }
def JudgeSpoiltWrongFalsely : Prop := judgeSpoiltRow.holds Try.pinned (OpenSpec.ofChange judgeSpoiltWrong)

/-- 'plimsolllaw10.JudgeOver': WHATEVER THE INPUT: true; the input reads as it did. -/
def judgeOverSpec : ChangeSpec := { name := "judgeOver", fn := fun _ => fun
  | [d1, d2, d3, d4] => { results := [.lit (.bool true)], args := [d1, d2, d3, d4] }
  | _ => none }
def judgeOverRow : OpenClaim := { program := "ytcfbhobpfnlkpaa", sum := "1114fa0ed6d4cbb6c25a39651370d1613523c85652cb3326d078046433bbd2b2", func := "plimsoll/plimsolllaw10.JudgeOver", spec := "judgeOver", unfollowed := true, recurses := true, apart := false }
def JudgeOverSaid : Prop := judgeOverRow.holds Try.pinned (OpenSpec.ofChange judgeOverSpec)

/-- ITS FALSE NEIGHBOUR: 'it returns false'. Refute it at one input. -/
def judgeOverWrong : ChangeSpec := { name := "judgeOver", fn := fun _ => fun
  | [d1, d2, d3, d4] => { results := [.lit (.bool false)], args := [d1, d2, d3, d4] }
  | _ => none }
def JudgeOverWrongFalsely : Prop := judgeOverRow.holds Try.pinned (OpenSpec.ofChange judgeOverWrong)

/- THE SECOND FORM. 'bulk': how many values and letters a reading holds, each counted each time it is reached (what is shared counts as often as it is met; a slice's spare places count too). A statement '..UptoSaid' is the law's where the arguments, and the package variables that the reading takes, are together of bulk at most 1048576: NARROWER than '..Said'. Prove '..Said' where nothing that the law and all that it calls make is longer than what came in: it says more and counts as full. Else prove '..UptoSaid'. A law counts once. -/
mutual
def uptoBulk {H : Type} : DataW H → Nat
  | .lit (.string bytes) => bytes.length + 1
  | .lit _ => 1
  | .nil => 1
  | .ptr d => uptoBulk d + 1
  | .slice elems spare => uptoBulkAll elems + uptoBulkAll spare + 1
  | .agg parts => uptoBulkAll parts + 1
  | .iface _ d => uptoBulk d + 1
  | .map entries => uptoBulkEntries entries + 1
  | .held _ => 1
def uptoBulkAll {H : Type} : List (DataW H) → Nat
  | [] => 0
  | d :: r => uptoBulk d + uptoBulkAll r
def uptoBulkEntries {H : Type} : List (Lit × DataW H) → Nat
  | [] => 0
  | x :: r => uptoBulkEntry x + uptoBulkEntries r
def uptoBulkEntry {H : Type} : Lit × DataW H → Nat
  | (.string bytes, d) => bytes.length + uptoBulk d + 1
  | (_, d) => uptoBulk d + 1
 end
def uptoSmall : (H : Type) → List (DataW H) → Bool := fun _ ds => decide (uptoBulkAll ds ≤ 1048576)
def OpenSpec.upto (s : _root_.Go.ChangeSpec) : _root_.Go.OpenSpec := { _root_.Go.OpenSpec.ofChange s with cond := some uptoSmall }

/-- 'plimsolllaw10.JudgeFound', WHERE WHAT IT READS IS OF BULK AT MOST 1048576: true; the input reads as it did. -/
def judgeFoundUptoRow : OpenClaim := { program := "ytcfbhobpfnlkpaa", sum := "1114fa0ed6d4cbb6c25a39651370d1613523c85652cb3326d078046433bbd2b2", func := "plimsoll/plimsolllaw10.JudgeFound", spec := "judgeFound", unfollowed := true, recurses := true, apart := false, narrowed := true }
def JudgeFoundUptoSaid : Prop := judgeFoundUptoRow.holds Try.pinned (OpenSpec.upto judgeFoundSpec)

/-- 'plimsolllaw10.JudgeSpoilt', WHERE WHAT IT READS IS OF BULK AT MOST 1048576: true; the input reads as it did. -/
def judgeSpoiltUptoRow : OpenClaim := { program := "ytcfbhobpfnlkpaa", sum := "1114fa0ed6d4cbb6c25a39651370d1613523c85652cb3326d078046433bbd2b2", func := "plimsoll/plimsolllaw10.JudgeSpoilt", spec := "judgeSpoilt", unfollowed := true, recurses := true, apart := false, narrowed := true }
def JudgeSpoiltUptoSaid : Prop := judgeSpoiltUptoRow.holds Try.pinned (OpenSpec.upto judgeSpoiltSpec)

/-- 'plimsolllaw10.JudgeOver', WHERE WHAT IT READS IS OF BULK AT MOST 1048576: true; the input reads as it did. -/
def judgeOverUptoRow : OpenClaim := { program := "ytcfbhobpfnlkpaa", sum := "1114fa0ed6d4cbb6c25a39651370d1613523c85652cb3326d078046433bbd2b2", func := "plimsoll/plimsolllaw10.JudgeOver", spec := "judgeOver", unfollowed := true, recurses := true, apart := false, narrowed := true }
def JudgeOverUptoSaid : Prop := judgeOverUptoRow.holds Try.pinned (OpenSpec.upto judgeOverSpec)

end Rows
end Go.Proofs.Ytcfbhobpfnlkpaa
