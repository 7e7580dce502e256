/-
  No cell of these rows narrows 'for every input' (looked for: loops, veiled, ifaces, maps, wideKeys, modest, calm, conditions, laid).
  DERIVED. THE GIVEN ROWS OF THIS SEAT. 6 by the template 'for every input the law returns true; each argument reads behind the call as it read before'; 0 by the template 'total and deterministic' (their statements: YthfkajolockcgaaTotals.lean).
  GIVEN WITH THE SEED: the statements are not yours to turn. If you find one false, say at which input.
  Laid BY PROGRAM, IN A SANDBOX (cutbox-rows.mjs): the forced cells as the released guide's own fill.sh prints them over the translation 8d61db912ceeaecf… (all of the seat's roots in one cut). By AI agents, Wed Nov 11 2026. No macro, syntax, notation, axiom, sorry.
-/
import Derived.Test.YthfkajolockcgaaChecked
import GoSem.Claim
import GoSem.ClaimJoined
import GoSem.ClaimMapViews
import Derived.JoinedTies
import Derived.KernelRfl
namespace Go.Proofs.Ythfkajolockcgaa
/- THE CELL 'sum', in the pinned program and in every row, IS THE sha256 OF THE DUMP (.gsa) THAT YthfkajolockcgaaProg.lean LOADS. Nothing in Lean hashes anything: it is a label: what it is worth is what the hold of that sum in a sandbox is worth. -/
noncomputable def Try.pinned : Pinned := { name := "ythfkajolockcgaa", sum := "8d61db912ceeaecf0831b6b9fb818c940fb5a0dad4dc2dab88582b05667bc315", checked := Try.checked }
namespace Rows
def none {H : Type} : Left H := { results := [], args := [] }

/-- 'plimsolllaw14.LinSums': WHATEVER THE INPUT: true; the input reads as it did. -/
def linSumsSpec : ChangeSpec := { name := "linSums", fn := fun _ => fun
  | [d1, d2, d3] => { results := [.lit (.bool true)], args := [d1, d2, d3] }
  | _ => none }
def linSumsRow : OpenClaim := { program := "ythfkajolockcgaa", sum := "8d61db912ceeaecf0831b6b9fb818c940fb5a0dad4dc2dab88582b05667bc315", func := "plimsoll/plimsolllaw14.LinSums", spec := "linSums", apart := false }
def LinSumsSaid : Prop := linSumsRow.holds Try.pinned (OpenSpec.ofChange linSumsSpec)

/-- ITS FALSE NEIGHBOUR: 'it returns false'. Refute it at one input. -/
def linSumsWrong : ChangeSpec := { name := "linSums", fn := fun _ => fun
  | [d1, d2, d3] => { results := [.lit (.bool false)], args := [d1, d2, d3] }
  | _ => none }
def LinSumsWrongFalsely : Prop := linSumsRow.holds Try.pinned (OpenSpec.ofChange linSumsWrong)

/-- 'plimsolllaw14.LinProves': WHATEVER THE INPUT: true; the input reads as it did. -/
def linProvesSpec : ChangeSpec := { name := "linProves", fn := fun _ => fun
  | [d1, d2, d3] => { results := [.lit (.bool true)], args := [d1, d2, d3] }
  | _ => none }
def linProvesRow : OpenClaim := { program := "ythfkajolockcgaa", sum := "8d61db912ceeaecf0831b6b9fb818c940fb5a0dad4dc2dab88582b05667bc315", func := "plimsoll/plimsolllaw14.LinProves", spec := "linProves", apart := false }
def LinProvesSaid : Prop := linProvesRow.holds Try.pinned (OpenSpec.ofChange linProvesSpec)

/-- ITS FALSE NEIGHBOUR: 'it returns false'. Refute it at one input. -/
def linProvesWrong : ChangeSpec := { name := "linProves", fn := fun _ => fun
  | [d1, d2, d3] => { results := [.lit (.bool false)], args := [d1, d2, d3] }
  | _ => none }
def LinProvesWrongFalsely : Prop := linProvesRow.holds Try.pinned (OpenSpec.ofChange linProvesWrong)

/-- 'plimsolllaw14.LinHolds': WHATEVER THE INPUT: true; the input reads as it did. -/
def linHoldsSpec : ChangeSpec := { name := "linHolds", fn := fun _ => fun
  | [d1, d2] => { results := [.lit (.bool true)], args := [d1, d2] }
  | _ => none }
def linHoldsRow : OpenClaim := { program := "ythfkajolockcgaa", sum := "8d61db912ceeaecf0831b6b9fb818c940fb5a0dad4dc2dab88582b05667bc315", func := "plimsoll/plimsolllaw14.LinHolds", spec := "linHolds", apart := false }
def LinHoldsSaid : Prop := linHoldsRow.holds Try.pinned (OpenSpec.ofChange linHoldsSpec)

/-- ITS FALSE NEIGHBOUR: 'it returns false'. Refute it at one input. -/
def linHoldsWrong : ChangeSpec := { name := "linHolds", fn := fun _ => fun
  | [d1, d2] => { results := [.lit (.bool false)], args := [d1, d2] }
  | _ => none }
def LinHoldsWrongFalsely : Prop := linHoldsRow.holds Try.pinned (OpenSpec.ofChange linHoldsWrong)

/-- 'plimsolllaw14.LinSound': WHATEVER THE INPUT: true; the input reads as it did. -/
def linSoundSpec : ChangeSpec := { name := "linSound", fn := fun _ => fun
  | [d1, d2, d3, d4] => { results := [.lit (.bool true)], args := [d1, d2, d3, d4] }
  | _ => none }
def linSoundRow : OpenClaim := { program := "ythfkajolockcgaa", sum := "8d61db912ceeaecf0831b6b9fb818c940fb5a0dad4dc2dab88582b05667bc315", func := "plimsoll/plimsolllaw14.LinSound", spec := "linSound", apart := false }
def LinSoundSaid : Prop := linSoundRow.holds Try.pinned (OpenSpec.ofChange linSoundSpec)

/-- ITS FALSE NEIGHBOUR: 'it returns false'. Refute it at one input. -/
def linSoundWrong : ChangeSpec := { name := "linSound", fn := fun _ => fun
  | [d1, d2, d3, d4] => { results := [.lit (.bool false)], args := [d1, d2, d3, d4] }
  | _ => none }
def LinSoundWrongFalsely : Prop := linSoundRow.holds Try.pinned (OpenSpec.ofChange linSoundWrong)

/-- 'plimsolllaw14.LinAdds': WHATEVER THE INPUT: true; the input reads as it did. -/
def linAddsSpec : ChangeSpec := { name := "linAdds", fn := fun _ => fun
  | [d1, d2, d3] => { results := [.lit (.bool true)], args := [d1, d2, d3] }
  | _ => none }
def linAddsRow : OpenClaim := { program := "ythfkajolockcgaa", sum := "8d61db912ceeaecf0831b6b9fb818c940fb5a0dad4dc2dab88582b05667bc315", func := "plimsoll/plimsolllaw14.LinAdds", spec := "linAdds", apart := false }
def LinAddsSaid : Prop := linAddsRow.holds Try.pinned (OpenSpec.ofChange linAddsSpec)

/-- ITS FALSE NEIGHBOUR: 'it returns false'. Refute it at one input. -/
def linAddsWrong : ChangeSpec := { name := "linAdds", fn := fun _ => fun
  | [d1, d2, d3] => { results := [.lit (.bool false)], args := [d1, d2, d3] }
  | _ => none }
def LinAddsWrongFalsely : Prop := linAddsRow.holds Try.pinned (OpenSpec.ofChange linAddsWrong)

/-- 'plimsolllaw14.LinOrder': WHATEVER THE INPUT: true; the input reads as it did. -/
def linOrderSpec : ChangeSpec := { name := "linOrder", fn := fun _ => fun
  | [d1, d2] => { results := [.lit (.bool true)], args := [d1, d2] }
  | _ => none }
def linOrderRow : OpenClaim := { program := "ythfkajolockcgaa", sum := "8d61db912ceeaecf0831b6b9fb818c940fb5a0dad4dc2dab88582b05667bc315", func := "plimsoll/plimsolllaw14.LinOrder", spec := "linOrder", apart := false }
def LinOrderSaid : Prop := linOrderRow.holds Try.pinned (OpenSpec.ofChange linOrderSpec)

/-- ITS FALSE NEIGHBOUR: 'it returns false'. Refute it at one input. -/
def linOrderWrong : ChangeSpec := { name := "linOrder", fn := fun _ => fun
  | [d1, d2] => { results := [.lit (.bool false)], args := [d1, d2] }
  | _ => none }
def LinOrderWrongFalsely : Prop := linOrderRow.holds Try.pinned (OpenSpec.ofChange linOrderWrong)

/- THE SECOND FORM. 'bulk': how many values and letters a reading holds, each counted each time it is reached (what is shared counts as often as it is met; a slice's spare places count too). A statement '..UptoSaid' is the law's where the arguments, and the package variables that the reading takes, are together of bulk at most 1048576: NARROWER than '..Said'. Prove '..Said' where nothing that the law and all that it calls make is longer than what came in: it says more and counts as full. Else prove '..UptoSaid'. A law counts once. -/
mutual
def uptoBulk {H : Type} : DataW H → Nat
  | .lit (.string bytes) => bytes.length + 1
  | .lit _ => 1
  | .nil => 1
  | .ptr d => uptoBulk d + 1
  | .slice elems spare => uptoBulkAll elems + uptoBulkAll spare + 1
  | .agg parts => uptoBulkAll parts + 1
  | .iface _ d => uptoBulk d + 1
  | .map entries => uptoBulkEntries entries + 1
  | .held _ => 1
def uptoBulkAll {H : Type} : List (DataW H) → Nat
  | [] => 0
  | d :: r => uptoBulk d + uptoBulkAll r
def uptoBulkEntries {H : Type} : List (Lit × DataW H) → Nat
  | [] => 0
  | x :: r => uptoBulkEntry x + uptoBulkEntries r
def uptoBulkEntry {H : Type} : Lit × DataW H → Nat
  | (.string bytes, d) => bytes.length + uptoBulk d + 1
  | (_, d) => uptoBulk d + 1
 end
def uptoSmall : (H : Type) → List (DataW H) → Bool := fun _ ds => decide (uptoBulkAll ds ≤ 1048576)
def OpenSpec.upto (s : _root_.Go.ChangeSpec) : _root_.Go.OpenSpec := { _root_.Go.OpenSpec.ofChange s with cond := some uptoSmall }

/-- 'plimsolllaw14.LinSums', WHERE WHAT IT READS IS OF BULK AT MOST 1048576: true; the input reads as it did. -/
def linSumsUptoRow : OpenClaim := { program := "ythfkajolockcgaa", sum := "8d61db912ceeaecf0831b6b9fb818c940fb5a0dad4dc2dab88582b05667bc315", func := "plimsoll/plimsolllaw14.LinSums", spec := "linSums", apart := false, narrowed := true }
def LinSumsUptoSaid : Prop := linSumsUptoRow.holds Try.pinned (OpenSpec.upto linSumsSpec)

/-- 'plimsolllaw14.LinProves', WHERE WHAT IT READS IS OF BULK AT MOST 1048576: true; the input reads as it did. -/
def linProvesUptoRow : OpenClaim := { program := "ythfkajolockcgaa", sum := "8d61db912ceeaecf0831b6b9fb818c940fb5a0dad4dc2dab88582b05667bc315", func := "plimsoll/plimsolllaw14.LinProves", spec := "linProves", apart := false, narrowed := true }
def LinProvesUptoSaid : Prop := linProvesUptoRow.holds Try.pinned (OpenSpec.upto linProvesSpec)

/-- 'plimsolllaw14.LinHolds', WHERE WHAT IT READS IS OF BULK AT MOST 1048576: true; the input reads as it did. -/
def linHoldsUptoRow : OpenClaim := { program := "ythfkajolockcgaa", sum := "8d61db912ceeaecf0831b6b9fb818c940fb5a0dad4dc2dab88582b05667bc315", func := "plimsoll/plimsolllaw14.LinHolds", spec := "linHolds", apart := false, narrowed := true }
def LinHoldsUptoSaid : Prop := linHoldsUptoRow.holds Try.pinned (OpenSpec.upto linHoldsSpec)

/-- 'plimsolllaw14.LinSound', WHERE WHAT IT READS IS OF BULK AT MOST 1048576: true; the input reads as it did. -/
def linSoundUptoRow : OpenClaim := { program := "ythfkajolockcgaa", sum := "8d61db912ceeaecf0831b6b9fb818c940fb5a0dad4dc2dab88582b05667bc315", func := "plimsoll/plimsolllaw14.LinSound", spec := "linSound", apart := false, narrowed := true }
def LinSoundUptoSaid : Prop := linSoundUptoRow.holds Try.pinned (OpenSpec.upto linSoundSpec)

/-- 'plimsolllaw14.LinAdds', WHERE WHAT IT READS IS OF BULK AT MOST 1048576: true; the input reads as it did. -/
def linAddsUptoRow : OpenClaim := { program := "ythfkajolockcgaa", sum := "8d61db912ceeaecf0831b6b9fb818c940fb5a0dad4dc2dab88582b05667bc315", func := "plimsoll/plimsolllaw14.LinAdds", spec := "linAdds", apart := false, narrowed := true }
def LinAddsUptoSaid : Prop := linAddsUptoRow.holds Try.pinned (OpenSpec.upto linAddsSpec)

/-- 'plimsolllaw14.LinOrder', WHERE WHAT IT READS IS OF BULK AT MOST 1048576: true; the input reads as it did. -/
def linOrderUptoRow : OpenClaim := { program := "ythfkajolockcgaa", sum := "8d61db912ceeaecf0831b6b9fb818c940fb5a0dad4dc2dab88582b05667bc315", func := "plimsoll/plimsolllaw14.LinOrder", spec := "linOrder", apart := false, narrowed := true }
def LinOrderUptoSaid : Prop := linOrderUptoRow.holds Try.pinned (OpenSpec.upto linOrderSpec)

end Rows
end Go.Proofs.Ythfkajolockcgaa
