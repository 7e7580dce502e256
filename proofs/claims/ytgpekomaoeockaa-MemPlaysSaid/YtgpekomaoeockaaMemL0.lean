/- Part of the proofs about package mem. -/
import Derived.Test.YtgpekomaoeockaaMemK4
import Derived.Deep.DeepCutAuto
import Derived.Deep.CutBlock
import Derived.RegionTactic
import Derived.ChangeAlike
namespace Go.Proofs.Ytgpekomaoeockaa.MemC
open Go.RowKit Go.Proofs.YtgpekomaoeockaaW.PrintWords Go.Proofs.YtgpekomaoeockaaW.PrintLast Go.Proofs.YtgpekomaoeockaaW.PrintMore Go.Proofs.Ytgpekomaoeockaa.QMemSizes
set_option linter.unusedVariables false
/-- Where the law has found region N among the first k, or that it has not. -/
def AtR (ys : List LReg) (N : Int) (k : Nat) (a : Int) : Prop := (a = -1 ∧ ∀ j (h : j < ys.length), j < k → ys[j].1.1 ≠ N) ∨ ∃ m, ∃ h : m < ys.length, m < k ∧ ys[m].1.1 = N ∧ a = (m : Int)
theorem AtR.start (ys : List LReg) (N : Int) : AtR ys N 0 (-1) := .inl ⟨rfl, fun j h hj => by omega⟩
theorem AtR.yes {ys : List LReg} {N a : Int} {k : Nat} (hk : k < ys.length) (h : AtR ys N k a) (he : ys[k].1.1 = N) : AtR ys N (k + 1) (k : Int) := .inr ⟨k, hk, by omega, he, rfl⟩
theorem AtR.no {ys : List LReg} {N a : Int} {k : Nat} (hk : k < ys.length) (h : AtR ys N k a) (he : ys[k].1.1 ≠ N) : AtR ys N (k + 1) a := by
  rcases h with ⟨h1, h2⟩ | ⟨m, hm, h1, h2⟩
  · refine .inl ⟨h1, fun j hj hlt => ?_⟩
    rcases Nat.lt_or_ge j k with h3 | h3
    · exact h2 j hj h3
    · obtain rfl : j = k := by omega
      exact he
  · exact .inr ⟨m, hm, by omega, h2⟩
theorem blk_drewN {w : World} {g : Nat} {o : Obj} (h : w.heap[g]? = some o) (m : Nat) : (w.drewN m).heap[g]? = some o := h

def firstLoop : Code → Option Code
  | .loop c => some c
  | .seq a b => match firstLoop a with
    | some c => some c
    | none => firstLoop b
  | .block _ c => firstLoop c
  | .scope c => firstLoop c
  | .cond _ a b => match firstLoop a with
    | some c => some c
    | none => firstLoop b
  | _ => none
def theBlock (n : Nat) : Code → Option Code
  | .block k c => if k = n then some (.block k c) else theBlock n c
  | .loop c => theBlock n c
  | .seq a b => match theBlock n a with
    | some c => some c
    | none => theBlock n b
  | .scope c => theBlock n c
  | .cond _ a b => match theBlock n a with
    | some c => some c
    | none => theBlock n b
  | _ => none
noncomputable def playsBody : Code := ((Try.f3.body.bind firstLoop).getD .skip)
noncomputable def playsBlock : Code := ((theBlock 1 playsBody).getD .skip)
end Go.Proofs.Ytgpekomaoeockaa.MemC
