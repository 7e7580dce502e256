/- The law's state behind the sums, and the parts of its body. -/
import Derived.Test.YthfkajolockcgaaAddsAT
import Derived.Deep.RegionHeld3
namespace Go.Proofs.Ythfkajolockcgaa.Adds
open Go.RowKit Go.Proofs.Ythfkajolockcgaa.QLinAdds Go.Proofs.YthfkajolockcgaaW.PrintWords Go.Proofs.YthfkajolockcgaaW.PrintLast Go.Proofs.YthfkajolockcgaaW.PrintMore Go.Proofs.Ythfkajolockcgaa.Open Go.Proofs.Ythfkajolockcgaa.Lin
set_option linter.unusedVariables false
theorem SB.C {w w' : World} {gx n : Nat} {A : Option Addr} {c : Nat} {X : List Int} {M : Int} {vt : Value} (h : SB w w' gx (.slice A n c) X M vt) (hl : X.length = n) : Kd.C (Kd.int .i64) w' A X.length X := by
  obtain ⟨A', c', e, hC, _⟩ := h.form
  injection e with e1 e2 e3
  subst e1
  exact hC
theorem twice_len (X : List Int) : (twice X).length = X.length := by unfold twice; rw [List.length_map]
theorem twice_get (X : List Int) (i : Nat) (h : i < X.length) : (twice X)[i]'(by rw [twice_len]; exact h) = 2 * X[i] := by simp [twice]
/-- The law's state once the sums are made. -/
structure TW (w w' : World) (gb gx gy : Nat) (A2 : Option Addr) (n c2 : Nat) (mm : Int) (vt vu : Value) (ts us : List Int) (vx : Value) (X : List Int) (M : Int) (vy : Value) : Prop where
  aw : AW w w' gb A2 n c2 mm vt vu ts us
  sx : SB w w' gx vx X M vt
  sy : SB w w' gy vy (twice X) (2 * M) vt
theorem TW.below {w w' w2 : World} {gb gx gy : Nat} {A2 : Option Addr} {n c2 : Nat} {mm : Int} {vt vu : Value} {ts us : List Int} {vx : Value} {X : List Int} {M : Int} {vy : Value} (h : TW w w' gb gx gy A2 n c2 mm vt vu ts us vx X M vy) (hb : Below w'.heap.size w' w2) : TW w w2 gb gx gy A2 n c2 mm vt vu ts us vx X M vy :=
  ⟨h.aw.below hb, h.sx.below hb, h.sy.below hb⟩
theorem TW.drewN {w w' : World} {gb gx gy : Nat} {A2 : Option Addr} {n c2 : Nat} {mm : Int} {vt vu : Value} {ts us : List Int} {vx : Value} {X : List Int} {M : Int} {vy : Value} (h : TW w w' gb gx gy A2 n c2 mm vt vu ts us vx X M vy) (m : Nat) : TW w (w'.drewN m) gb gx gy A2 n c2 mm vt vu ts us vx X M vy := h.below (pw_below_drewN (Below.refl _ _) m)
def hasLoop : Code → Bool
  | .loop _ => true
  | .seq a b => hasLoop a || hasLoop b
  | .block _ c => hasLoop c
  | .scope c => hasLoop c
  | .cond _ a b => hasLoop a || hasLoop b
  | _ => false
def afterLoop : Code → Option Code
  | .seq a b => if hasLoop a = true then some b else afterLoop b
  | _ => none
noncomputable def addsTail : Code := ((Try.f7.body.bind afterLoop).getD .skip)
noncomputable def smallBody : Code := (((Try.f7.body.bind afterLoop).bind afterLoop).bind firstLoop).getD .skip
noncomputable def addsLast : Code := (((Try.f7.body.bind afterLoop).bind afterLoop).bind afterLoop).getD .skip
/-- Is more small, as far as k of its coefficients say? -/
def smB (mm : Int) (mc : List Int) (k : Nat) : Bool := decide (-1152921504606846976 < mm ∧ mm < 1152921504606846976 ∧ ∀ c ∈ mc.take k, -1152921504606846976 < c ∧ c < 1152921504606846976)
end Go.Proofs.Ythfkajolockcgaa.Adds
