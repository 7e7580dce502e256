/- The law's state: the box of the third argument, the two rows of times. -/
import Derived.Test.YthfkajolockcgaaAddsAP
import Derived.Deep.RegionLaw
import Derived.Deep.QuietTactic
import Derived.BigQuiet
import Derived.RegionTactic
import Derived.ChangeAlike
namespace Go.Proofs.Ythfkajolockcgaa.Adds
open Go.RowKit Go.Proofs.Ythfkajolockcgaa.QLinAdds Go.Proofs.YthfkajolockcgaaW.PrintWords Go.Proofs.YthfkajolockcgaaW.PrintLast Go.Proofs.YthfkajolockcgaaW.PrintMore Go.Proofs.Ythfkajolockcgaa.Open Go.Proofs.Ythfkajolockcgaa.Lin
set_option linter.unusedVariables false
/-- The law's state: more's box, the two rows of times. -/
structure AW (w w' : World) (gb : Nat) (A2 : Option Addr) (n c2 : Nat) (mm : Int) (vt vu : Value) (ts us : List Int) : Prop where
  bx : w'.heap[gb]? = some (.cells #[.slice A2 n c2, .int .i64 mm] 27 (0, 0))
  bg : w.heap.size ≤ gb
  ot : w'.ownsRow w.heap.size 3 1 vt ts.length (nums .i64 ts)
  ou : w'.ownsRow w.heap.size 3 1 vu us.length (nums .i64 us)
  ne : ∀ k, vt.ownBlock = some k → vu.ownBlock ≠ some k
  bel : Below w.heap.size w w'
section
variable {w w' w2 : World} {gb : Nat} {A2 : Option Addr} {n c2 : Nat} {mm : Int} {vt vu : Value} {ts us : List Int}
theorem AW.below (h : AW w w' gb A2 n c2 mm vt vu ts us) (hb : Below w'.heap.size w' w2) : AW w w2 gb A2 n c2 mm vt vu ts us :=
  ⟨(hb.block gb (blk_lt h.bx)).trans h.bx, h.bg, pw_own_below h.ot hb, pw_own_below h.ou hb, h.ne, h.bel.trans (hb.mono h.bel.size)⟩
theorem AW.drew (h : AW w w' gb A2 n c2 mm vt vu ts us) : AW w w'.drew gb A2 n c2 mm vt vu ts us := h.below (Below.drew (Below.refl _ _))
theorem AW.drewN (h : AW w w' gb A2 n c2 mm vt vu ts us) (m : Nat) : AW w (w'.drewN m) gb A2 n c2 mm vt vu ts us := h.below (pw_below_drewN (Below.refl _ _) m)
theorem AW.alloc (h : AW w w' gb A2 n c2 mm vt vu ts us) (o : Obj) : AW w (w'.alloc o) gb A2 n c2 mm vt vu ts us := h.below (below_alloc (Below.refl _ _) o)
theorem AW.swap (h : AW w w' gb A2 n c2 mm vt vu ts us) : AW w w' gb A2 n c2 mm vu vt us ts := ⟨h.bx, h.bg, h.ou, h.ot, fun k e1 e2 => h.ne k e2 e1, h.bel⟩
/-- append to the first of the two. -/
theorem AW.app (h : AW w w' gb A2 n c2 mm vt vu ts us) (hl : ts.length ≤ 1000) (ty : TypeId) (g : Nat) (x : Int) (hg : w'.heap[g]? = some (.cells #[.int .i64 x] 3 (0, 0))) :
    ∃ r W1, (Builtin.append_ #[23, 23] ty #[vt, .slice (some ⟨g, 0, none⟩) 1 1]).run Try.prog w' = .ok r W1 ∧ (AW w W1 gb A2 n c2 mm r vu (ts ++ [x]) us ∧ w'.grownBy W1 vt.ownBlock ∧ (r.ownBlock = vt.ownBlock ∨ r.ownBlock = some w'.heap.size)) := by
  obtain ⟨i0, hi, hz0, hz1, hz2⟩ := info_parts info3
  have hcell : ∀ j u, ([Value.int .i64 x])[j]? = some u → w'.cell? ((⟨g, 0, none⟩ : Addr).add j) = some u := fun j u hu => by
    have hj : j = 0 := by have := (List.getElem?_eq_some_iff.1 hu).1; simpa using this
    subst hj
    obtain rfl : Value.int .i64 x = u := by simpa using hu
    exact (blk_cell hg 0).trans rfl
  obtain ⟨r, W1, h1, h2, h3, _, h5⟩ := run_append_own_at (P := Try.prog) w' w.heap.size 23 ty 3 i0 _ 1 8 Try.underlying23 hi hz0 hz1 hz2 rfl (by decide) vt ts.length (nums .i64 ts) h.ot ⟨g, 0, none⟩ 1 1 [.int .i64 x] rfl hcell (by simp [Value.oneCell']) (by simp only [maxLen]; omega) (by omega) h.bel.size
  have hb : Below w.heap.size w W1 := h.bel.grown h3 h.bel.size (fun k e => own_base h.ot k e)
  have hne : some gb ≠ vt.ownBlock := own_ne h.ot h.bx (by decide)
  refine ⟨r, W1, h1, ⟨(h3.block gb (blk_lt h.bx) hne).trans h.bx, h.bg, ?_, own_move h.ou (fun k e => h3.block k (own_lt h.ou k e) (fun e2 => h.ne k e2.symm e)), ?_, hb⟩, h3, h5⟩
  · rw [List.length_append, List.length_singleton]
    have e : nums .i64 (ts ++ [x]) = nums .i64 ts ++ [.int .i64 x] := List.map_append
    rw [e]
    exact h2
  · intro k e1 e2
    rcases h5 with h5 | h5
    · exact h.ne k (h5.symm.trans e1) e2
    · rw [h5] at e1
      injection e1 with e1
      have := own_lt h.ou k e2
      omega
end
theorem own_blk {w : World} {base : Nat} {v : Value} {xs : List Int} (h : w.ownsRow base 3 1 v xs.length (nums .i64 xs)) : ∃ A c, v = .slice A xs.length c ∧ Kd.C (Kd.int .i64) w A xs.length xs ∧ xs.length ≤ c := by
  obtain ⟨A, c, e⟩ := own_slice h
  obtain ⟨A', c', e', hr⟩ := own_reads_row (R := (Kd.int .i64).K w) (size := 1) h ⟨by rw [nums, List.length_map, Nat.mul_one], fun j p hj => by
    show (_ : List Value) = [Value.int .i64 p]
    have hl : (nums .i64 xs)[j]? = some (.int .i64 p) := by rw [nums, List.getElem?_map, hj]; rfl
    rw [Nat.mul_one]
    have hjl := (List.getElem?_eq_some_iff.1 hl).1
    rw [List.drop_eq_getElem_cons hjl]
    rw [List.getElem?_eq_getElem hjl] at hl
    injection hl with hl
    rw [hl]
    rfl⟩ rfl
  subst e'
  exact ⟨A', c', rfl, hr, own_le h⟩
end Go.Proofs.Ythfkajolockcgaa.Adds
