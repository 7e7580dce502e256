/- Part of the proofs about package mem. -/
import Derived.Test.YtgpekomaoeockaaMemJ3
import Derived.Test.YtgpekomaoeockaaOpen
namespace Go.Proofs.Ytgpekomaoeockaa.MemC
open Go.RowKit Go.Proofs.YtgpekomaoeockaaW.PrintWords Go.Proofs.YtgpekomaoeockaaW.PrintLast Go.Proofs.YtgpekomaoeockaaW.PrintMore Go.Proofs.Ytgpekomaoeockaa.QMemSizes Go.Proofs.Ytgpekomaoeockaa.Open
theorem rd5 : Rdr Try.prog 5 (Kd.int .u8) (IntG .u8) := rdr_int Try.underlying5
theorem rd41 : Rdr Try.prog 41 (Kd.slice 5 (Kd.int .u8)) (RowG 1 (IntG .u8)) := rdr_slice Try.underlying41 (by kernel_rfl) (by kernel_rfl) rd5
theorem u8b {t : Int} (h : IntG .u8 t) : 0 ≤ t ∧ t ≤ 255 := by
  unfold IntG at h
  simp only [Lit.wf, Bool.and_eq_true, decide_eq_true_eq] at h
  exact h
theorem i32b {t : Int} (h : IntG .i32 t) : -2147483648 ≤ t ∧ t ≤ 2147483647 := by
  unfold IntG at h
  simp only [Lit.wf, Bool.and_eq_true, decide_eq_true_eq] at h
  exact h
/-- MemApart, as its row asks for it. -/
theorem MemApart.row (A : Option Addr) (l : List Int) (c : Nat) (hc : l.length ≤ c) {W : World} (hr : Kd.C (Kd.int .u8) W A l.length l) (g : RowG 1 (IntG .u8) l) (a1 : Int) (w1 : (Lit.int .u8 a1).wf = true) (a2 : Int) (w2 : (Lit.int .i32 a2).wf = true) :
    Calls Try.prog 6 #[.slice A l.length c, .int .u8 a1, .int .i32 a2] W fun e w' => e = .returned (.bool true) ∧ Below W.heap.size W w' := by
  have h1 := u8b w1
  obtain ⟨nn, rfl⟩ := Int.eq_ofNat_of_zero_le h1.1
  exact MemApart.walk A c l nn a2 W hr hc (fun x hx => u8b (g.2 x hx)) (by have := g.1; omega) (by omega) (i32b w2)
end Go.Proofs.Ytgpekomaoeockaa.MemC
