/- Part of the proofs about package mem. -/
import Derived.Test.YtgpekomaoeockaaMemK7
import Derived.Test.YtgpekomaoeockaaOpen
namespace Go.Proofs.Ytgpekomaoeockaa.MemC
open Go.RowKit Go.Proofs.YtgpekomaoeockaaW.PrintWords Go.Proofs.YtgpekomaoeockaaW.PrintLast Go.Proofs.YtgpekomaoeockaaW.PrintMore Go.Proofs.Ytgpekomaoeockaa.QMemSizes Go.Proofs.Ytgpekomaoeockaa.Open
theorem rd3 : Rdr Try.prog 3 (Kd.int .i64) (IntG .i64) := rdr_int Try.underlying3
def GAct (x : S50) : Prop := IntG .i64 x.f0 ∧ IntG .i64 x.f1 ∧ IntG .i64 x.f2
theorem rd28 : Rdr Try.prog 28 k50 GAct := rdr_struct Try.underlying28 (by kernel_rfl) (rdrF_cons rfl (by kernel_rfl) rfl rd3 (rdrF_cons rfl (by kernel_rfl) rfl rd3 (rdrF_one rfl (by kernel_rfl) rd3))) (fun a h => ⟨⟨a.1, a.2.1, a.2.2⟩, rfl, h⟩)
theorem rd22 : Rdr Try.prog 22 (Kd.slice 28 k50) (RowG 24 GAct) := rdr_slice Try.underlying22 (by kernel_rfl) (by kernel_rfl) rd28
/-- MemPlays, as its row asks for it. -/
theorem MemPlays.row (a0 : Int) (_w0 : (Lit.int .i64 a0).wf = true) (a1 : Int) (_w1 : (Lit.int .i64 a1).wf = true) (A : Option Addr) (l : List S50) (c : Nat) (_hc : l.length ≤ c) {W : World} (hr : Kd.C k50 W A l.length l) (g : RowG 24 GAct l) :
    Calls Try.prog 3 #[.int .i64 a0, .int .i64 a1, .slice A l.length c] W fun e w' => e = .returned (.bool true) ∧ Below W.heap.size W w' := by
  by_cases h : a1 ≤ 3000 ∧ a0 ≤ 3000
  · exact MemPlays.walk a0 a1 A c l W hr g.1 h.2 h.1
  · exact MemPlays.big a0 a1 _ W (by omega)
end Go.Proofs.Ytgpekomaoeockaa.MemC
