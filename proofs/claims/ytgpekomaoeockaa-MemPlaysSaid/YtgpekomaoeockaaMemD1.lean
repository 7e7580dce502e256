/- New, said of the state. -/
import Derived.Test.YtgpekomaoeockaaMemY
namespace Go.Proofs.Ytgpekomaoeockaa.MemC
open Go.RowKit Go.Proofs.YtgpekomaoeockaaW.PrintWords Go.Proofs.YtgpekomaoeockaaW.PrintLast Go.Proofs.YtgpekomaoeockaaW.PrintMore Go.Proofs.Ytgpekomaoeockaa.QMemSizes
set_option linter.unusedVariables false
def clamp (x : Int) : Nat := (mx 0 (mn x 65536)).toNat
theorem new_value (s h : Int) : mem_New.f s h = some (List.replicate (clamp s) 0, List.replicate (clamp h) 0) := by
  have h1 : 0 ≤ mx 0 (mn s 65536) ∧ mx 0 (mn s 65536) ≤ 65536 := by unfold mx mn; omega
  have h2 : 0 ≤ mx 0 (mn h 65536) ∧ mx 0 (mn h 65536) ≤ 65536 := by unfold mx mn; omega
  unfold mem_New.f mem_within.f clamp
  refine (Option.bind_some _ _).trans ((if_pos h1.1).trans ((if_pos (by omega)).trans ((Option.bind_some _ _).trans ((if_pos h2.1).trans (if_pos (by omega))))))
theorem clamp_le (x : Int) : clamp x ≤ 65536 := by unfold clamp mx mn; omega
theorem MS.new (s h : Int) (w : World) : Calls Try.prog 8 #[.int .i64 s, .int .i64 h] w fun e w' => ∃ p sb hb, e = .returned (.pointer (some ⟨p, 0, none⟩)) ∧ MS w' w.heap.size p sb hb (List.replicate (clamp s) 0) (clamp h) [] (.slice none 0 0) ∧ Below w.heap.size w w' := by
  refine (mem_New.calls s h _ _ w (new_value s h)).mono ?_
  rintro e w1 ⟨p, v0, v1, m0, m1, rfl, hbox, hpb, hS, hH, hb⟩
  obtain ⟨sb, rfl, b1, o1, k1⟩ := made_blk hS m0
  obtain ⟨hb0, rfl, b2, o2, k2⟩ := made_blk hH m1
  refine ⟨p, sb, hb0, rfl, ⟨?_, k1, ⟨List.replicate (clamp h) 0, k2, ?_⟩, own_nil _ _ _ _, hpb, b1, b2, ?_, clamp_le h, ?_⟩, hb⟩
  · rw [List.length_replicate, List.length_replicate] at hbox
    rw [List.length_replicate]
    exact hbox
  · rw [List.length_replicate]; exact Nat.zero_add _
  · intro he
    subst he
    exact o1.1 rfl
  · rw [List.length_replicate]; exact clamp_le s
end Go.Proofs.Ytgpekomaoeockaa.MemC
