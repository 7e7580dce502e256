/- Types behind an instruction, as a value. -/
import Derived.Test.YtoiahldbahdaoaaFlowFQ
namespace Go.Proofs.Ytoiahldbahdaoaa.Flow
open Go.RowKit Go.Proofs.Ytoiahldbahdaoaa.QFlowSteps Go.Proofs.YtoiahldbahdaoaaW.PrintWords Go.Proofs.YtoiahldbahdaoaaW.PrintLast Go.Proofs.Ytoiahldbahdaoaa.Chain
set_option linter.unusedVariables false
set_option linter.unusedSimpArgs false
def takesV (m : Im) (x : S41) (op A B : Int) : Int := if op = 6 then 1 else ((ofV m x op A B).1.length : Int)
set_option maxHeartbeats 8000000 in
set_option maxRecDepth 100000 in
theorem takes_calls (a : IA) (m : Im) (f op A B : Int) (w : World) (hm : IC w a m) (hs : SaneP m) (hf0 : 0 ≤ f) (hf1 : f < (m.m.length : Int)) (hA : 0 ≤ A) (hA1 : A ≤ 255) (hB : 0 ≤ B) (hB1 : B ≤ 255) (hn : namedB m (rd_T41 m.m f) op A B = true) :
    Calls Try.prog 13 #[.agg #[.slice a.A0 m.c.length a.c0, .slice a.A1 m.s.length a.c1, .slice a.A2 m.n.length a.c2, .slice a.A3 m.m.length a.c3, .slice a.A4 m.e.length a.c4, .int .i64 m.sk, .int .i64 m.hp], .agg #[.int .i64 op, .int .i64 A, .int .i64 B], .int .i64 f] w fun e w' => e = .returned (.int .i64 (takesV m (rd_T41 m.m f) op A B)) ∧ Below w.heap.size w w' := by
  have HM := Aside0.mk hm
  have HS := Aside0.mk hs
  have HN := Aside0.mk hn
  unfold takesV
  by_cases h6 : op = 6
  · subst h6
    go_enter Try.func13, Try.ntmps13
    go_wp2_with fail
    go_ret
    exact ⟨rfl, bel⟩
  · rw [if_neg h6]
    have d6 : (op == 6) = false := by simpa using h6
    clear hm hs hn
    have hfld : ∀ (x y : Value) (W : World), (Instr.field 57 (.agg #[x, y]) 0).run Try.prog W = .ok x W := fun x y W => rfl
    go_enter Try.func13, Try.ntmps13
    go_wp2_with (first | (go_at_call 21; (refine (of_calls a m f op A B _ (HM.out.below bel) HS.out hf0 hf1 hA hA1 hB hB1 HN.out).mono ?_); rintro e w1 ⟨vi, vo, rfl, hi, ho, hb1⟩; obtain ⟨Ai, ci, rfl⟩ := hi.slice; obtain ⟨Ao, co, rfl⟩ := ho.slice; clear hi ho; have HB1 : Below w.heap.size w w1 := below_mid bel hb1; clear hb1))
    go_ret
    exact ⟨ret_i (by simp), bel⟩
end Go.Proofs.Ytoiahldbahdaoaa.Flow
