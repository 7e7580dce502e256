/- Small walks of the laws. -/
import Derived.Test.YtcfbhobpfnlkpaaJudgeJW
import Derived.Test.YtcfbhobpfnlkpaaJudgeJS
namespace Go.Proofs.Ytcfbhobpfnlkpaa.Flow
open Go.RowKit Go.Proofs.Ytcfbhobpfnlkpaa.QJudgeFound Go.Proofs.YtcfbhobpfnlkpaaW.PrintWords Go.Proofs.YtcfbhobpfnlkpaaW.PrintLast Go.Proofs.Ytcfbhobpfnlkpaa.Chain
set_option linter.unusedVariables false
set_option linter.unusedSimpArgs false
set_option linter.unusedVariables false
set_option linter.unusedSimpArgs false
theorem law_sane_c {w : World} {a : IA} {m : Im} (hm : IC w a m) {q : Bool} (hq : saneB m = q) : Calls Try.prog 6 #[.agg #[.slice a.A0 m.c.length a.c0, .slice a.A1 m.s.length a.c1, .slice a.A2 m.n.length a.c2, .slice a.A3 m.m.length a.c3, .slice a.A4 m.e.length a.c4, .int .i64 m.sk, .int .i64 m.hp]] w fun e w' => e = .returned (.bool q) ∧ Below w.heap.size w w' := by
  subst hq
  exact law_sane a m w hm
theorem over_u (a : IA) (m : Im) (AL : Option Addr) (l : List (List Shp)) (w : World) (hm : IC w a m) (hC : Kd.C (Kd.slice 44 k44) w AL l.length (unM l)) {p : Bool} (hp : overB m l l = p) :
    Calls Try.prog 11 #[.agg #[.slice a.A0 m.c.length a.c0, .slice a.A1 m.s.length a.c1, .slice a.A2 m.n.length a.c2, .slice a.A3 m.m.length a.c3, .slice a.A4 m.e.length a.c4, .int .i64 m.sk, .int .i64 m.hp], .slice AL l.length l.length, .slice AL l.length l.length] w fun e w' => e = .returned (.bool p) ∧ Below w.heap.size w w' := by
  have e := unM_len l
  have h := over_c a m AL AL l.length l.length (unM l) (unM l) w hm (by rw [e]; exact hC) (Nat.le_of_eq e) (by rw [e]; exact hC) (Nat.le_of_eq e) (p := p) (by rw [mps_unM]; exact hp)
  rw [e] at h
  exact h
end Go.Proofs.Ytcfbhobpfnlkpaa.Flow
