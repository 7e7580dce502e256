/- What the reference's rule computes. -/
import Derived.Test.YtoiahldbahdaoaaFlowFS
namespace Go.Proofs.Ytoiahldbahdaoaa.Flow
open Go.RowKit Go.Proofs.Ytoiahldbahdaoaa.QFlowSteps Go.Proofs.YtoiahldbahdaoaaW.PrintWords Go.Proofs.YtoiahldbahdaoaaW.PrintLast Go.Proofs.Ytoiahldbahdaoaa.Chain
set_option linter.unusedVariables false
set_option linter.unusedSimpArgs false
theorem rlocal_val (x : S41) (n : Int) (h : x.f0.length + x.f1.length ≤ 1000) : plimsollref05_Local.f x.f0 x.f1 x.f2.f0 x.f2.f1 x.f3 x.f4 x.f5 x.f6 n = some ((localV x n).f0, (localV x n).f1) := by
  unfold plimsollref05_Local.f localV
  simp only [Option.bind_some, List.nil_append, List.length_nil]
  refine (if_pos (by omega)).trans ((if_pos (by omega)).trans ?_)
  rw [← List.length_append]
  generalize x.f0 ++ x.f1 = l
  by_cases h0 : n < 0
  · rw [if_pos h0, if_pos (.inl h0)]
  · rw [if_neg h0]
    by_cases h1 : (l.length : Int) ≤ n
    · rw [if_pos h1, if_pos (.inr h1)]
    · rw [if_neg (by omega), if_pos (by omega), if_pos (by omega), if_neg (by omega)]
section
variable {w : World} {a : IA} {m : Im} {b : MA} {x : S41}
theorem rlocal_c (hx : MC w b x) (hl : x.f0.length + x.f1.length ≤ 1000) (n : Int) : Calls Try.prog 24 #[.agg #[.slice b.A0 x.f0.length b.c0, .slice b.A1 x.f1.length b.c1, .int .i64 x.f2.f0, .int .i64 x.f2.f1, .slice b.A4 x.f3.length b.c4, .int .i64 x.f4, .int .i64 x.f5, .slice b.A7 x.f6.length b.c7], .int .i64 n] w fun e w' => e = .returned (.agg #[.int .i64 (localV x n).f0, .int .i64 (localV x n).f1]) ∧ Below w.heap.size w w' :=
  plimsollref05_Local.calls b.A0 b.c0 x.f0 b.A1 b.c1 x.f1 x.f2.f0 x.f2.f1 b.A4 b.c4 x.f3 x.f4 x.f5 b.A7 b.c7 x.f6 n _ _ w hx.h0 hx.n0 hx.h1 hx.n1 hx.h4 hx.n4 hx.h7 hx.n7 (rlocal_val x n hl)
theorem rslot_val (c n : Int) (h0 : 0 ≤ c) (h1 : c < (m.c.length : Int)) (h2 : 0 ≤ n) (h3 : n < ((rd_T80 m.c c).f2.length : Int)) : plimsollref05_Slot.f m.c m.s m.n m.m m.e m.sk m.hp c n = some (slotV m c n, true) := by
  unfold plimsollref05_Slot.f slotV
  exact (if_neg (by omega)).trans ((if_neg (by omega)).trans ((if_neg (by omega)).trans ((if_pos h0).trans ((if_pos h1).trans ((if_neg (by omega)).trans ((if_pos h2).trans (if_pos h3)))))))
theorem rslot_c (hm : IC w a m) (c n : Int) (h0 : 0 ≤ c) (h1 : c < (m.c.length : Int)) (h2 : 0 ≤ n) (h3 : n < ((rd_T80 m.c c).f2.length : Int)) : Calls Try.prog 27 #[.agg #[.slice a.A0 m.c.length a.c0, .slice a.A1 m.s.length a.c1, .slice a.A2 m.n.length a.c2, .slice a.A3 m.m.length a.c3, .slice a.A4 m.e.length a.c4, .int .i64 m.sk, .int .i64 m.hp], .int .i64 c, .int .i64 n] w fun e w' => e = .returned (.tuple #[.int .i64 (slotV m c n), .bool true]) ∧ Below w.heap.size w w' :=
  plimsollref05_Slot.calls a.A0 a.c0 m.c a.A1 a.c1 m.s a.A2 a.c2 m.n a.A3 a.c3 m.m a.A4 a.c4 m.e m.sk m.hp c n _ _ w hm.h0 hm.n0 hm.h1 hm.n1 hm.h2 hm.n2 hm.h3 hm.n3 hm.h4 hm.n4 (rslot_val c n h0 h1 h2 h3)
theorem rgives_c (hx : MC w b x) : Calls Try.prog 26 #[.agg #[.slice b.A0 x.f0.length b.c0, .slice b.A1 x.f1.length b.c1, .int .i64 x.f2.f0, .int .i64 x.f2.f1, .slice b.A4 x.f3.length b.c4, .int .i64 x.f4, .int .i64 x.f5, .slice b.A7 x.f6.length b.c7]] w fun e w' => ∃ v, e = .returned v ∧ RowT w' w.heap.size v (givesV x) ∧ Below w.heap.size w w' := by
  refine (plimsollref08_gives.calls b.A0 b.c0 x.f0 b.A1 b.c1 x.f1 x.f2.f0 x.f2.f1 b.A4 b.c4 x.f3 x.f4 x.f5 b.A7 b.c7 x.f6 (givesV x) w hx.h0 hx.n0 hx.h1 hx.n1 hx.h4 hx.n4 hx.h7 hx.n7 ?_).mono ?_
  · unfold plimsollref08_gives.f givesV
    by_cases h5 : x.f2.f0 = 5
    · rw [if_pos h5, if_pos h5]
    · rw [if_neg h5, if_neg h5]
  rintro e w' ⟨v, rfl, hr, hb⟩
  exact ⟨v, rfl, RowT.ofR hr, hb⟩
theorem rfields_c (hm : IC w a m) (ht : tot m.c < 200) (c : Int) : Calls Try.prog 25 #[.agg #[.slice a.A0 m.c.length a.c0, .slice a.A1 m.s.length a.c1, .slice a.A2 m.n.length a.c2, .slice a.A3 m.m.length a.c3, .slice a.A4 m.e.length a.c4, .int .i64 m.sk, .int .i64 m.hp], .int .i64 c] w fun e w' => ∃ v, e = .returned v ∧ RowT w' w.heap.size v (flds m.c c) ∧ Below w.heap.size w w' := by
  refine (rfields_calls hm ht c).mono ?_
  rintro e w' ⟨v, rfl, hr, hb⟩
  exact ⟨v, rfl, RowT.ofR hr, hb⟩
end
/-- A row that is read, wherever it lies. -/
theorem RowT.ofC {w : World} {A : Option Addr} {c : Nat} {l : List S38} (h : Kd.C k38 w A l.length l) (hc : l.length ≤ c) : RowT w 0 (.slice A l.length c) l :=
  ⟨A, c, rfl, hc, Kd.F_mono (Kd.C_F heapT h) (fun _ _ => Nat.zero_le _)⟩
theorem cutr {w : World} {B c : Nat} {A : Option Addr} {l : List S38} (h : RowT w B (.slice A l.length c) l) {b : Nat} (hb : b < l.length) (hc : ¬ c = b) : RowT w B (.slice (A.map fun x => x.add (b * 2)) 1 (c - b)) [rd_T38 l (b : Int)] := by
  obtain ⟨A', c', e, h1, h2⟩ := h
  injection e with e1 _ e3
  subst e1 e3
  have h3 := Kd.F_mid (lo := b) (hi := b + 1) h2 (by omega) (by omega) h1
  rw [if_neg hc] at h3
  have e : (l.take (b + 1)).drop b = [rd_T38 l (b : Int)] := by
    rw [tt hb, List.drop_take, List.drop_eq_getElem_cons hb, show b + 1 - b = 1 by omega]
    rfl
  rw [e] at h3
  exact ⟨_, _, rfl, by simp; omega, h3⟩
theorem one_reps (w : World) (base : Nat) (ok : Nat → Prop) (A : Int) : Reps (k38.M w base ok) 2 [tO A] [.int .i64 3, .int .i64 A] := by
  exact (Reps.none (k38.M w base ok) 2).snoc (p := tO A) (c := [.int .i64 3, .int .i64 A]) (k38_mkM w base ok (tO A)) rfl
theorem cutT {w : World} {A : Option Addr} {c : Nat} {l : List S38} (hl : Kd.C k38 w A l.length l) (hc : l.length ≤ c) (h1 : l.length ≠ 0) : Kd.C k38 w (if c = 1 then A else A.map (fun x => { block := x.block, off := x.off + 2 })) (l.length - 1) (l.drop 1) := by
  have h := Kd.C_drop (m := 1) hl (by omega) hc
  rw [List.length_drop] at h
  exact h
end Go.Proofs.Ytoiahldbahdaoaa.Flow
