/- The walk: an image's first parts. -/
import Derived.Test.YtcfbhobpfnlkpaaJudgeFA
namespace Go.Proofs.Ytcfbhobpfnlkpaa.Flow
open Go.RowKit Go.Proofs.Ytcfbhobpfnlkpaa.QJudgeFound Go.Proofs.YtcfbhobpfnlkpaaW.PrintWords Go.Proofs.YtcfbhobpfnlkpaaW.PrintLast Go.Proofs.Ytcfbhobpfnlkpaa.Chain
set_option linter.unusedVariables false
set_option linter.unusedSimpArgs false
theorem bcell {W w1 : World} (hb : Below W.heap.size W w1) : (∀ b o, b < W.heap.size → w1.cell? ⟨b, o, none⟩ = W.cell? ⟨b, o, none⟩) ∧ (∀ b o, b < W.heap.size → w1.frozen? ⟨b, o, none⟩ = W.frozen? ⟨b, o, none⟩) :=
  ⟨fun b o h => hb.cell (p := ⟨b, o, none⟩) h, fun b o h => hb.frozen (p := ⟨b, o, none⟩) h⟩
theorem good_calls {w : World} {a : IA} {m : Im} (hm : IC w a m) {A : Option Addr} {c : Nat} {l : List S39} (hl : Kd.C k39 w A l.length l) (hc : l.length ≤ c) :
    Calls Try.prog 24 #[.agg #[.slice a.A0 m.c.length a.c0, .slice a.A1 m.s.length a.c1, .slice a.A2 m.n.length a.c2, .slice a.A3 m.m.length a.c3, .slice a.A4 m.e.length a.c4, .int .i64 m.sk, .int .i64 m.hp], .slice A l.length c] w fun e w' => e = .returned (.bool (l.all (goodT m.c.length))) ∧ Below w.heap.size w w' := by
  exact plimsollref05_good.calls (l.length + 1) a.A0 a.c0 m.c a.A1 a.c1 m.s a.A2 a.c2 m.n a.A3 a.c3 m.m a.A4 a.c4 m.e m.sk m.hp A c l _ w hm.h0 hm.n0 hm.h1 hm.n1 hm.h2 hm.n2 hm.h3 hm.n3 hm.h4 hm.n4 hl hc (good_all m.c m.s m.n m.m m.e m.sk m.hp l (Kd.C_max hl) _ (Nat.le_refl _))
theorem Good_calls (w : World) (t0 t1 n : Int) : Calls Try.prog 41 #[.agg #[.int .i64 t0, .int .i64 t1], .int .i64 n] w fun e w' => e = .returned (.bool (goodT n ⟨t0, t1⟩)) ∧ Below w.heap.size w w' :=
  plimsollref01_Good.calls t0 t1 n _ w (goodT_val ⟨t0, t1⟩ n)
structure MB (W : World) (g : Nat) (a : IA) (m : Im) (b : MA) (x : S52) : Prop where
  i : W.heap[g]? = some (.cells #[.slice a.A0 m.c.length a.c0, .slice a.A1 m.s.length a.c1, .slice a.A2 m.n.length a.c2, .slice a.A3 m.m.length a.c3, .slice a.A4 m.e.length a.c4, .int .i64 m.sk, .int .i64 m.hp] 28 (0, 0))
  x : W.heap[g + 1]? = some (.cells #[.slice b.A0 x.f0.length b.c0, .slice b.A1 x.f1.length b.c1, .int .i64 x.f2.f0, .int .i64 x.f2.f1, .slice b.A4 x.f3.length b.c4, .int .i64 x.f4, .int .i64 x.f5, .slice b.A7 x.f6.length b.c7] 52 (0, 0))
theorem blk2 (w : World) (o1 o2 : Obj) : ((w.alloc o1).alloc o2).heap[w.heap.size]? = some o1 ∧ ((w.alloc o1).alloc o2).heap[w.heap.size + 1]? = some o2 := by
  have e1 := heap_alloc_new w o1
  have e2 := heap_alloc_new (w.alloc o1) o2
  have z1 : (w.alloc o1).heap.size = w.heap.size + 1 := by simp
  rw [z1] at e2
  exact ⟨blk_alloc e1 o2, e2⟩
theorem MB.init (w : World) (a : IA) (m : Im) (b : MA) (x : S52) : MB ((w.alloc (.cells #[.slice a.A0 m.c.length a.c0, .slice a.A1 m.s.length a.c1, .slice a.A2 m.n.length a.c2, .slice a.A3 m.m.length a.c3, .slice a.A4 m.e.length a.c4, .int .i64 m.sk, .int .i64 m.hp] 28)).alloc (.cells #[.slice b.A0 x.f0.length b.c0, .slice b.A1 x.f1.length b.c1, .int .i64 x.f2.f0, .int .i64 x.f2.f1, .slice b.A4 x.f3.length b.c4, .int .i64 x.f4, .int .i64 x.f5, .slice b.A7 x.f6.length b.c7] 52)) w.heap.size a m b x :=
  ⟨(blk2 w _ _).1, (blk2 w _ _).2⟩
theorem MB.below {W W' : World} {g : Nat} {a : IA} {m : Im} {b : MA} {x : S52} (h : MB W g a m b x) (hb : Below W.heap.size W W') : MB W' g a m b x := ⟨blk_below h.i hb, blk_below h.x hb⟩
theorem named_calls' (a : IA) (m : Im) (b : MA) (x : S52) (op A B : Int) (w : World) (hm : IC w a m) (hx : MC w b x) (ht : tot m.c < 200) (hA : 0 ≤ A) (hs : x.f0.length + x.f1.length ≤ 1000) {p : Bool} (hp : namedB m x op A B = p) :
    Calls Try.prog 43 #[.agg #[.slice a.A0 m.c.length a.c0, .slice a.A1 m.s.length a.c1, .slice a.A2 m.n.length a.c2, .slice a.A3 m.m.length a.c3, .slice a.A4 m.e.length a.c4, .int .i64 m.sk, .int .i64 m.hp], .agg #[.slice b.A0 x.f0.length b.c0, .slice b.A1 x.f1.length b.c1, .int .i64 x.f2.f0, .int .i64 x.f2.f1, .slice b.A4 x.f3.length b.c4, .int .i64 x.f4, .int .i64 x.f5, .slice b.A7 x.f6.length b.c7], .agg #[.int .i64 op, .int .i64 A, .int .i64 B]] w fun e w' => e = .returned (.bool p) ∧ Below w.heap.size w w' := by
  subst hp
  exact named_calls a m b x op A B w hm hx ht hA hs
def methodB (m : Im) (x : S52) : Bool :=
  x.f0.all (goodT m.c.length) && (x.f1.all (goodT m.c.length) && ((decide (x.f2.f0 = 5 ∧ x.f2.f1 = 0) || goodT m.c.length x.f2) && (decide (x.f3.length ≠ 0) && (decide (x.f6.length = x.f3.length) && (decide (x.f0.length + x.f1.length ≤ 8) && x.f3.all (fun i => namedB m x i.f0 i.f1 i.f2))))))
theorem below_mid {w W w3 : World} (h : Below w.heap.size w W) (h3 : Below W.heap.size W w3) : Below w.heap.size w w3 := below_step h h3
theorem if_fold {p q : Bool} (h : p = false) : (p && q) = false := by rw [h]; rfl
set_option maxHeartbeats 8000000 in
set_option maxRecDepth 100000 in
theorem method_calls (a : IA) (m : Im) (b : MA) (x : S52) (w : World) (hm : IC w a m) (hx : MC w b x) (ht : tot m.c < 200) (hi : ∀ i ∈ x.f3, 0 ≤ i.f1) (hl0 : x.f0.length ≤ 100) (hl1 : x.f1.length ≤ 100) (hl3 : x.f3.length ≤ 100) :
    Calls Try.prog 26 #[.agg #[.slice a.A0 m.c.length a.c0, .slice a.A1 m.s.length a.c1, .slice a.A2 m.n.length a.c2, .slice a.A3 m.m.length a.c3, .slice a.A4 m.e.length a.c4, .int .i64 m.sk, .int .i64 m.hp], .agg #[.slice b.A0 x.f0.length b.c0, .slice b.A1 x.f1.length b.c1, .int .i64 x.f2.f0, .int .i64 x.f2.f1, .slice b.A4 x.f3.length b.c4, .int .i64 x.f4, .int .i64 x.f5, .slice b.A7 x.f6.length b.c7]] w fun e w' => e = .returned (.bool (methodB m x)) ∧ Below w.heap.size w w' := by
  obtain ⟨f0, f1, ⟨t0, t1⟩, f3, f4, f5, f6⟩ := x
  obtain ⟨A0, A1, A4, A7, c0, c1, c4, c7⟩ := b
  dsimp only at hi hl0 hl1 hl3 ⊢
  have HM := Aside0.mk hm
  have HX := Aside0.mk hx
  have HT := Aside0.mk ht
  have HI := Aside0.mk hi
  clear hm hx ht hi
  by_cases h1 : f0.all (goodT m.c.length) = true
  case neg =>
    have h1 : f0.all (goodT m.c.length) = false := by simpa using h1
    have e : methodB m ⟨f0, f1, ⟨t0, t1⟩, f3, f4, f5, f6⟩ = false := by unfold methodB; rw [h1]; rfl
    rw [e]
    clear e
    go_enter Try.func26, Try.ntmps26
    go_wp2_with (first
      | (go_at_call 24; first
          | ((with_reducible refine (good_calls (HM.out.below bel) (Kd.C_below HX.out.h0 bel) HX.out.n0).mono ?_); rintro e w3 ⟨rfl, hb3⟩; obtain ⟨hc3, hf3⟩ := bcell hb3; have hz3 : w.heap.size + 1 < w3.heap.size := (lts hb3.size); have hy3 : w.heap.size < w3.heap.size := (by omega); have HB3 : Below w.heap.size w w3 := below_mid bel hb3; have HC3 := Aside0.mk hb3; clear hb3)
          | ((with_reducible refine (good_calls (HM.out.below bel) (Kd.C_below HX.out.h1 bel) HX.out.n1).mono ?_); rintro e w4 ⟨rfl, hb4⟩; obtain ⟨hc4, hf4⟩ := bcell hb4; have hz4 : w.heap.size + 1 < w4.heap.size := (lts hb4.size); have hy4 : w.heap.size < w4.heap.size := (by omega); have HB4 : Below w.heap.size w w4 := below_mid bel hb4; have HC4 := Aside0.mk hb4; clear hb4)))
    all_goals
      go_ret
      exact ⟨rfl, bel⟩
  have K1 : methodB m ⟨f0, f1, ⟨t0, t1⟩, f3, f4, f5, f6⟩ = ((f1.all (goodT m.c.length) && ((decide (t0 = 5 ∧ t1 = 0) || goodT m.c.length ⟨t0, t1⟩) && (decide (f3.length ≠ 0) && (decide (f6.length = f3.length) && (decide (f0.length + f1.length ≤ 8) && f3.all (fun i => namedB m ⟨f0, f1, ⟨t0, t1⟩, f3, f4, f5, f6⟩ i.f0 i.f1 i.f2))))))) := by unfold methodB; rw [h1]; rfl
  by_cases h2 : f1.all (goodT m.c.length) = true
  case neg =>
    have h2 : f1.all (goodT m.c.length) = false := by simpa using h2
    have e : methodB m ⟨f0, f1, ⟨t0, t1⟩, f3, f4, f5, f6⟩ = false := by rw [K1, h2]; rfl
    rw [e]
    clear e K1
    go_enter Try.func26, Try.ntmps26
    go_wp2_with (first
      | (go_at_call 24; first
          | ((with_reducible refine (good_calls (HM.out.below bel) (Kd.C_below HX.out.h0 bel) HX.out.n0).mono ?_); rintro e w3 ⟨rfl, hb3⟩; obtain ⟨hc3, hf3⟩ := bcell hb3; have hz3 : w.heap.size + 1 < w3.heap.size := (lts hb3.size); have hy3 : w.heap.size < w3.heap.size := (by omega); have HB3 : Below w.heap.size w w3 := below_mid bel hb3; have HC3 := Aside0.mk hb3; clear hb3)
          | ((with_reducible refine (good_calls (HM.out.below bel) (Kd.C_below HX.out.h1 bel) HX.out.n1).mono ?_); rintro e w4 ⟨rfl, hb4⟩; obtain ⟨hc4, hf4⟩ := bcell hb4; have hz4 : w.heap.size + 1 < w4.heap.size := (lts hb4.size); have hy4 : w.heap.size < w4.heap.size := (by omega); have HB4 : Below w.heap.size w w4 := below_mid bel hb4; have HC4 := Aside0.mk hb4; clear hb4)))
    all_goals
      go_ret
      exact ⟨rfl, bel⟩
  have K2 : methodB m ⟨f0, f1, ⟨t0, t1⟩, f3, f4, f5, f6⟩ = ((decide (t0 = 5 ∧ t1 = 0) || goodT m.c.length ⟨t0, t1⟩) && (decide (f3.length ≠ 0) && (decide (f6.length = f3.length) && (decide (f0.length + f1.length ≤ 8) && f3.all (fun i => namedB m ⟨f0, f1, ⟨t0, t1⟩, f3, f4, f5, f6⟩ i.f0 i.f1 i.f2))))) := by rw [K1, h2]; rfl
  clear K1
  by_cases h3 : (decide (t0 = 5 ∧ t1 = 0) || goodT m.c.length ⟨t0, t1⟩) = true
  case neg =>
    have h3 : (decide (t0 = 5 ∧ t1 = 0) || goodT m.c.length ⟨t0, t1⟩) = false := by simpa using h3
    have e : methodB m ⟨f0, f1, ⟨t0, t1⟩, f3, f4, f5, f6⟩ = false := by rw [K2, h3]; rfl
    rw [e]
    clear e K2
    rw [Bool.or_eq_false_iff] at h3
    obtain ⟨g1, g2⟩ := h3
    have g1 : ¬ (t0 = 5 ∧ t1 = 0) := of_decide_eq_false g1
    have g1 : t0 ≠ 5 ∨ (t0 = 5 ∧ t1 ≠ 0) := by
      by_cases e : t0 = 5
      · exact .inr ⟨e, fun e1 => g1 ⟨e, e1⟩⟩
      · exact .inl e
    rcases g1 with g1 | ⟨rfl, g1⟩
    all_goals
      go_enter Try.func26, Try.ntmps26
      go_wp2_with (first
        | (go_at_call 24; first
            | ((with_reducible refine (good_calls (HM.out.below bel) (Kd.C_below HX.out.h0 bel) HX.out.n0).mono ?_); rintro e w3 ⟨rfl, hb3⟩; obtain ⟨hc3, hf3⟩ := bcell hb3; have hz3 : w.heap.size + 1 < w3.heap.size := (lts hb3.size); have hy3 : w.heap.size < w3.heap.size := (by omega); have HB3 : Below w.heap.size w w3 := below_mid bel hb3; have HC3 := Aside0.mk hb3; clear hb3)
            | ((with_reducible refine (good_calls (HM.out.below bel) (Kd.C_below HX.out.h1 bel) HX.out.n1).mono ?_); rintro e w4 ⟨rfl, hb4⟩; obtain ⟨hc4, hf4⟩ := bcell hb4; have hz4 : w.heap.size + 1 < w4.heap.size := (lts hb4.size); have hy4 : w.heap.size < w4.heap.size := (by omega); have HB4 : Below w.heap.size w w4 := below_mid bel hb4; have HC4 := Aside0.mk hb4; clear hb4))
        | (go_at_call 41; refine (Good_calls _ _ _ _).mono ?_; rintro e w5 ⟨rfl, hb5⟩; obtain ⟨hc5, hf5⟩ := bcell hb5; have hz5 : w.heap.size + 1 < w5.heap.size := (lts hb5.size); have hy5 : w.heap.size < w5.heap.size := (by omega); have HB5 : Below w.heap.size w w5 := below_mid bel hb5; have HC5 := Aside0.mk hb5; clear hb5))
      all_goals
        go_ret
        exact ⟨rfl, bel⟩
  have K3 : methodB m ⟨f0, f1, ⟨t0, t1⟩, f3, f4, f5, f6⟩ = (decide (f3.length ≠ 0) && (decide (f6.length = f3.length) && (decide (f0.length + f1.length ≤ 8) && f3.all (fun i => namedB m ⟨f0, f1, ⟨t0, t1⟩, f3, f4, f5, f6⟩ i.f0 i.f1 i.f2)))) := by rw [K2, h3]; rfl
  clear K2
  have hret : (t0 = 5 ∧ t1 = 0) ∨ (t0 ≠ 5 ∧ goodT m.c.length ⟨t0, t1⟩ = true) ∨ (t0 = 5 ∧ t1 ≠ 0 ∧ goodT m.c.length ⟨t0, t1⟩ = true) := by
    by_cases g : t0 = 5 ∧ t1 = 0
    · exact .inl g
    · rw [Bool.or_eq_true] at h3
      rcases h3 with h3 | h3
      · exact absurd (of_decide_eq_true h3) g
      · by_cases e : t0 = 5
        · exact .inr (.inr ⟨e, fun e1 => g ⟨e, e1⟩, h3⟩)
        · exact .inr (.inl ⟨e, h3⟩)
  clear h3
  by_cases h4 : f3.length = 0
  case pos =>
    have e : methodB m ⟨f0, f1, ⟨t0, t1⟩, f3, f4, f5, f6⟩ = false := by rw [K3, h4]; rfl
    rw [e]
    clear e K3
    have d4 : ((f3.length : Int) == 0) = true := by rw [h4]; rfl
    rcases hret with ⟨rfl, rfl⟩ | ⟨r1, r2⟩ | ⟨rfl, r1, r2⟩
    all_goals
      go_enter Try.func26, Try.ntmps26
      go_wp2_with (first
        | (go_at_call 24; first
            | ((with_reducible refine (good_calls (HM.out.below bel) (Kd.C_below HX.out.h0 bel) HX.out.n0).mono ?_); rintro e w3 ⟨rfl, hb3⟩; obtain ⟨hc3, hf3⟩ := bcell hb3; have hz3 : w.heap.size + 1 < w3.heap.size := (lts hb3.size); have hy3 : w.heap.size < w3.heap.size := (by omega); have HB3 : Below w.heap.size w w3 := below_mid bel hb3; have HC3 := Aside0.mk hb3; clear hb3)
            | ((with_reducible refine (good_calls (HM.out.below bel) (Kd.C_below HX.out.h1 bel) HX.out.n1).mono ?_); rintro e w4 ⟨rfl, hb4⟩; obtain ⟨hc4, hf4⟩ := bcell hb4; have hz4 : w.heap.size + 1 < w4.heap.size := (lts hb4.size); have hy4 : w.heap.size < w4.heap.size := (by omega); have HB4 : Below w.heap.size w w4 := below_mid bel hb4; have HC4 := Aside0.mk hb4; clear hb4))
        | (go_at_call 41; refine (Good_calls _ _ _ _).mono ?_; rintro e w5 ⟨rfl, hb5⟩; obtain ⟨hc5, hf5⟩ := bcell hb5; have hz5 : w.heap.size + 1 < w5.heap.size := (lts hb5.size); have hy5 : w.heap.size < w5.heap.size := (by omega); have HB5 : Below w.heap.size w w5 := below_mid bel hb5; have HC5 := Aside0.mk hb5; clear hb5))
      all_goals
        go_ret
        exact ⟨rfl, bel⟩
  have d4 : ((f3.length : Int) == 0) = false := by simp only [beq_eq_false_iff_ne]; omega
  by_cases h5 : f6.length = f3.length
  case neg =>
    have e : methodB m ⟨f0, f1, ⟨t0, t1⟩, f3, f4, f5, f6⟩ = false := by rw [K3, decide_eq_false h5]; cases decide (f3.length ≠ 0) <;> rfl
    rw [e]
    clear e K3
    have d5 : (f6.length != f3.length) = true := by simpa using h5
    have d6 : ((f6.length : Int) != (f3.length : Int)) = true := by simp only [bne_iff_ne]; omega
    rcases hret with ⟨rfl, rfl⟩ | ⟨r1, r2⟩ | ⟨rfl, r1, r2⟩
    all_goals
      go_enter Try.func26, Try.ntmps26
      go_wp2_with (first
        | (go_at_call 24; first
            | ((with_reducible refine (good_calls (HM.out.below bel) (Kd.C_below HX.out.h0 bel) HX.out.n0).mono ?_); rintro e w3 ⟨rfl, hb3⟩; obtain ⟨hc3, hf3⟩ := bcell hb3; have hz3 : w.heap.size + 1 < w3.heap.size := (lts hb3.size); have hy3 : w.heap.size < w3.heap.size := (by omega); have HB3 : Below w.heap.size w w3 := below_mid bel hb3; have HC3 := Aside0.mk hb3; clear hb3)
            | ((with_reducible refine (good_calls (HM.out.below bel) (Kd.C_below HX.out.h1 bel) HX.out.n1).mono ?_); rintro e w4 ⟨rfl, hb4⟩; obtain ⟨hc4, hf4⟩ := bcell hb4; have hz4 : w.heap.size + 1 < w4.heap.size := (lts hb4.size); have hy4 : w.heap.size < w4.heap.size := (by omega); have HB4 : Below w.heap.size w w4 := below_mid bel hb4; have HC4 := Aside0.mk hb4; clear hb4))
        | (go_at_call 41; refine (Good_calls _ _ _ _).mono ?_; rintro e w5 ⟨rfl, hb5⟩; obtain ⟨hc5, hf5⟩ := bcell hb5; have hz5 : w.heap.size + 1 < w5.heap.size := (lts hb5.size); have hy5 : w.heap.size < w5.heap.size := (by omega); have HB5 : Below w.heap.size w w5 := below_mid bel hb5; have HC5 := Aside0.mk hb5; clear hb5))
      all_goals
        go_ret
        exact ⟨rfl, bel⟩
  have d5 : (f6.length != f3.length) = false := by simpa using h5
  have d6 : ((f6.length : Int) != (f3.length : Int)) = false := by simp only [bne_eq_false_iff_eq]; omega
  by_cases h6 : f0.length + f1.length ≤ 8
  case neg =>
    have e : methodB m ⟨f0, f1, ⟨t0, t1⟩, f3, f4, f5, f6⟩ = false := by rw [K3, decide_eq_false h6]; cases decide (f3.length ≠ 0) <;> cases decide (f6.length = f3.length) <;> rfl
    rw [e]
    clear e K3 h5
    have d7 : (decide (8 < (f0.length : Int) + (f1.length : Int))) = true := decide_eq_true (by omega)
    rcases hret with ⟨rfl, rfl⟩ | ⟨r1, r2⟩ | ⟨rfl, r1, r2⟩
    all_goals
      go_enter Try.func26, Try.ntmps26
      go_wp2_with (first
        | (go_at_call 24; first
            | ((with_reducible refine (good_calls (HM.out.below bel) (Kd.C_below HX.out.h0 bel) HX.out.n0).mono ?_); rintro e w3 ⟨rfl, hb3⟩; obtain ⟨hc3, hf3⟩ := bcell hb3; have hz3 : w.heap.size + 1 < w3.heap.size := (lts hb3.size); have hy3 : w.heap.size < w3.heap.size := (by omega); have HB3 : Below w.heap.size w w3 := below_mid bel hb3; have HC3 := Aside0.mk hb3; clear hb3)
            | ((with_reducible refine (good_calls (HM.out.below bel) (Kd.C_below HX.out.h1 bel) HX.out.n1).mono ?_); rintro e w4 ⟨rfl, hb4⟩; obtain ⟨hc4, hf4⟩ := bcell hb4; have hz4 : w.heap.size + 1 < w4.heap.size := (lts hb4.size); have hy4 : w.heap.size < w4.heap.size := (by omega); have HB4 : Below w.heap.size w w4 := below_mid bel hb4; have HC4 := Aside0.mk hb4; clear hb4))
        | (go_at_call 41; refine (Good_calls _ _ _ _).mono ?_; rintro e w5 ⟨rfl, hb5⟩; obtain ⟨hc5, hf5⟩ := bcell hb5; have hz5 : w.heap.size + 1 < w5.heap.size := (lts hb5.size); have hy5 : w.heap.size < w5.heap.size := (by omega); have HB5 : Below w.heap.size w w5 := below_mid bel hb5; have HC5 := Aside0.mk hb5; clear hb5))
      all_goals
        go_ret
        exact ⟨rfl, bel⟩
  have d7 : (decide (8 < (f0.length : Int) + (f1.length : Int))) = false := decide_eq_false (by omega)
  have K4 : methodB m ⟨f0, f1, ⟨t0, t1⟩, f3, f4, f5, f6⟩ = f3.all (fun i => namedB m ⟨f0, f1, ⟨t0, t1⟩, f3, f4, f5, f6⟩ i.f0 i.f1 i.f2) := by rw [K3, decide_eq_true h4, decide_eq_true h5, decide_eq_true h6]; rfl
  rw [K4]
  clear K3 K4 h5
  rcases hret with ⟨rfl, rfl⟩ | ⟨r1, r2⟩ | ⟨rfl, r1, r2⟩
  · go_enter Try.func26, Try.ntmps26
    go_wp2_with (first
      | (go_at_call 24; first
          | ((with_reducible refine (good_calls (HM.out.below bel) (Kd.C_below HX.out.h0 bel) HX.out.n0).mono ?_); rintro e w3 ⟨rfl, hb3⟩; obtain ⟨hc3, hf3⟩ := bcell hb3; have hz3 : w.heap.size + 1 < w3.heap.size := (lts hb3.size); have hy3 : w.heap.size < w3.heap.size := (by omega); have HB3 : Below w.heap.size w w3 := below_mid bel hb3; have HC3 := Aside0.mk hb3; clear hb3)
          | ((with_reducible refine (good_calls (HM.out.below bel) (Kd.C_below HX.out.h1 bel) HX.out.n1).mono ?_); rintro e w4 ⟨rfl, hb4⟩; obtain ⟨hc4, hf4⟩ := bcell hb4; have hz4 : w.heap.size + 1 < w4.heap.size := (lts hb4.size); have hy4 : w.heap.size < w4.heap.size := (by omega); have HB4 : Below w.heap.size w w4 := below_mid bel hb4; have HC4 := Aside0.mk hb4; clear hb4))
      | (go_at_call 41; refine (Good_calls _ _ _ _).mono ?_; rintro e w5 ⟨rfl, hb5⟩; obtain ⟨hc5, hf5⟩ := bcell hb5; have hz5 : w.heap.size + 1 < w5.heap.size := (lts hb5.size); have hy5 : w.heap.size < w5.heap.size := (by omega); have HB5 : Below w.heap.size w w5 := below_mid bel hb5; have HC5 := Aside0.mk hb5; clear hb5))
    refine see (F := fun w0_ => Below w.heap.size w w0_ ∧ MB w0_ w.heap.size a m ⟨A0, A1, A4, A7, c0, c1, c4, c7⟩ ⟨f0, f1, ⟨5, 0⟩, f3, f4, f5, f6⟩) _ ⟨bel, ((MB.init w a m ⟨A0, A1, A4, A7, c0, c1, c4, c7⟩ ⟨f0, f1, ⟨5, 0⟩, f3, f4, f5, f6⟩).below HC3.out).below HC4.out⟩ ?_
    rintro w0 ⟨hb0, hmb⟩
    have HB0 := Aside0.mk hb0
    have HMB := Aside0.mk hmb
    clear hb0 hmb hc3 hf3 hz3 hy3 HB3 HC3 hc4 hf4 hz4 hy4 HB4 HC4 
    clear h1 h2 h4 d4 d5 d6 d7 
    go_loopg [5] (f3.length + 1) (fun kq v5 w' => ∃ k : Nat, v5 = .int .i64 (k : Int) ∧ Aside0 (k ≤ f3.length) ∧ Aside0 (k + kq = f3.length + 1) ∧ Aside0 (∀ j (h : j < f3.length), j < k → namedB m ⟨f0, f1, ⟨5, 0⟩, f3, f4, f5, f6⟩ f3[j].f0 f3[j].f1 f3[j].f2 = true) ∧ Aside0 (Below w0.heap.size w0 w'))
    case atStart => exact ⟨0, rfl, ⟨Nat.zero_le _⟩, ⟨by omega⟩, ⟨fun j h hj => by omega⟩, ⟨Below.refl _ _⟩⟩
    case round =>
      obtain ⟨k, rfl, HK, HKQ, HP, HL⟩ := hrel
      have hmw := HMB.out.below HL.out
      have HBW := Aside0.mk (below_mid HB0.out HL.out)
      cases gk with
      | zero => exact absurd HK.out (by have := HKQ.out; omega)
      | succ k1 =>
        by_cases hk : k < f3.length
        · obtain ⟨ad, rfl, q0, q1, q2⟩ := at_T49 (show Kd.C k49 w A4 f3.length f3 from HX.out.h4) (k : Int) (by omega) (by omega)
          simp only [Int.toNat_natCast] at q0 q1 q2
          rw [ti hk] at q0 q1 q2
          obtain ⟨i, hi⟩ : ∃ i, f3[k] = i := ⟨_, rfl⟩
          rw [hi] at q0 q1 q2
          have HQ0 := Aside0.mk (keepc HBW.out q0)
          have HQ1 := Aside0.mk (keepc HBW.out q1)
          have HQ2 := Aside0.mk (keepc HBW.out q2)
          have HII := Aside0.mk (HI.out i (by rw [← hi]; exact List.getElem_mem hk))
          have HIE := Aside0.mk hi
          have HKK := Aside0.mk hk
          have hk0 : (0 : Int) ≤ (k : Int) := by omega
          have hk1 : (k : Int) < (f3.length : Int) := by omega
          have hk2 : (k : Int) ≤ 100 := by omega
          clear q0 q1 q2 hi
          obtain ⟨hmi, hmx⟩ := hmw
          have HMI := Aside0.mk hmi
          have HMX := Aside0.mk hmx
          clear hmi hmx
          obtain ⟨i0, i1, i2⟩ := i
          cases hp : namedB m ⟨f0, f1, ⟨5, 0⟩, f3, f4, f5, f6⟩ i0 i1 i2
          all_goals
            have HPP := Aside0.mk hp
            clear hp
            have hc9 := (blk_cell HMX.out 4).trans rfl
            go_wp2_with fail
            clear hc9
            have hq1_ := Aside0.mk (show wr.cell? ⟨w.heap.size, 0, none⟩ = some (.slice a.A0 m.c.length a.c0) from (blk_cell HMI.out 0).trans rfl)
            have hq2_ := Aside0.mk (show wr.cell? ⟨w.heap.size, 1, none⟩ = some (.slice a.A1 m.s.length a.c1) from (blk_cell HMI.out 1).trans rfl)
            have hq3_ := Aside0.mk (show wr.cell? ⟨w.heap.size, 2, none⟩ = some (.slice a.A2 m.n.length a.c2) from (blk_cell HMI.out 2).trans rfl)
            have hq4_ := Aside0.mk (show wr.cell? ⟨w.heap.size, 3, none⟩ = some (.slice a.A3 m.m.length a.c3) from (blk_cell HMI.out 3).trans rfl)
            have hq5_ := Aside0.mk (show wr.cell? ⟨w.heap.size, 4, none⟩ = some (.slice a.A4 m.e.length a.c4) from (blk_cell HMI.out 4).trans rfl)
            have hq6_ := Aside0.mk (show wr.cell? ⟨w.heap.size, 5, none⟩ = some (.int .i64 m.sk) from (blk_cell HMI.out 5).trans rfl)
            have hq7_ := Aside0.mk (show wr.cell? ⟨w.heap.size, 6, none⟩ = some (.int .i64 m.hp) from (blk_cell HMI.out 6).trans rfl)
            have hq8_ := Aside0.mk (show wr.cell? ⟨w.heap.size + 1, 0, none⟩ = some (.slice A0 f0.length c0) from (blk_cell HMX.out 0).trans rfl)
            have hq9_ := Aside0.mk (show wr.cell? ⟨w.heap.size + 1, 1, none⟩ = some (.slice A1 f1.length c1) from (blk_cell HMX.out 1).trans rfl)
            have hq10_ := Aside0.mk (show wr.cell? ⟨w.heap.size + 1, 2, none⟩ = some (.int .i64 5) from (blk_cell HMX.out 2).trans rfl)
            have hq11_ := Aside0.mk (show wr.cell? ⟨w.heap.size + 1, 3, none⟩ = some (.int .i64 0) from (blk_cell HMX.out 3).trans rfl)
            have hq12_ := Aside0.mk (show wr.cell? ⟨w.heap.size + 1, 4, none⟩ = some (.slice (some ad) f3.length c4) from (blk_cell HMX.out 4).trans rfl)
            have hq13_ := Aside0.mk (show wr.cell? ⟨w.heap.size + 1, 5, none⟩ = some (.int .i64 f4) from (blk_cell HMX.out 5).trans rfl)
            have hq14_ := Aside0.mk (show wr.cell? ⟨w.heap.size + 1, 6, none⟩ = some (.int .i64 f5) from (blk_cell HMX.out 6).trans rfl)
            have hq15_ := Aside0.mk (show wr.cell? ⟨w.heap.size + 1, 7, none⟩ = some (.slice A7 f6.length c7) from (blk_cell HMX.out 7).trans rfl)
            have hq16_ := Aside0.mk (show wr.cell? (ad.add (k * 3)) = some (.int .i64 i0) from HQ0.out)
            have hq17_ := Aside0.mk (show wr.cell? ⟨(ad.add (k * 3)).block, (ad.add (k * 3)).off + 1, none⟩ = some (.int .i64 i1) from HQ1.out)
            have hq18_ := Aside0.mk (show wr.cell? ⟨(ad.add (k * 3)).block, (ad.add (k * 3)).off + 2, none⟩ = some (.int .i64 i2) from HQ2.out)
            go_region_held3 (fun w' => Below wr.heap.size wr w' ∧ w'.cell? ⟨w.heap.size, 0, none⟩ = some (.slice a.A0 m.c.length a.c0) ∧ w'.cell? ⟨w.heap.size, 1, none⟩ = some (.slice a.A1 m.s.length a.c1) ∧ w'.cell? ⟨w.heap.size, 2, none⟩ = some (.slice a.A2 m.n.length a.c2) ∧ w'.cell? ⟨w.heap.size, 3, none⟩ = some (.slice a.A3 m.m.length a.c3) ∧ w'.cell? ⟨w.heap.size, 4, none⟩ = some (.slice a.A4 m.e.length a.c4) ∧ w'.cell? ⟨w.heap.size, 5, none⟩ = some (.int .i64 m.sk) ∧ w'.cell? ⟨w.heap.size, 6, none⟩ = some (.int .i64 m.hp) ∧ w'.cell? ⟨w.heap.size + 1, 0, none⟩ = some (.slice A0 f0.length c0) ∧ w'.cell? ⟨w.heap.size + 1, 1, none⟩ = some (.slice A1 f1.length c1) ∧ w'.cell? ⟨w.heap.size + 1, 2, none⟩ = some (.int .i64 5) ∧ w'.cell? ⟨w.heap.size + 1, 3, none⟩ = some (.int .i64 0) ∧ w'.cell? ⟨w.heap.size + 1, 4, none⟩ = some (.slice (some ad) f3.length c4) ∧ w'.cell? ⟨w.heap.size + 1, 5, none⟩ = some (.int .i64 f4) ∧ w'.cell? ⟨w.heap.size + 1, 6, none⟩ = some (.int .i64 f5) ∧ w'.cell? ⟨w.heap.size + 1, 7, none⟩ = some (.slice A7 f6.length c7) ∧ w'.cell? (ad.add (k * 3)) = some (.int .i64 i0) ∧ w'.cell? ⟨(ad.add (k * 3)).block, (ad.add (k * 3)).off + 1, none⟩ = some (.int .i64 i1) ∧ w'.cell? ⟨(ad.add (k * 3)).block, (ad.add (k * 3)).off + 2, none⟩ = some (.int .i64 i2)) (first | ((try dsimp only); refine ⟨?_, ?_, ?_, ?_, ?_, ?_, ?_, ?_, ?_, ?_, ?_, ?_, ?_, ?_, ?_, ?_, ?_, ?_, ?_⟩ <;> first | exact Below.drew (Below.refl _ _) | assumption | exact keepc (Below.drew (Below.refl _ _)) hq1_.out | exact keepc (by assumption) hq1_.out | exact keepc (Below.drew (Below.refl _ _)) hq2_.out | exact keepc (by assumption) hq2_.out | exact keepc (Below.drew (Below.refl _ _)) hq3_.out | exact keepc (by assumption) hq3_.out | exact keepc (Below.drew (Below.refl _ _)) hq4_.out | exact keepc (by assumption) hq4_.out | exact keepc (Below.drew (Below.refl _ _)) hq5_.out | exact keepc (by assumption) hq5_.out | exact keepc (Below.drew (Below.refl _ _)) hq6_.out | exact keepc (by assumption) hq6_.out | exact keepc (Below.drew (Below.refl _ _)) hq7_.out | exact keepc (by assumption) hq7_.out | exact keepc (Below.drew (Below.refl _ _)) hq8_.out | exact keepc (by assumption) hq8_.out | exact keepc (Below.drew (Below.refl _ _)) hq9_.out | exact keepc (by assumption) hq9_.out | exact keepc (Below.drew (Below.refl _ _)) hq10_.out | exact keepc (by assumption) hq10_.out | exact keepc (Below.drew (Below.refl _ _)) hq11_.out | exact keepc (by assumption) hq11_.out | exact keepc (Below.drew (Below.refl _ _)) hq12_.out | exact keepc (by assumption) hq12_.out | exact keepc (Below.drew (Below.refl _ _)) hq13_.out | exact keepc (by assumption) hq13_.out | exact keepc (Below.drew (Below.refl _ _)) hq14_.out | exact keepc (by assumption) hq14_.out | exact keepc (Below.drew (Below.refl _ _)) hq15_.out | exact keepc (by assumption) hq15_.out | exact keepc (Below.drew (Below.refl _ _)) hq16_.out | exact keepc (by assumption) hq16_.out | exact keepc (Below.drew (Below.refl _ _)) hq17_.out | exact keepc (by assumption) hq17_.out | exact keepc (Below.drew (Below.refl _ _)) hq18_.out | exact keepc (by assumption) hq18_.out)) ((go_simp; go_at_call 43; refine (named_calls' a m ⟨A0, A1, some ad, A7, c0, c1, c4, c7⟩ ⟨f0, f1, ⟨5, 0⟩, f3, f4, f5, f6⟩ i0 i1 i2 _ ((HM.out.below HBW.out).below (by first | exact Below.drew (Below.refl _ _) | assumption | exact And.left (by assumption))) ((HX.out.below HBW.out).below (by first | exact Below.drew (Below.refl _ _) | assumption | exact And.left (by assumption))) HT.out HII.out (by show f0.length + f1.length ≤ 1000; omega) HPP.out).mono ?_; rintro e w5 ⟨rfl, hb⟩; have HB5 : Below wr.heap.size wr w5 := below_step (by first | exact Below.drew (Below.refl _ _) | assumption | exact And.left (by assumption)) hb; clear hb))
            have HB9 := Aside0.mk (show Below wr.heap.size wr w5 by first | assumption | exact And.left (by assumption))
            clear HQ0 HQ1 HQ2 HMI HMX
          · go_wp2_with fail
            go_ret
            exact ⟨ret_b (List.all_eq_false.2 ⟨f3[k], List.getElem_mem hk, by rw [HIE.out]; simpa using HPP.out⟩).symm, below_mid HBW.out HB9.out⟩
          · go_wp2_with fail
            go_roundg k1
            case measure => have := HKQ.out; omega
            case rel =>
              refine ⟨k + 1, by go_num, ⟨by omega⟩, ⟨by have := HKQ.out; omega⟩, ⟨fun j h hj => ?_⟩, ⟨below_mid HL.out HB9.out⟩⟩
              rcases Nat.lt_or_ge j k with h9 | h9
              · exact HP.out j h h9
              · obtain rfl : j = k := by omega
                rw [HIE.out]
                exact HPP.out
        · have hke : k = f3.length := by have := HK.out; omega
          subst hke
          have hc9 := (blk_cell hmw.x 4).trans rfl
          have HA := Aside0.mk (show (f3.all (fun i => namedB m ⟨f0, f1, ⟨5, 0⟩, f3, f4, f5, f6⟩ i.f0 i.f1 i.f2)) = true from by rw [List.all_eq_true]; intro i hi; obtain ⟨j, hj, rfl⟩ := List.mem_iff_getElem.1 hi; exact HP.out j hj hj)
          clear HP hmw hk
          go_wp2_with fail
          go_ret
          exact ⟨ret_b HA.out.symm, HBW.out⟩
  · go_enter Try.func26, Try.ntmps26
    go_wp2_with (first
      | (go_at_call 24; first
          | ((with_reducible refine (good_calls (HM.out.below bel) (Kd.C_below HX.out.h0 bel) HX.out.n0).mono ?_); rintro e w3 ⟨rfl, hb3⟩; obtain ⟨hc3, hf3⟩ := bcell hb3; have hz3 : w.heap.size + 1 < w3.heap.size := (lts hb3.size); have hy3 : w.heap.size < w3.heap.size := (by omega); have HB3 : Below w.heap.size w w3 := below_mid bel hb3; have HC3 := Aside0.mk hb3; clear hb3)
          | ((with_reducible refine (good_calls (HM.out.below bel) (Kd.C_below HX.out.h1 bel) HX.out.n1).mono ?_); rintro e w4 ⟨rfl, hb4⟩; obtain ⟨hc4, hf4⟩ := bcell hb4; have hz4 : w.heap.size + 1 < w4.heap.size := (lts hb4.size); have hy4 : w.heap.size < w4.heap.size := (by omega); have HB4 : Below w.heap.size w w4 := below_mid bel hb4; have HC4 := Aside0.mk hb4; clear hb4))
      | (go_at_call 41; refine (Good_calls _ _ _ _).mono ?_; rintro e w5 ⟨rfl, hb5⟩; obtain ⟨hc5, hf5⟩ := bcell hb5; have hz5 : w.heap.size + 1 < w5.heap.size := (lts hb5.size); have hy5 : w.heap.size < w5.heap.size := (by omega); have HB5 : Below w.heap.size w w5 := below_mid bel hb5; have HC5 := Aside0.mk hb5; clear hb5))
    refine see (F := fun w0_ => Below w.heap.size w w0_ ∧ MB w0_ w.heap.size a m ⟨A0, A1, A4, A7, c0, c1, c4, c7⟩ ⟨f0, f1, ⟨t0, t1⟩, f3, f4, f5, f6⟩) _ ⟨bel, (((MB.init w a m ⟨A0, A1, A4, A7, c0, c1, c4, c7⟩ ⟨f0, f1, ⟨t0, t1⟩, f3, f4, f5, f6⟩).below HC3.out).below HC4.out).below HC5.out⟩ ?_
    rintro w0 ⟨hb0, hmb⟩
    have HB0 := Aside0.mk hb0
    have HMB := Aside0.mk hmb
    clear hb0 hmb hc3 hf3 hz3 hy3 HB3 HC3 hc4 hf4 hz4 hy4 HB4 HC4 hc5 hf5 hz5 hy5 HB5 HC5
    clear h1 h2 h4 d4 d5 d6 d7 r1 r2
    go_loopg [5] (f3.length + 1) (fun kq v5 w' => ∃ k : Nat, v5 = .int .i64 (k : Int) ∧ Aside0 (k ≤ f3.length) ∧ Aside0 (k + kq = f3.length + 1) ∧ Aside0 (∀ j (h : j < f3.length), j < k → namedB m ⟨f0, f1, ⟨t0, t1⟩, f3, f4, f5, f6⟩ f3[j].f0 f3[j].f1 f3[j].f2 = true) ∧ Aside0 (Below w0.heap.size w0 w'))
    case atStart => exact ⟨0, rfl, ⟨Nat.zero_le _⟩, ⟨by omega⟩, ⟨fun j h hj => by omega⟩, ⟨Below.refl _ _⟩⟩
    case round =>
      obtain ⟨k, rfl, HK, HKQ, HP, HL⟩ := hrel
      have hmw := HMB.out.below HL.out
      have HBW := Aside0.mk (below_mid HB0.out HL.out)
      cases gk with
      | zero => exact absurd HK.out (by have := HKQ.out; omega)
      | succ k1 =>
        by_cases hk : k < f3.length
        · obtain ⟨ad, rfl, q0, q1, q2⟩ := at_T49 (show Kd.C k49 w A4 f3.length f3 from HX.out.h4) (k : Int) (by omega) (by omega)
          simp only [Int.toNat_natCast] at q0 q1 q2
          rw [ti hk] at q0 q1 q2
          obtain ⟨i, hi⟩ : ∃ i, f3[k] = i := ⟨_, rfl⟩
          rw [hi] at q0 q1 q2
          have HQ0 := Aside0.mk (keepc HBW.out q0)
          have HQ1 := Aside0.mk (keepc HBW.out q1)
          have HQ2 := Aside0.mk (keepc HBW.out q2)
          have HII := Aside0.mk (HI.out i (by rw [← hi]; exact List.getElem_mem hk))
          have HIE := Aside0.mk hi
          have HKK := Aside0.mk hk
          have hk0 : (0 : Int) ≤ (k : Int) := by omega
          have hk1 : (k : Int) < (f3.length : Int) := by omega
          have hk2 : (k : Int) ≤ 100 := by omega
          clear q0 q1 q2 hi
          obtain ⟨hmi, hmx⟩ := hmw
          have HMI := Aside0.mk hmi
          have HMX := Aside0.mk hmx
          clear hmi hmx
          obtain ⟨i0, i1, i2⟩ := i
          cases hp : namedB m ⟨f0, f1, ⟨t0, t1⟩, f3, f4, f5, f6⟩ i0 i1 i2
          all_goals
            have HPP := Aside0.mk hp
            clear hp
            have hc9 := (blk_cell HMX.out 4).trans rfl
            go_wp2_with fail
            clear hc9
            have hq1_ := Aside0.mk (show wr.cell? ⟨w.heap.size, 0, none⟩ = some (.slice a.A0 m.c.length a.c0) from (blk_cell HMI.out 0).trans rfl)
            have hq2_ := Aside0.mk (show wr.cell? ⟨w.heap.size, 1, none⟩ = some (.slice a.A1 m.s.length a.c1) from (blk_cell HMI.out 1).trans rfl)
            have hq3_ := Aside0.mk (show wr.cell? ⟨w.heap.size, 2, none⟩ = some (.slice a.A2 m.n.length a.c2) from (blk_cell HMI.out 2).trans rfl)
            have hq4_ := Aside0.mk (show wr.cell? ⟨w.heap.size, 3, none⟩ = some (.slice a.A3 m.m.length a.c3) from (blk_cell HMI.out 3).trans rfl)
            have hq5_ := Aside0.mk (show wr.cell? ⟨w.heap.size, 4, none⟩ = some (.slice a.A4 m.e.length a.c4) from (blk_cell HMI.out 4).trans rfl)
            have hq6_ := Aside0.mk (show wr.cell? ⟨w.heap.size, 5, none⟩ = some (.int .i64 m.sk) from (blk_cell HMI.out 5).trans rfl)
            have hq7_ := Aside0.mk (show wr.cell? ⟨w.heap.size, 6, none⟩ = some (.int .i64 m.hp) from (blk_cell HMI.out 6).trans rfl)
            have hq8_ := Aside0.mk (show wr.cell? ⟨w.heap.size + 1, 0, none⟩ = some (.slice A0 f0.length c0) from (blk_cell HMX.out 0).trans rfl)
            have hq9_ := Aside0.mk (show wr.cell? ⟨w.heap.size + 1, 1, none⟩ = some (.slice A1 f1.length c1) from (blk_cell HMX.out 1).trans rfl)
            have hq10_ := Aside0.mk (show wr.cell? ⟨w.heap.size + 1, 2, none⟩ = some (.int .i64 t0) from (blk_cell HMX.out 2).trans rfl)
            have hq11_ := Aside0.mk (show wr.cell? ⟨w.heap.size + 1, 3, none⟩ = some (.int .i64 t1) from (blk_cell HMX.out 3).trans rfl)
            have hq12_ := Aside0.mk (show wr.cell? ⟨w.heap.size + 1, 4, none⟩ = some (.slice (some ad) f3.length c4) from (blk_cell HMX.out 4).trans rfl)
            have hq13_ := Aside0.mk (show wr.cell? ⟨w.heap.size + 1, 5, none⟩ = some (.int .i64 f4) from (blk_cell HMX.out 5).trans rfl)
            have hq14_ := Aside0.mk (show wr.cell? ⟨w.heap.size + 1, 6, none⟩ = some (.int .i64 f5) from (blk_cell HMX.out 6).trans rfl)
            have hq15_ := Aside0.mk (show wr.cell? ⟨w.heap.size + 1, 7, none⟩ = some (.slice A7 f6.length c7) from (blk_cell HMX.out 7).trans rfl)
            have hq16_ := Aside0.mk (show wr.cell? (ad.add (k * 3)) = some (.int .i64 i0) from HQ0.out)
            have hq17_ := Aside0.mk (show wr.cell? ⟨(ad.add (k * 3)).block, (ad.add (k * 3)).off + 1, none⟩ = some (.int .i64 i1) from HQ1.out)
            have hq18_ := Aside0.mk (show wr.cell? ⟨(ad.add (k * 3)).block, (ad.add (k * 3)).off + 2, none⟩ = some (.int .i64 i2) from HQ2.out)
            go_region_held3 (fun w' => Below wr.heap.size wr w' ∧ w'.cell? ⟨w.heap.size, 0, none⟩ = some (.slice a.A0 m.c.length a.c0) ∧ w'.cell? ⟨w.heap.size, 1, none⟩ = some (.slice a.A1 m.s.length a.c1) ∧ w'.cell? ⟨w.heap.size, 2, none⟩ = some (.slice a.A2 m.n.length a.c2) ∧ w'.cell? ⟨w.heap.size, 3, none⟩ = some (.slice a.A3 m.m.length a.c3) ∧ w'.cell? ⟨w.heap.size, 4, none⟩ = some (.slice a.A4 m.e.length a.c4) ∧ w'.cell? ⟨w.heap.size, 5, none⟩ = some (.int .i64 m.sk) ∧ w'.cell? ⟨w.heap.size, 6, none⟩ = some (.int .i64 m.hp) ∧ w'.cell? ⟨w.heap.size + 1, 0, none⟩ = some (.slice A0 f0.length c0) ∧ w'.cell? ⟨w.heap.size + 1, 1, none⟩ = some (.slice A1 f1.length c1) ∧ w'.cell? ⟨w.heap.size + 1, 2, none⟩ = some (.int .i64 t0) ∧ w'.cell? ⟨w.heap.size + 1, 3, none⟩ = some (.int .i64 t1) ∧ w'.cell? ⟨w.heap.size + 1, 4, none⟩ = some (.slice (some ad) f3.length c4) ∧ w'.cell? ⟨w.heap.size + 1, 5, none⟩ = some (.int .i64 f4) ∧ w'.cell? ⟨w.heap.size + 1, 6, none⟩ = some (.int .i64 f5) ∧ w'.cell? ⟨w.heap.size + 1, 7, none⟩ = some (.slice A7 f6.length c7) ∧ w'.cell? (ad.add (k * 3)) = some (.int .i64 i0) ∧ w'.cell? ⟨(ad.add (k * 3)).block, (ad.add (k * 3)).off + 1, none⟩ = some (.int .i64 i1) ∧ w'.cell? ⟨(ad.add (k * 3)).block, (ad.add (k * 3)).off + 2, none⟩ = some (.int .i64 i2)) (first | ((try dsimp only); refine ⟨?_, ?_, ?_, ?_, ?_, ?_, ?_, ?_, ?_, ?_, ?_, ?_, ?_, ?_, ?_, ?_, ?_, ?_, ?_⟩ <;> first | exact Below.drew (Below.refl _ _) | assumption | exact keepc (Below.drew (Below.refl _ _)) hq1_.out | exact keepc (by assumption) hq1_.out | exact keepc (Below.drew (Below.refl _ _)) hq2_.out | exact keepc (by assumption) hq2_.out | exact keepc (Below.drew (Below.refl _ _)) hq3_.out | exact keepc (by assumption) hq3_.out | exact keepc (Below.drew (Below.refl _ _)) hq4_.out | exact keepc (by assumption) hq4_.out | exact keepc (Below.drew (Below.refl _ _)) hq5_.out | exact keepc (by assumption) hq5_.out | exact keepc (Below.drew (Below.refl _ _)) hq6_.out | exact keepc (by assumption) hq6_.out | exact keepc (Below.drew (Below.refl _ _)) hq7_.out | exact keepc (by assumption) hq7_.out | exact keepc (Below.drew (Below.refl _ _)) hq8_.out | exact keepc (by assumption) hq8_.out | exact keepc (Below.drew (Below.refl _ _)) hq9_.out | exact keepc (by assumption) hq9_.out | exact keepc (Below.drew (Below.refl _ _)) hq10_.out | exact keepc (by assumption) hq10_.out | exact keepc (Below.drew (Below.refl _ _)) hq11_.out | exact keepc (by assumption) hq11_.out | exact keepc (Below.drew (Below.refl _ _)) hq12_.out | exact keepc (by assumption) hq12_.out | exact keepc (Below.drew (Below.refl _ _)) hq13_.out | exact keepc (by assumption) hq13_.out | exact keepc (Below.drew (Below.refl _ _)) hq14_.out | exact keepc (by assumption) hq14_.out | exact keepc (Below.drew (Below.refl _ _)) hq15_.out | exact keepc (by assumption) hq15_.out | exact keepc (Below.drew (Below.refl _ _)) hq16_.out | exact keepc (by assumption) hq16_.out | exact keepc (Below.drew (Below.refl _ _)) hq17_.out | exact keepc (by assumption) hq17_.out | exact keepc (Below.drew (Below.refl _ _)) hq18_.out | exact keepc (by assumption) hq18_.out)) ((go_simp; go_at_call 43; refine (named_calls' a m ⟨A0, A1, some ad, A7, c0, c1, c4, c7⟩ ⟨f0, f1, ⟨t0, t1⟩, f3, f4, f5, f6⟩ i0 i1 i2 _ ((HM.out.below HBW.out).below (by first | exact Below.drew (Below.refl _ _) | assumption | exact And.left (by assumption))) ((HX.out.below HBW.out).below (by first | exact Below.drew (Below.refl _ _) | assumption | exact And.left (by assumption))) HT.out HII.out (by show f0.length + f1.length ≤ 1000; omega) HPP.out).mono ?_; rintro e w5 ⟨rfl, hb⟩; have HB5 : Below wr.heap.size wr w5 := below_step (by first | exact Below.drew (Below.refl _ _) | assumption | exact And.left (by assumption)) hb; clear hb))
            have HB9 := Aside0.mk (show Below wr.heap.size wr w5 by first | assumption | exact And.left (by assumption))
            clear HQ0 HQ1 HQ2 HMI HMX
          · go_wp2_with fail
            go_ret
            exact ⟨ret_b (List.all_eq_false.2 ⟨f3[k], List.getElem_mem hk, by rw [HIE.out]; simpa using HPP.out⟩).symm, below_mid HBW.out HB9.out⟩
          · go_wp2_with fail
            go_roundg k1
            case measure => have := HKQ.out; omega
            case rel =>
              refine ⟨k + 1, by go_num, ⟨by omega⟩, ⟨by have := HKQ.out; omega⟩, ⟨fun j h hj => ?_⟩, ⟨below_mid HL.out HB9.out⟩⟩
              rcases Nat.lt_or_ge j k with h9 | h9
              · exact HP.out j h h9
              · obtain rfl : j = k := by omega
                rw [HIE.out]
                exact HPP.out
        · have hke : k = f3.length := by have := HK.out; omega
          subst hke
          have hc9 := (blk_cell hmw.x 4).trans rfl
          have HA := Aside0.mk (show (f3.all (fun i => namedB m ⟨f0, f1, ⟨t0, t1⟩, f3, f4, f5, f6⟩ i.f0 i.f1 i.f2)) = true from by rw [List.all_eq_true]; intro i hi; obtain ⟨j, hj, rfl⟩ := List.mem_iff_getElem.1 hi; exact HP.out j hj hj)
          clear HP hmw hk
          go_wp2_with fail
          go_ret
          exact ⟨ret_b HA.out.symm, HBW.out⟩
  · go_enter Try.func26, Try.ntmps26
    go_wp2_with (first
      | (go_at_call 24; first
          | ((with_reducible refine (good_calls (HM.out.below bel) (Kd.C_below HX.out.h0 bel) HX.out.n0).mono ?_); rintro e w3 ⟨rfl, hb3⟩; obtain ⟨hc3, hf3⟩ := bcell hb3; have hz3 : w.heap.size + 1 < w3.heap.size := (lts hb3.size); have hy3 : w.heap.size < w3.heap.size := (by omega); have HB3 : Below w.heap.size w w3 := below_mid bel hb3; have HC3 := Aside0.mk hb3; clear hb3)
          | ((with_reducible refine (good_calls (HM.out.below bel) (Kd.C_below HX.out.h1 bel) HX.out.n1).mono ?_); rintro e w4 ⟨rfl, hb4⟩; obtain ⟨hc4, hf4⟩ := bcell hb4; have hz4 : w.heap.size + 1 < w4.heap.size := (lts hb4.size); have hy4 : w.heap.size < w4.heap.size := (by omega); have HB4 : Below w.heap.size w w4 := below_mid bel hb4; have HC4 := Aside0.mk hb4; clear hb4))
      | (go_at_call 41; refine (Good_calls _ _ _ _).mono ?_; rintro e w5 ⟨rfl, hb5⟩; obtain ⟨hc5, hf5⟩ := bcell hb5; have hz5 : w.heap.size + 1 < w5.heap.size := (lts hb5.size); have hy5 : w.heap.size < w5.heap.size := (by omega); have HB5 : Below w.heap.size w w5 := below_mid bel hb5; have HC5 := Aside0.mk hb5; clear hb5))
    refine see (F := fun w0_ => Below w.heap.size w w0_ ∧ MB w0_ w.heap.size a m ⟨A0, A1, A4, A7, c0, c1, c4, c7⟩ ⟨f0, f1, ⟨5, t1⟩, f3, f4, f5, f6⟩) _ ⟨bel, (((MB.init w a m ⟨A0, A1, A4, A7, c0, c1, c4, c7⟩ ⟨f0, f1, ⟨5, t1⟩, f3, f4, f5, f6⟩).below HC3.out).below HC4.out).below HC5.out⟩ ?_
    rintro w0 ⟨hb0, hmb⟩
    have HB0 := Aside0.mk hb0
    have HMB := Aside0.mk hmb
    clear hb0 hmb hc3 hf3 hz3 hy3 HB3 HC3 hc4 hf4 hz4 hy4 HB4 HC4 hc5 hf5 hz5 hy5 HB5 HC5
    clear h1 h2 h4 d4 d5 d6 d7 r1 r2
    go_loopg [5] (f3.length + 1) (fun kq v5 w' => ∃ k : Nat, v5 = .int .i64 (k : Int) ∧ Aside0 (k ≤ f3.length) ∧ Aside0 (k + kq = f3.length + 1) ∧ Aside0 (∀ j (h : j < f3.length), j < k → namedB m ⟨f0, f1, ⟨5, t1⟩, f3, f4, f5, f6⟩ f3[j].f0 f3[j].f1 f3[j].f2 = true) ∧ Aside0 (Below w0.heap.size w0 w'))
    case atStart => exact ⟨0, rfl, ⟨Nat.zero_le _⟩, ⟨by omega⟩, ⟨fun j h hj => by omega⟩, ⟨Below.refl _ _⟩⟩
    case round =>
      obtain ⟨k, rfl, HK, HKQ, HP, HL⟩ := hrel
      have hmw := HMB.out.below HL.out
      have HBW := Aside0.mk (below_mid HB0.out HL.out)
      cases gk with
      | zero => exact absurd HK.out (by have := HKQ.out; omega)
      | succ k1 =>
        by_cases hk : k < f3.length
        · obtain ⟨ad, rfl, q0, q1, q2⟩ := at_T49 (show Kd.C k49 w A4 f3.length f3 from HX.out.h4) (k : Int) (by omega) (by omega)
          simp only [Int.toNat_natCast] at q0 q1 q2
          rw [ti hk] at q0 q1 q2
          obtain ⟨i, hi⟩ : ∃ i, f3[k] = i := ⟨_, rfl⟩
          rw [hi] at q0 q1 q2
          have HQ0 := Aside0.mk (keepc HBW.out q0)
          have HQ1 := Aside0.mk (keepc HBW.out q1)
          have HQ2 := Aside0.mk (keepc HBW.out q2)
          have HII := Aside0.mk (HI.out i (by rw [← hi]; exact List.getElem_mem hk))
          have HIE := Aside0.mk hi
          have HKK := Aside0.mk hk
          have hk0 : (0 : Int) ≤ (k : Int) := by omega
          have hk1 : (k : Int) < (f3.length : Int) := by omega
          have hk2 : (k : Int) ≤ 100 := by omega
          clear q0 q1 q2 hi
          obtain ⟨hmi, hmx⟩ := hmw
          have HMI := Aside0.mk hmi
          have HMX := Aside0.mk hmx
          clear hmi hmx
          obtain ⟨i0, i1, i2⟩ := i
          cases hp : namedB m ⟨f0, f1, ⟨5, t1⟩, f3, f4, f5, f6⟩ i0 i1 i2
          all_goals
            have HPP := Aside0.mk hp
            clear hp
            have hc9 := (blk_cell HMX.out 4).trans rfl
            go_wp2_with fail
            clear hc9
            have hq1_ := Aside0.mk (show wr.cell? ⟨w.heap.size, 0, none⟩ = some (.slice a.A0 m.c.length a.c0) from (blk_cell HMI.out 0).trans rfl)
            have hq2_ := Aside0.mk (show wr.cell? ⟨w.heap.size, 1, none⟩ = some (.slice a.A1 m.s.length a.c1) from (blk_cell HMI.out 1).trans rfl)
            have hq3_ := Aside0.mk (show wr.cell? ⟨w.heap.size, 2, none⟩ = some (.slice a.A2 m.n.length a.c2) from (blk_cell HMI.out 2).trans rfl)
            have hq4_ := Aside0.mk (show wr.cell? ⟨w.heap.size, 3, none⟩ = some (.slice a.A3 m.m.length a.c3) from (blk_cell HMI.out 3).trans rfl)
            have hq5_ := Aside0.mk (show wr.cell? ⟨w.heap.size, 4, none⟩ = some (.slice a.A4 m.e.length a.c4) from (blk_cell HMI.out 4).trans rfl)
            have hq6_ := Aside0.mk (show wr.cell? ⟨w.heap.size, 5, none⟩ = some (.int .i64 m.sk) from (blk_cell HMI.out 5).trans rfl)
            have hq7_ := Aside0.mk (show wr.cell? ⟨w.heap.size, 6, none⟩ = some (.int .i64 m.hp) from (blk_cell HMI.out 6).trans rfl)
            have hq8_ := Aside0.mk (show wr.cell? ⟨w.heap.size + 1, 0, none⟩ = some (.slice A0 f0.length c0) from (blk_cell HMX.out 0).trans rfl)
            have hq9_ := Aside0.mk (show wr.cell? ⟨w.heap.size + 1, 1, none⟩ = some (.slice A1 f1.length c1) from (blk_cell HMX.out 1).trans rfl)
            have hq10_ := Aside0.mk (show wr.cell? ⟨w.heap.size + 1, 2, none⟩ = some (.int .i64 5) from (blk_cell HMX.out 2).trans rfl)
            have hq11_ := Aside0.mk (show wr.cell? ⟨w.heap.size + 1, 3, none⟩ = some (.int .i64 t1) from (blk_cell HMX.out 3).trans rfl)
            have hq12_ := Aside0.mk (show wr.cell? ⟨w.heap.size + 1, 4, none⟩ = some (.slice (some ad) f3.length c4) from (blk_cell HMX.out 4).trans rfl)
            have hq13_ := Aside0.mk (show wr.cell? ⟨w.heap.size + 1, 5, none⟩ = some (.int .i64 f4) from (blk_cell HMX.out 5).trans rfl)
            have hq14_ := Aside0.mk (show wr.cell? ⟨w.heap.size + 1, 6, none⟩ = some (.int .i64 f5) from (blk_cell HMX.out 6).trans rfl)
            have hq15_ := Aside0.mk (show wr.cell? ⟨w.heap.size + 1, 7, none⟩ = some (.slice A7 f6.length c7) from (blk_cell HMX.out 7).trans rfl)
            have hq16_ := Aside0.mk (show wr.cell? (ad.add (k * 3)) = some (.int .i64 i0) from HQ0.out)
            have hq17_ := Aside0.mk (show wr.cell? ⟨(ad.add (k * 3)).block, (ad.add (k * 3)).off + 1, none⟩ = some (.int .i64 i1) from HQ1.out)
            have hq18_ := Aside0.mk (show wr.cell? ⟨(ad.add (k * 3)).block, (ad.add (k * 3)).off + 2, none⟩ = some (.int .i64 i2) from HQ2.out)
            go_region_held3 (fun w' => Below wr.heap.size wr w' ∧ w'.cell? ⟨w.heap.size, 0, none⟩ = some (.slice a.A0 m.c.length a.c0) ∧ w'.cell? ⟨w.heap.size, 1, none⟩ = some (.slice a.A1 m.s.length a.c1) ∧ w'.cell? ⟨w.heap.size, 2, none⟩ = some (.slice a.A2 m.n.length a.c2) ∧ w'.cell? ⟨w.heap.size, 3, none⟩ = some (.slice a.A3 m.m.length a.c3) ∧ w'.cell? ⟨w.heap.size, 4, none⟩ = some (.slice a.A4 m.e.length a.c4) ∧ w'.cell? ⟨w.heap.size, 5, none⟩ = some (.int .i64 m.sk) ∧ w'.cell? ⟨w.heap.size, 6, none⟩ = some (.int .i64 m.hp) ∧ w'.cell? ⟨w.heap.size + 1, 0, none⟩ = some (.slice A0 f0.length c0) ∧ w'.cell? ⟨w.heap.size + 1, 1, none⟩ = some (.slice A1 f1.length c1) ∧ w'.cell? ⟨w.heap.size + 1, 2, none⟩ = some (.int .i64 5) ∧ w'.cell? ⟨w.heap.size + 1, 3, none⟩ = some (.int .i64 t1) ∧ w'.cell? ⟨w.heap.size + 1, 4, none⟩ = some (.slice (some ad) f3.length c4) ∧ w'.cell? ⟨w.heap.size + 1, 5, none⟩ = some (.int .i64 f4) ∧ w'.cell? ⟨w.heap.size + 1, 6, none⟩ = some (.int .i64 f5) ∧ w'.cell? ⟨w.heap.size + 1, 7, none⟩ = some (.slice A7 f6.length c7) ∧ w'.cell? (ad.add (k * 3)) = some (.int .i64 i0) ∧ w'.cell? ⟨(ad.add (k * 3)).block, (ad.add (k * 3)).off + 1, none⟩ = some (.int .i64 i1) ∧ w'.cell? ⟨(ad.add (k * 3)).block, (ad.add (k * 3)).off + 2, none⟩ = some (.int .i64 i2)) (first | ((try dsimp only); refine ⟨?_, ?_, ?_, ?_, ?_, ?_, ?_, ?_, ?_, ?_, ?_, ?_, ?_, ?_, ?_, ?_, ?_, ?_, ?_⟩ <;> first | exact Below.drew (Below.refl _ _) | assumption | exact keepc (Below.drew (Below.refl _ _)) hq1_.out | exact keepc (by assumption) hq1_.out | exact keepc (Below.drew (Below.refl _ _)) hq2_.out | exact keepc (by assumption) hq2_.out | exact keepc (Below.drew (Below.refl _ _)) hq3_.out | exact keepc (by assumption) hq3_.out | exact keepc (Below.drew (Below.refl _ _)) hq4_.out | exact keepc (by assumption) hq4_.out | exact keepc (Below.drew (Below.refl _ _)) hq5_.out | exact keepc (by assumption) hq5_.out | exact keepc (Below.drew (Below.refl _ _)) hq6_.out | exact keepc (by assumption) hq6_.out | exact keepc (Below.drew (Below.refl _ _)) hq7_.out | exact keepc (by assumption) hq7_.out | exact keepc (Below.drew (Below.refl _ _)) hq8_.out | exact keepc (by assumption) hq8_.out | exact keepc (Below.drew (Below.refl _ _)) hq9_.out | exact keepc (by assumption) hq9_.out | exact keepc (Below.drew (Below.refl _ _)) hq10_.out | exact keepc (by assumption) hq10_.out | exact keepc (Below.drew (Below.refl _ _)) hq11_.out | exact keepc (by assumption) hq11_.out | exact keepc (Below.drew (Below.refl _ _)) hq12_.out | exact keepc (by assumption) hq12_.out | exact keepc (Below.drew (Below.refl _ _)) hq13_.out | exact keepc (by assumption) hq13_.out | exact keepc (Below.drew (Below.refl _ _)) hq14_.out | exact keepc (by assumption) hq14_.out | exact keepc (Below.drew (Below.refl _ _)) hq15_.out | exact keepc (by assumption) hq15_.out | exact keepc (Below.drew (Below.refl _ _)) hq16_.out | exact keepc (by assumption) hq16_.out | exact keepc (Below.drew (Below.refl _ _)) hq17_.out | exact keepc (by assumption) hq17_.out | exact keepc (Below.drew (Below.refl _ _)) hq18_.out | exact keepc (by assumption) hq18_.out)) ((go_simp; go_at_call 43; refine (named_calls' a m ⟨A0, A1, some ad, A7, c0, c1, c4, c7⟩ ⟨f0, f1, ⟨5, t1⟩, f3, f4, f5, f6⟩ i0 i1 i2 _ ((HM.out.below HBW.out).below (by first | exact Below.drew (Below.refl _ _) | assumption | exact And.left (by assumption))) ((HX.out.below HBW.out).below (by first | exact Below.drew (Below.refl _ _) | assumption | exact And.left (by assumption))) HT.out HII.out (by show f0.length + f1.length ≤ 1000; omega) HPP.out).mono ?_; rintro e w5 ⟨rfl, hb⟩; have HB5 : Below wr.heap.size wr w5 := below_step (by first | exact Below.drew (Below.refl _ _) | assumption | exact And.left (by assumption)) hb; clear hb))
            have HB9 := Aside0.mk (show Below wr.heap.size wr w5 by first | assumption | exact And.left (by assumption))
            clear HQ0 HQ1 HQ2 HMI HMX
          · go_wp2_with fail
            go_ret
            exact ⟨ret_b (List.all_eq_false.2 ⟨f3[k], List.getElem_mem hk, by rw [HIE.out]; simpa using HPP.out⟩).symm, below_mid HBW.out HB9.out⟩
          · go_wp2_with fail
            go_roundg k1
            case measure => have := HKQ.out; omega
            case rel =>
              refine ⟨k + 1, by go_num, ⟨by omega⟩, ⟨by have := HKQ.out; omega⟩, ⟨fun j h hj => ?_⟩, ⟨below_mid HL.out HB9.out⟩⟩
              rcases Nat.lt_or_ge j k with h9 | h9
              · exact HP.out j h h9
              · obtain rfl : j = k := by omega
                rw [HIE.out]
                exact HPP.out
        · have hke : k = f3.length := by have := HK.out; omega
          subst hke
          have hc9 := (blk_cell hmw.x 4).trans rfl
          have HA := Aside0.mk (show (f3.all (fun i => namedB m ⟨f0, f1, ⟨5, t1⟩, f3, f4, f5, f6⟩ i.f0 i.f1 i.f2)) = true from by rw [List.all_eq_true]; intro i hi; obtain ⟨j, hj, rfl⟩ := List.mem_iff_getElem.1 hi; exact HP.out j hj hj)
          clear HP hmw hk
          go_wp2_with fail
          go_ret
          exact ⟨ret_b HA.out.symm, HBW.out⟩
end Go.Proofs.Ytcfbhobpfnlkpaa.Flow
