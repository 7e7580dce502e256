/- An image's rows in the world, and their words. -/
import Derived.Test.YtcfbhobpfnlkpaaJudgeFV
namespace Go.Proofs.Ytcfbhobpfnlkpaa.Flow
open Go.RowKit Go.Proofs.Ytcfbhobpfnlkpaa.QJudgeFound Go.Proofs.YtcfbhobpfnlkpaaW.PrintWords Go.Proofs.YtcfbhobpfnlkpaaW.PrintLast Go.Proofs.Ytcfbhobpfnlkpaa.Chain
set_option linter.unusedVariables false
set_option linter.unusedSimpArgs false
theorem lts {a n m : Nat} (h : n ≤ m) (h2 : a < n := by first | omega | (simp; done) | (simp; omega)) : a < m := Nat.lt_of_lt_of_le h2 h
theorem bel {w W : World} {B : Nat} (h : Below B w W := by repeat (first | exact Below.refl _ _ | assumption | apply below_alloc | apply pw_below_drewN | apply below_drew)) : Below B w W := h
structure Im where
  c : List S80
  s : List S39
  n : List Int
  m : List S52
  e : List Int
  sk : Int
  hp : Int
structure IA where
  A0 : Option Addr
  A1 : Option Addr
  A2 : Option Addr
  A3 : Option Addr
  A4 : Option Addr
  c0 : Nat
  c1 : Nat
  c2 : Nat
  c3 : Nat
  c4 : Nat
structure IC (w : World) (a : IA) (m : Im) : Prop where
  h0 : Kd.C k80 w a.A0 m.c.length m.c
  h1 : Kd.C k39 w a.A1 m.s.length m.s
  h2 : Kd.C (Kd.int .i32) w a.A2 m.n.length m.n
  h3 : Kd.C k52 w a.A3 m.m.length m.m
  h4 : Kd.C (Kd.int .i64) w a.A4 m.e.length m.e
  n0 : m.c.length ≤ a.c0
  n1 : m.s.length ≤ a.c1
  n2 : m.n.length ≤ a.c2
  n3 : m.m.length ≤ a.c3
  n4 : m.e.length ≤ a.c4
theorem IC.below {w w' : World} {a : IA} {m : Im} (h : IC w a m) (hb : Below w.heap.size w w') : IC w' a m :=
  ⟨Kd.C_below h.h0 hb, Kd.C_below h.h1 hb, Kd.C_below h.h2 hb, Kd.C_below h.h3 hb, Kd.C_below h.h4 hb, h.n0, h.n1, h.n2, h.n3, h.n4⟩
structure MA where
  A0 : Option Addr
  A1 : Option Addr
  A4 : Option Addr
  A7 : Option Addr
  c0 : Nat
  c1 : Nat
  c4 : Nat
  c7 : Nat
structure MC (w : World) (b : MA) (x : S52) : Prop where
  h0 : Kd.C k39 w b.A0 x.f0.length x.f0
  h1 : Kd.C k39 w b.A1 x.f1.length x.f1
  h4 : Kd.C k49 w b.A4 x.f3.length x.f3
  h7 : Kd.C (Kd.int .i64) w b.A7 x.f6.length x.f6
  n0 : x.f0.length ≤ b.c0
  n1 : x.f1.length ≤ b.c1
  n4 : x.f3.length ≤ b.c4
  n7 : x.f6.length ≤ b.c7
theorem MC.below {w w' : World} {b : MA} {x : S52} (h : MC w b x) (hb : Below w.heap.size w w') : MC w' b x :=
  ⟨Kd.C_below h.h0 hb, Kd.C_below h.h1 hb, Kd.C_below h.h4 hb, Kd.C_below h.h7 hb, h.n0, h.n1, h.n4, h.n7⟩
section
variable {w : World} {a : IA} {m : Im}
theorem rfields_calls (hm : IC w a m) (ht : tot m.c < 200) (c : Int) : Calls Try.prog 42 #[.agg #[.slice a.A0 m.c.length a.c0, .slice a.A1 m.s.length a.c1, .slice a.A2 m.n.length a.c2, .slice a.A3 m.m.length a.c3, .slice a.A4 m.e.length a.c4, .int .i64 m.sk, .int .i64 m.hp], .int .i64 c] w fun e w' => ∃ v, e = .returned v ∧ Kd.R k39 39 w' w.heap.size (fun _ => True) v (flds m.c c) ∧ Below w.heap.size w w' :=
  plimsollref05_Fields.calls 1000 a.A0 a.c0 m.c a.A1 a.c1 m.s a.A2 a.c2 m.n a.A3 a.c3 m.m a.A4 a.c4 m.e m.sk m.hp c (flds m.c c) w hm.h0 hm.n0 hm.h1 hm.n1 hm.h2 hm.n2 hm.h3 hm.n3 hm.h4 hm.n4 (rfields_val m.c m.s m.n m.m m.e m.sk m.hp ht c 1000 (Nat.le_refl _))
end
def namedB (m : Im) (x : S52) (op A B : Int) : Bool :=
  if op = 1 then decide (A < (m.n.length : Int))
  else if op = 3 ∨ op = 4 then decide (A < ((x.f0.length + x.f1.length : Nat) : Int))
  else if op = 18 ∨ op = 19 then decide (A < (x.f3.length : Int))
  else if op = 22 ∨ op = 34 then decide (A < (m.c.length : Int))
  else if op = 27 ∨ op = 28 then decide (A < (m.c.length : Int)) && decide (B < ((flds m.c A).length : Int))
  else if op = 29 ∨ op = 30 then decide (A < (m.s.length : Int))
  else if op = 31 then decide (A < (m.m.length : Int))
  else if op = 32 then decide (A < (m.c.length : Int)) && decide (B < ((rd_T80 m.c A).f2.length : Int))
  else true
theorem keepc {w w' : World} (hb : Below w.heap.size w w') {a : Addr} {v : Value} (h : w.cell? a = some v) : w'.cell? a = some v := (hb.cell (World.block_lt_of_cell? w _ h)).trans h
theorem blk3 (w : World) (o1 o2 o3 : Obj) : (((w.alloc o1).alloc o2).alloc o3).heap[w.heap.size]? = some o1 ∧ (((w.alloc o1).alloc o2).alloc o3).heap[w.heap.size + 1]? = some o2 ∧ (((w.alloc o1).alloc o2).alloc o3).heap[w.heap.size + 1 + 1]? = some o3 := by
  have e1 := heap_alloc_new w o1
  have e2 := heap_alloc_new (w.alloc o1) o2
  have e3 := heap_alloc_new ((w.alloc o1).alloc o2) o3
  have z1 : (w.alloc o1).heap.size = w.heap.size + 1 := by simp
  have z2 : ((w.alloc o1).alloc o2).heap.size = w.heap.size + 1 + 1 := by simp
  rw [z1] at e2
  rw [z2] at e3
  exact ⟨blk_alloc (blk_alloc e1 o2) o3, blk_alloc e2 o3, e3⟩
theorem see {P : Program} {c : Code} {Q : Exit → Act → World → Prop} {a : Act} {F : World → Prop} (W : World) (hF : F W) (h : ∀ w0, F w0 → Code.wp P c Q a w0) : Code.wp P c Q a W := h W hF
theorem ret_b {a b : Bool} (h : a = b) : Ending.returned (.bool a) = .returned (.bool b) := by rw [h]
set_option maxHeartbeats 8000000 in
set_option maxRecDepth 100000 in
theorem named_calls (a : IA) (m : Im) (b : MA) (x : S52) (op A B : Int) (w : World) (hm : IC w a m) (hx : MC w b x) (ht : tot m.c < 200) (hA : 0 ≤ A) (hs : x.f0.length + x.f1.length ≤ 1000) :
    Calls Try.prog 43 #[.agg #[.slice a.A0 m.c.length a.c0, .slice a.A1 m.s.length a.c1, .slice a.A2 m.n.length a.c2, .slice a.A3 m.m.length a.c3, .slice a.A4 m.e.length a.c4, .int .i64 m.sk, .int .i64 m.hp], .agg #[.slice b.A0 x.f0.length b.c0, .slice b.A1 x.f1.length b.c1, .int .i64 x.f2.f0, .int .i64 x.f2.f1, .slice b.A4 x.f3.length b.c4, .int .i64 x.f4, .int .i64 x.f5, .slice b.A7 x.f6.length b.c7], .agg #[.int .i64 op, .int .i64 A, .int .i64 B]] w fun e w' => e = .returned (.bool (namedB m x op A B)) ∧ Below w.heap.size w w' := by
  have HM := Aside0.mk hm
  have HX := Aside0.mk hx
  have HT := Aside0.mk ht
  clear hm hx ht
  by_cases h1 : op = 1
  · subst h1
    go_enter Try.func43, Try.ntmps43
    go_wp2
    go_ret
    exact ⟨rfl, bel⟩
  have d1 : (op == 1) = false := by simpa using h1
  by_cases h2 : op = 3 ∨ op = 4
  · rcases h2 with rfl | rfl
    all_goals
      go_enter Try.func43, Try.ntmps43
      go_wp2
      go_ret
      exact ⟨ret_b (by simp [namedB]), bel⟩
  have d3 : (op == 3) = false := by simp only [beq_eq_false_iff_ne]; omega
  have d4 : (op == 4) = false := by simp only [beq_eq_false_iff_ne]; omega
  by_cases h3 : op = 18 ∨ op = 19
  · rcases h3 with rfl | rfl
    all_goals
      go_enter Try.func43, Try.ntmps43
      go_wp2
      go_ret
      exact ⟨ret_b (by simp [namedB]), bel⟩
  have d18 : (op == 18) = false := by simp only [beq_eq_false_iff_ne]; omega
  have d19 : (op == 19) = false := by simp only [beq_eq_false_iff_ne]; omega
  by_cases h4 : op = 22 ∨ op = 34
  · rcases h4 with rfl | rfl
    all_goals
      go_enter Try.func43, Try.ntmps43
      go_wp2
      go_ret
      exact ⟨ret_b (by simp [namedB]), bel⟩
  have d22 : (op == 22) = false := by simp only [beq_eq_false_iff_ne]; omega
  have d34 : (op == 34) = false := by simp only [beq_eq_false_iff_ne]; omega
  by_cases h5 : op = 27 ∨ op = 28
  · by_cases hc : A < (m.c.length : Int)
    · have c1 := decide_eq_true hc
      rcases h5 with rfl | rfl
      all_goals
        go_enter Try.func43, Try.ntmps43
        go_wp2_with fail
        refine see (F := fun w0_ => Below w.heap.size w w0_ ∧ w0_.cell? ⟨w.heap.size, 0, none⟩ = some (.slice a.A0 m.c.length a.c0) ∧ w0_.cell? ⟨w.heap.size, 1, none⟩ = some (.slice a.A1 m.s.length a.c1) ∧ w0_.cell? ⟨w.heap.size, 2, none⟩ = some (.slice a.A2 m.n.length a.c2) ∧ w0_.cell? ⟨w.heap.size, 3, none⟩ = some (.slice a.A3 m.m.length a.c3) ∧ w0_.cell? ⟨w.heap.size, 4, none⟩ = some (.slice a.A4 m.e.length a.c4) ∧ w0_.cell? ⟨w.heap.size, 5, none⟩ = some (.int .i64 m.sk) ∧ w0_.cell? ⟨w.heap.size, 6, none⟩ = some (.int .i64 m.hp) ∧ w0_.cell? ⟨w.heap.size + 1 + 1, 1, none⟩ = some (.int .i64 A) ∧ w0_.cell? ⟨w.heap.size + 1 + 1, 2, none⟩ = some (.int .i64 B)) _ ⟨bel, (blk_cell (blk3 w _ _ _).1 0).trans rfl, (blk_cell (blk3 w _ _ _).1 1).trans rfl, (blk_cell (blk3 w _ _ _).1 2).trans rfl, (blk_cell (blk3 w _ _ _).1 3).trans rfl, (blk_cell (blk3 w _ _ _).1 4).trans rfl, (blk_cell (blk3 w _ _ _).1 5).trans rfl, (blk_cell (blk3 w _ _ _).1 6).trans rfl, (blk_cell (blk3 w _ _ _).2.2 1).trans rfl, (blk_cell (blk3 w _ _ _).2.2 2).trans rfl⟩ ?_
        rintro w0 ⟨hb0_, hq1_, hq2_, hq3_, hq4_, hq5_, hq6_, hq7_, hq8_, hq9_⟩
        replace hb0_ := Aside0.mk hb0_
        replace hq1_ := Aside0.mk hq1_
        replace hq2_ := Aside0.mk hq2_
        replace hq3_ := Aside0.mk hq3_
        replace hq4_ := Aside0.mk hq4_
        replace hq5_ := Aside0.mk hq5_
        replace hq6_ := Aside0.mk hq6_
        replace hq7_ := Aside0.mk hq7_
        replace hq8_ := Aside0.mk hq8_
        replace hq9_ := Aside0.mk hq9_
        go_region_held3 (fun w' => Below w0.heap.size w0 w' ∧ w'.cell? ⟨w.heap.size, 0, none⟩ = some (.slice a.A0 m.c.length a.c0) ∧ w'.cell? ⟨w.heap.size, 1, none⟩ = some (.slice a.A1 m.s.length a.c1) ∧ w'.cell? ⟨w.heap.size, 2, none⟩ = some (.slice a.A2 m.n.length a.c2) ∧ w'.cell? ⟨w.heap.size, 3, none⟩ = some (.slice a.A3 m.m.length a.c3) ∧ w'.cell? ⟨w.heap.size, 4, none⟩ = some (.slice a.A4 m.e.length a.c4) ∧ w'.cell? ⟨w.heap.size, 5, none⟩ = some (.int .i64 m.sk) ∧ w'.cell? ⟨w.heap.size, 6, none⟩ = some (.int .i64 m.hp) ∧ w'.cell? ⟨w.heap.size + 1 + 1, 1, none⟩ = some (.int .i64 A) ∧ w'.cell? ⟨w.heap.size + 1 + 1, 2, none⟩ = some (.int .i64 B)) (first | ((try dsimp only); refine ⟨?_, ?_, ?_, ?_, ?_, ?_, ?_, ?_, ?_, ?_⟩ <;> first | exact Below.drew (Below.refl _ _) | assumption | exact keepc (Below.drew (Below.refl _ _)) hq1_.out | exact keepc (by assumption) hq1_.out | exact keepc (Below.drew (Below.refl _ _)) hq2_.out | exact keepc (by assumption) hq2_.out | exact keepc (Below.drew (Below.refl _ _)) hq3_.out | exact keepc (by assumption) hq3_.out | exact keepc (Below.drew (Below.refl _ _)) hq4_.out | exact keepc (by assumption) hq4_.out | exact keepc (Below.drew (Below.refl _ _)) hq5_.out | exact keepc (by assumption) hq5_.out | exact keepc (Below.drew (Below.refl _ _)) hq6_.out | exact keepc (by assumption) hq6_.out | exact keepc (Below.drew (Below.refl _ _)) hq7_.out | exact keepc (by assumption) hq7_.out | exact keepc (Below.drew (Below.refl _ _)) hq8_.out | exact keepc (by assumption) hq8_.out | exact keepc (Below.drew (Below.refl _ _)) hq9_.out | exact keepc (by assumption) hq9_.out)) ((go_simp; go_at_call 42; refine (rfields_calls ((HM.out.below hb0_.out).below (by first | exact Below.drew (Below.refl _ _) | assumption | exact And.left (by assumption))) HT.out A).mono ?_; rintro e w5 ⟨v, rfl, ho, hb⟩; have HB5 : Below w0.heap.size w0 w5 := below_step (by first | exact Below.drew (Below.refl _ _) | assumption | exact And.left (by assumption)) hb; obtain ⟨A5, c5, rfl⟩ := Kd.R_slice ho; clear hb ho))
        go_wp2
        go_ret
        exact ⟨ret_b (by simp [namedB, hc]), below_step hb0_.out (by first | assumption | exact And.left (by assumption))⟩
    · have c1 := decide_eq_false hc
      rcases h5 with rfl | rfl
      all_goals
        go_enter Try.func43, Try.ntmps43
        go_wp2_with fail
        go_quiet (fail)
        go_wp2
        go_ret
        exact ⟨ret_b (by simp [namedB]; intro h; omega), bel⟩
  have d27 : (op == 27) = false := by simp only [beq_eq_false_iff_ne]; omega
  have d28 : (op == 28) = false := by simp only [beq_eq_false_iff_ne]; omega
  by_cases h6 : op = 29 ∨ op = 30
  · rcases h6 with rfl | rfl
    all_goals
      go_enter Try.func43, Try.ntmps43
      go_wp2
      go_ret
      exact ⟨ret_b (by simp [namedB]), bel⟩
  have d29 : (op == 29) = false := by simp only [beq_eq_false_iff_ne]; omega
  have d30 : (op == 30) = false := by simp only [beq_eq_false_iff_ne]; omega
  by_cases h7 : op = 31
  · subst h7
    go_enter Try.func43, Try.ntmps43
    go_wp2
    go_ret
    exact ⟨ret_b (by simp [namedB]), bel⟩
  have d31 : (op == 31) = false := by simpa using h7
  by_cases h8 : op = 32
  · subst h8
    by_cases hc : A < (m.c.length : Int)
    · obtain ⟨ad, A1, k1, A2, k2, hA0, q0, q1, q2, r1, r2, r3, r4⟩ := at_T80 HM.out.h0 A hA hc
      rw [hA0]
      have c1 := decide_eq_true hc
      have Q2 := Aside0.mk q2
      clear r1 r2 r3 r4 hA0 q0 q1 q2
      go_enter Try.func43, Try.ntmps43
      go_wp2_with fail
      refine see (F := fun w0_ => Below w.heap.size w w0_ ∧ w0_.cell? ⟨w.heap.size, 0, none⟩ = some (.slice (some ad) m.c.length a.c0) ∧ w0_.cell? ⟨w.heap.size + 1 + 1, 1, none⟩ = some (.int .i64 A) ∧ w0_.cell? ⟨w.heap.size + 1 + 1, 2, none⟩ = some (.int .i64 B)) _ ⟨bel, (blk_cell (blk3 w _ _ _).1 0).trans rfl, (blk_cell (blk3 w _ _ _).2.2 1).trans rfl, (blk_cell (blk3 w _ _ _).2.2 2).trans rfl⟩ ?_
      rintro w0 ⟨hb0_, hq1_, hq2_, hq3_⟩
      replace hb0_ := Aside0.mk hb0_
      have q2 := keepc hb0_.out Q2.out
      go_quiet (fail)
      go_wp2
      go_ret
      exact ⟨ret_b (by simp [namedB, hc]), pw_below_drewN hb0_.out _⟩
    · have c1 := decide_eq_false hc
      go_enter Try.func43, Try.ntmps43
      go_wp2_with fail
      go_quiet (fail)
      go_wp2
      go_ret
      exact ⟨ret_b (by simp [namedB]; intro h; omega), bel⟩
  have d32 : (op == 32) = false := by simpa using h8
  have e : namedB m x op A B = true := by
    unfold namedB
    rw [if_neg h1, if_neg h2, if_neg h3, if_neg h4, if_neg h5, if_neg h6, if_neg h7, if_neg h8]
  rw [e]
  clear e h1 h2 h3 h4 h5 h6 h7 h8
  go_enter Try.func43, Try.ntmps43
  go_wp2
  go_ret
  exact ⟨rfl, bel⟩
end Go.Proofs.Ytcfbhobpfnlkpaa.Flow
