/- The walk: fields and methods by name. -/
import Derived.Test.YtcfbhobpfnlkpaaJudgeFC
namespace Go.Proofs.Ytcfbhobpfnlkpaa.Flow
open Go.RowKit Go.Proofs.Ytcfbhobpfnlkpaa.QJudgeFound Go.Proofs.YtcfbhobpfnlkpaaW.PrintWords Go.Proofs.YtcfbhobpfnlkpaaW.PrintLast Go.Proofs.Ytcfbhobpfnlkpaa.Chain
set_option linter.unusedVariables false
set_option linter.unusedSimpArgs false
theorem in_c (w : World) (a b c : Int) {p : Bool} (hp : decide (b ≤ a ∧ a ≤ c) = p) : Calls Try.prog 38 #[.int .i64 a, .int .i64 b, .int .i64 c] w fun e w' => e = .returned (.bool p) ∧ Below w.heap.size w w' := by
  subst hp
  refine (plimsollref05_in.calls a b c _ w (in_B a b c)).mono ?_
  rintro e w' ⟨h1, h2⟩
  exact ⟨h1, h2.below⟩
theorem typ_c (w : World) (a b : Int) {p : Bool} (hp : typB ⟨a, b⟩ = p) : Calls Try.prog 39 #[.agg #[.int .i64 a, .int .i64 b]] w fun e w' => e = .returned (.bool p) ∧ Below w.heap.size w w' := by
  subst hp
  exact plimsollref05_typ.calls a b _ w (typ_val ⟨a, b⟩)
theorem types_c {w : World} {A : Option Addr} {c : Nat} {l : List S39} (hl : Kd.C k39 w A l.length l) (hc : l.length ≤ c) (n : Int) {p : Bool} (hp : typesB l n = p) : Calls Try.prog 36 #[.slice A l.length c, .int .i64 n] w fun e w' => e = .returned (.bool p) ∧ Below w.heap.size w w' := by
  subst hp
  exact plimsollref05_types.calls (l.length + 1) A c l n _ w hl hc (types_B l n (Kd.C_max hl) _ (Nat.le_refl _))
theorem list_c {w : World} {A : Option Addr} {c : Nat} {l : List Int} (hl : Kd.C (Kd.int .i64) w A l.length l) (hc : l.length ≤ c) (n k : Int) {p : Bool} (hp : listB l n k = p) : Calls Try.prog 37 #[.slice A l.length c, .int .i64 n, .int .i64 k] w fun e w' => e = .returned (.bool p) ∧ Below w.heap.size w w' := by
  subst hp
  refine (plimsollref05_list.calls (l.length + 1) A c l n k _ w hl hc (list_B l n k (Kd.C_max hl) _ (Nat.le_refl _))).mono ?_
  rintro e w' ⟨h1, h2⟩
  exact ⟨h1, h2.below⟩
theorem instr_c (w : World) (a b c : Int) {p : Bool} (hp : instrB ⟨a, b, c⟩ = p) : Calls Try.prog 40 #[.agg #[.int .i64 a, .int .i64 b, .int .i64 c]] w fun e w' => e = .returned (.bool p) ∧ Below w.heap.size w w' := by
  subst hp
  exact plimsollref01_Instr.calls 20 a b c _ w (instr_val ⟨a, b, c⟩ 20 (Nat.le_refl _))
def clsB (x : S80) : Bool := decide (-1 ≤ x.f0 ∧ x.f0 ≤ 7) && (typesB x.f1 8 && listB x.f2 4 11)
def metB (x : S52) : Bool := typesB x.f0 4 && (typesB x.f1 8 && (typB x.f2 && (decide (x.f3.length ≤ 64) && (decide (0 ≤ x.f4 ∧ x.f4 ≤ 8) && (decide (0 ≤ x.f5 ∧ x.f5 ≤ 4096) && (listB x.f6 64 4096 && x.f3.all instrB))))))
def fitsB (m : Im) : Bool := decide (m.c.length ≤ 8) && (decide (m.n.length ≤ 16) && (decide (m.m.length ≤ 12) && (typesB m.s 8 && (listB m.e 12 11 && (decide (0 ≤ m.sk ∧ m.sk ≤ 4096) && (decide (0 ≤ m.hp ∧ m.hp ≤ 4096) && (m.c.all clsB && m.m.all metB)))))))
theorem and_f {p q : Bool} (h : p = false) : (p && q) = false := by rw [h]; rfl
theorem and_t {p q : Bool} (h : p = true) : (p && q) = q := by rw [h]; rfl
theorem blk1 (w : World) (o1 : Obj) : (w.alloc o1).heap[w.heap.size]? = some o1 := heap_alloc_new w o1
set_option maxHeartbeats 8000000 in
set_option maxRecDepth 100000 in
theorem fits_calls (a : IA) (m : Im) (w : World) (hm : IC w a m) : Calls Try.prog 23 #[.agg #[.slice a.A0 m.c.length a.c0, .slice a.A1 m.s.length a.c1, .slice a.A2 m.n.length a.c2, .slice a.A3 m.m.length a.c3, .slice a.A4 m.e.length a.c4, .int .i64 m.sk, .int .i64 m.hp]] w fun e w' => e = .returned (.bool (fitsB m)) ∧ Below w.heap.size w w' := by
  obtain ⟨A0, A1, A2, A3, A4, c0, c1, c2, c3, c4⟩ := a
  have HM := Aside0.mk hm
  clear hm
  unfold fitsB
  cases h1 : decide (m.c.length ≤ 8)
  case false =>
    rw [and_f rfl]
    have d1 : decide (8 < (m.c.length : Int)) = true := decide_eq_true (by have := of_decide_eq_false h1; omega)
    clear h1
    go_enter Try.func23, Try.ntmps23
    go_wp2_with (first | (go_at_call 36; (refine (types_c (Kd.C_below HM.out.h1 bel) HM.out.n1 8 (by assumption)).mono ?_); rintro e w1 ⟨rfl, hb1⟩; obtain ⟨hc1, hf1⟩ := bcell hb1; have hz1_0 : w.heap.size < w1.heap.size := (by have := hb1.size; (try simp at this); omega);  have HB1 : Below w.heap.size w w1 := below_mid bel hb1; have HC1 := Aside0.mk hb1; clear hb1) | (go_at_call 37; (refine (list_c (Kd.C_below HM.out.h4 bel) HM.out.n4 12 11 (by assumption)).mono ?_); rintro e w2 ⟨rfl, hb2⟩; obtain ⟨hc2, hf2⟩ := bcell hb2; have hz2_0 : w.heap.size < w2.heap.size := (by have := hb2.size; (try simp at this); omega);  have HB2 : Below w.heap.size w w2 := below_mid bel hb2; have HC2 := Aside0.mk hb2; clear hb2) | (go_at_call 38; first | ((with_reducible refine (in_c _ m.sk 0 4096 (by assumption)).mono ?_); rintro e w3 ⟨rfl, hb3⟩; obtain ⟨hc3, hf3⟩ := bcell hb3; have hz3 : w.heap.size < w3.heap.size := (lts hb3.size); have HB3 : Below w.heap.size w w3 := below_mid bel hb3; have HC3 := Aside0.mk hb3; clear hb3) | ((with_reducible refine (in_c _ m.hp 0 4096 (by assumption)).mono ?_); rintro e w4 ⟨rfl, hb4⟩; obtain ⟨hc4, hf4⟩ := bcell hb4; have hz4 : w.heap.size < w4.heap.size := (lts hb4.size); have HB4 : Below w.heap.size w w4 := below_mid bel hb4; have HC4 := Aside0.mk hb4; clear hb4)))
    go_ret
    exact ⟨rfl, bel⟩
  rw [and_t rfl]
  have d1 : decide (8 < (m.c.length : Int)) = false := decide_eq_false (by have := of_decide_eq_true h1; omega)
  have H1 := Aside0.mk (of_decide_eq_true h1)
  clear h1
  cases h2 : decide (m.n.length ≤ 16)
  case false =>
    rw [and_f rfl]
    have d2 : decide (16 < (m.n.length : Int)) = true := decide_eq_true (by have := of_decide_eq_false h2; omega)
    clear h2
    go_enter Try.func23, Try.ntmps23
    go_wp2_with (first | (go_at_call 36; (refine (types_c (Kd.C_below HM.out.h1 bel) HM.out.n1 8 (by assumption)).mono ?_); rintro e w1 ⟨rfl, hb1⟩; obtain ⟨hc1, hf1⟩ := bcell hb1; have hz1_0 : w.heap.size < w1.heap.size := (by have := hb1.size; (try simp at this); omega);  have HB1 : Below w.heap.size w w1 := below_mid bel hb1; have HC1 := Aside0.mk hb1; clear hb1) | (go_at_call 37; (refine (list_c (Kd.C_below HM.out.h4 bel) HM.out.n4 12 11 (by assumption)).mono ?_); rintro e w2 ⟨rfl, hb2⟩; obtain ⟨hc2, hf2⟩ := bcell hb2; have hz2_0 : w.heap.size < w2.heap.size := (by have := hb2.size; (try simp at this); omega);  have HB2 : Below w.heap.size w w2 := below_mid bel hb2; have HC2 := Aside0.mk hb2; clear hb2) | (go_at_call 38; first | ((with_reducible refine (in_c _ m.sk 0 4096 (by assumption)).mono ?_); rintro e w3 ⟨rfl, hb3⟩; obtain ⟨hc3, hf3⟩ := bcell hb3; have hz3 : w.heap.size < w3.heap.size := (lts hb3.size); have HB3 : Below w.heap.size w w3 := below_mid bel hb3; have HC3 := Aside0.mk hb3; clear hb3) | ((with_reducible refine (in_c _ m.hp 0 4096 (by assumption)).mono ?_); rintro e w4 ⟨rfl, hb4⟩; obtain ⟨hc4, hf4⟩ := bcell hb4; have hz4 : w.heap.size < w4.heap.size := (lts hb4.size); have HB4 : Below w.heap.size w w4 := below_mid bel hb4; have HC4 := Aside0.mk hb4; clear hb4)))
    go_ret
    exact ⟨rfl, bel⟩
  rw [and_t rfl]
  have d2 : decide (16 < (m.n.length : Int)) = false := decide_eq_false (by have := of_decide_eq_true h2; omega)
  clear h2
  cases h3 : decide (m.m.length ≤ 12)
  case false =>
    rw [and_f rfl]
    have d3 : decide (12 < (m.m.length : Int)) = true := decide_eq_true (by have := of_decide_eq_false h3; omega)
    clear h3
    go_enter Try.func23, Try.ntmps23
    go_wp2_with (first | (go_at_call 36; (refine (types_c (Kd.C_below HM.out.h1 bel) HM.out.n1 8 (by assumption)).mono ?_); rintro e w1 ⟨rfl, hb1⟩; obtain ⟨hc1, hf1⟩ := bcell hb1; have hz1_0 : w.heap.size < w1.heap.size := (by have := hb1.size; (try simp at this); omega);  have HB1 : Below w.heap.size w w1 := below_mid bel hb1; have HC1 := Aside0.mk hb1; clear hb1) | (go_at_call 37; (refine (list_c (Kd.C_below HM.out.h4 bel) HM.out.n4 12 11 (by assumption)).mono ?_); rintro e w2 ⟨rfl, hb2⟩; obtain ⟨hc2, hf2⟩ := bcell hb2; have hz2_0 : w.heap.size < w2.heap.size := (by have := hb2.size; (try simp at this); omega);  have HB2 : Below w.heap.size w w2 := below_mid bel hb2; have HC2 := Aside0.mk hb2; clear hb2) | (go_at_call 38; first | ((with_reducible refine (in_c _ m.sk 0 4096 (by assumption)).mono ?_); rintro e w3 ⟨rfl, hb3⟩; obtain ⟨hc3, hf3⟩ := bcell hb3; have hz3 : w.heap.size < w3.heap.size := (lts hb3.size); have HB3 : Below w.heap.size w w3 := below_mid bel hb3; have HC3 := Aside0.mk hb3; clear hb3) | ((with_reducible refine (in_c _ m.hp 0 4096 (by assumption)).mono ?_); rintro e w4 ⟨rfl, hb4⟩; obtain ⟨hc4, hf4⟩ := bcell hb4; have hz4 : w.heap.size < w4.heap.size := (lts hb4.size); have HB4 : Below w.heap.size w w4 := below_mid bel hb4; have HC4 := Aside0.mk hb4; clear hb4)))
    go_ret
    exact ⟨rfl, bel⟩
  rw [and_t rfl]
  have d3 : decide (12 < (m.m.length : Int)) = false := decide_eq_false (by have := of_decide_eq_true h3; omega)
  have H3 := Aside0.mk (of_decide_eq_true h3)
  clear h3
  cases h4 : typesB m.s 8
  case false =>
    rw [and_f rfl]

    go_enter Try.func23, Try.ntmps23
    go_wp2_with (first | (go_at_call 36; (refine (types_c (Kd.C_below HM.out.h1 bel) HM.out.n1 8 (by assumption)).mono ?_); rintro e w1 ⟨rfl, hb1⟩; obtain ⟨hc1, hf1⟩ := bcell hb1; have hz1_0 : w.heap.size < w1.heap.size := (by have := hb1.size; (try simp at this); omega);  have HB1 : Below w.heap.size w w1 := below_mid bel hb1; have HC1 := Aside0.mk hb1; clear hb1) | (go_at_call 37; (refine (list_c (Kd.C_below HM.out.h4 bel) HM.out.n4 12 11 (by assumption)).mono ?_); rintro e w2 ⟨rfl, hb2⟩; obtain ⟨hc2, hf2⟩ := bcell hb2; have hz2_0 : w.heap.size < w2.heap.size := (by have := hb2.size; (try simp at this); omega);  have HB2 : Below w.heap.size w w2 := below_mid bel hb2; have HC2 := Aside0.mk hb2; clear hb2) | (go_at_call 38; first | ((with_reducible refine (in_c _ m.sk 0 4096 (by assumption)).mono ?_); rintro e w3 ⟨rfl, hb3⟩; obtain ⟨hc3, hf3⟩ := bcell hb3; have hz3 : w.heap.size < w3.heap.size := (lts hb3.size); have HB3 : Below w.heap.size w w3 := below_mid bel hb3; have HC3 := Aside0.mk hb3; clear hb3) | ((with_reducible refine (in_c _ m.hp 0 4096 (by assumption)).mono ?_); rintro e w4 ⟨rfl, hb4⟩; obtain ⟨hc4, hf4⟩ := bcell hb4; have hz4 : w.heap.size < w4.heap.size := (lts hb4.size); have HB4 : Below w.heap.size w w4 := below_mid bel hb4; have HC4 := Aside0.mk hb4; clear hb4)))
    go_ret
    exact ⟨rfl, bel⟩
  rw [and_t rfl]
  cases h5 : listB m.e 12 11
  case false =>
    rw [and_f rfl]

    go_enter Try.func23, Try.ntmps23
    go_wp2_with (first | (go_at_call 36; (refine (types_c (Kd.C_below HM.out.h1 bel) HM.out.n1 8 (by assumption)).mono ?_); rintro e w1 ⟨rfl, hb1⟩; obtain ⟨hc1, hf1⟩ := bcell hb1; have hz1_0 : w.heap.size < w1.heap.size := (by have := hb1.size; (try simp at this); omega);  have HB1 : Below w.heap.size w w1 := below_mid bel hb1; have HC1 := Aside0.mk hb1; clear hb1) | (go_at_call 37; (refine (list_c (Kd.C_below HM.out.h4 bel) HM.out.n4 12 11 (by assumption)).mono ?_); rintro e w2 ⟨rfl, hb2⟩; obtain ⟨hc2, hf2⟩ := bcell hb2; have hz2_0 : w.heap.size < w2.heap.size := (by have := hb2.size; (try simp at this); omega);  have HB2 : Below w.heap.size w w2 := below_mid bel hb2; have HC2 := Aside0.mk hb2; clear hb2) | (go_at_call 38; first | ((with_reducible refine (in_c _ m.sk 0 4096 (by assumption)).mono ?_); rintro e w3 ⟨rfl, hb3⟩; obtain ⟨hc3, hf3⟩ := bcell hb3; have hz3 : w.heap.size < w3.heap.size := (lts hb3.size); have HB3 : Below w.heap.size w w3 := below_mid bel hb3; have HC3 := Aside0.mk hb3; clear hb3) | ((with_reducible refine (in_c _ m.hp 0 4096 (by assumption)).mono ?_); rintro e w4 ⟨rfl, hb4⟩; obtain ⟨hc4, hf4⟩ := bcell hb4; have hz4 : w.heap.size < w4.heap.size := (lts hb4.size); have HB4 : Below w.heap.size w w4 := below_mid bel hb4; have HC4 := Aside0.mk hb4; clear hb4)))
    go_ret
    exact ⟨rfl, bel⟩
  rw [and_t rfl]
  cases h6 : decide (0 ≤ m.sk ∧ m.sk ≤ 4096)
  case false =>
    rw [and_f rfl]

    go_enter Try.func23, Try.ntmps23
    go_wp2_with (first | (go_at_call 36; (refine (types_c (Kd.C_below HM.out.h1 bel) HM.out.n1 8 (by assumption)).mono ?_); rintro e w1 ⟨rfl, hb1⟩; obtain ⟨hc1, hf1⟩ := bcell hb1; have hz1_0 : w.heap.size < w1.heap.size := (by have := hb1.size; (try simp at this); omega);  have HB1 : Below w.heap.size w w1 := below_mid bel hb1; have HC1 := Aside0.mk hb1; clear hb1) | (go_at_call 37; (refine (list_c (Kd.C_below HM.out.h4 bel) HM.out.n4 12 11 (by assumption)).mono ?_); rintro e w2 ⟨rfl, hb2⟩; obtain ⟨hc2, hf2⟩ := bcell hb2; have hz2_0 : w.heap.size < w2.heap.size := (by have := hb2.size; (try simp at this); omega);  have HB2 : Below w.heap.size w w2 := below_mid bel hb2; have HC2 := Aside0.mk hb2; clear hb2) | (go_at_call 38; first | ((with_reducible refine (in_c _ m.sk 0 4096 (by assumption)).mono ?_); rintro e w3 ⟨rfl, hb3⟩; obtain ⟨hc3, hf3⟩ := bcell hb3; have hz3 : w.heap.size < w3.heap.size := (lts hb3.size); have HB3 : Below w.heap.size w w3 := below_mid bel hb3; have HC3 := Aside0.mk hb3; clear hb3) | ((with_reducible refine (in_c _ m.hp 0 4096 (by assumption)).mono ?_); rintro e w4 ⟨rfl, hb4⟩; obtain ⟨hc4, hf4⟩ := bcell hb4; have hz4 : w.heap.size < w4.heap.size := (lts hb4.size); have HB4 : Below w.heap.size w w4 := below_mid bel hb4; have HC4 := Aside0.mk hb4; clear hb4)))
    go_ret
    exact ⟨rfl, bel⟩
  rw [and_t rfl]
  cases h7 : decide (0 ≤ m.hp ∧ m.hp ≤ 4096)
  case false =>
    rw [and_f rfl]

    go_enter Try.func23, Try.ntmps23
    go_wp2_with (first | (go_at_call 36; (refine (types_c (Kd.C_below HM.out.h1 bel) HM.out.n1 8 (by assumption)).mono ?_); rintro e w1 ⟨rfl, hb1⟩; obtain ⟨hc1, hf1⟩ := bcell hb1; have hz1_0 : w.heap.size < w1.heap.size := (by have := hb1.size; (try simp at this); omega);  have HB1 : Below w.heap.size w w1 := below_mid bel hb1; have HC1 := Aside0.mk hb1; clear hb1) | (go_at_call 37; (refine (list_c (Kd.C_below HM.out.h4 bel) HM.out.n4 12 11 (by assumption)).mono ?_); rintro e w2 ⟨rfl, hb2⟩; obtain ⟨hc2, hf2⟩ := bcell hb2; have hz2_0 : w.heap.size < w2.heap.size := (by have := hb2.size; (try simp at this); omega);  have HB2 : Below w.heap.size w w2 := below_mid bel hb2; have HC2 := Aside0.mk hb2; clear hb2) | (go_at_call 38; first | ((with_reducible refine (in_c _ m.sk 0 4096 (by assumption)).mono ?_); rintro e w3 ⟨rfl, hb3⟩; obtain ⟨hc3, hf3⟩ := bcell hb3; have hz3 : w.heap.size < w3.heap.size := (lts hb3.size); have HB3 : Below w.heap.size w w3 := below_mid bel hb3; have HC3 := Aside0.mk hb3; clear hb3) | ((with_reducible refine (in_c _ m.hp 0 4096 (by assumption)).mono ?_); rintro e w4 ⟨rfl, hb4⟩; obtain ⟨hc4, hf4⟩ := bcell hb4; have hz4 : w.heap.size < w4.heap.size := (lts hb4.size); have HB4 : Below w.heap.size w w4 := below_mid bel hb4; have HC4 := Aside0.mk hb4; clear hb4)))
    go_ret
    exact ⟨rfl, bel⟩
  rw [and_t rfl]
  go_enter Try.func23, Try.ntmps23
  go_wp2_with (first | (go_at_call 36; (refine (types_c (Kd.C_below HM.out.h1 bel) HM.out.n1 8 (by assumption)).mono ?_); rintro e w1 ⟨rfl, hb1⟩; obtain ⟨hc1, hf1⟩ := bcell hb1; have hz1_0 : w.heap.size < w1.heap.size := (by have := hb1.size; (try simp at this); omega);  have HB1 : Below w.heap.size w w1 := below_mid bel hb1; have HC1 := Aside0.mk hb1; clear hb1) | (go_at_call 37; (refine (list_c (Kd.C_below HM.out.h4 bel) HM.out.n4 12 11 (by assumption)).mono ?_); rintro e w2 ⟨rfl, hb2⟩; obtain ⟨hc2, hf2⟩ := bcell hb2; have hz2_0 : w.heap.size < w2.heap.size := (by have := hb2.size; (try simp at this); omega);  have HB2 : Below w.heap.size w w2 := below_mid bel hb2; have HC2 := Aside0.mk hb2; clear hb2) | (go_at_call 38; first | ((with_reducible refine (in_c _ m.sk 0 4096 (by assumption)).mono ?_); rintro e w3 ⟨rfl, hb3⟩; obtain ⟨hc3, hf3⟩ := bcell hb3; have hz3 : w.heap.size < w3.heap.size := (lts hb3.size); have HB3 : Below w.heap.size w w3 := below_mid bel hb3; have HC3 := Aside0.mk hb3; clear hb3) | ((with_reducible refine (in_c _ m.hp 0 4096 (by assumption)).mono ?_); rintro e w4 ⟨rfl, hb4⟩; obtain ⟨hc4, hf4⟩ := bcell hb4; have hz4 : w.heap.size < w4.heap.size := (lts hb4.size); have HB4 : Below w.heap.size w w4 := below_mid bel hb4; have HC4 := Aside0.mk hb4; clear hb4)))
  refine see (F := fun w0_ => Below w.heap.size w w0_ ∧ w0_.heap[w.heap.size]? = some (.cells #[.slice A0 m.c.length c0, .slice A1 m.s.length c1, .slice A2 m.n.length c2, .slice A3 m.m.length c3, .slice A4 m.e.length c4, .int .i64 m.sk, .int .i64 m.hp] 28 (0, 0))) _ ⟨bel, blk_below (blk_below (blk_below (blk_below (blk1 w _) HC1.out) HC2.out) HC3.out) HC4.out⟩ ?_
  rintro w0 ⟨hb0, hbx⟩
  have HB0 := Aside0.mk hb0
  have HBX := Aside0.mk hbx
  clear hb0 hbx hc1 hf1 hz1_0 HB1 HC1 hc2 hf2 hz2_0 HB2 HC2 hc3 hf3 hz3 HB3 HC3 hc4 hf4 hz4 HB4 HC4 d1 d2 d3 h4 h5 h6 h7
  go_loopg [3] (m.c.length + 1) (fun kq v3 w' => ∃ k : Nat, v3 = .int .i64 (k : Int) ∧ Aside0 (k ≤ m.c.length) ∧ Aside0 (k + kq = m.c.length + 1) ∧ Aside0 (∀ j (h : j < m.c.length), j < k → clsB m.c[j] = true) ∧ Aside0 (Below w0.heap.size w0 w'))
  case atStart => exact ⟨0, rfl, ⟨Nat.zero_le _⟩, ⟨by omega⟩, ⟨fun j h hj => by omega⟩, ⟨Below.refl _ _⟩⟩
  case round =>
    obtain ⟨k, rfl, HK, HKQ, HP, HL⟩ := hrel
    have HXW := Aside0.mk (blk_below HBX.out HL.out)
    have hlw : Below w0.heap.size w0 wr := HL.out
    have hbw : Below w.heap.size w wr := below_mid HB0.out HL.out
    have HBW := Aside0.mk hbw
    cases gk with
    | zero => exact absurd HK.out (by have := HKQ.out; omega)
    | succ k1 =>
      have hi0 := (blk_cell HXW.out 0).trans rfl
      by_cases hk : k < m.c.length
      · obtain ⟨ad, B1, e1, B2, e2, hA0, q0, q1, q2, r1, r2, r3, r4⟩ := at_T80 (show Kd.C k80 w A0 m.c.length m.c from HM.out.h0) (k : Int) (by omega) (by omega)
        subst hA0
        simp only [Int.toNat_natCast] at q0 q1 q2 r1 r2 r3 r4
        rw [tc hk] at q0 q1 q2 r1 r2 r3 r4
        obtain ⟨x, hx⟩ : ∃ x, m.c[k] = x := ⟨_, rfl⟩
        rw [hx] at q0 q1 q2 r1 r2 r3 r4
        have HX := Aside0.mk hx
        obtain ⟨x0, xf, xs⟩ := x
        dsimp only at q0 q1 q2 r1 r2 r3 r4
        replace q0 := keepc hbw q0
        replace q1 := keepc hbw q1
        replace q2 := keepc hbw q2
        have ql := World.block_lt_of_cell? wr _ q0
        have R1 := Aside0.mk r1
        have R2 := Aside0.mk r2
        have R3 := Aside0.mk r3
        have R4 := Aside0.mk r4
        have hk0 : (0 : Int) ≤ (k : Int) := by omega
        have hk1 : (k : Int) < (m.c.length : Int) := by omega
        have hk2 : (k : Int) ≤ 8 := by have := H1.out; omega
        clear hx r1 r2 r3 r4
        have hfalse : clsB ⟨x0, xf, xs⟩ = false → (m.c.all clsB && m.m.all metB) = false := fun h => and_f (List.all_eq_false.2 ⟨m.c[k], List.getElem_mem hk, by rw [HX.out, h]; simp⟩)
        have HFA := Aside0.mk hfalse
        clear hfalse
        cases g1 : decide (-1 ≤ x0 ∧ x0 ≤ 7)
        case false =>
          have hfa := Aside0.mk (HFA.out (by unfold clsB; dsimp only; rw [g1]; simp))
          go_wp2_with (first | (go_at_call 38; (refine (in_c _ x0 (-1) 7 (by assumption)).mono ?_); rintro e w1 ⟨rfl, hb1⟩; obtain ⟨hc1, hf1⟩ := bcell hb1; have hz1_0 : wr.heap.size < w1.heap.size := (by have := hb1.size; (try simp at this); omega);  have HB1 : Below w.heap.size w w1 := below_mid bel hb1; have HC1 := Aside0.mk hb1; have HD1 : Below w0.heap.size w0 w1 := below_mid bel hb1; clear hb1) | (go_at_call 36; (refine (types_c (Kd.C_below R2.out bel) R1.out 8 (by assumption)).mono ?_); rintro e w2 ⟨rfl, hb2⟩; obtain ⟨hc2, hf2⟩ := bcell hb2; have hz2_0 : wr.heap.size < w2.heap.size := (by have := hb2.size; (try simp at this); omega);  have HB2 : Below w.heap.size w w2 := below_mid bel hb2; have HC2 := Aside0.mk hb2; have HD2 : Below w0.heap.size w0 w2 := below_mid bel hb2; clear hb2) | (go_at_call 37; (refine (list_c (Kd.C_below R4.out bel) R3.out 4 11 (by assumption)).mono ?_); rintro e w3 ⟨rfl, hb3⟩; obtain ⟨hc3, hf3⟩ := bcell hb3; have hz3_0 : wr.heap.size < w3.heap.size := (by have := hb3.size; (try simp at this); omega);  have HB3 : Below w.heap.size w w3 := below_mid bel hb3; have HC3 := Aside0.mk hb3; have HD3 : Below w0.heap.size w0 w3 := below_mid bel hb3; clear hb3))
          go_ret
          exact ⟨ret_b hfa.out.symm, bel⟩
        cases g2 : typesB xf 8
        case false =>
          have hfa := Aside0.mk (HFA.out (by unfold clsB; dsimp only; rw [g1, g2]; simp))
          go_wp2_with (first | (go_at_call 38; (refine (in_c _ x0 (-1) 7 (by assumption)).mono ?_); rintro e w1 ⟨rfl, hb1⟩; obtain ⟨hc1, hf1⟩ := bcell hb1; have hz1_0 : wr.heap.size < w1.heap.size := (by have := hb1.size; (try simp at this); omega);  have HB1 : Below w.heap.size w w1 := below_mid bel hb1; have HC1 := Aside0.mk hb1; have HD1 : Below w0.heap.size w0 w1 := below_mid bel hb1; clear hb1) | (go_at_call 36; (refine (types_c (Kd.C_below R2.out bel) R1.out 8 (by assumption)).mono ?_); rintro e w2 ⟨rfl, hb2⟩; obtain ⟨hc2, hf2⟩ := bcell hb2; have hz2_0 : wr.heap.size < w2.heap.size := (by have := hb2.size; (try simp at this); omega);  have HB2 : Below w.heap.size w w2 := below_mid bel hb2; have HC2 := Aside0.mk hb2; have HD2 : Below w0.heap.size w0 w2 := below_mid bel hb2; clear hb2) | (go_at_call 37; (refine (list_c (Kd.C_below R4.out bel) R3.out 4 11 (by assumption)).mono ?_); rintro e w3 ⟨rfl, hb3⟩; obtain ⟨hc3, hf3⟩ := bcell hb3; have hz3_0 : wr.heap.size < w3.heap.size := (by have := hb3.size; (try simp at this); omega);  have HB3 : Below w.heap.size w w3 := below_mid bel hb3; have HC3 := Aside0.mk hb3; have HD3 : Below w0.heap.size w0 w3 := below_mid bel hb3; clear hb3))
          go_ret
          exact ⟨ret_b hfa.out.symm, bel⟩
        cases g3 : listB xs 4 11
        case false =>
          have hfa := Aside0.mk (HFA.out (by unfold clsB; dsimp only; rw [g1, g2, g3]; simp))
          go_wp2_with (first | (go_at_call 38; (refine (in_c _ x0 (-1) 7 (by assumption)).mono ?_); rintro e w1 ⟨rfl, hb1⟩; obtain ⟨hc1, hf1⟩ := bcell hb1; have hz1_0 : wr.heap.size < w1.heap.size := (by have := hb1.size; (try simp at this); omega);  have HB1 : Below w.heap.size w w1 := below_mid bel hb1; have HC1 := Aside0.mk hb1; have HD1 : Below w0.heap.size w0 w1 := below_mid bel hb1; clear hb1) | (go_at_call 36; (refine (types_c (Kd.C_below R2.out bel) R1.out 8 (by assumption)).mono ?_); rintro e w2 ⟨rfl, hb2⟩; obtain ⟨hc2, hf2⟩ := bcell hb2; have hz2_0 : wr.heap.size < w2.heap.size := (by have := hb2.size; (try simp at this); omega);  have HB2 : Below w.heap.size w w2 := below_mid bel hb2; have HC2 := Aside0.mk hb2; have HD2 : Below w0.heap.size w0 w2 := below_mid bel hb2; clear hb2) | (go_at_call 37; (refine (list_c (Kd.C_below R4.out bel) R3.out 4 11 (by assumption)).mono ?_); rintro e w3 ⟨rfl, hb3⟩; obtain ⟨hc3, hf3⟩ := bcell hb3; have hz3_0 : wr.heap.size < w3.heap.size := (by have := hb3.size; (try simp at this); omega);  have HB3 : Below w.heap.size w w3 := below_mid bel hb3; have HC3 := Aside0.mk hb3; have HD3 : Below w0.heap.size w0 w3 := below_mid bel hb3; clear hb3))
          go_ret
          exact ⟨ret_b hfa.out.symm, bel⟩
        have HCL := Aside0.mk (show clsB ⟨x0, xf, xs⟩ = true from by unfold clsB; dsimp only; rw [g1, g2, g3]; rfl)
        go_wp2_with (first | (go_at_call 38; (refine (in_c _ x0 (-1) 7 (by assumption)).mono ?_); rintro e w1 ⟨rfl, hb1⟩; obtain ⟨hc1, hf1⟩ := bcell hb1; have hz1_0 : wr.heap.size < w1.heap.size := (by have := hb1.size; (try simp at this); omega);  have HB1 : Below w.heap.size w w1 := below_mid bel hb1; have HC1 := Aside0.mk hb1; have HD1 : Below w0.heap.size w0 w1 := below_mid bel hb1; clear hb1) | (go_at_call 36; (refine (types_c (Kd.C_below R2.out bel) R1.out 8 (by assumption)).mono ?_); rintro e w2 ⟨rfl, hb2⟩; obtain ⟨hc2, hf2⟩ := bcell hb2; have hz2_0 : wr.heap.size < w2.heap.size := (by have := hb2.size; (try simp at this); omega);  have HB2 : Below w.heap.size w w2 := below_mid bel hb2; have HC2 := Aside0.mk hb2; have HD2 : Below w0.heap.size w0 w2 := below_mid bel hb2; clear hb2) | (go_at_call 37; (refine (list_c (Kd.C_below R4.out bel) R3.out 4 11 (by assumption)).mono ?_); rintro e w3 ⟨rfl, hb3⟩; obtain ⟨hc3, hf3⟩ := bcell hb3; have hz3_0 : wr.heap.size < w3.heap.size := (by have := hb3.size; (try simp at this); omega);  have HB3 : Below w.heap.size w w3 := below_mid bel hb3; have HC3 := Aside0.mk hb3; have HD3 : Below w0.heap.size w0 w3 := below_mid bel hb3; clear hb3))
        go_roundg k1
        case measure => have := HKQ.out; omega
        case rel =>
          refine ⟨k + 1, by go_num, ⟨by omega⟩, ⟨by have := HKQ.out; omega⟩, ⟨fun j h hj => ?_⟩, ⟨bel⟩⟩
          rcases Nat.lt_or_ge j k with h9 | h9
          · exact HP.out j h h9
          · obtain rfl : j = k := by omega
            rw [HX.out]
            exact HCL.out
      · have hke : k = m.c.length := by have := HK.out; omega
        subst hke
        have HALL := Aside0.mk (show m.c.all clsB = true from by rw [List.all_eq_true]; intro i hi; obtain ⟨j, hj, rfl⟩ := List.mem_iff_getElem.1 hi; exact HP.out j hj hj)
        clear HP hk
        go_wp2_with fail
        have HR0 := Aside0.mk hbw
        have HRX := HXW
        clear hi0 hlw hbw HBW HXW
        obtain ⟨wo, rfl⟩ : ∃ wo : World, wo = wr := ⟨_, rfl⟩
        go_loopg [5] (m.m.length + 1) (fun kq v5 w' => ∃ k : Nat, v5 = .int .i64 (k : Int) ∧ Aside0 (k ≤ m.m.length) ∧ Aside0 (k + kq = m.m.length + 1) ∧ Aside0 (∀ j (h : j < m.m.length), j < k → metB m.m[j] = true) ∧ Aside0 (Below wo.heap.size wo w'))
        case atStart => exact ⟨0, rfl, ⟨Nat.zero_le _⟩, ⟨by omega⟩, ⟨fun j h hj => by omega⟩, ⟨Below.refl _ _⟩⟩
        case round =>
          obtain ⟨k, rfl, HKK, HKKQ, HP, HL2⟩ := hrel
          have HXW := Aside0.mk (blk_below HRX.out HL2.out)
          have hlw : Below wo.heap.size wo wr := HL2.out
          have hbw : Below w.heap.size w wr := below_mid HR0.out HL2.out
          cases gk with
          | zero => exact absurd HKK.out (by have := HKKQ.out; omega)
          | succ k2 =>
            have hi3 := (blk_cell HXW.out 3).trans rfl
            by_cases hk : k < m.m.length
            · obtain ⟨ae, F0, g0, F1, g1, F4, g4, F7, g7, hA3, y0, y1, y2, y3, y4, y5, y6, y7, z0, z1, z2, z3, z4, z5, z6, z7⟩ := at_T52 (show Kd.C k52 w A3 m.m.length m.m from HM.out.h3) (k : Int) (by omega) (by omega)
              subst hA3
              simp only [Int.toNat_natCast] at y0 y1 y2 y3 y4 y5 y6 y7 z0 z1 z2 z3 z4 z5 z6 z7
              rw [tm hk] at y0 y1 y2 y3 y4 y5 y6 y7 z0 z1 z2 z3 z4 z5 z6 z7
              obtain ⟨x, hx⟩ : ∃ x, m.m[k] = x := ⟨_, rfl⟩
              rw [hx] at y0 y1 y2 y3 y4 y5 y6 y7 z0 z1 z2 z3 z4 z5 z6 z7
              have HX := Aside0.mk hx
              obtain ⟨f0, f1, ⟨t0, t1⟩, f3, f4, f5, f6⟩ := x
              dsimp only at y0 y1 y2 y3 y4 y5 y6 y7 z0 z1 z2 z3 z4 z5 z6 z7
              replace y0 := keepc hbw y0
              replace y1 := keepc hbw y1
              replace y2 := keepc hbw y2
              replace y3 := keepc hbw y3
              replace y4 := keepc hbw y4
              replace y5 := keepc hbw y5
              replace y6 := keepc hbw y6
              replace y7 := keepc hbw y7
              have ql := World.block_lt_of_cell? wr _ y0
              have Z0 := Aside0.mk z0
              have Z1 := Aside0.mk z1
              have Z2 := Aside0.mk z2
              have Z3 := Aside0.mk z3
              have Z4 := Aside0.mk z4
              have Z5 := Aside0.mk z5
              have Z6 := Aside0.mk z6
              have Z7 := Aside0.mk z7
              have hk0 : (0 : Int) ≤ (k : Int) := by omega
              have hk1 : (k : Int) < (m.m.length : Int) := by omega
              have hk2 : (k : Int) ≤ 12 := by have := H3.out; omega
              clear hx z0 z1 z2 z3 z4 z5 z6 z7
              have HFA := Aside0.mk (show metB ⟨f0, f1, ⟨t0, t1⟩, f3, f4, f5, f6⟩ = false → (m.c.all clsB && m.m.all metB) = false from fun h => by rw [HALL.out]; exact List.all_eq_false.2 ⟨m.m[k], List.getElem_mem hk, by rw [HX.out, h]; simp⟩)
              cases p1 : typesB f0 4
              case false =>
                have hfa := Aside0.mk (HFA.out (by unfold metB; dsimp only; rw [p1]; simp))
                go_wp2_with (first | (go_at_call 36; first | ((with_reducible refine (types_c (Kd.C_below Z1.out bel) Z0.out 4 (by assumption)).mono ?_); rintro e w1 ⟨rfl, hb1⟩; obtain ⟨hc1, hf1⟩ := bcell hb1; have hz1 : wr.heap.size < w1.heap.size := (by have := hb1.size; (try simp at this); omega); have HB1 : Below w.heap.size w w1 := below_mid bel hb1; have HC1 := Aside0.mk hb1; have HD1 : Below wo.heap.size wo w1 := below_mid bel hb1; clear hb1) | ((with_reducible refine (types_c (Kd.C_below Z3.out bel) Z2.out 8 (by assumption)).mono ?_); rintro e w2 ⟨rfl, hb2⟩; obtain ⟨hc2, hf2⟩ := bcell hb2; have hz2 : wr.heap.size < w2.heap.size := (by have := hb2.size; (try simp at this); omega); have HB2 : Below w.heap.size w w2 := below_mid bel hb2; have HC2 := Aside0.mk hb2; have HD2 : Below wo.heap.size wo w2 := below_mid bel hb2; clear hb2)) | (go_at_call 39; first | ((with_reducible refine (typ_c _ t0 t1 (by assumption)).mono ?_); rintro e w3 ⟨rfl, hb3⟩; obtain ⟨hc3, hf3⟩ := bcell hb3; have hz3 : wr.heap.size < w3.heap.size := (by have := hb3.size; (try simp at this); omega); have HB3 : Below w.heap.size w w3 := below_mid bel hb3; have HC3 := Aside0.mk hb3; have HD3 : Below wo.heap.size wo w3 := below_mid bel hb3; clear hb3)) | (go_at_call 38; first | ((with_reducible refine (in_c _ f4 0 8 (by assumption)).mono ?_); rintro e w4 ⟨rfl, hb4⟩; obtain ⟨hc4, hf4⟩ := bcell hb4; have hz4 : wr.heap.size < w4.heap.size := (by have := hb4.size; (try simp at this); omega); have HB4 : Below w.heap.size w w4 := below_mid bel hb4; have HC4 := Aside0.mk hb4; have HD4 : Below wo.heap.size wo w4 := below_mid bel hb4; clear hb4) | ((with_reducible refine (in_c _ f5 0 4096 (by assumption)).mono ?_); rintro e w5 ⟨rfl, hb5⟩; obtain ⟨hc5, hf5⟩ := bcell hb5; have hz5 : wr.heap.size < w5.heap.size := (by have := hb5.size; (try simp at this); omega); have HB5 : Below w.heap.size w w5 := below_mid bel hb5; have HC5 := Aside0.mk hb5; have HD5 : Below wo.heap.size wo w5 := below_mid bel hb5; clear hb5)) | (go_at_call 37; first | ((with_reducible refine (list_c (Kd.C_below Z7.out bel) Z6.out 64 4096 (by assumption)).mono ?_); rintro e w6 ⟨rfl, hb6⟩; obtain ⟨hc6, hf6⟩ := bcell hb6; have hz6 : wr.heap.size < w6.heap.size := (by have := hb6.size; (try simp at this); omega); have HB6 : Below w.heap.size w w6 := below_mid bel hb6; have HC6 := Aside0.mk hb6; have HD6 : Below wo.heap.size wo w6 := below_mid bel hb6; clear hb6)))
                go_ret
                exact ⟨ret_b hfa.out.symm, bel⟩
              cases p2 : typesB f1 8
              case false =>
                have hfa := Aside0.mk (HFA.out (by unfold metB; dsimp only; rw [p1, p2]; simp))
                go_wp2_with (first | (go_at_call 36; first | ((with_reducible refine (types_c (Kd.C_below Z1.out bel) Z0.out 4 (by assumption)).mono ?_); rintro e w1 ⟨rfl, hb1⟩; obtain ⟨hc1, hf1⟩ := bcell hb1; have hz1 : wr.heap.size < w1.heap.size := (by have := hb1.size; (try simp at this); omega); have HB1 : Below w.heap.size w w1 := below_mid bel hb1; have HC1 := Aside0.mk hb1; have HD1 : Below wo.heap.size wo w1 := below_mid bel hb1; clear hb1) | ((with_reducible refine (types_c (Kd.C_below Z3.out bel) Z2.out 8 (by assumption)).mono ?_); rintro e w2 ⟨rfl, hb2⟩; obtain ⟨hc2, hf2⟩ := bcell hb2; have hz2 : wr.heap.size < w2.heap.size := (by have := hb2.size; (try simp at this); omega); have HB2 : Below w.heap.size w w2 := below_mid bel hb2; have HC2 := Aside0.mk hb2; have HD2 : Below wo.heap.size wo w2 := below_mid bel hb2; clear hb2)) | (go_at_call 39; first | ((with_reducible refine (typ_c _ t0 t1 (by assumption)).mono ?_); rintro e w3 ⟨rfl, hb3⟩; obtain ⟨hc3, hf3⟩ := bcell hb3; have hz3 : wr.heap.size < w3.heap.size := (by have := hb3.size; (try simp at this); omega); have HB3 : Below w.heap.size w w3 := below_mid bel hb3; have HC3 := Aside0.mk hb3; have HD3 : Below wo.heap.size wo w3 := below_mid bel hb3; clear hb3)) | (go_at_call 38; first | ((with_reducible refine (in_c _ f4 0 8 (by assumption)).mono ?_); rintro e w4 ⟨rfl, hb4⟩; obtain ⟨hc4, hf4⟩ := bcell hb4; have hz4 : wr.heap.size < w4.heap.size := (by have := hb4.size; (try simp at this); omega); have HB4 : Below w.heap.size w w4 := below_mid bel hb4; have HC4 := Aside0.mk hb4; have HD4 : Below wo.heap.size wo w4 := below_mid bel hb4; clear hb4) | ((with_reducible refine (in_c _ f5 0 4096 (by assumption)).mono ?_); rintro e w5 ⟨rfl, hb5⟩; obtain ⟨hc5, hf5⟩ := bcell hb5; have hz5 : wr.heap.size < w5.heap.size := (by have := hb5.size; (try simp at this); omega); have HB5 : Below w.heap.size w w5 := below_mid bel hb5; have HC5 := Aside0.mk hb5; have HD5 : Below wo.heap.size wo w5 := below_mid bel hb5; clear hb5)) | (go_at_call 37; first | ((with_reducible refine (list_c (Kd.C_below Z7.out bel) Z6.out 64 4096 (by assumption)).mono ?_); rintro e w6 ⟨rfl, hb6⟩; obtain ⟨hc6, hf6⟩ := bcell hb6; have hz6 : wr.heap.size < w6.heap.size := (by have := hb6.size; (try simp at this); omega); have HB6 : Below w.heap.size w w6 := below_mid bel hb6; have HC6 := Aside0.mk hb6; have HD6 : Below wo.heap.size wo w6 := below_mid bel hb6; clear hb6)))
                go_ret
                exact ⟨ret_b hfa.out.symm, bel⟩
              cases p3 : typB ⟨t0, t1⟩
              case false =>
                have hfa := Aside0.mk (HFA.out (by unfold metB; dsimp only; rw [p1, p2, p3]; simp))
                go_wp2_with (first | (go_at_call 36; first | ((with_reducible refine (types_c (Kd.C_below Z1.out bel) Z0.out 4 (by assumption)).mono ?_); rintro e w1 ⟨rfl, hb1⟩; obtain ⟨hc1, hf1⟩ := bcell hb1; have hz1 : wr.heap.size < w1.heap.size := (by have := hb1.size; (try simp at this); omega); have HB1 : Below w.heap.size w w1 := below_mid bel hb1; have HC1 := Aside0.mk hb1; have HD1 : Below wo.heap.size wo w1 := below_mid bel hb1; clear hb1) | ((with_reducible refine (types_c (Kd.C_below Z3.out bel) Z2.out 8 (by assumption)).mono ?_); rintro e w2 ⟨rfl, hb2⟩; obtain ⟨hc2, hf2⟩ := bcell hb2; have hz2 : wr.heap.size < w2.heap.size := (by have := hb2.size; (try simp at this); omega); have HB2 : Below w.heap.size w w2 := below_mid bel hb2; have HC2 := Aside0.mk hb2; have HD2 : Below wo.heap.size wo w2 := below_mid bel hb2; clear hb2)) | (go_at_call 39; first | ((with_reducible refine (typ_c _ t0 t1 (by assumption)).mono ?_); rintro e w3 ⟨rfl, hb3⟩; obtain ⟨hc3, hf3⟩ := bcell hb3; have hz3 : wr.heap.size < w3.heap.size := (by have := hb3.size; (try simp at this); omega); have HB3 : Below w.heap.size w w3 := below_mid bel hb3; have HC3 := Aside0.mk hb3; have HD3 : Below wo.heap.size wo w3 := below_mid bel hb3; clear hb3)) | (go_at_call 38; first | ((with_reducible refine (in_c _ f4 0 8 (by assumption)).mono ?_); rintro e w4 ⟨rfl, hb4⟩; obtain ⟨hc4, hf4⟩ := bcell hb4; have hz4 : wr.heap.size < w4.heap.size := (by have := hb4.size; (try simp at this); omega); have HB4 : Below w.heap.size w w4 := below_mid bel hb4; have HC4 := Aside0.mk hb4; have HD4 : Below wo.heap.size wo w4 := below_mid bel hb4; clear hb4) | ((with_reducible refine (in_c _ f5 0 4096 (by assumption)).mono ?_); rintro e w5 ⟨rfl, hb5⟩; obtain ⟨hc5, hf5⟩ := bcell hb5; have hz5 : wr.heap.size < w5.heap.size := (by have := hb5.size; (try simp at this); omega); have HB5 : Below w.heap.size w w5 := below_mid bel hb5; have HC5 := Aside0.mk hb5; have HD5 : Below wo.heap.size wo w5 := below_mid bel hb5; clear hb5)) | (go_at_call 37; first | ((with_reducible refine (list_c (Kd.C_below Z7.out bel) Z6.out 64 4096 (by assumption)).mono ?_); rintro e w6 ⟨rfl, hb6⟩; obtain ⟨hc6, hf6⟩ := bcell hb6; have hz6 : wr.heap.size < w6.heap.size := (by have := hb6.size; (try simp at this); omega); have HB6 : Below w.heap.size w w6 := below_mid bel hb6; have HC6 := Aside0.mk hb6; have HD6 : Below wo.heap.size wo w6 := below_mid bel hb6; clear hb6)))
                go_ret
                exact ⟨ret_b hfa.out.symm, bel⟩
              cases p4 : decide (f3.length ≤ 64)
              case false =>
                have hfa := Aside0.mk (HFA.out (by unfold metB; dsimp only; rw [p1, p2, p3, p4]; simp))
                have d4 : decide (64 < (f3.length : Int)) = true := decide_eq_true (by have := of_decide_eq_false p4; omega)
                go_wp2_with (first | (go_at_call 36; first | ((with_reducible refine (types_c (Kd.C_below Z1.out bel) Z0.out 4 (by assumption)).mono ?_); rintro e w1 ⟨rfl, hb1⟩; obtain ⟨hc1, hf1⟩ := bcell hb1; have hz1 : wr.heap.size < w1.heap.size := (by have := hb1.size; (try simp at this); omega); have HB1 : Below w.heap.size w w1 := below_mid bel hb1; have HC1 := Aside0.mk hb1; have HD1 : Below wo.heap.size wo w1 := below_mid bel hb1; clear hb1) | ((with_reducible refine (types_c (Kd.C_below Z3.out bel) Z2.out 8 (by assumption)).mono ?_); rintro e w2 ⟨rfl, hb2⟩; obtain ⟨hc2, hf2⟩ := bcell hb2; have hz2 : wr.heap.size < w2.heap.size := (by have := hb2.size; (try simp at this); omega); have HB2 : Below w.heap.size w w2 := below_mid bel hb2; have HC2 := Aside0.mk hb2; have HD2 : Below wo.heap.size wo w2 := below_mid bel hb2; clear hb2)) | (go_at_call 39; first | ((with_reducible refine (typ_c _ t0 t1 (by assumption)).mono ?_); rintro e w3 ⟨rfl, hb3⟩; obtain ⟨hc3, hf3⟩ := bcell hb3; have hz3 : wr.heap.size < w3.heap.size := (by have := hb3.size; (try simp at this); omega); have HB3 : Below w.heap.size w w3 := below_mid bel hb3; have HC3 := Aside0.mk hb3; have HD3 : Below wo.heap.size wo w3 := below_mid bel hb3; clear hb3)) | (go_at_call 38; first | ((with_reducible refine (in_c _ f4 0 8 (by assumption)).mono ?_); rintro e w4 ⟨rfl, hb4⟩; obtain ⟨hc4, hf4⟩ := bcell hb4; have hz4 : wr.heap.size < w4.heap.size := (by have := hb4.size; (try simp at this); omega); have HB4 : Below w.heap.size w w4 := below_mid bel hb4; have HC4 := Aside0.mk hb4; have HD4 : Below wo.heap.size wo w4 := below_mid bel hb4; clear hb4) | ((with_reducible refine (in_c _ f5 0 4096 (by assumption)).mono ?_); rintro e w5 ⟨rfl, hb5⟩; obtain ⟨hc5, hf5⟩ := bcell hb5; have hz5 : wr.heap.size < w5.heap.size := (by have := hb5.size; (try simp at this); omega); have HB5 : Below w.heap.size w w5 := below_mid bel hb5; have HC5 := Aside0.mk hb5; have HD5 : Below wo.heap.size wo w5 := below_mid bel hb5; clear hb5)) | (go_at_call 37; first | ((with_reducible refine (list_c (Kd.C_below Z7.out bel) Z6.out 64 4096 (by assumption)).mono ?_); rintro e w6 ⟨rfl, hb6⟩; obtain ⟨hc6, hf6⟩ := bcell hb6; have hz6 : wr.heap.size < w6.heap.size := (by have := hb6.size; (try simp at this); omega); have HB6 : Below w.heap.size w w6 := below_mid bel hb6; have HC6 := Aside0.mk hb6; have HD6 : Below wo.heap.size wo w6 := below_mid bel hb6; clear hb6)))
                go_ret
                exact ⟨ret_b hfa.out.symm, bel⟩
              have d4 : decide (64 < (f3.length : Int)) = false := decide_eq_false (by have := of_decide_eq_true p4; omega)
              cases p5 : decide (0 ≤ f4 ∧ f4 ≤ 8)
              case false =>
                have hfa := Aside0.mk (HFA.out (by unfold metB; dsimp only; rw [p1, p2, p3, p4, p5]; simp))
                go_wp2_with (first | (go_at_call 36; first | ((with_reducible refine (types_c (Kd.C_below Z1.out bel) Z0.out 4 (by assumption)).mono ?_); rintro e w1 ⟨rfl, hb1⟩; obtain ⟨hc1, hf1⟩ := bcell hb1; have hz1 : wr.heap.size < w1.heap.size := (by have := hb1.size; (try simp at this); omega); have HB1 : Below w.heap.size w w1 := below_mid bel hb1; have HC1 := Aside0.mk hb1; have HD1 : Below wo.heap.size wo w1 := below_mid bel hb1; clear hb1) | ((with_reducible refine (types_c (Kd.C_below Z3.out bel) Z2.out 8 (by assumption)).mono ?_); rintro e w2 ⟨rfl, hb2⟩; obtain ⟨hc2, hf2⟩ := bcell hb2; have hz2 : wr.heap.size < w2.heap.size := (by have := hb2.size; (try simp at this); omega); have HB2 : Below w.heap.size w w2 := below_mid bel hb2; have HC2 := Aside0.mk hb2; have HD2 : Below wo.heap.size wo w2 := below_mid bel hb2; clear hb2)) | (go_at_call 39; first | ((with_reducible refine (typ_c _ t0 t1 (by assumption)).mono ?_); rintro e w3 ⟨rfl, hb3⟩; obtain ⟨hc3, hf3⟩ := bcell hb3; have hz3 : wr.heap.size < w3.heap.size := (by have := hb3.size; (try simp at this); omega); have HB3 : Below w.heap.size w w3 := below_mid bel hb3; have HC3 := Aside0.mk hb3; have HD3 : Below wo.heap.size wo w3 := below_mid bel hb3; clear hb3)) | (go_at_call 38; first | ((with_reducible refine (in_c _ f4 0 8 (by assumption)).mono ?_); rintro e w4 ⟨rfl, hb4⟩; obtain ⟨hc4, hf4⟩ := bcell hb4; have hz4 : wr.heap.size < w4.heap.size := (by have := hb4.size; (try simp at this); omega); have HB4 : Below w.heap.size w w4 := below_mid bel hb4; have HC4 := Aside0.mk hb4; have HD4 : Below wo.heap.size wo w4 := below_mid bel hb4; clear hb4) | ((with_reducible refine (in_c _ f5 0 4096 (by assumption)).mono ?_); rintro e w5 ⟨rfl, hb5⟩; obtain ⟨hc5, hf5⟩ := bcell hb5; have hz5 : wr.heap.size < w5.heap.size := (by have := hb5.size; (try simp at this); omega); have HB5 : Below w.heap.size w w5 := below_mid bel hb5; have HC5 := Aside0.mk hb5; have HD5 : Below wo.heap.size wo w5 := below_mid bel hb5; clear hb5)) | (go_at_call 37; first | ((with_reducible refine (list_c (Kd.C_below Z7.out bel) Z6.out 64 4096 (by assumption)).mono ?_); rintro e w6 ⟨rfl, hb6⟩; obtain ⟨hc6, hf6⟩ := bcell hb6; have hz6 : wr.heap.size < w6.heap.size := (by have := hb6.size; (try simp at this); omega); have HB6 : Below w.heap.size w w6 := below_mid bel hb6; have HC6 := Aside0.mk hb6; have HD6 : Below wo.heap.size wo w6 := below_mid bel hb6; clear hb6)))
                go_ret
                exact ⟨ret_b hfa.out.symm, bel⟩
              cases p6 : decide (0 ≤ f5 ∧ f5 ≤ 4096)
              case false =>
                have hfa := Aside0.mk (HFA.out (by unfold metB; dsimp only; rw [p1, p2, p3, p4, p5, p6]; simp))
                go_wp2_with (first | (go_at_call 36; first | ((with_reducible refine (types_c (Kd.C_below Z1.out bel) Z0.out 4 (by assumption)).mono ?_); rintro e w1 ⟨rfl, hb1⟩; obtain ⟨hc1, hf1⟩ := bcell hb1; have hz1 : wr.heap.size < w1.heap.size := (by have := hb1.size; (try simp at this); omega); have HB1 : Below w.heap.size w w1 := below_mid bel hb1; have HC1 := Aside0.mk hb1; have HD1 : Below wo.heap.size wo w1 := below_mid bel hb1; clear hb1) | ((with_reducible refine (types_c (Kd.C_below Z3.out bel) Z2.out 8 (by assumption)).mono ?_); rintro e w2 ⟨rfl, hb2⟩; obtain ⟨hc2, hf2⟩ := bcell hb2; have hz2 : wr.heap.size < w2.heap.size := (by have := hb2.size; (try simp at this); omega); have HB2 : Below w.heap.size w w2 := below_mid bel hb2; have HC2 := Aside0.mk hb2; have HD2 : Below wo.heap.size wo w2 := below_mid bel hb2; clear hb2)) | (go_at_call 39; first | ((with_reducible refine (typ_c _ t0 t1 (by assumption)).mono ?_); rintro e w3 ⟨rfl, hb3⟩; obtain ⟨hc3, hf3⟩ := bcell hb3; have hz3 : wr.heap.size < w3.heap.size := (by have := hb3.size; (try simp at this); omega); have HB3 : Below w.heap.size w w3 := below_mid bel hb3; have HC3 := Aside0.mk hb3; have HD3 : Below wo.heap.size wo w3 := below_mid bel hb3; clear hb3)) | (go_at_call 38; first | ((with_reducible refine (in_c _ f4 0 8 (by assumption)).mono ?_); rintro e w4 ⟨rfl, hb4⟩; obtain ⟨hc4, hf4⟩ := bcell hb4; have hz4 : wr.heap.size < w4.heap.size := (by have := hb4.size; (try simp at this); omega); have HB4 : Below w.heap.size w w4 := below_mid bel hb4; have HC4 := Aside0.mk hb4; have HD4 : Below wo.heap.size wo w4 := below_mid bel hb4; clear hb4) | ((with_reducible refine (in_c _ f5 0 4096 (by assumption)).mono ?_); rintro e w5 ⟨rfl, hb5⟩; obtain ⟨hc5, hf5⟩ := bcell hb5; have hz5 : wr.heap.size < w5.heap.size := (by have := hb5.size; (try simp at this); omega); have HB5 : Below w.heap.size w w5 := below_mid bel hb5; have HC5 := Aside0.mk hb5; have HD5 : Below wo.heap.size wo w5 := below_mid bel hb5; clear hb5)) | (go_at_call 37; first | ((with_reducible refine (list_c (Kd.C_below Z7.out bel) Z6.out 64 4096 (by assumption)).mono ?_); rintro e w6 ⟨rfl, hb6⟩; obtain ⟨hc6, hf6⟩ := bcell hb6; have hz6 : wr.heap.size < w6.heap.size := (by have := hb6.size; (try simp at this); omega); have HB6 : Below w.heap.size w w6 := below_mid bel hb6; have HC6 := Aside0.mk hb6; have HD6 : Below wo.heap.size wo w6 := below_mid bel hb6; clear hb6)))
                go_ret
                exact ⟨ret_b hfa.out.symm, bel⟩
              cases p7 : listB f6 64 4096
              case false =>
                have hfa := Aside0.mk (HFA.out (by unfold metB; dsimp only; rw [p1, p2, p3, p4, p5, p6, p7]; simp))
                go_wp2_with (first | (go_at_call 36; first | ((with_reducible refine (types_c (Kd.C_below Z1.out bel) Z0.out 4 (by assumption)).mono ?_); rintro e w1 ⟨rfl, hb1⟩; obtain ⟨hc1, hf1⟩ := bcell hb1; have hz1 : wr.heap.size < w1.heap.size := (by have := hb1.size; (try simp at this); omega); have HB1 : Below w.heap.size w w1 := below_mid bel hb1; have HC1 := Aside0.mk hb1; have HD1 : Below wo.heap.size wo w1 := below_mid bel hb1; clear hb1) | ((with_reducible refine (types_c (Kd.C_below Z3.out bel) Z2.out 8 (by assumption)).mono ?_); rintro e w2 ⟨rfl, hb2⟩; obtain ⟨hc2, hf2⟩ := bcell hb2; have hz2 : wr.heap.size < w2.heap.size := (by have := hb2.size; (try simp at this); omega); have HB2 : Below w.heap.size w w2 := below_mid bel hb2; have HC2 := Aside0.mk hb2; have HD2 : Below wo.heap.size wo w2 := below_mid bel hb2; clear hb2)) | (go_at_call 39; first | ((with_reducible refine (typ_c _ t0 t1 (by assumption)).mono ?_); rintro e w3 ⟨rfl, hb3⟩; obtain ⟨hc3, hf3⟩ := bcell hb3; have hz3 : wr.heap.size < w3.heap.size := (by have := hb3.size; (try simp at this); omega); have HB3 : Below w.heap.size w w3 := below_mid bel hb3; have HC3 := Aside0.mk hb3; have HD3 : Below wo.heap.size wo w3 := below_mid bel hb3; clear hb3)) | (go_at_call 38; first | ((with_reducible refine (in_c _ f4 0 8 (by assumption)).mono ?_); rintro e w4 ⟨rfl, hb4⟩; obtain ⟨hc4, hf4⟩ := bcell hb4; have hz4 : wr.heap.size < w4.heap.size := (by have := hb4.size; (try simp at this); omega); have HB4 : Below w.heap.size w w4 := below_mid bel hb4; have HC4 := Aside0.mk hb4; have HD4 : Below wo.heap.size wo w4 := below_mid bel hb4; clear hb4) | ((with_reducible refine (in_c _ f5 0 4096 (by assumption)).mono ?_); rintro e w5 ⟨rfl, hb5⟩; obtain ⟨hc5, hf5⟩ := bcell hb5; have hz5 : wr.heap.size < w5.heap.size := (by have := hb5.size; (try simp at this); omega); have HB5 : Below w.heap.size w w5 := below_mid bel hb5; have HC5 := Aside0.mk hb5; have HD5 : Below wo.heap.size wo w5 := below_mid bel hb5; clear hb5)) | (go_at_call 37; first | ((with_reducible refine (list_c (Kd.C_below Z7.out bel) Z6.out 64 4096 (by assumption)).mono ?_); rintro e w6 ⟨rfl, hb6⟩; obtain ⟨hc6, hf6⟩ := bcell hb6; have hz6 : wr.heap.size < w6.heap.size := (by have := hb6.size; (try simp at this); omega); have HB6 : Below w.heap.size w w6 := below_mid bel hb6; have HC6 := Aside0.mk hb6; have HD6 : Below wo.heap.size wo w6 := below_mid bel hb6; clear hb6)))
                go_ret
                exact ⟨ret_b hfa.out.symm, bel⟩
              go_wp2_with (first | (go_at_call 36; first | ((with_reducible refine (types_c (Kd.C_below Z1.out bel) Z0.out 4 (by assumption)).mono ?_); rintro e w1 ⟨rfl, hb1⟩; obtain ⟨hc1, hf1⟩ := bcell hb1; have hz1 : wr.heap.size < w1.heap.size := (by have := hb1.size; (try simp at this); omega); have HB1 : Below w.heap.size w w1 := below_mid bel hb1; have HC1 := Aside0.mk hb1; have HD1 : Below wo.heap.size wo w1 := below_mid bel hb1; clear hb1) | ((with_reducible refine (types_c (Kd.C_below Z3.out bel) Z2.out 8 (by assumption)).mono ?_); rintro e w2 ⟨rfl, hb2⟩; obtain ⟨hc2, hf2⟩ := bcell hb2; have hz2 : wr.heap.size < w2.heap.size := (by have := hb2.size; (try simp at this); omega); have HB2 : Below w.heap.size w w2 := below_mid bel hb2; have HC2 := Aside0.mk hb2; have HD2 : Below wo.heap.size wo w2 := below_mid bel hb2; clear hb2)) | (go_at_call 39; first | ((with_reducible refine (typ_c _ t0 t1 (by assumption)).mono ?_); rintro e w3 ⟨rfl, hb3⟩; obtain ⟨hc3, hf3⟩ := bcell hb3; have hz3 : wr.heap.size < w3.heap.size := (by have := hb3.size; (try simp at this); omega); have HB3 : Below w.heap.size w w3 := below_mid bel hb3; have HC3 := Aside0.mk hb3; have HD3 : Below wo.heap.size wo w3 := below_mid bel hb3; clear hb3)) | (go_at_call 38; first | ((with_reducible refine (in_c _ f4 0 8 (by assumption)).mono ?_); rintro e w4 ⟨rfl, hb4⟩; obtain ⟨hc4, hf4⟩ := bcell hb4; have hz4 : wr.heap.size < w4.heap.size := (by have := hb4.size; (try simp at this); omega); have HB4 : Below w.heap.size w w4 := below_mid bel hb4; have HC4 := Aside0.mk hb4; have HD4 : Below wo.heap.size wo w4 := below_mid bel hb4; clear hb4) | ((with_reducible refine (in_c _ f5 0 4096 (by assumption)).mono ?_); rintro e w5 ⟨rfl, hb5⟩; obtain ⟨hc5, hf5⟩ := bcell hb5; have hz5 : wr.heap.size < w5.heap.size := (by have := hb5.size; (try simp at this); omega); have HB5 : Below w.heap.size w w5 := below_mid bel hb5; have HC5 := Aside0.mk hb5; have HD5 : Below wo.heap.size wo w5 := below_mid bel hb5; clear hb5)) | (go_at_call 37; first | ((with_reducible refine (list_c (Kd.C_below Z7.out bel) Z6.out 64 4096 (by assumption)).mono ?_); rintro e w6 ⟨rfl, hb6⟩; obtain ⟨hc6, hf6⟩ := bcell hb6; have hz6 : wr.heap.size < w6.heap.size := (by have := hb6.size; (try simp at this); omega); have HB6 : Below w.heap.size w w6 := below_mid bel hb6; have HC6 := Aside0.mk hb6; have HD6 : Below wo.heap.size wo w6 := below_mid bel hb6; clear hb6)))
              refine see (F := fun w1 => Below w.heap.size w w1 ∧ Below wo.heap.size wo w1 ∧ w1.heap[w.heap.size]? = some (.cells #[.slice A0 m.c.length c0, .slice A1 m.s.length c1, .slice A2 m.n.length c2, .slice (some ae) m.m.length c3, .slice A4 m.e.length c4, .int .i64 m.sk, .int .i64 m.hp] 28 (0, 0)) ∧ w1.heap[wr.heap.size]? = some (.cells #[.slice F0 f0.length g0, .slice F1 f1.length g1, .int .i64 t0, .int .i64 t1, .slice F4 f3.length g4, .int .i64 f4, .int .i64 f5, .slice F7 f6.length g7] 52 (0, 0))) _ ⟨bel, bel, blk_below (blk_below (blk_below (blk_below (blk_below (blk_below (blk_alloc HXW.out _) HC1.out) HC2.out) HC3.out) HC4.out) HC5.out) HC6.out, blk_below (blk_below (blk_below (blk_below (blk_below (blk_below (blk1 wr _) HC1.out) HC2.out) HC3.out) HC4.out) HC5.out) HC6.out⟩ ?_
              rintro w1 ⟨hb1, hd1, hx1, hm1⟩
              have B1 := Aside0.mk hb1
              have D1 := Aside0.mk hd1
              have X1 := Aside0.mk hx1
              have M1 := Aside0.mk hm1
              have HPS := Aside0.mk (show ∀ b : Bool, f3.all instrB = b → metB ⟨f0, f1, ⟨t0, t1⟩, f3, f4, f5, f6⟩ = b from fun b hb => by unfold metB; dsimp only; rw [p1, p2, p3, p4, p5, p6, p7, hb]; rfl)
              have hlen64 : f3.length ≤ 64 := of_decide_eq_true p4
              clear hb1 hd1 hx1 hm1 p1 p2 p3 p4 p5 p6 p7 d4 hi3 hlw hbw y0 y1 y2 y3 y4 y5 y6 y7 ql hc1 hf1 hz1 HB1 HC1 HD1 hc2 hf2 hz2 HB2 HC2 HD2 hc3 hf3 hz3 HB3 HC3 HD3 hc4 hf4 hz4 HB4 HC4 HD4 hc5 hf5 hz5 HB5 HC5 HD5 hc6 hf6 hz6 HB6 HC6 HD6
              obtain ⟨wp, rfl⟩ : ∃ wp : World, wp = wr := ⟨_, rfl⟩
              generalize wp.heap.size = gp at M1 ⊢
              go_loopg [7] (f3.length + 1) (fun kq v7 w' => ∃ i : Nat, v7 = .int .i64 (i : Int) ∧ Aside0 (i ≤ f3.length) ∧ Aside0 (i + kq = f3.length + 1) ∧ Aside0 (∀ j (h : j < f3.length), j < i → instrB f3[j] = true) ∧ Aside0 (Below w1.heap.size w1 w'))
              case atStart => exact ⟨0, rfl, ⟨Nat.zero_le _⟩, ⟨by omega⟩, ⟨fun j h hj => by omega⟩, ⟨Below.refl _ _⟩⟩
              case round =>
                obtain ⟨i, rfl, HI, HIQ, HIP, HL3⟩ := hrel
                have hbw : Below w.heap.size w wr := below_mid B1.out HL3.out
                have hdw : Below wo.heap.size wo wr := below_mid D1.out HL3.out
                have hlw : Below w1.heap.size w1 wr := HL3.out
                have hm4 := (blk_cell (blk_below M1.out HL3.out) 4).trans rfl
                cases gk with
                | zero => exact absurd HI.out (by have := HIQ.out; omega)
                | succ k3 =>
                  by_cases hi : i < f3.length
                  · obtain ⟨af, hF4, q0, q1, q2⟩ := at_T49 (show Kd.C k49 w F4 f3.length f3 from Z5.out) (i : Int) (by omega) (by omega)
                    subst hF4
                    simp only [Int.toNat_natCast] at q0 q1 q2
                    rw [ti hi] at q0 q1 q2
                    obtain ⟨y, hy⟩ : ∃ y, f3[i] = y := ⟨_, rfl⟩
                    rw [hy] at q0 q1 q2
                    have HY := Aside0.mk hy
                    obtain ⟨y0, y1, y2⟩ := y
                    dsimp only at q0 q1 q2
                    replace q0 := keepc hbw q0
                    replace q1 := keepc hbw q1
                    replace q2 := keepc hbw q2
                    have hi0 : (0 : Int) ≤ (i : Int) := by omega
                    have hi1 : (i : Int) < (f3.length : Int) := by omega
                    have hi2 : (i : Int) ≤ 64 := by omega
                    clear hy
                    cases pi : instrB ⟨y0, y1, y2⟩
                    case false =>
                      have hfa := Aside0.mk (HFA.out (HPS.out false (List.all_eq_false.2 ⟨f3[i], List.getElem_mem hi, by rw [HY.out, pi]; simp⟩)))
                      go_wp2_with (first | (go_at_call 40; refine (instr_c _ y0 y1 y2 (by assumption)).mono ?_; rintro e w7 ⟨rfl, hb7⟩; have HB7 : Below w.heap.size w w7 := below_mid bel hb7; clear hb7))
                      go_ret
                      exact ⟨ret_b hfa.out.symm, bel⟩
                    have HPI := Aside0.mk pi
                    go_wp2_with (first | (go_at_call 40; refine (instr_c _ y0 y1 y2 (by assumption)).mono ?_; rintro e w7 ⟨rfl, hb7⟩; have HB7 : Below w1.heap.size w1 w7 := below_mid bel hb7; clear hb7))
                    go_roundg k3
                    case measure => have := HIQ.out; omega
                    case rel =>
                      refine ⟨i + 1, by go_num, ⟨by omega⟩, ⟨by have := HIQ.out; omega⟩, ⟨fun j h hj => ?_⟩, ⟨bel⟩⟩
                      rcases Nat.lt_or_ge j i with h9 | h9
                      · exact HIP.out j h h9
                      · obtain rfl : j = i := by omega
                        rw [HY.out]
                        exact HPI.out
                  · have hie : i = f3.length := by have := HI.out; omega
                    subst hie
                    have HMT := Aside0.mk (HPS.out true (by rw [List.all_eq_true]; intro y hy; obtain ⟨j, hj, rfl⟩ := List.mem_iff_getElem.1 hy; exact HIP.out j hj hj))
                    clear HIP hi
                    go_wp2_with fail
                    go_roundg k2
                    case measure => have := HKKQ.out; omega
                    case rel =>
                      refine ⟨k + 1, by go_num, ⟨by omega⟩, ⟨by have := HKKQ.out; omega⟩, ⟨fun j h hj => ?_⟩, ⟨hdw⟩⟩
                      rcases Nat.lt_or_ge j k with h9 | h9
                      · exact HP.out j h h9
                      · obtain rfl : j = k := by omega
                        rw [HX.out]
                        exact HMT.out
            · have hke : k = m.m.length := by have := HKK.out; omega
              subst hke
              have HALL2 := Aside0.mk (show (m.c.all clsB && m.m.all metB) = true from by rw [HALL.out, Bool.true_and, List.all_eq_true]; intro i hi; obtain ⟨j, hj, rfl⟩ := List.mem_iff_getElem.1 hi; exact HP.out j hj hj)
              clear HP hk
              go_wp2_with fail
              go_ret
              exact ⟨ret_b HALL2.out.symm, hbw⟩
end Go.Proofs.Ytcfbhobpfnlkpaa.Flow
