/- The walk: an image's further parts. -/
import Derived.Test.YtcfbhobpfnlkpaaJudgeFB
namespace Go.Proofs.Ytcfbhobpfnlkpaa.Flow
open Go.RowKit Go.Proofs.Ytcfbhobpfnlkpaa.QJudgeFound Go.Proofs.YtcfbhobpfnlkpaaW.PrintWords Go.Proofs.YtcfbhobpfnlkpaaW.PrintLast Go.Proofs.Ytcfbhobpfnlkpaa.Chain
set_option linter.unusedVariables false
set_option linter.unusedSimpArgs false
def upS (m : Im) (x : S80) : List Int := if 0 ≤ x.f0 then (rd_T80 m.c x.f0).f2 else []
def slotB (m : Im) (c : Int) (up : List Int) (k : Nat) (s : Int) : Bool :=
  decide (s < (m.m.length : Int)) && (decide ((rd_T52 m.m s).f0.length ≠ 0) && (sub (sf m.c) m.c.length 3 c (rd_T39 (rd_T52 m.m s).f0 0).f0 (rd_T39 (rd_T52 m.m s).f0 0).f1 &&
    (decide (up.length ≤ k) || (decide ((rd_T52 m.m s).f0.drop 1 = (rd_T52 m.m (rd up k)).f0.drop 1) && decide ((rd_T52 m.m s).f2 = (rd_T52 m.m (rd up k)).f2)))))
def classB (m : Im) (c : Int) : Bool :=
  decide ((rd_T80 m.c c).f0 < c) && ((rd_T80 m.c c).f1.all (goodT m.c.length) && (decide ((flds m.c c).length ≤ 8) && (decide ((upS m (rd_T80 m.c c)).length ≤ (rd_T80 m.c c).f2.length) &&
    (List.range (rd_T80 m.c c).f2.length).all (fun k => slotB m c (upS m (rd_T80 m.c c)) k (rd (rd_T80 m.c c).f2 k)))))
theorem rsub_calls {w : World} {A : Option Addr} {c : Nat} {l : List S80} (hl : Kd.C k80 w A l.length l) (hc : l.length ≤ c) (hn : l.length ≤ 1000000) (a0 a1 b0 b1 : Int) {p : Bool} (hp : sub (sf l) l.length a0 a1 b0 b1 = p) :
    Calls Try.prog 35 #[.slice A l.length c, .agg #[.int .i64 a0, .int .i64 a1], .agg #[.int .i64 b0, .int .i64 b1]] w fun e w' => e = .returned (.bool p) ∧ Below w.heap.size w w' := by
  subst hp
  exact plimsollref01_Sub.calls (3 * l.length + 10) A c l a0 a1 b0 b1 _ w hl hc (ref_sub_val l hn a0 a1 b0 b1 _ (Nat.le_refl _))
theorem types_calls {w : World} {A A' : Option Addr} {c c' : Nat} {l l' : List S39} (hl : Kd.C k39 w A l.length l) (hc : l.length ≤ c) (hl' : Kd.C k39 w A' l'.length l') (hc' : l'.length ≤ c') (hn : l.length ≤ 1000000) {q : Bool} (hq : decide (l = l') = q) :
    Calls Try.prog 32 #[.slice A l.length c, .slice A' l'.length c'] w fun e w' => e = .returned (.bool q) ∧ Below w.heap.size w w' := by
  subst hq
  refine (plimsollref01_Types.calls (l.length + 1) A c l A' c' l' _ w hl hc hl' hc' (types_eq l l' hn _ (Nat.le_refl _))).mono ?_
  rintro e w' ⟨h1, h2⟩
  exact ⟨h1, h2.below⟩
theorem cut1 {w : World} {A : Option Addr} {c : Nat} {l : List S39} (h0 : l.length ≠ 0) (hC : Kd.C k39 w A l.length l) (hc : l.length ≤ c) :
    ∃ (Ad : Option Addr) (l1 : List S39), l.drop 1 = l1 ∧ (∀ W : World, (Instr.slice 23 (.slice A l.length c) (some (.int .i64 1)) none none).run Try.prog W = .ok (.slice Ad l1.length (c - 1)) W) ∧ Kd.C k39 w Ad l1.length l1 ∧ l1.length ≤ c - 1 := by
  obtain ⟨i0, hi, _, hz1, _⟩ := info_parts info39
  have hd : (l.drop 1).length = l.length - 1 := List.length_drop
  refine ⟨if c = 1 then A else A.map (·.add (1 * 2)), l.drop 1, rfl, fun W => ?_, ?_, by omega⟩
  · have := cut_from (P := Try.prog) 23 39 .i64 Try.underlying23 hi 2 hz1 A l.length c 1 (by omega) (by omega) W
    rw [hd]
    exact this
  · exact Kd.C_drop hC (by omega) hc
theorem C_int {w : World} {A : Option Addr} {l : List Int} {k : IntKind} (h : Kd.C (Kd.int k) w A l.length l) (i : Nat) (hi : i < l.length) : ∃ ad, A = some ad ∧ w.cell? (ad.add i) = some (.int k l[i]) := by
  obtain ⟨ad, e, hc⟩ := Kd.at_int h (i : Int) (by omega) (by omega)
  refine ⟨ad, e, ?_⟩
  rw [Int.toNat_natCast, rd_nat hi] at hc
  exact hc
structure CB (W : World) (g : Nat) (a : IA) (m : Im) (x0 : Int) (xf : List S39) (xs : List Int) (B1 B2 : Option Addr) (d1 d2 : Nat) : Prop where
  i : W.heap[g]? = some (.cells #[.slice a.A0 m.c.length a.c0, .slice a.A1 m.s.length a.c1, .slice a.A2 m.n.length a.c2, .slice a.A3 m.m.length a.c3, .slice a.A4 m.e.length a.c4, .int .i64 m.sk, .int .i64 m.hp] 28 (0, 0))
  x : W.heap[g + 1]? = some (.cells #[.int .i64 x0, .slice B1 xf.length d1, .slice B2 xs.length d2] 80 (0, 0))
theorem CB.below {W W' : World} {g : Nat} {a : IA} {m : Im} {x0 : Int} {xf : List S39} {xs : List Int} {B1 B2 : Option Addr} {d1 d2 : Nat} (h : CB W g a m x0 xf xs B1 B2 d1 d2) (hb : Below W.heap.size W W') : CB W' g a m x0 xf xs B1 B2 d1 d2 := ⟨blk_below h.i hb, blk_below h.x hb⟩
theorem CB.init (w : World) (a : IA) (m : Im) (x0 : Int) (xf : List S39) (xs : List Int) (B1 B2 : Option Addr) (d1 d2 : Nat) : CB ((w.alloc (.cells #[.slice a.A0 m.c.length a.c0, .slice a.A1 m.s.length a.c1, .slice a.A2 m.n.length a.c2, .slice a.A3 m.m.length a.c3, .slice a.A4 m.e.length a.c4, .int .i64 m.sk, .int .i64 m.hp] 28)).alloc (.cells #[.int .i64 x0, .slice B1 xf.length d1, .slice B2 xs.length d2] 80)) w.heap.size a m x0 xf xs B1 B2 d1 d2 :=
  ⟨(blk2 w _ _).1, (blk2 w _ _).2⟩
theorem types_quiet {w : World} {A A' : Option Addr} {c c' : Nat} {l l' : List S39} (n : Nat) (hl : Kd.C k39 w A l.length l) (hc : l.length ≤ c) (hl' : Kd.C k39 w A' l'.length l') (hc' : l'.length ≤ c') (hn : l.length ≤ 1000000) {q : Bool} (hq : decide (l = l') = q) :
    Calls Try.prog 32 #[.slice A l.length c, .slice A' l'.length c'] (w.drewN n) fun e w' => e = .returned (.bool q) ∧ ∃ m, w' = w.drewN m := by
  subst hq
  refine Calls.quiet_of ((plimsollref01_Types.calls (l.length + 1) A c l A' c' l' _ (w.drewN n) (Kd.C_drewN hl n) hc (Kd.C_drewN hl' n) hc' (types_eq l l' hn _ (Nat.le_refl _))).mono ?_)
  rintro e w' ⟨h1, ⟨m, h2⟩⟩
  exact ⟨h1, m, h2⟩
set_option maxHeartbeats 8000000 in
set_option maxRecDepth 100000 in
theorem class_calls (a : IA) (m : Im) (c : Int) (w : World) (hm : IC w a m) (ht : tot m.c < 200) (hc0 : 0 ≤ c) (hc1 : c < (m.c.length : Int)) (hn : m.c.length ≤ 100) (hmm : m.m.length ≤ 100)
    (hs : ∀ s ∈ (rd_T80 m.c c).f2, 0 ≤ s) (hsl : (rd_T80 m.c c).f2.length ≤ 100) (hal : ∀ f ∈ m.m, f.f0.length ≤ 100)
    (hup : (rd_T80 m.c c).f0 < c → ∀ s ∈ upS m (rd_T80 m.c c), 0 ≤ s ∧ s < (m.m.length : Int) ∧ (rd_T52 m.m s).f0.length ≠ 0) :
    Calls Try.prog 25 #[.agg #[.slice a.A0 m.c.length a.c0, .slice a.A1 m.s.length a.c1, .slice a.A2 m.n.length a.c2, .slice a.A3 m.m.length a.c3, .slice a.A4 m.e.length a.c4, .int .i64 m.sk, .int .i64 m.hp], .int .i64 c] w fun e w' => e = .returned (.bool (classB m c)) ∧ Below w.heap.size w w' := by
  obtain ⟨A0, A1, A2, A3, A4, c0, c1, c2, c3, c4⟩ := a
  obtain ⟨ad, B1, e1, B2, e2, hA0, q0, q1, q2, r1, r2, r3, r4⟩ := at_T80 (show Kd.C k80 w A0 m.c.length m.c from hm.h0) c hc0 hc1
  subst hA0
  have HM := Aside0.mk hm
  have HT := Aside0.mk ht
  have HSS := Aside0.mk hs
  have HAL := Aside0.mk hal
  obtain ⟨x, hx⟩ : ∃ x, rd_T80 m.c c = x := ⟨_, rfl⟩
  have HX := Aside0.mk hx
  have HUP := Aside0.mk hup
  unfold classB
  rw [hx] at q0 q1 q2 r1 r2 r3 r4 hs hsl ⊢
  rw [hx] at HUP
  have qlt := World.block_lt_of_cell? w _ q0
  have Q0 := Aside0.mk q0
  have Q1 := Aside0.mk q1
  have Q2 := Aside0.mk q2
  have R2 := Aside0.mk r2
  have R1 := Aside0.mk r1
  have R3 := Aside0.mk r3
  have R4 := Aside0.mk r4
  clear hm ht hup hs hal hx r1 r2 r3 r4
  obtain ⟨x0, xf, xs⟩ := x
  dsimp only at q0 q1 q2 Q0 Q1 Q2 R1 R2 R3 R4 hsl ⊢
  by_cases h1 : x0 < c
  case neg =>
    rw [decide_eq_false h1, Bool.false_and]
    have d1 : decide (c ≤ x0) = true := decide_eq_true (by omega)
    go_enter Try.func25, Try.ntmps25
    go_wp2_with fail
    go_ret
    exact ⟨rfl, bel⟩
  rw [decide_eq_true h1, Bool.true_and]
  replace HUP := Aside0.mk (HUP.out h1)
  have d1 : decide (c ≤ x0) = false := decide_eq_false (by omega)
  by_cases h2 : xf.all (goodT m.c.length) = true
  case neg =>
    have h2 : xf.all (goodT m.c.length) = false := by simpa using h2
    rw [h2, Bool.false_and]
    go_enter Try.func25, Try.ntmps25
    go_wp2_with (first
      | (go_at_call 24; (refine (good_calls (HM.out.below bel) (Kd.C_below R2.out bel) R1.out).mono ?_); rintro e w3 ⟨rfl, hb3⟩; obtain ⟨hc3, hf3⟩ := bcell hb3; have hz3 : w.heap.size + 1 < w3.heap.size := (lts hb3.size); have hy3 : w.heap.size < w3.heap.size := (by omega); have HB3 : Below w.heap.size w w3 := below_mid bel hb3; have HC3 := Aside0.mk hb3; clear hb3)
      | (go_at_call 42; (refine (rfields_calls (HM.out.below bel) HT.out c).mono ?_); rintro e w4 ⟨v4, rfl, ho4, hb4⟩; obtain ⟨A4', c4', rfl⟩ := Kd.R_slice ho4; obtain ⟨hc4, hf4⟩ := bcell hb4; have hz4 : w.heap.size + 1 < w4.heap.size := (lts hb4.size); have hy4 : w.heap.size < w4.heap.size := (by omega); have HB4 : Below w.heap.size w w4 := below_mid bel hb4; have HC4 := Aside0.mk hb4; clear hb4 ho4))
    go_ret
    exact ⟨rfl, bel⟩
  rw [h2, Bool.true_and]
  by_cases h3 : (flds m.c c).length ≤ 8
  case neg =>
    rw [decide_eq_false h3, Bool.false_and]
    have d3 : decide (8 < ((flds m.c c).length : Int)) = true := decide_eq_true (by omega)
    go_enter Try.func25, Try.ntmps25
    go_wp2_with (first
      | (go_at_call 24; (refine (good_calls (HM.out.below bel) (Kd.C_below R2.out bel) R1.out).mono ?_); rintro e w3 ⟨rfl, hb3⟩; obtain ⟨hc3, hf3⟩ := bcell hb3; have hz3 : w.heap.size + 1 < w3.heap.size := (lts hb3.size); have hy3 : w.heap.size < w3.heap.size := (by omega); have HB3 : Below w.heap.size w w3 := below_mid bel hb3; have HC3 := Aside0.mk hb3; clear hb3)
      | (go_at_call 42; (refine (rfields_calls (HM.out.below bel) HT.out c).mono ?_); rintro e w4 ⟨v4, rfl, ho4, hb4⟩; obtain ⟨A4', c4', rfl⟩ := Kd.R_slice ho4; obtain ⟨hc4, hf4⟩ := bcell hb4; have hz4 : w.heap.size + 1 < w4.heap.size := (lts hb4.size); have hy4 : w.heap.size < w4.heap.size := (by omega); have HB4 : Below w.heap.size w w4 := below_mid bel hb4; have HC4 := Aside0.mk hb4; clear hb4 ho4))
    go_ret
    exact ⟨rfl, bel⟩
  rw [decide_eq_true h3, Bool.true_and]
  have d3 : decide (8 < ((flds m.c c).length : Int)) = false := decide_eq_false (by omega)
  by_cases hx0 : 0 ≤ x0
  · have d4 : decide (0 ≤ x0) = true := decide_eq_true hx0
    have hx1 : x0 < (m.c.length : Int) := by omega
    obtain ⟨ad', U1, u1, U2, u2, hA0', p0, p1, p2, s1, s2, s3, s4⟩ := at_T80 (show Kd.C k80 w (some ad) m.c.length m.c from HM.out.h0) x0 hx0 hx1
    injection hA0' with hA0'
    subst hA0'
    have P2 := Aside0.mk p2
    have S3 := Aside0.mk s3
    have S4 := Aside0.mk s4
    have eu : upS m ⟨x0, xf, xs⟩ = (rd_T80 m.c x0).f2 := if_pos hx0
    rw [eu] at HUP ⊢
    clear p0 p1 p2 s1 s2 s3 s4 eu
    by_cases h4 : (rd_T80 m.c x0).f2.length ≤ xs.length
    case neg =>
      rw [decide_eq_false h4, Bool.false_and]
      have d5 : decide (xs.length < (rd_T80 m.c x0).f2.length) = true := decide_eq_true (by omega)
      go_enter Try.func25, Try.ntmps25
      go_wp2_with (first
        | (go_at_call 24; (refine (good_calls (HM.out.below bel) (Kd.C_below R2.out bel) R1.out).mono ?_); rintro e w3 ⟨rfl, hb3⟩; obtain ⟨hc3, hf3⟩ := bcell hb3; have hz3 : w.heap.size + 1 < w3.heap.size := (lts hb3.size); have hy3 : w.heap.size < w3.heap.size := (by omega); have HB3 : Below w.heap.size w w3 := below_mid bel hb3; have HC3 := Aside0.mk hb3; clear hb3)
        | (go_at_call 42; (refine (rfields_calls (HM.out.below bel) HT.out c).mono ?_); rintro e w4 ⟨v4, rfl, ho4, hb4⟩; obtain ⟨A4', c4', rfl⟩ := Kd.R_slice ho4; obtain ⟨hc4, hf4⟩ := bcell hb4; have hz4 : w.heap.size + 1 < w4.heap.size := (lts hb4.size); have hy4 : w.heap.size < w4.heap.size := (by omega); have HB4 : Below w.heap.size w w4 := below_mid bel hb4; have HC4 := Aside0.mk hb4; (try (have pw2 := keepc HB4 P2.out; have pl2 := World.block_lt_of_cell? w4 _ pw2)); clear hb4 ho4))
      go_ret
      exact ⟨rfl, bel⟩
    rw [decide_eq_true h4, Bool.true_and]
    have d5 : decide (xs.length < (rd_T80 m.c x0).f2.length) = false := decide_eq_false (by omega)
    go_enter Try.func25, Try.ntmps25
    go_wp2_with (first
        | (go_at_call 24; (refine (good_calls (HM.out.below bel) (Kd.C_below R2.out bel) R1.out).mono ?_); rintro e w3 ⟨rfl, hb3⟩; obtain ⟨hc3, hf3⟩ := bcell hb3; have hz3 : w.heap.size + 1 < w3.heap.size := (lts hb3.size); have hy3 : w.heap.size < w3.heap.size := (by omega); have HB3 : Below w.heap.size w w3 := below_mid bel hb3; have HC3 := Aside0.mk hb3; clear hb3)
        | (go_at_call 42; (refine (rfields_calls (HM.out.below bel) HT.out c).mono ?_); rintro e w4 ⟨v4, rfl, ho4, hb4⟩; obtain ⟨A4', c4', rfl⟩ := Kd.R_slice ho4; obtain ⟨hc4, hf4⟩ := bcell hb4; have hz4 : w.heap.size + 1 < w4.heap.size := (lts hb4.size); have hy4 : w.heap.size < w4.heap.size := (by omega); have HB4 : Below w.heap.size w w4 := below_mid bel hb4; have HC4 := Aside0.mk hb4; (try (have pw2 := keepc HB4 P2.out; have pl2 := World.block_lt_of_cell? w4 _ pw2)); clear hb4 ho4))
    refine see (F := fun w0_ => Below w.heap.size w w0_ ∧ CB w0_ w.heap.size ⟨some ad, A1, A2, A3, A4, c0, c1, c2, c3, c4⟩ m x0 xf xs B1 B2 e1 e2) _ ⟨bel, (((CB.init w ⟨some ad, A1, A2, A3, A4, c0, c1, c2, c3, c4⟩ m x0 xf xs B1 B2 e1 e2).below HC3.out).below HC4.out).below (below_alloc (Below.refl _ _) _)⟩ ?_
    rintro w0 ⟨hb0, hmb⟩
    have HB0 := Aside0.mk hb0
    have HMB := Aside0.mk hmb
    clear hb0 hmb hc3 hf3 hz3 hy3 HB3 HC3 hc4 hf4 hz4 hy4 HB4 HC4 q0 q1 q2 pw2 pl2
    clear h1 h2 h3 d1 d3 d4 d5
    go_loopg [7] (xs.length + 1) (fun kq v7 w' => ∃ k : Nat, v7 = .int .i64 (k : Int) ∧ Aside0 (k ≤ xs.length) ∧ Aside0 (k + kq = xs.length + 1) ∧ Aside0 (∀ j (h : j < xs.length), j < k → slotB m c ((rd_T80 m.c x0).f2) j xs[j] = true) ∧ Aside0 (Below w0.heap.size w0 w'))
    case atStart => exact ⟨0, rfl, ⟨Nat.zero_le _⟩, ⟨by omega⟩, ⟨fun j h hj => by omega⟩, ⟨Below.refl _ _⟩⟩
    case round =>
      obtain ⟨k, rfl, HK, HKQ, HP, HL⟩ := hrel
      have HW := Aside0.mk (HMB.out.below HL.out)
      have HBW := Aside0.mk (below_mid HB0.out HL.out)
      cases gk with
      | zero => exact absurd HK.out (by have := HKQ.out; omega)
      | succ k1 =>
        have hcx := (blk_cell HW.out.x 2).trans rfl
        by_cases hk : k < xs.length
        · obtain ⟨ad2, hB2, hq⟩ := C_int R4.out k hk
          subst hB2
          obtain ⟨s, hs⟩ : ∃ s, xs[k] = s := ⟨_, rfl⟩
          rw [hs] at hq
          have HQ := Aside0.mk (keepc HBW.out hq)
          have HS := Aside0.mk hs
          have hs0 : 0 ≤ s := HSS.out s (by rw [HX.out, ← hs]; exact List.getElem_mem hk)
          have hk0 : (0 : Int) ≤ (k : Int) := by omega
          have hk1 : (k : Int) < (xs.length : Int) := by omega
          have hk2 : (k : Int) ≤ 100 := by omega
          clear hq hs
          have hq := HQ.out
          have hi3 := (blk_cell HW.out.i 3).trans rfl
          by_cases g1 : s < (m.m.length : Int)
          case neg =>
            have dg : decide ((m.m.length : Int) ≤ s) = true := decide_eq_true (by omega)
            go_wp2_with fail
            go_quiet (fail)
            go_wp2
            go_ret
            exact ⟨ret_b (List.all_eq_false.2 ⟨k, List.mem_range.2 hk, by rw [rd_nat hk, HS.out]; unfold slotB; rw [decide_eq_false (show ¬ s < (m.m.length : Int) by omega)]; simp⟩).symm, pw_below_drewN HBW.out _⟩
          have dg : decide ((m.m.length : Int) ≤ s) = false := decide_eq_false (by omega)
          obtain ⟨ae, F0, f0, F1, f1, F4, f4, F7, f7, hA3, y0, y1, y2, y3, y4, y5, y6, y7, z0, z1, z2, z3, z4, z5, z6, z7⟩ := at_T52 (show Kd.C k52 w A3 m.m.length m.m from HM.out.h3) s hs0 g1
          subst hA3
          obtain ⟨fm, hfm⟩ : ∃ fm, rd_T52 m.m s = fm := ⟨_, rfl⟩
          rw [hfm] at y0 y1 y2 y3 y4 y5 y6 y7 z0 z1
          have HFM := Aside0.mk hfm
          have hfl : fm.f0.length ≤ 100 := HAL.out fm (by rw [← hfm]; unfold rd_T52; rw [List.getD_eq_getElem?_getD, List.getElem?_eq_getElem (show s.toNat < m.m.length by omega)]; exact List.getElem_mem _)
          obtain ⟨fa, fb, ⟨t0, t1⟩, fc, fd, fp, fh⟩ := fm
          dsimp only at y0 y1 y2 y3 y4 y5 y6 y7 z0 z1 hfl
          have Y0 := Aside0.mk (keepc HBW.out y0)
          have Y1 := Aside0.mk (keepc HBW.out y1)
          have Y2 := Aside0.mk (keepc HBW.out y2)
          have Y3 := Aside0.mk (keepc HBW.out y3)
          have Y4 := Aside0.mk (keepc HBW.out y4)
          have Y5 := Aside0.mk (keepc HBW.out y5)
          have Y6 := Aside0.mk (keepc HBW.out y6)
          have Y7 := Aside0.mk (keepc HBW.out y7)
          have Z0 := Aside0.mk z0
          have Z1 := Aside0.mk z1
          clear y0 y1 y2 y3 y4 y5 y6 y7 z0 z1 z2 z3 z4 z5 z6 z7 hfm
          go_wp2_with fail
          go_quiet (fail)
          have hb1 := (show Below wr.heap.size wr (wr.drewN nq) from pw_below_drewN (Below.refl _ _) _)
          generalize wr.drewN nq = w1 at hb1 ⊢
          have HB1 := Aside0.mk hb1
          clear hb1 hcx hq hi3
          have HW1 := Aside0.mk (HW.out.below HB1.out)
          have HBW1 := Aside0.mk (below_mid HBW.out HB1.out)
          go_wp2_with fail
          have hq1_ := (show w1.cell? ⟨w.heap.size + 1, 2, none⟩ = some (.slice (some ad2) xs.length e2) from (blk_cell HW1.out.x 2).trans rfl)
          have hn1_ := World.new_ne w1 _ hq1_
          have hq2_ := (show w1.cell? ⟨w.heap.size, 3, none⟩ = some (.slice (some ae) m.m.length c3) from (blk_cell HW1.out.i 3).trans rfl)
          have hn2_ := World.new_ne w1 _ hq2_
          have hq3_ := (show w1.cell? (ad2.add k) = some (.int .i64 s) from (keepc HB1.out HQ.out))
          have hn3_ := World.new_ne w1 _ hq3_
          have hq4_ := (show w1.cell? (ae.add (s.toNat * 8)) = some (.slice F0 fa.length f0) from (keepc HB1.out Y0.out))
          have hn4_ := World.new_ne w1 _ hq4_
          have hq5_ := (show w1.cell? ⟨(ae.add (s.toNat * 8)).block, (ae.add (s.toNat * 8)).off + 1, none⟩ = some (.slice F1 fb.length f1) from (keepc HB1.out Y1.out))
          have hn5_ := World.new_ne w1 _ hq5_
          have hq6_ := (show w1.cell? ⟨(ae.add (s.toNat * 8)).block, (ae.add (s.toNat * 8)).off + 2, none⟩ = some (.int .i64 t0) from (keepc HB1.out Y2.out))
          have hn6_ := World.new_ne w1 _ hq6_
          have hq7_ := (show w1.cell? ⟨(ae.add (s.toNat * 8)).block, (ae.add (s.toNat * 8)).off + 3, none⟩ = some (.int .i64 t1) from (keepc HB1.out Y3.out))
          have hn7_ := World.new_ne w1 _ hq7_
          have hq8_ := (show w1.cell? ⟨(ae.add (s.toNat * 8)).block, (ae.add (s.toNat * 8)).off + 4, none⟩ = some (.slice F4 fc.length f4) from (keepc HB1.out Y4.out))
          have hn8_ := World.new_ne w1 _ hq8_
          have hq9_ := (show w1.cell? ⟨(ae.add (s.toNat * 8)).block, (ae.add (s.toNat * 8)).off + 5, none⟩ = some (.int .i64 fd) from (keepc HB1.out Y5.out))
          have hn9_ := World.new_ne w1 _ hq9_
          have hq10_ := (show w1.cell? ⟨(ae.add (s.toNat * 8)).block, (ae.add (s.toNat * 8)).off + 6, none⟩ = some (.int .i64 fp) from (keepc HB1.out Y6.out))
          have hn10_ := World.new_ne w1 _ hq10_
          have hq11_ := (show w1.cell? ⟨(ae.add (s.toNat * 8)).block, (ae.add (s.toNat * 8)).off + 7, none⟩ = some (.slice F7 fh.length f7) from (keepc HB1.out Y7.out))
          have hn11_ := World.new_ne w1 _ hq11_
          go_region_held3 (fun w' => w'.cell? ⟨w.heap.size + 1, 2, none⟩ = some (.slice (some ad2) xs.length e2) ∧ w'.cell? ⟨w.heap.size, 3, none⟩ = some (.slice (some ae) m.m.length c3) ∧ w'.cell? (ad2.add k) = some (.int .i64 s) ∧ w'.cell? (ae.add (s.toNat * 8)) = some (.slice F0 fa.length f0) ∧ w'.cell? ⟨(ae.add (s.toNat * 8)).block, (ae.add (s.toNat * 8)).off + 1, none⟩ = some (.slice F1 fb.length f1) ∧ w'.cell? ⟨(ae.add (s.toNat * 8)).block, (ae.add (s.toNat * 8)).off + 2, none⟩ = some (.int .i64 t0) ∧ w'.cell? ⟨(ae.add (s.toNat * 8)).block, (ae.add (s.toNat * 8)).off + 3, none⟩ = some (.int .i64 t1) ∧ w'.cell? ⟨(ae.add (s.toNat * 8)).block, (ae.add (s.toNat * 8)).off + 4, none⟩ = some (.slice F4 fc.length f4) ∧ w'.cell? ⟨(ae.add (s.toNat * 8)).block, (ae.add (s.toNat * 8)).off + 5, none⟩ = some (.int .i64 fd) ∧ w'.cell? ⟨(ae.add (s.toNat * 8)).block, (ae.add (s.toNat * 8)).off + 6, none⟩ = some (.int .i64 fp) ∧ w'.cell? ⟨(ae.add (s.toNat * 8)).block, (ae.add (s.toNat * 8)).off + 7, none⟩ = some (.slice F7 fh.length f7)) (go_keep) (fail)
          have hb2 := (show Below w1.heap.size w1 ((w1.alloc (.cells #[.slice F0 fa.length f0, .slice F1 fb.length f1, .int .i64 t0, .int .i64 t1, .slice F4 fc.length f4, .int .i64 fd, .int .i64 fp, .slice F7 fh.length f7] 52)).drew) from below_drew (below_alloc (Below.refl _ _) _))
          have hf2 := (show ((w1.alloc (.cells #[.slice F0 fa.length f0, .slice F1 fb.length f1, .int .i64 t0, .int .i64 t1, .slice F4 fc.length f4, .int .i64 fd, .int .i64 fp, .slice F7 fh.length f7] 52)).drew).heap[w1.heap.size]? = some (.cells #[.slice F0 fa.length f0, .slice F1 fb.length f1, .int .i64 t0, .int .i64 t1, .slice F4 fc.length f4, .int .i64 fd, .int .i64 fp, .slice F7 fh.length f7] 52 (0, 0)) from heap_alloc_new w1 _)
          generalize ((w1.alloc (.cells #[.slice F0 fa.length f0, .slice F1 fb.length f1, .int .i64 t0, .int .i64 t1, .slice F4 fc.length f4, .int .i64 fd, .int .i64 fp, .slice F7 fh.length f7] 52)).drew) = w2 at hb2 hf2 ⊢
          have HB2 := Aside0.mk (below_mid HB1.out hb2)
          have HF2 := Aside0.mk hf2
          have HW2 := Aside0.mk (HW1.out.below hb2)
          have HBW2 := Aside0.mk (below_mid HBW1.out hb2)
          clear hb2 hf2 HW1 HBW1 HB1
          clear hq1_ hn1_ hq2_ hn2_ hq3_ hn3_ hq4_ hn4_ hq5_ hn5_ hq6_ hn6_ hq7_ hn7_ hq8_ hn8_ hq9_ hn9_ hq10_ hn10_ hq11_ hn11_
          generalize w1.heap.size = gf at HF2 ⊢
          by_cases g2 : fa.length = 0
          case pos =>
            have HSB := Aside0.mk (show slotB m c (rd_T80 m.c x0).f2 k s = false from by unfold slotB; rw [HFM.out]; simp [g2])
            have dg2 : ((fa.length : Int) == 0) = true := by rw [g2]; rfl
            have hc0 := (blk_cell HF2.out 0).trans rfl
            have hi0 := (blk_cell HW2.out.i 0).trans rfl
            clear g2
            go_wp2_with fail
            go_quiet (fail)
            go_wp2
            go_ret
            exact ⟨ret_b (List.all_eq_false.2 ⟨k, List.mem_range.2 hk, by rw [rd_nat hk, HS.out, HSB.out]; simp⟩).symm, pw_below_drewN HBW2.out _⟩
          have dg2 : ((fa.length : Int) == 0) = false := by simp only [beq_eq_false_iff_ne]; omega
          obtain ⟨af, hF0, y0, y1⟩ := at_T39 Z1.out 0 (by omega) (by omega)
          subst hF0
          obtain ⟨tf, htf⟩ : ∃ tf, rd_T39 fa 0 = tf := ⟨_, rfl⟩
          rw [htf, show af.add ((0 : Int).toNat * 2) = af by simp [Addr.add]] at y0 y1
          have HTF := Aside0.mk htf
          obtain ⟨p0, p1⟩ := tf
          dsimp only at y0 y1
          have Y8 := Aside0.mk (keepc HBW2.out y0)
          have Y9 := Aside0.mk (keepc HBW2.out y1)
          clear htf y0 y1
          obtain ⟨pb, hpb⟩ : ∃ pb, sub (sf m.c) m.c.length 3 c p0 p1 = pb := ⟨_, rfl⟩
          have HPB := Aside0.mk hpb
          have hfa1 : (0 : Int) < (fa.length : Int) := by omega
          have hfa0 : 0 < fa.length := by omega
          clear hpb
          go_wp2_with fail
          have hq1_ := Aside0.mk (show w2.cell? ⟨w.heap.size, 0, none⟩ = some (.slice (some ad) m.c.length c0) from (blk_cell HW2.out.i 0).trans rfl)
          have hq2_ := Aside0.mk (show w2.cell? ⟨gf, 0, none⟩ = some (.slice (some af) fa.length f0) from (blk_cell HF2.out 0).trans rfl)
          have hq3_ := Aside0.mk (show w2.cell? af = some (.int .i64 p0) from Y8.out)
          have hq4_ := Aside0.mk (show w2.cell? ⟨af.block, af.off + 1, none⟩ = some (.int .i64 p1) from Y9.out)
          go_region_held3 (fun w' => Below w2.heap.size w2 w' ∧ w'.cell? ⟨w.heap.size, 0, none⟩ = some (.slice (some ad) m.c.length c0) ∧ w'.cell? ⟨gf, 0, none⟩ = some (.slice (some af) fa.length f0) ∧ w'.cell? af = some (.int .i64 p0) ∧ w'.cell? ⟨af.block, af.off + 1, none⟩ = some (.int .i64 p1)) (first | ((try dsimp only); refine ⟨?_, ?_, ?_, ?_, ?_⟩ <;> first | exact Below.drew (Below.refl _ _) | assumption | exact keepc (Below.drew (Below.refl _ _)) hq1_.out | exact keepc (by assumption) hq1_.out | exact keepc (Below.drew (Below.refl _ _)) hq2_.out | exact keepc (by assumption) hq2_.out | exact keepc (Below.drew (Below.refl _ _)) hq3_.out | exact keepc (by assumption) hq3_.out | exact keepc (Below.drew (Below.refl _ _)) hq4_.out | exact keepc (by assumption) hq4_.out)) ((go_simp; go_at_call 35; refine (rsub_calls (Kd.C_below (Kd.C_below HM.out.h0 HBW2.out) (by first | exact Below.drew (Below.refl _ _) | assumption | exact And.left (by assumption))) HM.out.n0 (by omega) 3 c p0 p1 HPB.out).mono ?_; rintro e w5 ⟨rfl, hb⟩; have HB5 : Below w2.heap.size w2 w5 := below_step (by first | exact Below.drew (Below.refl _ _) | assumption | exact And.left (by assumption)) hb; clear hb))
          have HB5 := Aside0.mk (show Below w2.heap.size w2 w5 by first | assumption | exact And.left (by assumption))
          have HW5 := Aside0.mk (HW2.out.below HB5.out)
          have HBW5 := Aside0.mk (below_mid HBW2.out HB5.out)
          have HF5 := Aside0.mk (blk_below HF2.out HB5.out)
          have HBA := Aside0.mk (below_mid HB2.out HB5.out)
          cases pb
          case false =>
            have HSB := Aside0.mk (show slotB m c (rd_T80 m.c x0).f2 k s = false from by unfold slotB; rw [HFM.out]; dsimp only; rw [HTF.out]; dsimp only; rw [HPB.out]; simp)
            go_wp2_with fail
            go_ret
            exact ⟨ret_b (List.all_eq_false.2 ⟨k, List.mem_range.2 hk, by rw [rd_nat hk, HS.out, HSB.out]; simp⟩).symm, HBW5.out⟩
          by_cases g4 : k < ((rd_T80 m.c x0).f2).length
          case neg =>
            have HSB := Aside0.mk (show slotB m c (rd_T80 m.c x0).f2 k s = true from by unfold slotB; rw [HFM.out]; dsimp only; rw [HTF.out]; dsimp only; rw [HPB.out, decide_eq_true g1, decide_eq_true g2, decide_eq_true (show ((rd_T80 m.c x0).f2).length ≤ k by omega)]; rfl)
            have dg4 : decide (k < ((rd_T80 m.c x0).f2).length) = false := decide_eq_false g4
            go_wp2_with fail
            go_roundg k1
            case measure => have := HKQ.out; omega
            case rel =>
              refine ⟨k + 1, by go_num, ⟨by omega⟩, ⟨by have := HKQ.out; omega⟩, ⟨fun j h hj => ?_⟩, ⟨below_mid HL.out HBA.out⟩⟩
              rcases Nat.lt_or_ge j k with h9 | h9
              · exact HP.out j h h9
              · obtain rfl : j = k := by omega
                rw [HS.out]
                exact HSB.out
          have dg4 : decide (k < ((rd_T80 m.c x0).f2).length) = true := decide_eq_true g4
          obtain ⟨au, hU2, hqu⟩ := C_int S4.out k g4
          subst hU2
          obtain ⟨su, hsu⟩ : ∃ su, ((rd_T80 m.c x0).f2)[k] = su := ⟨_, rfl⟩
          rw [hsu] at hqu
          have HSU := Aside0.mk hsu
          have HQU := Aside0.mk (keepc HBW5.out hqu)
          obtain ⟨u0, u9, u8⟩ := HUP.out su (by rw [← hsu]; exact List.getElem_mem g4)
          have hku : (k : Int) < (((rd_T80 m.c x0).f2).length : Int) := by omega
          clear hqu hsu
          obtain ⟨ae', G0, k0, G1, k9, G4, k4, G7, k7, hA3, y0, y1, y2, y3, y4, y5, y6, y7, z0, z1, z2, z3, z4, z5, z6, z7⟩ := at_T52 (show Kd.C k52 w (some ae) m.m.length m.m from HM.out.h3) su u0 u9
          injection hA3 with hA3
          subst hA3
          obtain ⟨gm, hgm⟩ : ∃ gm, rd_T52 m.m su = gm := ⟨_, rfl⟩
          rw [hgm] at y0 y1 y2 y3 y4 y5 y6 y7 z0 z1 u8
          have HGM := Aside0.mk hgm
          have hgl : gm.f0.length ≤ 100 := HAL.out gm (by rw [← hgm]; unfold rd_T52; rw [List.getD_eq_getElem?_getD, List.getElem?_eq_getElem (show su.toNat < m.m.length by omega)]; exact List.getElem_mem _)
          obtain ⟨ga, gb, ⟨v0, v1⟩, gc, gd, gp, gh⟩ := gm
          dsimp only at y0 y1 y2 y3 y4 y5 y6 y7 z0 z1 hgl u8
          have Y0' := Aside0.mk (keepc HBW5.out y0)
          have Y1' := Aside0.mk (keepc HBW5.out y1)
          have Y2' := Aside0.mk (keepc HBW5.out y2)
          have Y3' := Aside0.mk (keepc HBW5.out y3)
          have Y4' := Aside0.mk (keepc HBW5.out y4)
          have Y5' := Aside0.mk (keepc HBW5.out y5)
          have Y6' := Aside0.mk (keepc HBW5.out y6)
          have Y7' := Aside0.mk (keepc HBW5.out y7)
          have Z0' := Aside0.mk z0
          have Z1' := Aside0.mk z1
          clear y0 y1 y2 y3 y4 y5 y6 y7 z0 z1 z2 z3 z4 z5 z6 z7 hgm
          obtain ⟨AdF, la, hla, hcf, hCf, hcf1⟩ := cut1 (l := fa) (by omega) Z1.out Z0.out
          obtain ⟨AdG, lb, hlb, hcg, hCg, hcg1⟩ := cut1 (l := ga) u8 Z1'.out Z0'.out
          have HLA := Aside0.mk hla
          have HLB := Aside0.mk hlb
          have hla1 : la.length ≤ 100 := by rw [← hla, List.length_drop]; omega
          clear hla hlb
          have HCF := Aside0.mk hCf
          have HCG := Aside0.mk hCg
          have HCF1 := Aside0.mk hcf1
          have HCG1 := Aside0.mk hcg1
          have HCUTF := Aside0.mk hcf
          have HCUTG := Aside0.mk hcg
          clear hcf hcg hCf hCg hcf1 hcg1
          go_wp2_with fail
          have hq1_ := (show w5.cell? ⟨w.heap.size, 3, none⟩ = some (.slice (some ae) m.m.length c3) from (blk_cell HW5.out.i 3).trans rfl)
          have hn1_ := World.new_ne w5 _ hq1_
          have hq2_ := (show w5.cell? (au.add k) = some (.int .i64 su) from HQU.out)
          have hn2_ := World.new_ne w5 _ hq2_
          have hq3_ := (show w5.cell? (ae.add (su.toNat * 8)) = some (.slice G0 ga.length k0) from Y0'.out)
          have hn3_ := World.new_ne w5 _ hq3_
          have hq4_ := (show w5.cell? ⟨(ae.add (su.toNat * 8)).block, (ae.add (su.toNat * 8)).off + 1, none⟩ = some (.slice G1 gb.length k9) from Y1'.out)
          have hn4_ := World.new_ne w5 _ hq4_
          have hq5_ := (show w5.cell? ⟨(ae.add (su.toNat * 8)).block, (ae.add (su.toNat * 8)).off + 2, none⟩ = some (.int .i64 v0) from Y2'.out)
          have hn5_ := World.new_ne w5 _ hq5_
          have hq6_ := (show w5.cell? ⟨(ae.add (su.toNat * 8)).block, (ae.add (su.toNat * 8)).off + 3, none⟩ = some (.int .i64 v1) from Y3'.out)
          have hn6_ := World.new_ne w5 _ hq6_
          have hq7_ := (show w5.cell? ⟨(ae.add (su.toNat * 8)).block, (ae.add (su.toNat * 8)).off + 4, none⟩ = some (.slice G4 gc.length k4) from Y4'.out)
          have hn7_ := World.new_ne w5 _ hq7_
          have hq8_ := (show w5.cell? ⟨(ae.add (su.toNat * 8)).block, (ae.add (su.toNat * 8)).off + 5, none⟩ = some (.int .i64 gd) from Y5'.out)
          have hn8_ := World.new_ne w5 _ hq8_
          have hq9_ := (show w5.cell? ⟨(ae.add (su.toNat * 8)).block, (ae.add (su.toNat * 8)).off + 6, none⟩ = some (.int .i64 gp) from Y6'.out)
          have hn9_ := World.new_ne w5 _ hq9_
          have hq10_ := (show w5.cell? ⟨(ae.add (su.toNat * 8)).block, (ae.add (su.toNat * 8)).off + 7, none⟩ = some (.slice G7 gh.length k7) from Y7'.out)
          have hn10_ := World.new_ne w5 _ hq10_
          go_region_held3 (fun w' => w'.cell? ⟨w.heap.size, 3, none⟩ = some (.slice (some ae) m.m.length c3) ∧ w'.cell? (au.add k) = some (.int .i64 su) ∧ w'.cell? (ae.add (su.toNat * 8)) = some (.slice G0 ga.length k0) ∧ w'.cell? ⟨(ae.add (su.toNat * 8)).block, (ae.add (su.toNat * 8)).off + 1, none⟩ = some (.slice G1 gb.length k9) ∧ w'.cell? ⟨(ae.add (su.toNat * 8)).block, (ae.add (su.toNat * 8)).off + 2, none⟩ = some (.int .i64 v0) ∧ w'.cell? ⟨(ae.add (su.toNat * 8)).block, (ae.add (su.toNat * 8)).off + 3, none⟩ = some (.int .i64 v1) ∧ w'.cell? ⟨(ae.add (su.toNat * 8)).block, (ae.add (su.toNat * 8)).off + 4, none⟩ = some (.slice G4 gc.length k4) ∧ w'.cell? ⟨(ae.add (su.toNat * 8)).block, (ae.add (su.toNat * 8)).off + 5, none⟩ = some (.int .i64 gd) ∧ w'.cell? ⟨(ae.add (su.toNat * 8)).block, (ae.add (su.toNat * 8)).off + 6, none⟩ = some (.int .i64 gp) ∧ w'.cell? ⟨(ae.add (su.toNat * 8)).block, (ae.add (su.toNat * 8)).off + 7, none⟩ = some (.slice G7 gh.length k7)) (go_keep) (fail)
          have hb6 := (show Below w5.heap.size w5 ((w5.alloc (.cells #[.slice G0 ga.length k0, .slice G1 gb.length k9, .int .i64 v0, .int .i64 v1, .slice G4 gc.length k4, .int .i64 gd, .int .i64 gp, .slice G7 gh.length k7] 52)).drew) from below_drew (below_alloc (Below.refl _ _) _))
          have hf6 := (show ((w5.alloc (.cells #[.slice G0 ga.length k0, .slice G1 gb.length k9, .int .i64 v0, .int .i64 v1, .slice G4 gc.length k4, .int .i64 gd, .int .i64 gp, .slice G7 gh.length k7] 52)).drew).heap[w5.heap.size]? = some (.cells #[.slice G0 ga.length k0, .slice G1 gb.length k9, .int .i64 v0, .int .i64 v1, .slice G4 gc.length k4, .int .i64 gd, .int .i64 gp, .slice G7 gh.length k7] 52 (0, 0)) from heap_alloc_new w5 _)
          generalize ((w5.alloc (.cells #[.slice G0 ga.length k0, .slice G1 gb.length k9, .int .i64 v0, .int .i64 v1, .slice G4 gc.length k4, .int .i64 gd, .int .i64 gp, .slice G7 gh.length k7] 52)).drew) = w6 at hb6 hf6 ⊢
          have HF6 := Aside0.mk (blk_below HF5.out hb6)
          have HG6 := Aside0.mk hf6
          have HBW6 := Aside0.mk (below_mid HBW5.out hb6)
          have HBA6 := Aside0.mk (below_mid HBA.out hb6)
          clear hb6 hf6
          clear hq1_ hn1_ hq2_ hn2_ hq3_ hn3_ hq4_ hn4_ hq5_ hn5_ hq6_ hn6_ hq7_ hn7_ hq8_ hn8_ hq9_ hn9_ hq10_ hn10_
          generalize w5.heap.size = gg at HG6 ⊢
          obtain ⟨q, hq⟩ : ∃ q, decide (la = lb) = q := ⟨_, rfl⟩
          have HQQ := Aside0.mk hq
          clear hq
          have hcf := HCUTF.out
          have hcg := HCUTG.out
          cases q
          case false =>
            have HSB := Aside0.mk (show slotB m c (rd_T80 m.c x0).f2 k s = false from by unfold slotB; rw [HFM.out]; dsimp only; rw [HTF.out]; dsimp only; rw [HPB.out, decide_eq_true g1, decide_eq_true g2, decide_eq_false (show ¬ ((rd_T80 m.c x0).f2).length ≤ k by omega), rd_nat g4, HSU.out, HGM.out]; dsimp only; rw [HLA.out, HLB.out, HQQ.out]; simp)
            go_wp2_with fail
            have hf0 := (blk_cell HF6.out 0).trans rfl
            have hf2 := (blk_cell HF6.out 2).trans rfl
            have hf3 := (blk_cell HF6.out 3).trans rfl
            have hg0 := (blk_cell HG6.out 0).trans rfl
            have hg2 := (blk_cell HG6.out 2).trans rfl
            have hg3 := (blk_cell HG6.out 3).trans rfl
            go_quiet ((go_at_call 32; exact types_quiet _ (Kd.C_below HCF.out HBW6.out) HCF1.out (Kd.C_below HCG.out HBW6.out) HCG1.out (by omega) HQQ.out))
            have HB7' := Aside0.mk (show Below w6.heap.size w6 (w6.drewN nq) from pw_below_drewN (Below.refl _ _) _)
            go_wp2_with fail
            go_ret
            exact ⟨ret_b (List.all_eq_false.2 ⟨k, List.mem_range.2 hk, by rw [rd_nat hk, HS.out, HSB.out]; simp⟩).symm, below_mid HBW6.out HB7'.out⟩
          by_cases hr0 : t0 = v0
          case neg =>
            have HSB := Aside0.mk (show slotB m c (rd_T80 m.c x0).f2 k s = false from by unfold slotB; rw [HFM.out]; dsimp only; rw [HTF.out]; dsimp only; rw [HPB.out, decide_eq_true g1, decide_eq_true g2, decide_eq_false (show ¬ ((rd_T80 m.c x0).f2).length ≤ k by omega), rd_nat g4, HSU.out, HGM.out]; dsimp only; rw [HLA.out, HLB.out, HQQ.out]; rw [decide_eq_false (fun h => hr0 (congrArg (·.f0) h))]; simp)
            go_wp2_with fail
            have hf0 := (blk_cell HF6.out 0).trans rfl
            have hf2 := (blk_cell HF6.out 2).trans rfl
            have hf3 := (blk_cell HF6.out 3).trans rfl
            have hg0 := (blk_cell HG6.out 0).trans rfl
            have hg2 := (blk_cell HG6.out 2).trans rfl
            have hg3 := (blk_cell HG6.out 3).trans rfl
            go_quiet ((go_at_call 32; exact types_quiet _ (Kd.C_below HCF.out HBW6.out) HCF1.out (Kd.C_below HCG.out HBW6.out) HCG1.out (by omega) HQQ.out))
            have HB7' := Aside0.mk (show Below w6.heap.size w6 (w6.drewN nq) from pw_below_drewN (Below.refl _ _) _)
            go_wp2_with fail
            go_ret
            exact ⟨ret_b (List.all_eq_false.2 ⟨k, List.mem_range.2 hk, by rw [rd_nat hk, HS.out, HSB.out]; simp⟩).symm, below_mid HBW6.out HB7'.out⟩
          subst hr0
          by_cases hr1 : t1 = v1
          case neg =>
            have HSB := Aside0.mk (show slotB m c (rd_T80 m.c x0).f2 k s = false from by unfold slotB; rw [HFM.out]; dsimp only; rw [HTF.out]; dsimp only; rw [HPB.out, decide_eq_true g1, decide_eq_true g2, decide_eq_false (show ¬ ((rd_T80 m.c x0).f2).length ≤ k by omega), rd_nat g4, HSU.out, HGM.out]; dsimp only; rw [HLA.out, HLB.out, HQQ.out]; rw [decide_eq_false (fun h => hr1 (congrArg (·.f1) h))]; simp)
            go_wp2_with fail
            have hf0 := (blk_cell HF6.out 0).trans rfl
            have hf2 := (blk_cell HF6.out 2).trans rfl
            have hf3 := (blk_cell HF6.out 3).trans rfl
            have hg0 := (blk_cell HG6.out 0).trans rfl
            have hg2 := (blk_cell HG6.out 2).trans rfl
            have hg3 := (blk_cell HG6.out 3).trans rfl
            go_quiet ((go_at_call 32; exact types_quiet _ (Kd.C_below HCF.out HBW6.out) HCF1.out (Kd.C_below HCG.out HBW6.out) HCG1.out (by omega) HQQ.out))
            have HB7' := Aside0.mk (show Below w6.heap.size w6 (w6.drewN nq) from pw_below_drewN (Below.refl _ _) _)
            go_wp2_with fail
            go_ret
            exact ⟨ret_b (List.all_eq_false.2 ⟨k, List.mem_range.2 hk, by rw [rd_nat hk, HS.out, HSB.out]; simp⟩).symm, below_mid HBW6.out HB7'.out⟩
          subst hr1
          have HSB := Aside0.mk (show slotB m c (rd_T80 m.c x0).f2 k s = true from by unfold slotB; rw [HFM.out]; dsimp only; rw [HTF.out]; dsimp only; rw [HPB.out, decide_eq_true g1, decide_eq_true g2, decide_eq_false (show ¬ ((rd_T80 m.c x0).f2).length ≤ k by omega), rd_nat g4, HSU.out, HGM.out]; dsimp only; rw [HLA.out, HLB.out, HQQ.out]; simp)
          go_wp2_with fail
          have hf0 := (blk_cell HF6.out 0).trans rfl
          have hf2 := (blk_cell HF6.out 2).trans rfl
          have hf3 := (blk_cell HF6.out 3).trans rfl
          have hg0 := (blk_cell HG6.out 0).trans rfl
          have hg2 := (blk_cell HG6.out 2).trans rfl
          have hg3 := (blk_cell HG6.out 3).trans rfl
          go_quiet ((go_at_call 32; exact types_quiet _ (Kd.C_below HCF.out HBW6.out) HCF1.out (Kd.C_below HCG.out HBW6.out) HCG1.out (by omega) HQQ.out))
          have HB7' := Aside0.mk (show Below w6.heap.size w6 (w6.drewN nq) from pw_below_drewN (Below.refl _ _) _)
          go_wp2_with fail
          go_roundg k1
          case measure => have := HKQ.out; omega
          case rel =>
            refine ⟨k + 1, by go_num, ⟨by omega⟩, ⟨by have := HKQ.out; omega⟩, ⟨fun j h hj => ?_⟩, ⟨below_mid HL.out (below_mid HBA6.out HB7'.out)⟩⟩
            rcases Nat.lt_or_ge j k with h9 | h9
            · exact HP.out j h h9
            · obtain rfl : j = k := by omega
              rw [HS.out]
              exact HSB.out
        · have hke : k = xs.length := by have := HK.out; omega
          subst hke
          have HA := Aside0.mk (show ((List.range xs.length).all (fun k => slotB m c ((rd_T80 m.c x0).f2) k (rd xs k))) = true from by
            rw [List.all_eq_true]; intro i hi; rw [List.mem_range] at hi; rw [rd_nat hi]; exact HP.out i hi hi)
          clear HP hk
          go_wp2_with fail
          go_ret
          exact ⟨ret_b HA.out.symm, HBW.out⟩
  · have d4 : decide (0 ≤ x0) = false := decide_eq_false hx0
    have eu : upS m ⟨x0, xf, xs⟩ = [] := if_neg hx0
    rw [eu] at HUP ⊢
    clear eu
    have h4 : ([] : List Int).length ≤ xs.length := Nat.zero_le _
    rw [decide_eq_true h4, Bool.true_and]
    have d5 : decide (xs.length < 0) = false := decide_eq_false (by omega)
    go_enter Try.func25, Try.ntmps25
    go_wp2_with (first
        | (go_at_call 24; (refine (good_calls (HM.out.below bel) (Kd.C_below R2.out bel) R1.out).mono ?_); rintro e w3 ⟨rfl, hb3⟩; obtain ⟨hc3, hf3⟩ := bcell hb3; have hz3 : w.heap.size + 1 < w3.heap.size := (lts hb3.size); have hy3 : w.heap.size < w3.heap.size := (by omega); have HB3 : Below w.heap.size w w3 := below_mid bel hb3; have HC3 := Aside0.mk hb3; clear hb3)
        | (go_at_call 42; (refine (rfields_calls (HM.out.below bel) HT.out c).mono ?_); rintro e w4 ⟨v4, rfl, ho4, hb4⟩; obtain ⟨A4', c4', rfl⟩ := Kd.R_slice ho4; obtain ⟨hc4, hf4⟩ := bcell hb4; have hz4 : w.heap.size + 1 < w4.heap.size := (lts hb4.size); have hy4 : w.heap.size < w4.heap.size := (by omega); have HB4 : Below w.heap.size w w4 := below_mid bel hb4; have HC4 := Aside0.mk hb4; (try (have pw2 := keepc HB4 P2.out; have pl2 := World.block_lt_of_cell? w4 _ pw2)); clear hb4 ho4))
    refine see (F := fun w0_ => Below w.heap.size w w0_ ∧ CB w0_ w.heap.size ⟨some ad, A1, A2, A3, A4, c0, c1, c2, c3, c4⟩ m x0 xf xs B1 B2 e1 e2) _ ⟨bel, (((CB.init w ⟨some ad, A1, A2, A3, A4, c0, c1, c2, c3, c4⟩ m x0 xf xs B1 B2 e1 e2).below HC3.out).below HC4.out).below (below_alloc (Below.refl _ _) _)⟩ ?_
    rintro w0 ⟨hb0, hmb⟩
    have HB0 := Aside0.mk hb0
    have HMB := Aside0.mk hmb
    clear hb0 hmb hc3 hf3 hz3 hy3 HB3 HC3 hc4 hf4 hz4 hy4 HB4 HC4 q0 q1 q2 
    clear h1 h2 h3 d1 d3 d4 d5
    go_loopg [7] (xs.length + 1) (fun kq v7 w' => ∃ k : Nat, v7 = .int .i64 (k : Int) ∧ Aside0 (k ≤ xs.length) ∧ Aside0 (k + kq = xs.length + 1) ∧ Aside0 (∀ j (h : j < xs.length), j < k → slotB m c (([] : List Int)) j xs[j] = true) ∧ Aside0 (Below w0.heap.size w0 w'))
    case atStart => exact ⟨0, rfl, ⟨Nat.zero_le _⟩, ⟨by omega⟩, ⟨fun j h hj => by omega⟩, ⟨Below.refl _ _⟩⟩
    case round =>
      obtain ⟨k, rfl, HK, HKQ, HP, HL⟩ := hrel
      have HW := Aside0.mk (HMB.out.below HL.out)
      have HBW := Aside0.mk (below_mid HB0.out HL.out)
      cases gk with
      | zero => exact absurd HK.out (by have := HKQ.out; omega)
      | succ k1 =>
        have hcx := (blk_cell HW.out.x 2).trans rfl
        by_cases hk : k < xs.length
        · obtain ⟨ad2, hB2, hq⟩ := C_int R4.out k hk
          subst hB2
          obtain ⟨s, hs⟩ : ∃ s, xs[k] = s := ⟨_, rfl⟩
          rw [hs] at hq
          have HQ := Aside0.mk (keepc HBW.out hq)
          have HS := Aside0.mk hs
          have hs0 : 0 ≤ s := HSS.out s (by rw [HX.out, ← hs]; exact List.getElem_mem hk)
          have hk0 : (0 : Int) ≤ (k : Int) := by omega
          have hk1 : (k : Int) < (xs.length : Int) := by omega
          have hk2 : (k : Int) ≤ 100 := by omega
          clear hq hs
          have hq := HQ.out
          have hi3 := (blk_cell HW.out.i 3).trans rfl
          by_cases g1 : s < (m.m.length : Int)
          case neg =>
            have dg : decide ((m.m.length : Int) ≤ s) = true := decide_eq_true (by omega)
            go_wp2_with fail
            go_quiet (fail)
            go_wp2
            go_ret
            exact ⟨ret_b (List.all_eq_false.2 ⟨k, List.mem_range.2 hk, by rw [rd_nat hk, HS.out]; unfold slotB; rw [decide_eq_false (show ¬ s < (m.m.length : Int) by omega)]; simp⟩).symm, pw_below_drewN HBW.out _⟩
          have dg : decide ((m.m.length : Int) ≤ s) = false := decide_eq_false (by omega)
          obtain ⟨ae, F0, f0, F1, f1, F4, f4, F7, f7, hA3, y0, y1, y2, y3, y4, y5, y6, y7, z0, z1, z2, z3, z4, z5, z6, z7⟩ := at_T52 (show Kd.C k52 w A3 m.m.length m.m from HM.out.h3) s hs0 g1
          subst hA3
          obtain ⟨fm, hfm⟩ : ∃ fm, rd_T52 m.m s = fm := ⟨_, rfl⟩
          rw [hfm] at y0 y1 y2 y3 y4 y5 y6 y7 z0 z1
          have HFM := Aside0.mk hfm
          have hfl : fm.f0.length ≤ 100 := HAL.out fm (by rw [← hfm]; unfold rd_T52; rw [List.getD_eq_getElem?_getD, List.getElem?_eq_getElem (show s.toNat < m.m.length by omega)]; exact List.getElem_mem _)
          obtain ⟨fa, fb, ⟨t0, t1⟩, fc, fd, fp, fh⟩ := fm
          dsimp only at y0 y1 y2 y3 y4 y5 y6 y7 z0 z1 hfl
          have Y0 := Aside0.mk (keepc HBW.out y0)
          have Y1 := Aside0.mk (keepc HBW.out y1)
          have Y2 := Aside0.mk (keepc HBW.out y2)
          have Y3 := Aside0.mk (keepc HBW.out y3)
          have Y4 := Aside0.mk (keepc HBW.out y4)
          have Y5 := Aside0.mk (keepc HBW.out y5)
          have Y6 := Aside0.mk (keepc HBW.out y6)
          have Y7 := Aside0.mk (keepc HBW.out y7)
          have Z0 := Aside0.mk z0
          have Z1 := Aside0.mk z1
          clear y0 y1 y2 y3 y4 y5 y6 y7 z0 z1 z2 z3 z4 z5 z6 z7 hfm
          go_wp2_with fail
          go_quiet (fail)
          have hb1 := (show Below wr.heap.size wr (wr.drewN nq) from pw_below_drewN (Below.refl _ _) _)
          generalize wr.drewN nq = w1 at hb1 ⊢
          have HB1 := Aside0.mk hb1
          clear hb1 hcx hq hi3
          have HW1 := Aside0.mk (HW.out.below HB1.out)
          have HBW1 := Aside0.mk (below_mid HBW.out HB1.out)
          go_wp2_with fail
          have hq1_ := (show w1.cell? ⟨w.heap.size + 1, 2, none⟩ = some (.slice (some ad2) xs.length e2) from (blk_cell HW1.out.x 2).trans rfl)
          have hn1_ := World.new_ne w1 _ hq1_
          have hq2_ := (show w1.cell? ⟨w.heap.size, 3, none⟩ = some (.slice (some ae) m.m.length c3) from (blk_cell HW1.out.i 3).trans rfl)
          have hn2_ := World.new_ne w1 _ hq2_
          have hq3_ := (show w1.cell? (ad2.add k) = some (.int .i64 s) from (keepc HB1.out HQ.out))
          have hn3_ := World.new_ne w1 _ hq3_
          have hq4_ := (show w1.cell? (ae.add (s.toNat * 8)) = some (.slice F0 fa.length f0) from (keepc HB1.out Y0.out))
          have hn4_ := World.new_ne w1 _ hq4_
          have hq5_ := (show w1.cell? ⟨(ae.add (s.toNat * 8)).block, (ae.add (s.toNat * 8)).off + 1, none⟩ = some (.slice F1 fb.length f1) from (keepc HB1.out Y1.out))
          have hn5_ := World.new_ne w1 _ hq5_
          have hq6_ := (show w1.cell? ⟨(ae.add (s.toNat * 8)).block, (ae.add (s.toNat * 8)).off + 2, none⟩ = some (.int .i64 t0) from (keepc HB1.out Y2.out))
          have hn6_ := World.new_ne w1 _ hq6_
          have hq7_ := (show w1.cell? ⟨(ae.add (s.toNat * 8)).block, (ae.add (s.toNat * 8)).off + 3, none⟩ = some (.int .i64 t1) from (keepc HB1.out Y3.out))
          have hn7_ := World.new_ne w1 _ hq7_
          have hq8_ := (show w1.cell? ⟨(ae.add (s.toNat * 8)).block, (ae.add (s.toNat * 8)).off + 4, none⟩ = some (.slice F4 fc.length f4) from (keepc HB1.out Y4.out))
          have hn8_ := World.new_ne w1 _ hq8_
          have hq9_ := (show w1.cell? ⟨(ae.add (s.toNat * 8)).block, (ae.add (s.toNat * 8)).off + 5, none⟩ = some (.int .i64 fd) from (keepc HB1.out Y5.out))
          have hn9_ := World.new_ne w1 _ hq9_
          have hq10_ := (show w1.cell? ⟨(ae.add (s.toNat * 8)).block, (ae.add (s.toNat * 8)).off + 6, none⟩ = some (.int .i64 fp) from (keepc HB1.out Y6.out))
          have hn10_ := World.new_ne w1 _ hq10_
          have hq11_ := (show w1.cell? ⟨(ae.add (s.toNat * 8)).block, (ae.add (s.toNat * 8)).off + 7, none⟩ = some (.slice F7 fh.length f7) from (keepc HB1.out Y7.out))
          have hn11_ := World.new_ne w1 _ hq11_
          go_region_held3 (fun w' => w'.cell? ⟨w.heap.size + 1, 2, none⟩ = some (.slice (some ad2) xs.length e2) ∧ w'.cell? ⟨w.heap.size, 3, none⟩ = some (.slice (some ae) m.m.length c3) ∧ w'.cell? (ad2.add k) = some (.int .i64 s) ∧ w'.cell? (ae.add (s.toNat * 8)) = some (.slice F0 fa.length f0) ∧ w'.cell? ⟨(ae.add (s.toNat * 8)).block, (ae.add (s.toNat * 8)).off + 1, none⟩ = some (.slice F1 fb.length f1) ∧ w'.cell? ⟨(ae.add (s.toNat * 8)).block, (ae.add (s.toNat * 8)).off + 2, none⟩ = some (.int .i64 t0) ∧ w'.cell? ⟨(ae.add (s.toNat * 8)).block, (ae.add (s.toNat * 8)).off + 3, none⟩ = some (.int .i64 t1) ∧ w'.cell? ⟨(ae.add (s.toNat * 8)).block, (ae.add (s.toNat * 8)).off + 4, none⟩ = some (.slice F4 fc.length f4) ∧ w'.cell? ⟨(ae.add (s.toNat * 8)).block, (ae.add (s.toNat * 8)).off + 5, none⟩ = some (.int .i64 fd) ∧ w'.cell? ⟨(ae.add (s.toNat * 8)).block, (ae.add (s.toNat * 8)).off + 6, none⟩ = some (.int .i64 fp) ∧ w'.cell? ⟨(ae.add (s.toNat * 8)).block, (ae.add (s.toNat * 8)).off + 7, none⟩ = some (.slice F7 fh.length f7)) (go_keep) (fail)
          have hb2 := (show Below w1.heap.size w1 ((w1.alloc (.cells #[.slice F0 fa.length f0, .slice F1 fb.length f1, .int .i64 t0, .int .i64 t1, .slice F4 fc.length f4, .int .i64 fd, .int .i64 fp, .slice F7 fh.length f7] 52)).drew) from below_drew (below_alloc (Below.refl _ _) _))
          have hf2 := (show ((w1.alloc (.cells #[.slice F0 fa.length f0, .slice F1 fb.length f1, .int .i64 t0, .int .i64 t1, .slice F4 fc.length f4, .int .i64 fd, .int .i64 fp, .slice F7 fh.length f7] 52)).drew).heap[w1.heap.size]? = some (.cells #[.slice F0 fa.length f0, .slice F1 fb.length f1, .int .i64 t0, .int .i64 t1, .slice F4 fc.length f4, .int .i64 fd, .int .i64 fp, .slice F7 fh.length f7] 52 (0, 0)) from heap_alloc_new w1 _)
          generalize ((w1.alloc (.cells #[.slice F0 fa.length f0, .slice F1 fb.length f1, .int .i64 t0, .int .i64 t1, .slice F4 fc.length f4, .int .i64 fd, .int .i64 fp, .slice F7 fh.length f7] 52)).drew) = w2 at hb2 hf2 ⊢
          have HB2 := Aside0.mk (below_mid HB1.out hb2)
          have HF2 := Aside0.mk hf2
          have HW2 := Aside0.mk (HW1.out.below hb2)
          have HBW2 := Aside0.mk (below_mid HBW1.out hb2)
          clear hb2 hf2 HW1 HBW1 HB1
          clear hq1_ hn1_ hq2_ hn2_ hq3_ hn3_ hq4_ hn4_ hq5_ hn5_ hq6_ hn6_ hq7_ hn7_ hq8_ hn8_ hq9_ hn9_ hq10_ hn10_ hq11_ hn11_
          generalize w1.heap.size = gf at HF2 ⊢
          by_cases g2 : fa.length = 0
          case pos =>
            have HSB := Aside0.mk (show slotB m c ([] : List Int) k s = false from by unfold slotB; rw [HFM.out]; simp [g2])
            have dg2 : ((fa.length : Int) == 0) = true := by rw [g2]; rfl
            have hc0 := (blk_cell HF2.out 0).trans rfl
            have hi0 := (blk_cell HW2.out.i 0).trans rfl
            clear g2
            go_wp2_with fail
            go_quiet (fail)
            go_wp2
            go_ret
            exact ⟨ret_b (List.all_eq_false.2 ⟨k, List.mem_range.2 hk, by rw [rd_nat hk, HS.out, HSB.out]; simp⟩).symm, pw_below_drewN HBW2.out _⟩
          have dg2 : ((fa.length : Int) == 0) = false := by simp only [beq_eq_false_iff_ne]; omega
          obtain ⟨af, hF0, y0, y1⟩ := at_T39 Z1.out 0 (by omega) (by omega)
          subst hF0
          obtain ⟨tf, htf⟩ : ∃ tf, rd_T39 fa 0 = tf := ⟨_, rfl⟩
          rw [htf, show af.add ((0 : Int).toNat * 2) = af by simp [Addr.add]] at y0 y1
          have HTF := Aside0.mk htf
          obtain ⟨p0, p1⟩ := tf
          dsimp only at y0 y1
          have Y8 := Aside0.mk (keepc HBW2.out y0)
          have Y9 := Aside0.mk (keepc HBW2.out y1)
          clear htf y0 y1
          obtain ⟨pb, hpb⟩ : ∃ pb, sub (sf m.c) m.c.length 3 c p0 p1 = pb := ⟨_, rfl⟩
          have HPB := Aside0.mk hpb
          have hfa1 : (0 : Int) < (fa.length : Int) := by omega
          have hfa0 : 0 < fa.length := by omega
          clear hpb
          go_wp2_with fail
          have hq1_ := Aside0.mk (show w2.cell? ⟨w.heap.size, 0, none⟩ = some (.slice (some ad) m.c.length c0) from (blk_cell HW2.out.i 0).trans rfl)
          have hq2_ := Aside0.mk (show w2.cell? ⟨gf, 0, none⟩ = some (.slice (some af) fa.length f0) from (blk_cell HF2.out 0).trans rfl)
          have hq3_ := Aside0.mk (show w2.cell? af = some (.int .i64 p0) from Y8.out)
          have hq4_ := Aside0.mk (show w2.cell? ⟨af.block, af.off + 1, none⟩ = some (.int .i64 p1) from Y9.out)
          go_region_held3 (fun w' => Below w2.heap.size w2 w' ∧ w'.cell? ⟨w.heap.size, 0, none⟩ = some (.slice (some ad) m.c.length c0) ∧ w'.cell? ⟨gf, 0, none⟩ = some (.slice (some af) fa.length f0) ∧ w'.cell? af = some (.int .i64 p0) ∧ w'.cell? ⟨af.block, af.off + 1, none⟩ = some (.int .i64 p1)) (first | ((try dsimp only); refine ⟨?_, ?_, ?_, ?_, ?_⟩ <;> first | exact Below.drew (Below.refl _ _) | assumption | exact keepc (Below.drew (Below.refl _ _)) hq1_.out | exact keepc (by assumption) hq1_.out | exact keepc (Below.drew (Below.refl _ _)) hq2_.out | exact keepc (by assumption) hq2_.out | exact keepc (Below.drew (Below.refl _ _)) hq3_.out | exact keepc (by assumption) hq3_.out | exact keepc (Below.drew (Below.refl _ _)) hq4_.out | exact keepc (by assumption) hq4_.out)) ((go_simp; go_at_call 35; refine (rsub_calls (Kd.C_below (Kd.C_below HM.out.h0 HBW2.out) (by first | exact Below.drew (Below.refl _ _) | assumption | exact And.left (by assumption))) HM.out.n0 (by omega) 3 c p0 p1 HPB.out).mono ?_; rintro e w5 ⟨rfl, hb⟩; have HB5 : Below w2.heap.size w2 w5 := below_step (by first | exact Below.drew (Below.refl _ _) | assumption | exact And.left (by assumption)) hb; clear hb))
          have HB5 := Aside0.mk (show Below w2.heap.size w2 w5 by first | assumption | exact And.left (by assumption))
          have HW5 := Aside0.mk (HW2.out.below HB5.out)
          have HBW5 := Aside0.mk (below_mid HBW2.out HB5.out)
          have HF5 := Aside0.mk (blk_below HF2.out HB5.out)
          have HBA := Aside0.mk (below_mid HB2.out HB5.out)
          cases pb
          case false =>
            have HSB := Aside0.mk (show slotB m c ([] : List Int) k s = false from by unfold slotB; rw [HFM.out]; dsimp only; rw [HTF.out]; dsimp only; rw [HPB.out]; simp)
            go_wp2_with fail
            go_ret
            exact ⟨ret_b (List.all_eq_false.2 ⟨k, List.mem_range.2 hk, by rw [rd_nat hk, HS.out, HSB.out]; simp⟩).symm, HBW5.out⟩
          have HSB := Aside0.mk (show slotB m c ([] : List Int) k s = true from by unfold slotB; rw [HFM.out]; dsimp only; rw [HTF.out]; dsimp only; rw [HPB.out, decide_eq_true g1, decide_eq_true g2, decide_eq_true (show (([] : List Int)).length ≤ k from Nat.zero_le _)]; rfl)
          have dg4 : decide (k < 0) = false := decide_eq_false (Nat.not_lt_zero k)
          go_wp2_with fail
          go_roundg k1
          case measure => have := HKQ.out; omega
          case rel =>
            refine ⟨k + 1, by go_num, ⟨by omega⟩, ⟨by have := HKQ.out; omega⟩, ⟨fun j h hj => ?_⟩, ⟨below_mid HL.out HBA.out⟩⟩
            rcases Nat.lt_or_ge j k with h9 | h9
            · exact HP.out j h h9
            · obtain rfl : j = k := by omega
              rw [HS.out]
              exact HSB.out
        · have hke : k = xs.length := by have := HK.out; omega
          subst hke
          have HA := Aside0.mk (show ((List.range xs.length).all (fun k => slotB m c (([] : List Int)) k (rd xs k))) = true from by
            rw [List.all_eq_true]; intro i hi; rw [List.mem_range] at hi; rw [rd_nat hi]; exact HP.out i hi hi)
          clear HP hk
          go_wp2_with fail
          go_ret
          exact ⟨ret_b HA.out.symm, HBW.out⟩
end Go.Proofs.Ytcfbhobpfnlkpaa.Flow
