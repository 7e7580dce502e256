/- The law FlowFits, walked whole. -/
import Derived.Test.YtoiahldbahdaoaaFlowAK
import Derived.Test.YtoiahldbahdaoaaFlowFL
namespace Go.Proofs.Ytoiahldbahdaoaa.Flow
open Go.RowKit Go.Proofs.Ytoiahldbahdaoaa.QFlowSteps Go.Proofs.YtoiahldbahdaoaaW.PrintWords Go.Proofs.YtoiahldbahdaoaaW.PrintLast Go.Proofs.Ytoiahldbahdaoaa.Chain
set_option linter.unusedVariables false
set_option linter.unusedSimpArgs false
theorem law_sane_c {w : World} {a : IA} {m : Im} (hm : IC w a m) {q : Bool} (hq : saneB m = q) : Calls Try.prog 7 #[.agg #[.slice a.A0 m.c.length a.c0, .slice a.A1 m.s.length a.c1, .slice a.A2 m.n.length a.c2, .slice a.A3 m.m.length a.c3, .slice a.A4 m.e.length a.c4, .int .i64 m.sk, .int .i64 m.hp]] w fun e w' => e = .returned (.bool q) ∧ Below w.heap.size w w' := by
  subst hq
  exact law_sane a m w hm
theorem rsub_c {w : World} {A : Option Addr} {c : Nat} {l : List S80} (hl : Kd.C k80 w A l.length l) (hc : l.length ≤ c) (hn : l.length ≤ 1000000) (x y : S38) {p : Bool} (hp : subT l x y = p) :
    Calls Try.prog 15 #[.slice A l.length c, .agg #[.int .i64 x.f0, .int .i64 x.f1], .agg #[.int .i64 y.f0, .int .i64 y.f1]] w fun e w' => e = .returned (.bool p) ∧ Below w.heap.size w w' := by
  subst hp
  exact rsub_calls hl hc hn x.f0 x.f1 y.f0 y.f1 rfl
theorem stepV_len (m : Im) (f pc : Int) (st : List S38) : (stepV m f pc st).2.1.length ≤ 8 ∧ (stepV m f pc st).2.2.length ≤ 2 := by
  have hn := nexts_len (rd_T44 (rd_T41 m.m f).f3 pc) pc
  unfold stepV
  by_cases h : f < 0 ∨ (m.m.length : Int) ≤ f ∨ pc < 0 ∨ ((rd_T41 m.m f).f3.length : Int) ≤ pc
  · rw [if_pos h]; exact ⟨by decide, by decide⟩
  rw [if_neg h]
  unfold stepI
  split
  · exact ⟨by decide, by decide⟩
  split
  · unfold dupV
    split
    · exact ⟨by decide, by decide⟩
    · refine ⟨?_, hn⟩
      rw [List.length_append, List.length_drop]
      omega
  · unfold typesV
    split
    · exact ⟨by decide, by decide⟩
    · split
      · refine ⟨?_, hn⟩
        rw [List.length_append, List.length_take]
        omega
      · exact ⟨by decide, by decide⟩
theorem step_w {w : World} {a : IA} {m : Im} (hm : IC w a m) (hs : SaneP m) (f pc : Int) {As : Option Addr} {cs : Nat} {st : List S38} (hst : Kd.C k38 w As st.length st) (hsc : st.length ≤ cs) (hsl : st.length ≤ 1000) {e : Int} {r : List S38} {nx : List Int} (hv : stepV m f pc st = (e, r, nx)) :
    Calls Try.prog 9 #[.agg #[.slice a.A0 m.c.length a.c0, .slice a.A1 m.s.length a.c1, .slice a.A2 m.n.length a.c2, .slice a.A3 m.m.length a.c3, .slice a.A4 m.e.length a.c4, .int .i64 m.sk, .int .i64 m.hp], .int .i64 f, .int .i64 pc, .slice As st.length cs] w fun e' w' => ∃ A c B k, e' = .returned (.tuple #[.slice A r.length c, .slice B nx.length k, .int .i64 e]) ∧ r.length ≤ c ∧ Kd.C k38 w' A r.length r ∧ nx.length ≤ k ∧ Kd.C (Kd.int .i64) w' B nx.length nx ∧ Below w.heap.size w w' := by
  refine (step_calls a m f pc As cs st w hm hs hst hsc hsl).mono ?_
  rintro e' w' ⟨va, vn, rfl, h1, h2, hb⟩
  rw [hv] at h1 h2 ⊢
  obtain ⟨A, c, rfl, k1, k2⟩ := h1.form
  obtain ⟨B, k, rfl, k3, k4⟩ := h2.form
  exact ⟨A, c, B, k, rfl, k1, k2, k3, k4, hb⟩
theorem ints_w {w : World} {A A' : Option Addr} {c c' : Nat} {l l' : List Int} (h : Kd.C (Kd.int .i64) w A l.length l) (hc : l.length ≤ c) (h' : Kd.C (Kd.int .i64) w A' l'.length l') (hc' : l'.length ≤ c') (hn : l.length ≤ 1000) {p : Bool} (hp : decide (l = l') = p) : Calls Try.prog 12 #[.slice A l.length c, .slice A' l'.length c'] w fun e w' => e = .returned (.bool p) ∧ Below w.heap.size w w' := by
  subst hp
  refine (plimsollref01_Ints.calls (l.length + 1) A c l A' c' l' _ w h hc h' hc' (ints_eq l l' (by omega) _ (Nat.le_refl _))).mono ?_
  rintro e w' ⟨h1, h2⟩
  exact ⟨h1, by first | exact h2 | exact h2.below⟩
/-- Operands that fit where others are do as those did: the step of a sane image. -/
theorem stepV_fits {m : Im} (hq : saneB m = true) {f pc : Int} (h0 : 0 ≤ f) (h1 : f < (m.m.length : Int)) (h2 : 0 ≤ pc) (h3 : pc < ((rd_T41 m.m f).f3.length : Int)) {a b : List S38} (hu : underV m.c a b = true) (he : (stepV m f pc b).1 = 0) :
    (stepV m f pc a).1 = 0 ∧ (stepV m f pc a).2.2 = (stepV m f pc b).2.2 ∧ underV m.c (stepV m f pc a).2.1 (stepV m f pc b).2.1 = true := by
  have hx := (saneP hq).metP (rdM_mem h0 h1)
  have hi := rdI_mem h2 h3
  have hb := hx.ib _ hi
  rw [stepV_in h0 h1 h2 h3] at he ⊢
  rw [stepV_in h0 h1 h2 h3]
  exact stepI_fits (of_out m (saneP hq) (saneB_st hq) _ hx _ _ _ hb.1 hb.2.2.1 (hx.nm _ hi)).2 hu he
set_option maxHeartbeats 16000000 in
set_option maxRecDepth 100000 in
theorem fits_law (a : IA) (m : Im) (f pc : Int) (A5 A6 : Option Addr) (c5 c6 : Nat) (sa sb : List S38) (w : World) (hm : IC w a m) (hsa : Kd.C k38 w A5 sa.length sa) (hca : sa.length ≤ c5) (hsb : Kd.C k38 w A6 sb.length sb) (hcb : sb.length ≤ c6) (hf : 0 ≤ f ∧ f ≤ 255) (hp : 0 ≤ pc ∧ pc ≤ 255) :
    Calls Try.prog 6 #[.agg #[.slice a.A0 m.c.length a.c0, .slice a.A1 m.s.length a.c1, .slice a.A2 m.n.length a.c2, .slice a.A3 m.m.length a.c3, .slice a.A4 m.e.length a.c4, .int .i64 m.sk, .int .i64 m.hp], .int .u8 f, .int .u8 pc, .slice A5 sa.length c5, .slice A6 sb.length c6] w fun e w' => e = .returned (.bool true) ∧ Below w.heap.size w w' := by
  obtain ⟨A0, A1, A2, A3, A4, c0, c1, c2, c3, c4⟩ := a
  have HM := Aside0.mk hm
  have HA := Aside0.mk hsa
  have HB := Aside0.mk hsb
  have hmax := Kd.C_max hm.h3
  clear hm hsa hsb
  obtain ⟨q, hq⟩ : ∃ q, saneB m = q := ⟨_, rfl⟩
  have HQ := Aside0.mk hq
  clear hq
  cases q with
  | false =>
    go_enter Try.func6, Try.ntmps6
    go_wp2_with (first | (go_at_call 7; (refine (law_sane_c (HM.out.below bel) HQ.out).mono ?_); rintro e w1 ⟨rfl, hb1⟩; obtain ⟨hc1, hf1⟩ := bcell hb1; have hz1 : w.heap.size < w1.heap.size := lts hb1.size; have HB1 : Below w.heap.size w w1 := below_mid bel hb1; have HC1 := Aside0.mk hb1; clear hb1) | (go_at_call 8; (refine (awake_c _).mono ?_); rintro e w9 ⟨rfl, hb9⟩; have HB9 : Below w.heap.size w w9 := below_mid bel hb9; clear hb9))
    go_ret
    exact ⟨rfl, HB9⟩
  | true =>
  have HSN := Aside0.mk (saneP HQ.out)
  have HST := Aside0.mk (saneB_st HQ.out)
  have m12 := (saneP HQ.out).fits.m12
  have c8 := (saneP HQ.out).fits.c8
  by_cases hz : m.m.length = 0
  · have dz : ((m.m.length : Int) == 0) = true := by rw [hz]; rfl
    clear hz
    go_enter Try.func6, Try.ntmps6
    go_wp2_with (first | (go_at_call 7; (refine (law_sane_c (HM.out.below bel) HQ.out).mono ?_); rintro e w1 ⟨rfl, hb1⟩; obtain ⟨hc1, hf1⟩ := bcell hb1; have hz1 : w.heap.size < w1.heap.size := lts hb1.size; have HB1 : Below w.heap.size w w1 := below_mid bel hb1; have HC1 := Aside0.mk hb1; clear hb1) | (go_at_call 8; (refine (awake_c _).mono ?_); rintro e w9 ⟨rfl, hb9⟩; have HB9 : Below w.heap.size w w9 := below_mid bel hb9; clear hb9))
    go_ret
    exact ⟨rfl, HB9⟩
  have dz : ((m.m.length : Int) == 0) = false := beq_eq_false_iff_ne.2 (by omega)
  by_cases hl : sa.length = sb.length
  case neg =>
    have dl : ((sa.length : Int) != (sb.length : Int)) = true := bne_iff_ne.2 (by omega)
    clear hl
    go_enter Try.func6, Try.ntmps6
    go_wp2_with (first | (go_at_call 7; (refine (law_sane_c (HM.out.below bel) HQ.out).mono ?_); rintro e w1 ⟨rfl, hb1⟩; obtain ⟨hc1, hf1⟩ := bcell hb1; have hz1 : w.heap.size < w1.heap.size := lts hb1.size; have HB1 : Below w.heap.size w w1 := below_mid bel hb1; have HC1 := Aside0.mk hb1; clear hb1) | (go_at_call 8; (refine (awake_c _).mono ?_); rintro e w9 ⟨rfl, hb9⟩; have HB9 : Below w.heap.size w w9 := below_mid bel hb9; clear hb9))
    go_ret
    exact ⟨rfl, HB9⟩
  have dl : ((sa.length : Int) != (sb.length : Int)) = false := by rw [hl]; exact bne_self_eq_false _
  by_cases h8 : 8 < sa.length
  · have d8 : decide (8 < (sa.length : Int)) = true := decide_eq_true (by omega)
    clear hl
    go_enter Try.func6, Try.ntmps6
    go_wp2_with (first | (go_at_call 7; (refine (law_sane_c (HM.out.below bel) HQ.out).mono ?_); rintro e w1 ⟨rfl, hb1⟩; obtain ⟨hc1, hf1⟩ := bcell hb1; have hz1 : w.heap.size < w1.heap.size := lts hb1.size; have HB1 : Below w.heap.size w w1 := below_mid bel hb1; have HC1 := Aside0.mk hb1; clear hb1) | (go_at_call 8; (refine (awake_c _).mono ?_); rintro e w9 ⟨rfl, hb9⟩; have HB9 : Below w.heap.size w w9 := below_mid bel hb9; clear hb9))
    go_ret
    exact ⟨rfl, HB9⟩
  have d8 : decide (8 < (sa.length : Int)) = false := decide_eq_false (by omega)
  have hle : sb.length ≤ sa.length := by omega
  have hge : sa.length ≤ sb.length := by omega
  have HLL := Aside0.mk hl
  clear hl
  go_enter Try.func6, Try.ntmps6
  go_wp2_with (first | (go_at_call 7; (refine (law_sane_c (HM.out.below bel) HQ.out).mono ?_); rintro e w1 ⟨rfl, hb1⟩; obtain ⟨hc1, hf1⟩ := bcell hb1; have hz1 : w.heap.size < w1.heap.size := lts hb1.size; have HB1 : Below w.heap.size w w1 := below_mid bel hb1; have HC1 := Aside0.mk hb1; clear hb1) | (go_at_call 8; (refine (awake_c _).mono ?_); rintro e w9 ⟨rfl, hb9⟩; have HB9 : Below w.heap.size w w9 := below_mid bel hb9; clear hb9))
  refine see (F := fun w0_ => Below w.heap.size w w0_ ∧ w0_.heap[w.heap.size]? = some (.cells #[.slice A0 m.c.length c0, .slice A1 m.s.length c1, .slice A2 m.n.length c2, .slice A3 m.m.length c3, .slice A4 m.e.length c4, .int .i64 m.sk, .int .i64 m.hp] 28 (0, 0))) _ ⟨bel, blk_below (blk_new w _) HC1.out⟩ ?_
  rintro w0 ⟨hb0_, HX0⟩
  replace hb0_ := Aside0.mk hb0_
  replace HX0 := Aside0.mk HX0
  clear hc1 hf1 hz1 HB1 HC1 d8 dl
  go_loopg [11] (sa.length + 1) (fun kq v11 w' => ∃ k : Nat, v11 = .int .i64 (k : Int) ∧ Aside0 (k ≤ sa.length) ∧ Aside0 (k + kq = sa.length + 1) ∧ Aside0 (∀ j (h : j < sa.length) (h' : j < sb.length), j < k → subT m.c sa[j] sb[j] = true) ∧ Aside0 (Below w0.heap.size w0 w'))
  case atStart => exact ⟨0, rfl, ⟨Nat.zero_le _⟩, ⟨by omega⟩, ⟨fun j _ _ hj => by omega⟩, ⟨Below.refl _ _⟩⟩
  case round =>
    obtain ⟨k, rfl, HK, HKQ, HP, HL⟩ := hrel
    have hbw : Below w.heap.size w wr := below_mid hb0_.out HL.out
    have HXW := Aside0.mk (blk_below HX0.out HL.out)
    cases gk with
    | zero => exact absurd HK.out (by have := HKQ.out; omega)
    | succ k1 =>
      by_cases hk : k < sa.length
      · have hk2 : k < sb.length := by omega
        obtain ⟨p, hp⟩ : ∃ p, subT m.c sa[k] sb[k] = p := ⟨_, rfl⟩
        have HPP := Aside0.mk hp
        clear hp
        obtain ⟨ad, hA5, s0, s1⟩ := at_T38 (Kd.C_below HA.out hbw) (k : Int) (by omega) (by omega)
        subst hA5
        simp only [Int.toNat_natCast] at s0 s1
        rw [tt hk] at s0 s1
        obtain ⟨bd, hA6, t0, t1⟩ := at_T38 (Kd.C_below HB.out hbw) (k : Int) (by omega) (by omega)
        subst hA6
        simp only [Int.toNat_natCast] at t0 t1
        rw [tt hk2] at t0 t1
        obtain ⟨⟨g0, g1⟩, hh⟩ : ∃ u_, sa[k] = u_ := ⟨_, rfl⟩
        obtain ⟨⟨h0, h1⟩, ht⟩ : ∃ u_, sb[k] = u_ := ⟨_, rfl⟩
        rw [hh] at s0 s1
        rw [ht] at t0 t1
        dsimp only at s0 s1 t0 t1
        have HPQ := Aside0.mk (show subT m.c ⟨g0, g1⟩ ⟨h0, h1⟩ = p from by rw [← hh, ← ht]; exact HPP.out)
        clear hh ht
        have hkn : (k : Int) < (sa.length : Int) := by omega
        have hkm : (k : Int) < (sb.length : Int) := by omega
        go_wp2_with fail
        refine see (F := fun w0_ => Below wr.heap.size wr w0_ ∧ w0_.cell? ⟨w.heap.size, 0, none⟩ = some (.slice A0 m.c.length c0) ∧ w0_.cell? (ad.add (k * 2)) = some (.int .i64 g0) ∧ w0_.cell? ⟨(ad.add (k * 2)).block, (ad.add (k * 2)).off + 1, none⟩ = some (.int .i64 g1) ∧ w0_.cell? (bd.add (k * 2)) = some (.int .i64 h0) ∧ w0_.cell? ⟨(bd.add (k * 2)).block, (bd.add (k * 2)).off + 1, none⟩ = some (.int .i64 h1)) _ ⟨bel, (blk_cell HXW.out 0).trans rfl, s0, s1, t0, t1⟩ ?_
        rintro w4 ⟨hb4_, hq1_, hq2_, hq3_, hq4_, hq5_⟩
        replace hb4_ := Aside0.mk hb4_
        replace hq1_ := Aside0.mk hq1_
        replace hq2_ := Aside0.mk hq2_
        replace hq3_ := Aside0.mk hq3_
        replace hq4_ := Aside0.mk hq4_
        replace hq5_ := Aside0.mk hq5_
        cases p with
        | true =>
          have KP := Aside0.mk (show ∀ w', Below w4.heap.size w4 w' → (w'.cell? ⟨w.heap.size, 0, none⟩ = some (.slice A0 m.c.length c0) ∧ w'.cell? (ad.add (k * 2)) = some (.int .i64 g0) ∧ w'.cell? ⟨(ad.add (k * 2)).block, (ad.add (k * 2)).off + 1, none⟩ = some (.int .i64 g1) ∧ w'.cell? (bd.add (k * 2)) = some (.int .i64 h0) ∧ w'.cell? ⟨(bd.add (k * 2)).block, (bd.add (k * 2)).off + 1, none⟩ = some (.int .i64 h1)) from fun w' h => ⟨keepc h hq1_.out, keepc h hq2_.out, keepc h hq3_.out, keepc h hq4_.out, keepc h hq5_.out⟩)
          go_region_held3 (fun w' => w'.cell? ⟨w.heap.size, 0, none⟩ = some (.slice A0 m.c.length c0) ∧ w'.cell? (ad.add (k * 2)) = some (.int .i64 g0) ∧ w'.cell? ⟨(ad.add (k * 2)).block, (ad.add (k * 2)).off + 1, none⟩ = some (.int .i64 g1) ∧ w'.cell? (bd.add (k * 2)) = some (.int .i64 h0) ∧ w'.cell? ⟨(bd.add (k * 2)).block, (bd.add (k * 2)).off + 1, none⟩ = some (.int .i64 h1)) (((try dsimp only); first | exact KP.out _ (by assumption) | exact KP.out _ (Below.drew (Below.refl _ _)) | exact KP.out _ (below_alloc (by assumption) _) | exact KP.out _ (below_alloc (Below.refl _ _) _) | exact KP.out _ (below_alloc (below_alloc (Below.refl _ _) _) _) | exact KP.out _ (below_drew (below_alloc (Below.refl _ _) _)) | exact KP.out _ (below_drew (below_alloc (below_alloc (Below.refl _ _) _) _)) | exact KP.out _ (below_drew (below_alloc (by assumption) _)))) (first | ((try go_simp); go_at_call 15; (refine (rsub_c (Kd.C_below HM.out.h0 (below_mid (below_mid hbw hb4_.out) (by first | exact Below.refl _ _ | exact Below.drew (Below.refl _ _) | assumption))) HM.out.n0 (by omega) ⟨g0, g1⟩ ⟨h0, h1⟩ HPQ.out).mono ?_); rintro e w5 ⟨rfl, hb5⟩; have HB5 : Below w4.heap.size w4 w5 := below_step (by first | exact Below.refl _ _ | exact Below.drew (Below.refl _ _) | assumption) hb5; clear hb5))
          go_wp2_with fail
          go_roundg k1
          case measure => have := HKQ.out; omega
          case rel =>
            refine ⟨k + 1, by go_num, ⟨by omega⟩, ⟨by have := HKQ.out; omega⟩, ⟨fun j h h' hj => ?_⟩, ⟨below_step (below_step HL.out hb4_.out) HB5⟩⟩
            rcases Nat.lt_or_ge j k with h9 | h9
            · exact HP.out j h h' h9
            · obtain rfl : j = k := by omega
              exact HPP.out
        | false =>
          have KP := Aside0.mk (show ∀ w', Below w4.heap.size w4 w' → (w'.cell? ⟨w.heap.size, 0, none⟩ = some (.slice A0 m.c.length c0) ∧ w'.cell? (ad.add (k * 2)) = some (.int .i64 g0) ∧ w'.cell? ⟨(ad.add (k * 2)).block, (ad.add (k * 2)).off + 1, none⟩ = some (.int .i64 g1) ∧ w'.cell? (bd.add (k * 2)) = some (.int .i64 h0) ∧ w'.cell? ⟨(bd.add (k * 2)).block, (bd.add (k * 2)).off + 1, none⟩ = some (.int .i64 h1)) from fun w' h => ⟨keepc h hq1_.out, keepc h hq2_.out, keepc h hq3_.out, keepc h hq4_.out, keepc h hq5_.out⟩)
          go_region_held3 (fun w' => w'.cell? ⟨w.heap.size, 0, none⟩ = some (.slice A0 m.c.length c0) ∧ w'.cell? (ad.add (k * 2)) = some (.int .i64 g0) ∧ w'.cell? ⟨(ad.add (k * 2)).block, (ad.add (k * 2)).off + 1, none⟩ = some (.int .i64 g1) ∧ w'.cell? (bd.add (k * 2)) = some (.int .i64 h0) ∧ w'.cell? ⟨(bd.add (k * 2)).block, (bd.add (k * 2)).off + 1, none⟩ = some (.int .i64 h1)) (((try dsimp only); first | exact KP.out _ (by assumption) | exact KP.out _ (Below.drew (Below.refl _ _)) | exact KP.out _ (below_alloc (by assumption) _) | exact KP.out _ (below_alloc (Below.refl _ _) _) | exact KP.out _ (below_alloc (below_alloc (Below.refl _ _) _) _) | exact KP.out _ (below_drew (below_alloc (Below.refl _ _) _)) | exact KP.out _ (below_drew (below_alloc (below_alloc (Below.refl _ _) _) _)) | exact KP.out _ (below_drew (below_alloc (by assumption) _)))) (first | ((try go_simp); go_at_call 15; (refine (rsub_c (Kd.C_below HM.out.h0 (below_mid (below_mid hbw hb4_.out) (by first | exact Below.refl _ _ | exact Below.drew (Below.refl _ _) | assumption))) HM.out.n0 (by omega) ⟨g0, g1⟩ ⟨h0, h1⟩ HPQ.out).mono ?_); rintro e w5 ⟨rfl, hb5⟩; have HB5 : Below w4.heap.size w4 w5 := below_step (by first | exact Below.refl _ _ | exact Below.drew (Below.refl _ _) | assumption) hb5; clear hb5))
          have hbz : Below w.heap.size w w5 := below_step (below_mid hbw hb4_.out) HB5
          go_wp2_with (first | (go_at_call 8; (refine (awake_c _).mono ?_); rintro e w9 ⟨rfl, hb9⟩; have HB9 : Below w.heap.size w w9 := below_mid bel hb9; clear hb9))
          go_ret
          exact ⟨rfl, HB9⟩
      · have hke : k = sa.length := by have := HK.out; omega
        have HU := Aside0.mk (underV_of HLL.out (fun j h h' => HP.out j h h' (by omega)) : underV m.c sa sb = true)
        subst hke
        clear HP hk HL HK HKQ
        have hf0 := hf.1
        have hf1 := hf.2
        have hp0 := hp.1
        have hp1 := hp.2
        have hml : 0 < (m.m.length : Int) := by omega
        have hg0 : 0 ≤ f % (m.m.length : Int) := Int.emod_nonneg _ (by omega)
        have hg1 : f % (m.m.length : Int) < (m.m.length : Int) := Int.emod_lt_of_pos _ hml
        obtain ⟨g, hg⟩ : ∃ g, f % (m.m.length : Int) = g := ⟨_, rfl⟩
        rw [hg] at hg0 hg1
        obtain ⟨ae, F0, g0', F1, g1', F4, g4', F7, g7', hA3, y0, y1, y2, y3, y4, y5, y6, y7, z0, z1, z2, z3, z4, z5, z6, z7⟩ := at_T41 (Kd.C_below HM.out.h3 hbw) g hg0 hg1
        subst hA3
        clear y0 y1 y2 y3 y5 y6 y7 z0 z1 z2 z3 z4 z5 z6 z7
        have hmp := HSN.out.metP (rdM_mem hg0 hg1)
        have hx0 := hmp.c0
        have hx64 := hmp.c64
        clear hmp
        obtain ⟨X, hX⟩ : ∃ X, (rd_T41 m.m g).f3 = X := ⟨_, rfl⟩
        rw [hX] at y4 hx0 hx64
        have HXX := Aside0.mk hX
        clear hX
        have hxl : 0 < (X.length : Int) := by omega
        have dx : ((X.length : Int) == 0) = false := beq_eq_false_iff_ne.2 (by omega)
        have hq0 : 0 ≤ pc % (X.length : Int) := Int.emod_nonneg _ (by omega)
        have hq1 : pc % (X.length : Int) < (X.length : Int) := Int.emod_lt_of_pos _ hxl
        obtain ⟨p, hpq⟩ : ∃ p, pc % (X.length : Int) = p := ⟨_, rfl⟩
        rw [hpq] at hq0 hq1
        obtain ⟨⟨e1, x, n1⟩, hs1⟩ : ∃ r, stepV m g p sa = r := ⟨_, rfl⟩
        obtain ⟨⟨e2, y, n2⟩, hs2⟩ : ∃ r, stepV m g p sb = r := ⟨_, rfl⟩
        have HS1 := Aside0.mk hs1
        have HS2 := Aside0.mk hs2
        have hln := stepV_len m g p sa
        rw [hs1] at hln
        dsimp only at hln
        obtain ⟨hx8, hn2⟩ := hln
        clear hs1 hs2
        have i0 := (blk_cell HXW.out 0).trans rfl
        have i1 := (blk_cell HXW.out 1).trans rfl
        have i2 := (blk_cell HXW.out 2).trans rfl
        have i3 := (blk_cell HXW.out 3).trans rfl
        have i4 := (blk_cell HXW.out 4).trans rfl
        have i5 := (blk_cell HXW.out 5).trans rfl
        have i6 := (blk_cell HXW.out 6).trans rfl
        have hwl : w.heap.size < wr.heap.size := blk_lt HXW.out
        have hal := World.block_lt_of_cell? wr _ y4
        by_cases hE : e2 = 0
        case neg =>
          have dE : (e2 != 0) = true := bne_iff_ne.2 hE
          go_wp2_with (first | (go_at_call 9; (with_reducible refine (step_w (a := ⟨A0, A1, A2, some ae, A4, c0, c1, c2, c3, c4⟩) (HM.out.below bel) HSN.out g p (Kd.C_below HA.out bel) hca (by omega) HS1.out).mono ?_); rintro e w2 ⟨Ax, cx, Bx, kx, rfl, hcx, hCx, hkx, hNx, hb2⟩; obtain ⟨hc2, hf2⟩ := bcell hb2; have hz2 : w.heap.size < w2.heap.size := lts hb2.size; have hy2 : (ae.add (g.toNat * 8)).block < w2.heap.size := lts hb2.size; have HCX := Aside0.mk hCx; have HNX := Aside0.mk hNx; clear hCx hNx; have HB2 : Below w.heap.size w w2 := below_mid bel hb2; have HD2 := Aside0.mk hb2; clear hb2) | (go_at_call 9; (with_reducible refine (step_w (a := ⟨A0, A1, A2, some ae, A4, c0, c1, c2, c3, c4⟩) (HM.out.below bel) HSN.out g p (Kd.C_below HB.out bel) hcb (by omega) HS2.out).mono ?_); rintro e w3 ⟨Ay, cy, By, ky, rfl, hcy, hCy, hky, hNy, hb3⟩; obtain ⟨hc3, hf3⟩ := bcell hb3; have hz3 : w.heap.size < w3.heap.size := lts hb3.size; have HCX2 := Aside0.mk (Kd.C_below HCX.out hb3); have HNX2 := Aside0.mk (Kd.C_below HNX.out hb3); have HCY := Aside0.mk hCy; have HNY := Aside0.mk hNy; clear hCy hNy; have HB3 : Below w.heap.size w w3 := below_mid bel hb3; have HD3 := Aside0.mk hb3; clear hb3) | (go_at_call 8; (refine (awake_c _).mono ?_); rintro e w9 ⟨rfl, hb9⟩; have HB9 : Below w.heap.size w w9 := below_mid bel hb9; clear hb9))
          go_ret
          exact ⟨rfl, HB9⟩
        subst hE
        have hfit := stepV_fits HQ.out hg0 hg1 hq0 (by rw [HXX.out]; exact hq1) HU.out (by rw [HS2.out])
        rw [HS1.out, HS2.out] at hfit
        dsimp only at hfit
        obtain ⟨k1_, k2_, k3_⟩ := hfit
        subst k1_ k2_
        have HUX := Aside0.mk k3_
        have hxy := underV_len k3_
        have HXY := Aside0.mk hxy
        have dxy : ((x.length : Int) != (y.length : Int)) = false := by rw [hxy]; exact bne_self_eq_false _
        have hxy1 : x.length ≤ y.length := by omega
        have hxy2 : y.length ≤ x.length := by omega
        clear k3_ hxy
        go_wp2_with (first | (go_at_call 9; (with_reducible refine (step_w (a := ⟨A0, A1, A2, some ae, A4, c0, c1, c2, c3, c4⟩) (HM.out.below bel) HSN.out g p (Kd.C_below HA.out bel) hca (by omega) HS1.out).mono ?_); rintro e w2 ⟨Ax, cx, Bx, kx, rfl, hcx, hCx, hkx, hNx, hb2⟩; obtain ⟨hc2, hf2⟩ := bcell hb2; have hz2 : w.heap.size < w2.heap.size := lts hb2.size; have hy2 : (ae.add (g.toNat * 8)).block < w2.heap.size := lts hb2.size; have HCX := Aside0.mk hCx; have HNX := Aside0.mk hNx; clear hCx hNx; have HB2 : Below w.heap.size w w2 := below_mid bel hb2; have HD2 := Aside0.mk hb2; clear hb2) | (go_at_call 9; (with_reducible refine (step_w (a := ⟨A0, A1, A2, some ae, A4, c0, c1, c2, c3, c4⟩) (HM.out.below bel) HSN.out g p (Kd.C_below HB.out bel) hcb (by omega) HS2.out).mono ?_); rintro e w3 ⟨Ay, cy, By, ky, rfl, hcy, hCy, hky, hNy, hb3⟩; obtain ⟨hc3, hf3⟩ := bcell hb3; have hz3 : w.heap.size < w3.heap.size := lts hb3.size; have HCX2 := Aside0.mk (Kd.C_below HCX.out hb3); have HNX2 := Aside0.mk (Kd.C_below HNX.out hb3); have HCY := Aside0.mk hCy; have HNY := Aside0.mk hNy; clear hCy hNy; have HB3 : Below w.heap.size w w3 := below_mid bel hb3; have HD3 := Aside0.mk hb3; clear hb3) | (go_at_call 12; (refine (ints_w HNX2.out hkx HNY.out hky (by omega) (p := true) (decide_eq_true rfl)).mono ?_); rintro e w4 ⟨rfl, hb4⟩; obtain ⟨hc4, hf4⟩ := bcell hb4; have hz4 : w.heap.size < w4.heap.size := lts hb4.size; have HCX4 := Aside0.mk (Kd.C_below HCX2.out hb4); have HCY4 := Aside0.mk (Kd.C_below HCY.out hb4); have HB4 : Below w.heap.size w w4 := below_mid bel hb4; have HC4 := Aside0.mk hb4; clear hb4))
        refine see (F := fun w0_ => Below w.heap.size w w0_ ∧ w0_.heap[w.heap.size]? = some (.cells #[.slice A0 m.c.length c0, .slice A1 m.s.length c1, .slice A2 m.n.length c2, .slice (some ae) m.m.length c3, .slice A4 m.e.length c4, .int .i64 m.sk, .int .i64 m.hp] 28 (0, 0)) ∧ Kd.C k38 w0_ Ax x.length x ∧ Kd.C k38 w0_ Ay y.length y) _ ⟨bel, blk_below (blk_below (blk_below HXW.out HD2.out) HD3.out) HC4.out, HCX4.out, HCY4.out⟩ ?_
        rintro w5 ⟨hb9_, HX5, HCX5, HCY5⟩
        replace hb9_ := Aside0.mk hb9_
        replace HX5 := Aside0.mk HX5
        replace HCX5 := Aside0.mk HCX5
        replace HCY5 := Aside0.mk HCY5
        have hbz : Below w.heap.size w w5 := hb9_.out
        go_loopg [20] (x.length + 1) (fun kq v20 w' => ∃ k : Nat, v20 = .int .i64 (k : Int) ∧ Aside0 (k ≤ x.length) ∧ Aside0 (k + kq = x.length + 1) ∧ Aside0 (Below w5.heap.size w5 w'))
        case atStart => exact ⟨0, rfl, ⟨Nat.zero_le _⟩, ⟨by omega⟩, ⟨Below.refl _ _⟩⟩
        case round =>
          obtain ⟨k, rfl, HK, HKQ, HL⟩ := hrel
          have hbw : Below w.heap.size w wr := below_mid hbz HL.out
          have HXW := Aside0.mk (blk_below HX5.out HL.out)
          cases gk with
          | zero => exact absurd HK.out (by have := HKQ.out; omega)
          | succ k1 =>
            by_cases hk : k < x.length
            · have hk2 : k < y.length := by omega
              have HPP := Aside0.mk (underV_at HUX.out k hk hk2)
              obtain ⟨ad, hAx, s0, s1⟩ := at_T38 (Kd.C_below HCX5.out HL.out) (k : Int) (by omega) (by omega)
              subst hAx
              simp only [Int.toNat_natCast] at s0 s1
              rw [tt hk] at s0 s1
              obtain ⟨bd, hAy, t0, t1⟩ := at_T38 (Kd.C_below HCY5.out HL.out) (k : Int) (by omega) (by omega)
              subst hAy
              simp only [Int.toNat_natCast] at t0 t1
              rw [tt hk2] at t0 t1
              obtain ⟨⟨g0, g1⟩, hh⟩ : ∃ u_, x[k] = u_ := ⟨_, rfl⟩
              obtain ⟨⟨h0, h1⟩, ht⟩ : ∃ u_, y[k] = u_ := ⟨_, rfl⟩
              rw [hh] at s0 s1
              rw [ht] at t0 t1
              dsimp only at s0 s1 t0 t1
              have HPQ := Aside0.mk (show subT m.c ⟨g0, g1⟩ ⟨h0, h1⟩ = true from by rw [← hh, ← ht]; exact HPP.out)
              clear hh ht
              have hkn : (k : Int) < (x.length : Int) := by omega
              have hkm : (k : Int) < (y.length : Int) := by omega
              go_wp2_with fail
              refine see (F := fun w0_ => Below wr.heap.size wr w0_ ∧ w0_.cell? ⟨w.heap.size, 0, none⟩ = some (.slice A0 m.c.length c0) ∧ w0_.cell? (ad.add (k * 2)) = some (.int .i64 g0) ∧ w0_.cell? ⟨(ad.add (k * 2)).block, (ad.add (k * 2)).off + 1, none⟩ = some (.int .i64 g1) ∧ w0_.cell? (bd.add (k * 2)) = some (.int .i64 h0) ∧ w0_.cell? ⟨(bd.add (k * 2)).block, (bd.add (k * 2)).off + 1, none⟩ = some (.int .i64 h1)) _ ⟨bel, (blk_cell HXW.out 0).trans rfl, s0, s1, t0, t1⟩ ?_
              rintro w4z ⟨hb4_, hq1_, hq2_, hq3_, hq4_, hq5_⟩
              replace hb4_ := Aside0.mk hb4_
              replace hq1_ := Aside0.mk hq1_
              replace hq2_ := Aside0.mk hq2_
              replace hq3_ := Aside0.mk hq3_
              replace hq4_ := Aside0.mk hq4_
              replace hq5_ := Aside0.mk hq5_
              have KP := Aside0.mk (show ∀ w', Below w4z.heap.size w4z w' → (w'.cell? ⟨w.heap.size, 0, none⟩ = some (.slice A0 m.c.length c0) ∧ w'.cell? (ad.add (k * 2)) = some (.int .i64 g0) ∧ w'.cell? ⟨(ad.add (k * 2)).block, (ad.add (k * 2)).off + 1, none⟩ = some (.int .i64 g1) ∧ w'.cell? (bd.add (k * 2)) = some (.int .i64 h0) ∧ w'.cell? ⟨(bd.add (k * 2)).block, (bd.add (k * 2)).off + 1, none⟩ = some (.int .i64 h1)) from fun w' h => ⟨keepc h hq1_.out, keepc h hq2_.out, keepc h hq3_.out, keepc h hq4_.out, keepc h hq5_.out⟩)
              go_region_held3 (fun w' => w'.cell? ⟨w.heap.size, 0, none⟩ = some (.slice A0 m.c.length c0) ∧ w'.cell? (ad.add (k * 2)) = some (.int .i64 g0) ∧ w'.cell? ⟨(ad.add (k * 2)).block, (ad.add (k * 2)).off + 1, none⟩ = some (.int .i64 g1) ∧ w'.cell? (bd.add (k * 2)) = some (.int .i64 h0) ∧ w'.cell? ⟨(bd.add (k * 2)).block, (bd.add (k * 2)).off + 1, none⟩ = some (.int .i64 h1)) (((try dsimp only); first | exact KP.out _ (by assumption) | exact KP.out _ (Below.drew (Below.refl _ _)) | exact KP.out _ (below_alloc (by assumption) _) | exact KP.out _ (below_alloc (Below.refl _ _) _) | exact KP.out _ (below_alloc (below_alloc (Below.refl _ _) _) _) | exact KP.out _ (below_drew (below_alloc (Below.refl _ _) _)) | exact KP.out _ (below_drew (below_alloc (below_alloc (Below.refl _ _) _) _)) | exact KP.out _ (below_drew (below_alloc (by assumption) _)))) (first | ((try go_simp); go_at_call 15; (refine (rsub_c (Kd.C_below HM.out.h0 (below_mid (below_mid hbw hb4_.out) (by first | exact Below.refl _ _ | exact Below.drew (Below.refl _ _) | assumption))) HM.out.n0 (by omega) ⟨g0, g1⟩ ⟨h0, h1⟩ HPQ.out).mono ?_); rintro e w5 ⟨rfl, hb5⟩; have HB5 : Below w4z.heap.size w4z w5 := below_step (by first | exact Below.refl _ _ | exact Below.drew (Below.refl _ _) | assumption) hb5; clear hb5))
              go_wp2_with fail
              go_roundg k1
              case measure => have := HKQ.out; omega
              case rel => exact ⟨k + 1, by go_num, ⟨by omega⟩, ⟨by have := HKQ.out; omega⟩, ⟨below_step (below_step HL.out hb4_.out) HB5⟩⟩
            · have hke : k = x.length := by have := HK.out; omega
              subst hke
              go_wp2_with (first | (go_at_call 8; (refine (awake_c _).mono ?_); rintro e w9 ⟨rfl, hb9⟩; have HB9 : Below w.heap.size w w9 := below_mid bel hb9; clear hb9))
              go_ret
              exact ⟨rfl, HB9⟩
end Go.Proofs.Ytoiahldbahdaoaa.Flow
