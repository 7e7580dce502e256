/- What stands where a row grows. -/
import Derived.Test.YtcfbhobpfnlkpaaJudgeFD
namespace Go.Proofs.Ytcfbhobpfnlkpaa.Flow
open Go.RowKit Go.Proofs.Ytcfbhobpfnlkpaa.QJudgeFound Go.Proofs.YtcfbhobpfnlkpaaW.PrintWords Go.Proofs.YtcfbhobpfnlkpaaW.PrintLast Go.Proofs.Ytcfbhobpfnlkpaa.Chain
set_option linter.unusedVariables false
set_option linter.unusedSimpArgs false
def entryB (m : Im) (f : Int) : Bool := decide (f < (m.m.length : Int)) && (decide ((rd_T52 m.m f).f2.f0 = 1 ∨ (rd_T52 m.m f).f2.f0 = 5) && (rd_T52 m.m f).f0.all (fun t => decide (t.f0 = 1)))
def okB (m : Im) : Bool := m.s.all (goodT m.c.length) && ((List.range m.c.length).all (fun i => classB m i) && (m.m.all (methodB m) && m.e.all (entryB m)))
def saneE (m : Im) : Int := if fitsB m = true then (if okB m = true then 0 else 3) else 2
theorem tot_bound : ∀ (l : List S80), (∀ x ∈ l, x.f1.length ≤ 8) → tot l ≤ 9 * l.length
  | [], _ => by simp [tot]
  | x :: r, h => by
    have h1 := h x List.mem_cons_self
    have h2 := tot_bound r (fun y hy => h y (List.mem_cons_of_mem _ hy))
    simp only [tot, List.length_cons]
    omega
structure FitsP (m : Im) : Prop where
  c8 : m.c.length ≤ 8
  n16 : m.n.length ≤ 16
  m12 : m.m.length ≤ 12
  s8 : m.s.length ≤ 8
  e12 : m.e.length ≤ 12
  en : ∀ f ∈ m.e, 0 ≤ f ∧ f ≤ 11
  cl : ∀ x ∈ m.c, -1 ≤ x.f0 ∧ x.f0 ≤ 7 ∧ x.f1.length ≤ 8 ∧ x.f2.length ≤ 4 ∧ ∀ s ∈ x.f2, 0 ≤ s ∧ s ≤ 11
  me : ∀ x ∈ m.m, x.f0.length ≤ 4 ∧ x.f1.length ≤ 8 ∧ x.f3.length ≤ 64 ∧ x.f6.length ≤ 64 ∧ (∀ i ∈ x.f3, 0 ≤ i.f1 ∧ i.f1 ≤ 255 ∧ 0 ≤ i.f2 ∧ i.f2 ≤ 255 ∧ 1 ≤ i.f0 ∧ i.f0 ≤ 34)
theorem typesB_len {l : List S39} {n : Int} (h : typesB l n = true) : (l.length : Int) ≤ n := by
  unfold typesB at h; rw [Bool.and_eq_true] at h; exact of_decide_eq_true h.1
theorem listB_of {l : List Int} {n k : Int} (h : listB l n k = true) : (l.length : Int) ≤ n ∧ ∀ x ∈ l, 0 ≤ x ∧ x ≤ k := by
  unfold listB at h; rw [Bool.and_eq_true, List.all_eq_true] at h
  exact ⟨of_decide_eq_true h.1, fun x hx => of_decide_eq_true (h.2 x hx)⟩
theorem instrB_of {i : S49} (h : instrB i = true) : 0 ≤ i.f1 ∧ i.f1 ≤ 255 ∧ 0 ≤ i.f2 ∧ i.f2 ≤ 255 ∧ 1 ≤ i.f0 ∧ i.f0 ≤ 34 := by
  have h := of_decide_eq_true h
  obtain ⟨a, _, _, b, c, d, e⟩ := h
  unfold argsV at a
  refine ⟨b, c, d, e, ?_⟩
  by_cases g : i.f0 < 1 ∨ 34 < i.f0
  · rw [if_pos g] at a; omega
  · omega
theorem fitsP {m : Im} (h : fitsB m = true) : FitsP m := by
  unfold fitsB at h
  simp only [Bool.and_eq_true, decide_eq_true_eq, List.all_eq_true] at h
  obtain ⟨h1, h2, h3, h4, h5, h6, h7, h8, h9⟩ := h
  have l5 := listB_of h5
  refine ⟨h1, h2, h3, by have := typesB_len h4; omega, by omega, fun f hf => l5.2 f hf, fun x hx => ?_, fun x hx => ?_⟩
  · have g := h8 x hx
    unfold clsB at g
    simp only [Bool.and_eq_true, decide_eq_true_eq] at g
    have g3 := listB_of g.2.2
    exact ⟨g.1.1, g.1.2, by have := typesB_len g.2.1; omega, by omega, g3.2⟩
  · have g := h9 x hx
    unfold metB at g
    simp only [Bool.and_eq_true, decide_eq_true_eq, List.all_eq_true] at g
    obtain ⟨g1, g2, _, g4, _, _, g7, g8⟩ := g
    have l7 := listB_of g7
    exact ⟨by have := typesB_len g1; omega, by have := typesB_len g2; omega, g4, by omega, fun i hi => instrB_of (g8 i hi)⟩
theorem FitsP.tot {m : Im} (h : FitsP m) : tot m.c < 200 := by
  have := tot_bound m.c (fun x hx => (h.cl x hx).2.2.1)
  have := h.c8
  omega
theorem rdC_mem {l : List S80} {i : Int} (h0 : 0 ≤ i) (h1 : i < (l.length : Int)) : rd_T80 l i ∈ l := by
  unfold rd_T80; rw [List.getD_eq_getElem?_getD, List.getElem?_eq_getElem (show i.toNat < l.length by omega)]; exact List.getElem_mem _
theorem rdM_mem {l : List S52} {i : Int} (h0 : 0 ≤ i) (h1 : i < (l.length : Int)) : rd_T52 l i ∈ l := by
  unfold rd_T52; rw [List.getD_eq_getElem?_getD, List.getElem?_eq_getElem (show i.toNat < l.length by omega)]; exact List.getElem_mem _
theorem classB_slots {m : Im} {c : Int} (h : classB m c = true) : ∀ s ∈ (rd_T80 m.c c).f2, s < (m.m.length : Int) ∧ (rd_T52 m.m s).f0.length ≠ 0 := by
  intro s hs
  unfold classB at h
  simp only [Bool.and_eq_true, List.all_eq_true, List.mem_range] at h
  obtain ⟨j, hj, rfl⟩ := List.mem_iff_getElem.1 hs
  have g := h.2.2.2.2 j hj
  rw [rd_nat hj] at g
  unfold slotB at g
  simp only [Bool.and_eq_true, decide_eq_true_eq] at g
  exact ⟨g.1, g.2.1⟩
theorem class_c {w : World} {a : IA} {m : Im} (hm : IC w a m) (hf : FitsP m) (k : Nat) (hk : k < m.c.length) (hp : ∀ j, j < k → classB m (j : Int) = true) {p : Bool} (hb : classB m (k : Int) = p) :
    Calls Try.prog 25 #[.agg #[.slice a.A0 m.c.length a.c0, .slice a.A1 m.s.length a.c1, .slice a.A2 m.n.length a.c2, .slice a.A3 m.m.length a.c3, .slice a.A4 m.e.length a.c4, .int .i64 m.sk, .int .i64 m.hp], .int .i64 (k : Int)] w fun e w' => e = .returned (.bool p) ∧ Below w.heap.size w w' := by
  subst hb
  have hk1 : (k : Int) < (m.c.length : Int) := by omega
  have hc := hf.cl _ (rdC_mem (Int.natCast_nonneg k) hk1)
  refine class_calls a m k w hm hf.tot (Int.natCast_nonneg k) hk1 (by have := hf.c8; omega) (by have := hf.m12; omega) (fun s hs => (hc.2.2.2.2 s hs).1) (by omega) (fun f hf' => by have := (hf.me f hf').1; omega) (fun hlt s hs => ?_)
  unfold upS at hs
  by_cases h0 : 0 ≤ (rd_T80 m.c (k : Int)).f0
  · rw [if_pos h0] at hs
    obtain ⟨j, hj⟩ : ∃ j : Nat, (rd_T80 m.c (k : Int)).f0 = (j : Int) := ⟨(rd_T80 m.c (k : Int)).f0.toNat, by omega⟩
    rw [hj] at hs
    have h1 := classB_slots (hp j (by omega)) s hs
    have h2 := (hf.cl _ (rdC_mem (show (0 : Int) ≤ (j : Int) by omega) (by omega))).2.2.2.2 s hs
    exact ⟨h2.1, h1⟩
  · rw [if_neg h0] at hs
    cases hs
theorem method_c {w : World} {a : IA} {m : Im} {b : MA} {x : S52} (hm : IC w a m) (hx : MC w b x) (hf : FitsP m) (hmem : x ∈ m.m) {p : Bool} (hb : methodB m x = p) :
    Calls Try.prog 26 #[.agg #[.slice a.A0 m.c.length a.c0, .slice a.A1 m.s.length a.c1, .slice a.A2 m.n.length a.c2, .slice a.A3 m.m.length a.c3, .slice a.A4 m.e.length a.c4, .int .i64 m.sk, .int .i64 m.hp], .agg #[.slice b.A0 x.f0.length b.c0, .slice b.A1 x.f1.length b.c1, .int .i64 x.f2.f0, .int .i64 x.f2.f1, .slice b.A4 x.f3.length b.c4, .int .i64 x.f4, .int .i64 x.f5, .slice b.A7 x.f6.length b.c7]] w fun e w' => e = .returned (.bool p) ∧ Below w.heap.size w w' := by
  subst hb
  have h := hf.me x hmem
  exact method_calls a m b x w hm hx hf.tot (fun i hi => (h.2.2.2.2 i hi).1) (by omega) (by omega) (by omega)
theorem fits_c {w : World} {a : IA} {m : Im} (hm : IC w a m) {p : Bool} (hb : fitsB m = p) : Calls Try.prog 23 #[.agg #[.slice a.A0 m.c.length a.c0, .slice a.A1 m.s.length a.c1, .slice a.A2 m.n.length a.c2, .slice a.A3 m.m.length a.c3, .slice a.A4 m.e.length a.c4, .int .i64 m.sk, .int .i64 m.hp]] w fun e w' => e = .returned (.bool p) ∧ Below w.heap.size w w' := by
  subst hb
  exact fits_calls a m w hm
theorem good_c {w : World} {a : IA} {m : Im} (hm : IC w a m) {A : Option Addr} {c : Nat} {l : List S39} (hl : Kd.C k39 w A l.length l) (hc : l.length ≤ c) {p : Bool} (hb : l.all (goodT m.c.length) = p) :
    Calls Try.prog 24 #[.agg #[.slice a.A0 m.c.length a.c0, .slice a.A1 m.s.length a.c1, .slice a.A2 m.n.length a.c2, .slice a.A3 m.m.length a.c3, .slice a.A4 m.e.length a.c4, .int .i64 m.sk, .int .i64 m.hp], .slice A l.length c] w fun e w' => e = .returned (.bool p) ∧ Below w.heap.size w w' := by
  subst hb
  exact good_calls hm hl hc
theorem ret_i {k : IntKind} {a b : Int} (h : a = b) : Ending.returned (.int k a) = .returned (.int k b) := by rw [h]
end Go.Proofs.Ytcfbhobpfnlkpaa.Flow
