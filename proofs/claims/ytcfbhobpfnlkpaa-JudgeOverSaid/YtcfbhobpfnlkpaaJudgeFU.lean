/- Where an instruction goes on. -/
import Derived.Test.YtcfbhobpfnlkpaaJudgeFT
namespace Go.Proofs.Ytcfbhobpfnlkpaa.Flow
open Go.RowKit Go.Proofs.Ytcfbhobpfnlkpaa.QJudgeFound Go.Proofs.YtcfbhobpfnlkpaaW.PrintWords Go.Proofs.YtcfbhobpfnlkpaaW.PrintLast Go.Proofs.Ytcfbhobpfnlkpaa.Chain
set_option linter.unusedVariables false
set_option linter.unusedSimpArgs false
def RowI (w : World) (B : Nat) (v : Value) (xs : List Int) : Prop := ∃ A c, v = .slice A xs.length c ∧ xs.length ≤ c ∧ Kd.F (Kd.int .i64) w (fun k => B ≤ k) A xs.length xs
theorem RowI.below {w w' : World} {B : Nat} {v : Value} {xs : List Int} (h : RowI w B v xs) (hb : Below w.heap.size w w') : RowI w' B v xs := by
  obtain ⟨A, c, h1, h2, h3⟩ := h
  exact ⟨A, c, h1, h2, Kd.F_below h3 hb⟩
theorem RowI.set {w : World} {B : Nat} {v : Value} {xs : List Int} (h : RowI w B v xs) {p : Addr} (hp : p.block < B) (u : Value) : RowI (w.setCell p u) B v xs := by
  obtain ⟨A, c, h1, h2, h3⟩ := h
  exact ⟨A, c, h1, h2, Kd.F_far h3 (fun k hk => by omega) u⟩
theorem RowI.lower {w : World} {B B' : Nat} {v : Value} {xs : List Int} (h : RowI w B v xs) (hb : B' ≤ B) : RowI w B' v xs := by
  obtain ⟨A, c, h1, h2, h3⟩ := h
  exact ⟨A, c, h1, h2, Kd.F_mono h3 (fun k hk => Nat.le_trans hb hk)⟩
theorem RowI.form {w : World} {B : Nat} {v : Value} {xs : List Int} (h : RowI w B v xs) : ∃ A c, v = .slice A xs.length c ∧ xs.length ≤ c ∧ Kd.C (Kd.int .i64) w A xs.length xs := by
  obtain ⟨A, c, h1, h2, h3⟩ := h
  exact ⟨A, c, h1, h2, Kd.F_now h3⟩
theorem RowI.slice {w : World} {B : Nat} {v : Value} {xs : List Int} (h : RowI w B v xs) : ∃ A c, v = .slice A xs.length c := by
  obtain ⟨A, c, h1, _⟩ := h
  exact ⟨A, c, h1⟩
theorem RowI.nil (w : World) (B : Nat) : RowI w B (.slice none 0 0) [] := ⟨none, 0, rfl, Nat.le_refl _, Kd.F_nil _ _ _⟩
theorem RowI.ofR {w : World} {B : Nat} {v : Value} {xs : List Int} {e : TypeId} {ok : Nat → Prop} (h : Kd.R (Kd.int .i64) e w B ok v xs) : RowI w B v xs := by
  obtain ⟨A, c, rfl⟩ := Kd.R_slice h
  have hr := Kd.R_reads' h
  exact ⟨A, c, rfl, hr.2.1, Kd.F_mono (Kd.R_F (Kd.R_bound h)) (fun k hk => hk.2.1)⟩
theorem RowI.alloc {w : World} {B : Nat} {v : Value} {xs : List Int} (h : RowI w B v xs) (o : Obj) : RowI (w.alloc o) B v xs := h.below (below_alloc (Below.refl _ _) o)
theorem RowI.drewN {w : World} {B : Nat} {v : Value} {xs : List Int} (h : RowI w B v xs) (n : Nat) : RowI (w.drewN n) B v xs := h.below (pw_below_drewN (Below.refl _ _) n)
theorem nexts_c (w : World) (op A B pc : Int) (h0 : 0 ≤ pc) (h1 : pc ≤ 1000000) : Calls Try.prog 47 #[.agg #[.int .i64 op, .int .i64 A, .int .i64 B], .int .i64 pc] w fun e w' => ∃ v, e = .returned v ∧ RowI w' w.heap.size v (nextsV ⟨op, A, B⟩ pc) ∧ Below w.heap.size w w' := by
  refine (flow_nexts.calls op A B pc _ w (nexts_val ⟨op, A, B⟩ pc h0 h1)).mono ?_
  rintro e w' ⟨v, rfl, hr, hb⟩
  exact ⟨v, rfl, RowI.ofR hr, hb⟩
theorem contains_c {w : World} {A : Option Addr} {c : Nat} {l : List Int} (hl : Kd.C (Kd.int .i64) w A l.length l) (hc : l.length ≤ c) (hn : l.length ≤ 1000000) (x : Int) {p : Bool} (hp : decide (x ∈ l) = p) :
    Calls Try.prog 48 #[.slice A l.length c, .int .i64 x] w fun e w' => e = .returned (.bool p) ∧ Below w.heap.size w w' := by
  subst hp
  refine (slices_Contains_int_int.calls (l.length + 1) A c l x _ w hl hc (contains_val l x hn _ (Nat.le_refl _))).mono ?_
  rintro e w' ⟨h1, h2⟩
  exact ⟨h1, by first | exact h2 | exact h2.below⟩
def fitsV (cs : List S80) (op : Int) (h t : S39) : Bool := if t.f0 = 0 then true else if t.f0 = 4 then isref h.f0 && (decide (op ≠ 34) || decide (h.f0 ≠ 2)) else sub (sf cs) cs.length h.f0 h.f1 t.f0 t.f1
theorem fits_val (m : Im) (op : Int) (h t : S39) (k : Nat) (hk : m.c.length + 3 ≤ k) : flow_fits.f k m.c m.s m.n m.m m.e m.sk m.hp op h.f0 h.f1 t.f0 t.f1 = some (fitsV m.c op h t) := by
  unfold flow_fits.f fitsV
  by_cases h0 : t.f0 = 0
  · rw [if_pos h0, if_pos h0]
  · rw [if_neg h0, if_neg h0]
    by_cases h4 : t.f0 = 4
    · rw [if_pos h4, if_pos h4, isref_val, Option.bind_some]
      by_cases hr : isref h.f0 = true
      · rw [if_pos hr, hr, Bool.true_and]
        by_cases ho : op = 34
        · rw [if_pos ho]
          subst ho
          congr 1
          by_cases h2 : h.f0 = 2 <;> simp [h2]
        · rw [if_neg ho, decide_eq_true ho, Bool.true_or]
      · have hr' : isref h.f0 = false := by simpa using hr
        rw [if_neg hr, hr', Bool.false_and]
    · rw [if_neg h4, if_neg h4, sub_val _ _ _ _ _ _ hk]
      rfl
theorem fits1_c {w : World} {a : IA} {m : Im} (hm : IC w a m) (op : Int) (h t : S39) {p : Bool} (hp : fitsV m.c op h t = p) :
    Calls Try.prog 51 #[.agg #[.slice a.A0 m.c.length a.c0, .slice a.A1 m.s.length a.c1, .slice a.A2 m.n.length a.c2, .slice a.A3 m.m.length a.c3, .slice a.A4 m.e.length a.c4, .int .i64 m.sk, .int .i64 m.hp], .int .i64 op, .agg #[.int .i64 h.f0, .int .i64 h.f1], .agg #[.int .i64 t.f0, .int .i64 t.f1]] w fun e w' => e = .returned (.bool p) ∧ Below w.heap.size w w' := by
  subst hp
  refine (flow_fits.calls (m.c.length + 3) a.A0 a.c0 m.c a.A1 a.c1 m.s a.A2 a.c2 m.n a.A3 a.c3 m.m a.A4 a.c4 m.e m.sk m.hp op h.f0 h.f1 t.f0 t.f1 _ w hm.h0 hm.n0 hm.h1 hm.n1 hm.h2 hm.n2 hm.h3 hm.n3 hm.h4 hm.n4 (fits_val m op h t _ (Nat.le_refl _))).mono ?_
  rintro e w' ⟨h1, h2⟩
  exact ⟨h1, by first | exact h2 | exact h2.below⟩
end Go.Proofs.Ytcfbhobpfnlkpaa.Flow
