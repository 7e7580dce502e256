/- The walk: joins and equality of types. -/
import Derived.Test.YtcfbhobpfnlkpaaJudgeJX
import Derived.Test.YtcfbhobpfnlkpaaJudgeAE
import Derived.Lib.SliceRun
namespace Go.Proofs.Ytcfbhobpfnlkpaa.Flow
open Go.RowKit Go.Proofs.Ytcfbhobpfnlkpaa.QJudgeFound Go.Proofs.YtcfbhobpfnlkpaaW.PrintWords Go.Proofs.YtcfbhobpfnlkpaaW.PrintLast Go.Proofs.Ytcfbhobpfnlkpaa.Chain
set_option linter.unusedVariables false
set_option linter.unusedSimpArgs false
theorem join_l (l : List S80) (b0 b1 : Int) : ∀ (k : Nat) (a : Int), a < (k : Int) → a < (l.length : Int) → kind_Join.l0 (k + l.length + 4) l a b0 b1 = some (match (abv (sf l) l.length a).find? (fun c => decide (c ∈ abv (sf l) l.length b1)) with | some c => (3, c) | none => (0, 0)) := by
  intro k
  induction k with
  | zero =>
    intro a ha hl
    rw [show 0 + l.length + 4 = (l.length + 3) + 1 by omega, kind_Join.l0]
    refine (if_neg (by omega)).trans ?_
    rw [abv_out (c := a) (by omega)]; rfl
  | succ k ih =>
    intro a ha hl
    rw [show k + 1 + l.length + 4 = (k + l.length + 4) + 1 by omega, kind_Join.l0]
    by_cases h0 : a ≥ 0
    · refine (if_pos h0).trans ?_
      rw [below_val l b1 a _ (by omega)]
      simp only [Option.bind_some]
      rw [abv_in (s := sf l) h0 hl]
      by_cases hb : a ∈ abv (sf l) l.length b1
      · rw [if_pos (decide_eq_true hb), List.find?_cons_of_pos (p := fun c => decide (c ∈ abv (sf l) l.length b1)) (decide_eq_true hb)]
      · rw [if_neg (by simpa using hb), List.find?_cons_of_neg (p := fun c => decide (c ∈ abv (sf l) l.length b1)) (by simpa using hb), up_val]
        simp only [Option.bind_some]
        have hu := upc_lt (s := sf l) (n := l.length) h0
        rw [ih _ (by omega) (by omega)]
    · refine (if_neg h0).trans ?_
      rw [abv_out (c := a) (by omega)]; rfl
theorem upc_len (l : List S80) (a : Int) : upc (sf l) l.length a < (l.length : Int) := by
  by_cases h : 0 ≤ a ∧ a < (l.length : Int)
  · have := upc_lt (s := sf l) (n := l.length) h.1; omega
  · have : upc (sf l) l.length a = -1 := by unfold upc; split <;> (try split) <;> (try split) <;> omega
    omega
theorem join_val (l : List S80) (a0 a1 b0 b1 : Int) (k : Nat) (hk : 2 * l.length + 6 ≤ k) : kind_Join.f k l a0 a1 b0 b1 = some (join (sf l) l.length a0 a1 b0 b1) := by
  obtain ⟨m, rfl⟩ : ∃ m, k = m + l.length + 4 := ⟨k - l.length - 4, by omega⟩
  unfold kind_Join.f join
  rw [sub_val l a0 a1 b0 b1 _ (by omega), sub_val l b0 b1 a0 a1 _ (by omega), up_val]
  simp only [Option.bind_some]
  have hu := upc_len l a1
  rw [join_l l b0 b1 m _ (by omega) hu]
  by_cases h1 : sub (sf l) l.length a0 a1 b0 b1 = true
  · rw [if_pos h1, if_pos h1]
  · rw [if_neg h1, if_neg h1]
    by_cases h2 : sub (sf l) l.length b0 b1 a0 a1 = true
    · rw [if_pos h2, if_pos h2]
    · rw [if_neg h2, if_neg h2]
      by_cases h3 : a0 = 3
      · rw [if_pos h3]
        by_cases h4 : b0 = 3
        · rw [if_pos h4, if_pos ⟨h3, h4⟩]; rfl
        · rw [if_neg h4, if_neg (fun h => h4 h.2)]
      · rw [if_neg h3, if_neg (fun h => h3 h.1)]
theorem join_c {w : World} {A : Option Addr} {c : Nat} {l : List S80} (hl : Kd.C k80 w A l.length l) (hc : l.length ≤ c) (a0 a1 b0 b1 : Int) {j : S39} (hj : joinT l ⟨a0, a1⟩ ⟨b0, b1⟩ = j) :
    Calls Try.prog 62 #[.slice A l.length c, .agg #[.int .i64 a0, .int .i64 a1], .agg #[.int .i64 b0, .int .i64 b1]] w fun e w' => e = .returned (.agg #[.int .i64 j.f0, .int .i64 j.f1]) ∧ Below w.heap.size w w' := by
  subst hj
  exact kind_Join.calls (2 * l.length + 6) A c l a0 a1 b0 b1 _ _ w hl hc (join_val l a0 a1 b0 b1 _ (Nat.le_refl _))
theorem eq_l (x y : List S39) (hl : x.length = y.length) (hx : x.length ≤ 9223372036854775807) : ∀ (d k i : Nat), d < k → i + d = x.length → api_Type_63.l0 k x y x.length i = some (decide (x.drop i = y.drop i)) := by
  intro d
  induction d with
  | zero =>
    intro k i hk hi
    obtain ⟨k, rfl⟩ : ∃ n, k = n + 1 := ⟨k - 1, by omega⟩
    rw [api_Type_63.l0, List.drop_eq_nil_of_le (by omega), List.drop_eq_nil_of_le (by omega)]
    exact (if_neg (by omega)).trans (by simp)
  | succ d ih =>
    intro k i hk hi
    obtain ⟨k, rfl⟩ : ∃ n, k = n + 1 := ⟨k - 1, by omega⟩
    have h1 : i < x.length := by omega
    have h2 : i < y.length := by omega
    rw [api_Type_63.l0, List.drop_eq_getElem_cons h1, List.drop_eq_getElem_cons h2]
    refine (if_pos (by omega)).trans ((if_pos (by omega)).trans ((if_pos (by omega)).trans ((if_pos (by omega)).trans ?_)))
    rw [tt h1, tt h2, inc_big h1 hx]
    by_cases he : x[i] = y[i]
    · rw [he]
      have hb : (!((y[i].f0) == (y[i].f0)) || (!((y[i].f1) == (y[i].f1)))) = false := by simp
      rw [hb]
      refine (if_neg (by decide)).trans ?_
      rw [ih k (i + 1) (by omega) (by omega)]
      congr 1
      rw [decide_eq_decide]
      exact ⟨fun h => by rw [h], fun h => by injection h⟩
    · have hb : (!((x[i].f0) == (y[i].f0)) || (!((x[i].f1) == (y[i].f1)))) = true := by
        cases hb : (!((x[i].f0) == (y[i].f0)) || (!((x[i].f1) == (y[i].f1)))) with
        | true => rfl
        | false =>
          exfalso
          apply he
          simp at hb
          generalize x[i] = p at hb ⊢
          generalize y[i] = q at hb ⊢
          obtain ⟨p0, p1⟩ := p
          obtain ⟨q0, q1⟩ := q
          simp_all
      refine (if_pos hb).trans ?_
      congr 1
      symm
      rw [decide_eq_false_iff_not]
      intro h
      injection h with h _
      exact he h
theorem eq_c {w : World} {A B : Option Addr} {c c' : Nat} {x y : List S39} (hx : Kd.C k39 w A x.length x) (hxc : x.length ≤ c) (hy : Kd.C k39 w B y.length y) (hyc : y.length ≤ c') {p : Bool} (hp : decide (x = y) = p) :
    Calls Try.prog 63 #[.slice A x.length c, .slice B y.length c'] w fun e w' => e = .returned (.bool p) ∧ Below w.heap.size w w' := by
  subst hp
  refine (api_Type_63.calls (x.length + 1) A c x B c' y (decide (x = y)) w hx hxc hy hyc ?_).mono ?_
  · unfold api_Type_63.f
    by_cases hl : x.length = y.length
    · rw [if_pos (by omega)]
      have := eq_l x y hl (Kd.C_max hx) x.length (x.length + 1) 0 (by omega) (by omega)
      simpa using this
    · rw [if_neg (by omega)]
      congr 1
      symm
      rw [decide_eq_false_iff_not]
      intro h
      exact hl (by rw [h])
  · rintro e w' ⟨h1, h2⟩
    exact ⟨h1, by first | exact h2 | exact h2.below⟩
set_option maxHeartbeats 1000000 in
set_option maxRecDepth 100000 in
theorem clip_c {w : World} {B : Nat} {v : Value} {x : List S39} (h : RowT w B v x) : Calls Try.prog 60 #[v] w fun e w' => ∃ v', e = .returned v' ∧ RowT w' B v' x ∧ Below w.heap.size w w' := by
  obtain ⟨A, c, rfl, hle, hF⟩ := h
  have HF := Aside0.mk hF
  clear hF
  go_enter Try.func60, Try.ntmps60
  go_wp2
  go_ret
  exact ⟨_, rfl, ⟨_, _, rfl, Nat.le_refl _, HF.out⟩, Below.refl _ _⟩
set_option maxHeartbeats 1000000 in
set_option maxRecDepth 100000 in
theorem clone_c {w : World} {A : Option Addr} {c : Nat} {x : List S39} (h : Kd.C k39 w A x.length x) (hle : x.length ≤ c) (h8 : x.length ≤ 1000) : Calls Try.prog 61 #[.slice A x.length c] w fun e w' => ∃ v', e = .returned v' ∧ RowT w' w.heap.size v' x ∧ Below w.heap.size w w' := by
  have H := Aside0.mk h
  cases A with
  | none =>
    have hx : x = [] := by
      cases x with
      | nil => rfl
      | cons y x =>
        obtain ⟨ad, hA, _⟩ := at_T39 h 0 (by decide) (by rw [List.length_cons]; omega)
        cases hA
    subst hx
    clear h
    have hes := fun W : World => Lib.run_eql_slice_nil (P := Try.prog) W 23 39 none 0 c 0 0 Try.underlying23
    go_enter Try.func61, Try.ntmps61
    go_wp2
    go_ret
    exact ⟨_, rfl, RowT.nil _ _, Below.refl _ _⟩
  | some ad =>
    clear h
    have hes := fun W : World => Lib.run_eql_slice_nil (P := Try.prog) W 23 39 (some ad) x.length c 0 0 Try.underlying23
    go_enter Try.func61, Try.ntmps61
    go_wp2_with (first | ((with_reducible refine gate_dst (N := 5) rfl ?_); (try (refine gate_guard (by rfl) ?_; dsimp only)); refine Kd.R_lit k39 (w0 := w) w.heap.size 39 ?hg (N := 5) ?hd (xs := ([] : List S39)) (inner := []) (ok := fun _ => True) (okp := fun _ => True) ?hr ?hp (fun _ hk => hk) trivial (Below.refl _ _) (Nat.le_refl _) (by simp) ?_; (case hd => rfl); (case hg => rfl); (case hr => first | (go_simp; done) | (go_simp; rfl)); (case hp => exact (Reps.none _ _)); intro v3 w3 ho hb3 hg_ hn_; clear hg_ hn_; have HO3 := Aside0.mk ho; clear ho) | ((with_reducible refine gate_builtin (b := .append) (xs := #[.tmp 5, .tmp 6]) rfl ?_); (try (refine gate_guard (by rfl) ?_; dsimp only)); at_builtin; refine Kd.R_append_rows k39 (w0 := w) w.heap.size rfl (.tmp 5) (.tmp 6) 23 39 (.agg #[(.int .i64 0), (.int .i64 0)]) 16 rfl Try.underlying23 info39 rfl (by decide) (by omega) v3 [] x _ _ _ (fun _ => True) (fun _ => False) rfl rfl HO3.out (Kd.C_below H.out hb3) (fun _ _ h => h) (fun _ h => h.elim) (fun _ _ => trivial) hb3 hb3.size (by simp only [List.length_nil]; omega) ?_; intro v4 w4 ho hb4 hg_ hn_; clear hg_ hn_; rw [List.nil_append] at ho; have HO4 := Aside0.mk ho; clear ho))
    go_ret
    exact ⟨_, rfl, RowT.ofR HO4.out, hb4⟩
end Go.Proofs.Ytcfbhobpfnlkpaa.Flow
