/- The walk: the operands of an instruction. -/
import Derived.Test.YtcfbhobpfnlkpaaJudgeFC
namespace Go.Proofs.Ytcfbhobpfnlkpaa.Flow
open Go.RowKit Go.Proofs.Ytcfbhobpfnlkpaa.QJudgeFound Go.Proofs.YtcfbhobpfnlkpaaW.PrintWords Go.Proofs.YtcfbhobpfnlkpaaW.PrintLast Go.Proofs.Ytcfbhobpfnlkpaa.Chain
set_option linter.unusedVariables false
set_option linter.unusedSimpArgs false
def RowT (w : World) (B : Nat) (v : Value) (xs : List S39) : Prop := ∃ A c, v = .slice A xs.length c ∧ xs.length ≤ c ∧ Kd.F k39 w (fun k => B ≤ k) A xs.length xs
theorem RowT.below {w w' : World} {B : Nat} {v : Value} {xs : List S39} (h : RowT w B v xs) (hb : Below w.heap.size w w') : RowT w' B v xs := by
  obtain ⟨A, c, h1, h2, h3⟩ := h
  exact ⟨A, c, h1, h2, Kd.F_below h3 hb⟩
theorem RowT.set {w : World} {B : Nat} {v : Value} {xs : List S39} (h : RowT w B v xs) {p : Addr} (hp : p.block < B) (u : Value) : RowT (w.setCell p u) B v xs := by
  obtain ⟨A, c, h1, h2, h3⟩ := h
  exact ⟨A, c, h1, h2, Kd.F_far h3 (fun k hk => by omega) u⟩
theorem RowT.lower {w : World} {B B' : Nat} {v : Value} {xs : List S39} (h : RowT w B v xs) (hb : B' ≤ B) : RowT w B' v xs := by
  obtain ⟨A, c, h1, h2, h3⟩ := h
  exact ⟨A, c, h1, h2, Kd.F_mono h3 (fun k hk => Nat.le_trans hb hk)⟩
theorem RowT.form {w : World} {B : Nat} {v : Value} {xs : List S39} (h : RowT w B v xs) : ∃ A c, v = .slice A xs.length c ∧ xs.length ≤ c ∧ Kd.C k39 w A xs.length xs := by
  obtain ⟨A, c, h1, h2, h3⟩ := h
  exact ⟨A, c, h1, h2, Kd.F_now h3⟩
theorem RowT.nil (w : World) (B : Nat) : RowT w B (.slice none 0 0) [] := ⟨none, 0, rfl, Nat.le_refl _, Kd.F_nil _ _ _⟩
theorem RowT.ofR {w : World} {B : Nat} {v : Value} {xs : List S39} {ok : Nat → Prop} (h : Kd.R k39 39 w B ok v xs) : RowT w B v xs := by
  obtain ⟨A, c, rfl⟩ := Kd.R_slice h
  have hr := Kd.R_reads' h
  exact ⟨A, c, rfl, hr.2.1, Kd.F_mono (Kd.R_F (Kd.R_bound h)) (fun k hk => hk.2.1)⟩
def cellsT (xs : List S39) : List Value := xs.flatMap fun t => [.int .i64 t.f0, .int .i64 t.f1]
theorem cellsT_reps : ∀ (xs : List S39) (w : World), Reps (k39.K w) 2 xs (cellsT xs)
  | [], w => Reps.none _ _
  | x :: r, w => by
    have h1 : Reps (k39.K w) 2 [x] [.int .i64 x.f0, .int .i64 x.f1] := by
      have := (Reps.none (k39.K w) 2).snoc (k39_mk w x) rfl
      simpa using this
    have h2 := Kd.reps_append h1 (cellsT_reps r w)
    exact h2
theorem RowT.blk {w : World} {g : Nat} {xs : List S39} (h : w.heap[g]? = some (.cells (cellsT xs).toArray 39 (0, 0))) (hm : xs.length ≤ 1000) {B : Nat} (hB : B ≤ g) : RowT w B (.slice (some ⟨g, 0, none⟩) xs.length xs.length) xs := by
  refine ⟨_, _, rfl, Nat.le_refl _, fun w' hw => ?_⟩
  replace h := (hw g hB (blk_lt h)).trans h
  refine ⟨rfl, by omega, fun _ => ⟨_, rfl, fun j p hj => ?_⟩⟩
  have hr := (cellsT_reps xs w')
  have hjl := (List.getElem?_eq_some_iff.1 hj).1
  refine ⟨((cellsT xs).drop (j * 2)).take 2, ?_, hr.2 j p hj, fun i u hu => ?_⟩
  · have h1 : j * 2 + 2 ≤ (cellsT xs).length := by rw [hr.1]; show _ ≤ xs.length * 2; omega
    rw [List.length_take, List.length_drop]
    show _ = 2
    omega
  · rw [add_plain, blk_cell h]
    rw [List.getElem?_take] at hu
    split at hu
    · rw [List.getElem?_drop] at hu
      show (cellsT xs).toArray[j * 2 + i]? = some u
      simpa using hu
    · cases hu
def tN : S39 := ⟨1, 0⟩
def tA : S39 := ⟨2, 0⟩
def tR : S39 := ⟨4, 0⟩
def tX : S39 := ⟨0, 0⟩
def tO (c : Int) : S39 := ⟨3, c⟩
theorem heap_k (w : World) : ∀ (l : List Obj) (k : Nat), k < l.length → (l.foldl World.alloc w).heap[w.heap.size + k]? = l[k]? := by
  have key : ∀ (l : List Obj) (w : World), w.heap.size + l.length = (l.foldl World.alloc w).heap.size ∧ (∀ (g : Nat) (o : Obj), w.heap[g]? = some o → (l.foldl World.alloc w).heap[g]? = some o) ∧ ∀ k, k < l.length → (l.foldl World.alloc w).heap[w.heap.size + k]? = l[k]? := by
    intro l
    induction l with
    | nil => exact fun w => ⟨rfl, fun _ _ h => h, fun k hk => absurd hk (Nat.not_lt_zero _)⟩
    | cons x r ih =>
      intro w
      obtain ⟨h1, h2, h3⟩ := ih (w.alloc x)
      have hz : (w.alloc x).heap.size = w.heap.size + 1 := by simp
      refine ⟨?_, fun g o h => h2 g o (blk_alloc h x), fun k hk => ?_⟩
      · rw [List.foldl_cons, ← h1, hz, List.length_cons]; omega
      · cases k with
        | zero => exact h2 _ _ (heap_alloc_new w x)
        | succ k =>
          have := h3 k (by simpa using hk)
          rw [hz] at this
          rw [List.foldl_cons, show w.heap.size + (k + 1) = w.heap.size + 1 + k by omega, this]
          rfl
  exact fun l k hk => (key l w).2.2 k hk
theorem list_id (v : Value) (w : World) : Calls Try.prog 74 #[v] w fun e w' => e = .returned v ∧ w = w' := by
  go_enter Try.func74, Try.ntmps74
  go_wp2
  go_ret
  exact ⟨rfl, rfl⟩
theorem number_w (w : World) : Calls Try.prog 75 #[] w fun e w' => e = .returned (.agg #[.int .i64 1, .int .i64 0]) ∧ w.alloc (.cells #[.int .i64 1, .int .i64 0] 39) = w' := by
  go_enter Try.func75, Try.ntmps75
  go_wp2
  exact bodyPost_ret (v := .agg #[.int .i64 1, .int .i64 0]) (by simp [results, Try.results75, go_sem]) rfl ⟨rfl, rfl⟩
theorem array_w (w : World) : Calls Try.prog 76 #[] w fun e w' => e = .returned (.agg #[.int .i64 2, .int .i64 0]) ∧ w.alloc (.cells #[.int .i64 2, .int .i64 0] 39) = w' := by
  go_enter Try.func76, Try.ntmps76
  go_wp2
  exact bodyPost_ret (v := .agg #[.int .i64 2, .int .i64 0]) (by simp [results, Try.results76, go_sem]) rfl ⟨rfl, rfl⟩
theorem isnum_w (w : World) (op : Int) {p : Bool} (hp : decide (7 ≤ op ∧ op ≤ 17) = p) : Calls Try.prog 77 #[.int .i64 op] w fun e w' => e = .returned (.bool p) ∧ w = w' := by
  subst hp
  by_cases h : 7 ≤ op
  · have d1 : decide (7 ≤ op) = true := decide_eq_true h
    go_enter Try.func77, Try.ntmps77
    go_wp2
    go_ret
    exact ⟨ret_b (by first | rfl | (rw [decide_eq_decide]; omega)), rfl⟩
  · have d1 : decide (7 ≤ op) = false := decide_eq_false h
    go_enter Try.func77, Try.ntmps77
    go_wp2
    go_ret
    exact ⟨ret_b (by first | rfl | (symm; rw [decide_eq_false_iff_not]; omega)), rfl⟩
def plainV (op : Int) : List S39 × List S39 :=
  if op = 2 then ([], [tR]) else if op = 5 then ([tX], []) else if op = 20 then ([tR], [tN]) else if op = 21 then ([tR, tR], [tN]) else if op = 24 then ([tA, tN], [tN]) else if op = 25 then ([tA, tN, tN], []) else if op = 26 then ([tA], [tN]) else if op = 1 then ([], [tN]) else if op = 19 then ([tN], []) else if op = 18 then ([], []) else if op = 23 then ([tN], [tA]) else if 7 ≤ op ∧ op ≤ 17 then ([tN, tN], [tN]) else ([], [])
def plainB (op : Int) : Bool := decide (op = 2 ∨ op = 5 ∨ op = 20 ∨ op = 21 ∨ op = 24 ∨ op = 25 ∨ op = 26 ∨ op = 1 ∨ op = 19 ∨ op = 18 ∨ op = 23 ∨ (7 ≤ op ∧ op ≤ 17))
set_option maxHeartbeats 16000000 in
set_option maxRecDepth 100000 in
theorem plain_calls (op : Int) (w : World) : Calls Try.prog 66 #[.int .i64 op] w fun e w' => ∃ vi vo, e = .returned (.tuple #[.agg #[vi, vo], .bool (plainB op)]) ∧ RowT w' w.heap.size vi (plainV op).1 ∧ RowT w' w.heap.size vo (plainV op).2 ∧ Below w.heap.size w w' := by
  by_cases o2 : op = 2
  · subst o2
    rw [show plainV 2 = ([], [tR]) from rfl, show plainB 2 = true from rfl]
    go_enter Try.func66, Try.ntmps66
    go_wp2_with (first | (go_at_call 74; refine (list_id _ _).mono ?_; rintro e w1 ⟨rfl, rfl⟩) | (go_at_call 75; refine (number_w _).mono ?_; rintro e w1 ⟨rfl, rfl⟩) | (go_at_call 76; refine (array_w _).mono ?_; rintro e w1 ⟨rfl, rfl⟩) | (go_at_call 77; refine (isnum_w _ _ HIS.out).mono ?_; rintro e w1 ⟨rfl, rfl⟩))
    exact bodyPost_ret (v := .tuple #[.agg #[.slice none 0 0, .slice (some ⟨w.heap.size + 1 + 1, 0, none⟩) 1 1], .bool true]) (by simp [results, Try.results66, go_sem]) rfl ⟨_, _, rfl, RowT.nil _ _, RowT.blk (xs := [tR]) (heap_k w [.cells #[.slice none 0 0, .slice (some ⟨w.heap.size + 1 + 1, 0, none⟩) 1 1] 92, .cells #[.int .i64 4, .int .i64 0] 39, .cells #[.int .i64 4, .int .i64 0] 39] 2 (by simp)) (by decide) (by omega), bel⟩
  have d2 : (op == 2) = false := by simpa using o2
  by_cases o5 : op = 5
  · subst o5
    rw [show plainV 5 = ([tX], []) from rfl, show plainB 5 = true from rfl]
    go_enter Try.func66, Try.ntmps66
    go_wp2_with (first | (go_at_call 74; refine (list_id _ _).mono ?_; rintro e w1 ⟨rfl, rfl⟩) | (go_at_call 75; refine (number_w _).mono ?_; rintro e w1 ⟨rfl, rfl⟩) | (go_at_call 76; refine (array_w _).mono ?_; rintro e w1 ⟨rfl, rfl⟩) | (go_at_call 77; refine (isnum_w _ _ HIS.out).mono ?_; rintro e w1 ⟨rfl, rfl⟩))
    exact bodyPost_ret (v := .tuple #[.agg #[.slice (some ⟨w.heap.size + 1 + 1, 0, none⟩) 1 1, .slice none 0 0], .bool true]) (by simp [results, Try.results66, go_sem]) rfl ⟨_, _, rfl, RowT.blk (xs := [tX]) (heap_k w [.cells #[.slice (some ⟨w.heap.size + 1 + 1, 0, none⟩) 1 1, .slice none 0 0] 92, .cells #[.int .i64 4, .int .i64 0] 39, .cells #[.int .i64 0, .int .i64 0] 39] 2 (by simp)) (by decide) (by omega), RowT.nil _ _, bel⟩
  have d5 : (op == 5) = false := by simpa using o5
  by_cases o20 : op = 20
  · subst o20
    rw [show plainV 20 = ([tR], [tN]) from rfl, show plainB 20 = true from rfl]
    go_enter Try.func66, Try.ntmps66
    go_wp2_with (first | (go_at_call 74; refine (list_id _ _).mono ?_; rintro e w1 ⟨rfl, rfl⟩) | (go_at_call 75; refine (number_w _).mono ?_; rintro e w1 ⟨rfl, rfl⟩) | (go_at_call 76; refine (array_w _).mono ?_; rintro e w1 ⟨rfl, rfl⟩) | (go_at_call 77; refine (isnum_w _ _ HIS.out).mono ?_; rintro e w1 ⟨rfl, rfl⟩))
    exact bodyPost_ret (v := .tuple #[.agg #[.slice (some ⟨w.heap.size + 1 + 1, 0, none⟩) 1 1, .slice (some ⟨w.heap.size + 1 + 1 + 1 + 1, 0, none⟩) 1 1], .bool true]) (by simp [results, Try.results66, go_sem]) rfl ⟨_, _, rfl, RowT.blk (xs := [tR]) (heap_k w [.cells #[.slice (some ⟨w.heap.size + 1 + 1, 0, none⟩) 1 1, .slice (some ⟨w.heap.size + 1 + 1 + 1 + 1, 0, none⟩) 1 1] 92, .cells #[.int .i64 4, .int .i64 0] 39, .cells #[.int .i64 4, .int .i64 0] 39, .cells #[.int .i64 1, .int .i64 0] 39, .cells #[.int .i64 1, .int .i64 0] 39] 2 (by simp)) (by decide) (by omega), RowT.blk (xs := [tN]) (heap_k w [.cells #[.slice (some ⟨w.heap.size + 1 + 1, 0, none⟩) 1 1, .slice (some ⟨w.heap.size + 1 + 1 + 1 + 1, 0, none⟩) 1 1] 92, .cells #[.int .i64 4, .int .i64 0] 39, .cells #[.int .i64 4, .int .i64 0] 39, .cells #[.int .i64 1, .int .i64 0] 39, .cells #[.int .i64 1, .int .i64 0] 39] 4 (by simp)) (by decide) (by omega), bel⟩
  have d20 : (op == 20) = false := by simpa using o20
  by_cases o21 : op = 21
  · subst o21
    rw [show plainV 21 = ([tR, tR], [tN]) from rfl, show plainB 21 = true from rfl]
    go_enter Try.func66, Try.ntmps66
    go_wp2_with (first | (go_at_call 74; refine (list_id _ _).mono ?_; rintro e w1 ⟨rfl, rfl⟩) | (go_at_call 75; refine (number_w _).mono ?_; rintro e w1 ⟨rfl, rfl⟩) | (go_at_call 76; refine (array_w _).mono ?_; rintro e w1 ⟨rfl, rfl⟩) | (go_at_call 77; refine (isnum_w _ _ HIS.out).mono ?_; rintro e w1 ⟨rfl, rfl⟩))
    exact bodyPost_ret (v := .tuple #[.agg #[.slice (some ⟨w.heap.size + 1 + 1, 0, none⟩) 2 2, .slice (some ⟨w.heap.size + 1 + 1 + 1 + 1, 0, none⟩) 1 1], .bool true]) (by simp [results, Try.results66, go_sem]) rfl ⟨_, _, rfl, RowT.blk (xs := [tR, tR]) (heap_k w [.cells #[.slice (some ⟨w.heap.size + 1 + 1, 0, none⟩) 2 2, .slice (some ⟨w.heap.size + 1 + 1 + 1 + 1, 0, none⟩) 1 1] 92, .cells #[.int .i64 4, .int .i64 0] 39, .cells #[.int .i64 4, .int .i64 0, .int .i64 4, .int .i64 0] 39, .cells #[.int .i64 1, .int .i64 0] 39, .cells #[.int .i64 1, .int .i64 0] 39] 2 (by simp)) (by decide) (by omega), RowT.blk (xs := [tN]) (heap_k w [.cells #[.slice (some ⟨w.heap.size + 1 + 1, 0, none⟩) 2 2, .slice (some ⟨w.heap.size + 1 + 1 + 1 + 1, 0, none⟩) 1 1] 92, .cells #[.int .i64 4, .int .i64 0] 39, .cells #[.int .i64 4, .int .i64 0, .int .i64 4, .int .i64 0] 39, .cells #[.int .i64 1, .int .i64 0] 39, .cells #[.int .i64 1, .int .i64 0] 39] 4 (by simp)) (by decide) (by omega), bel⟩
  have d21 : (op == 21) = false := by simpa using o21
  by_cases o24 : op = 24
  · subst o24
    rw [show plainV 24 = ([tA, tN], [tN]) from rfl, show plainB 24 = true from rfl]
    go_enter Try.func66, Try.ntmps66
    go_wp2_with (first | (go_at_call 74; refine (list_id _ _).mono ?_; rintro e w1 ⟨rfl, rfl⟩) | (go_at_call 75; refine (number_w _).mono ?_; rintro e w1 ⟨rfl, rfl⟩) | (go_at_call 76; refine (array_w _).mono ?_; rintro e w1 ⟨rfl, rfl⟩) | (go_at_call 77; refine (isnum_w _ _ HIS.out).mono ?_; rintro e w1 ⟨rfl, rfl⟩))
    exact bodyPost_ret (v := .tuple #[.agg #[.slice (some ⟨w.heap.size + 1 + 1 + 1 + 1, 0, none⟩) 2 2, .slice (some ⟨w.heap.size + 1 + 1 + 1 + 1 + 1 + 1, 0, none⟩) 1 1], .bool true]) (by simp [results, Try.results66, go_sem]) rfl ⟨_, _, rfl, RowT.blk (xs := [tA, tN]) (heap_k w [.cells #[.slice (some ⟨w.heap.size + 1 + 1 + 1 + 1, 0, none⟩) 2 2, .slice (some ⟨w.heap.size + 1 + 1 + 1 + 1 + 1 + 1, 0, none⟩) 1 1] 92, .cells #[.int .i64 4, .int .i64 0] 39, .cells #[.int .i64 2, .int .i64 0] 39, .cells #[.int .i64 1, .int .i64 0] 39, .cells #[.int .i64 2, .int .i64 0, .int .i64 1, .int .i64 0] 39, .cells #[.int .i64 1, .int .i64 0] 39, .cells #[.int .i64 1, .int .i64 0] 39] 4 (by simp)) (by decide) (by omega), RowT.blk (xs := [tN]) (heap_k w [.cells #[.slice (some ⟨w.heap.size + 1 + 1 + 1 + 1, 0, none⟩) 2 2, .slice (some ⟨w.heap.size + 1 + 1 + 1 + 1 + 1 + 1, 0, none⟩) 1 1] 92, .cells #[.int .i64 4, .int .i64 0] 39, .cells #[.int .i64 2, .int .i64 0] 39, .cells #[.int .i64 1, .int .i64 0] 39, .cells #[.int .i64 2, .int .i64 0, .int .i64 1, .int .i64 0] 39, .cells #[.int .i64 1, .int .i64 0] 39, .cells #[.int .i64 1, .int .i64 0] 39] 6 (by simp)) (by decide) (by omega), bel⟩
  have d24 : (op == 24) = false := by simpa using o24
  by_cases o25 : op = 25
  · subst o25
    rw [show plainV 25 = ([tA, tN, tN], []) from rfl, show plainB 25 = true from rfl]
    go_enter Try.func66, Try.ntmps66
    go_wp2_with (first | (go_at_call 74; refine (list_id _ _).mono ?_; rintro e w1 ⟨rfl, rfl⟩) | (go_at_call 75; refine (number_w _).mono ?_; rintro e w1 ⟨rfl, rfl⟩) | (go_at_call 76; refine (array_w _).mono ?_; rintro e w1 ⟨rfl, rfl⟩) | (go_at_call 77; refine (isnum_w _ _ HIS.out).mono ?_; rintro e w1 ⟨rfl, rfl⟩))
    exact bodyPost_ret (v := .tuple #[.agg #[.slice (some ⟨w.heap.size + 1 + 1 + 1 + 1 + 1, 0, none⟩) 3 3, .slice none 0 0], .bool true]) (by simp [results, Try.results66, go_sem]) rfl ⟨_, _, rfl, RowT.blk (xs := [tA, tN, tN]) (heap_k w [.cells #[.slice (some ⟨w.heap.size + 1 + 1 + 1 + 1 + 1, 0, none⟩) 3 3, .slice none 0 0] 92, .cells #[.int .i64 4, .int .i64 0] 39, .cells #[.int .i64 2, .int .i64 0] 39, .cells #[.int .i64 1, .int .i64 0] 39, .cells #[.int .i64 1, .int .i64 0] 39, .cells #[.int .i64 2, .int .i64 0, .int .i64 1, .int .i64 0, .int .i64 1, .int .i64 0] 39] 5 (by simp)) (by decide) (by omega), RowT.nil _ _, bel⟩
  have d25 : (op == 25) = false := by simpa using o25
  by_cases o26 : op = 26
  · subst o26
    rw [show plainV 26 = ([tA], [tN]) from rfl, show plainB 26 = true from rfl]
    go_enter Try.func66, Try.ntmps66
    go_wp2_with (first | (go_at_call 74; refine (list_id _ _).mono ?_; rintro e w1 ⟨rfl, rfl⟩) | (go_at_call 75; refine (number_w _).mono ?_; rintro e w1 ⟨rfl, rfl⟩) | (go_at_call 76; refine (array_w _).mono ?_; rintro e w1 ⟨rfl, rfl⟩) | (go_at_call 77; refine (isnum_w _ _ HIS.out).mono ?_; rintro e w1 ⟨rfl, rfl⟩))
    exact bodyPost_ret (v := .tuple #[.agg #[.slice (some ⟨w.heap.size + 1 + 1 + 1, 0, none⟩) 1 1, .slice (some ⟨w.heap.size + 1 + 1 + 1 + 1 + 1, 0, none⟩) 1 1], .bool true]) (by simp [results, Try.results66, go_sem]) rfl ⟨_, _, rfl, RowT.blk (xs := [tA]) (heap_k w [.cells #[.slice (some ⟨w.heap.size + 1 + 1 + 1, 0, none⟩) 1 1, .slice (some ⟨w.heap.size + 1 + 1 + 1 + 1 + 1, 0, none⟩) 1 1] 92, .cells #[.int .i64 4, .int .i64 0] 39, .cells #[.int .i64 2, .int .i64 0] 39, .cells #[.int .i64 2, .int .i64 0] 39, .cells #[.int .i64 1, .int .i64 0] 39, .cells #[.int .i64 1, .int .i64 0] 39] 3 (by simp)) (by decide) (by omega), RowT.blk (xs := [tN]) (heap_k w [.cells #[.slice (some ⟨w.heap.size + 1 + 1 + 1, 0, none⟩) 1 1, .slice (some ⟨w.heap.size + 1 + 1 + 1 + 1 + 1, 0, none⟩) 1 1] 92, .cells #[.int .i64 4, .int .i64 0] 39, .cells #[.int .i64 2, .int .i64 0] 39, .cells #[.int .i64 2, .int .i64 0] 39, .cells #[.int .i64 1, .int .i64 0] 39, .cells #[.int .i64 1, .int .i64 0] 39] 5 (by simp)) (by decide) (by omega), bel⟩
  have d26 : (op == 26) = false := by simpa using o26
  by_cases o1 : op = 1
  · subst o1
    rw [show plainV 1 = ([], [tN]) from rfl, show plainB 1 = true from rfl]
    go_enter Try.func66, Try.ntmps66
    go_wp2_with (first | (go_at_call 74; refine (list_id _ _).mono ?_; rintro e w1 ⟨rfl, rfl⟩) | (go_at_call 75; refine (number_w _).mono ?_; rintro e w1 ⟨rfl, rfl⟩) | (go_at_call 76; refine (array_w _).mono ?_; rintro e w1 ⟨rfl, rfl⟩) | (go_at_call 77; refine (isnum_w _ _ HIS.out).mono ?_; rintro e w1 ⟨rfl, rfl⟩))
    exact bodyPost_ret (v := .tuple #[.agg #[.slice none 0 0, .slice (some ⟨w.heap.size + 1 + 1 + 1, 0, none⟩) 1 1], .bool true]) (by simp [results, Try.results66, go_sem]) rfl ⟨_, _, rfl, RowT.nil _ _, RowT.blk (xs := [tN]) (heap_k w [.cells #[.slice none 0 0, .slice (some ⟨w.heap.size + 1 + 1 + 1, 0, none⟩) 1 1] 92, .cells #[.int .i64 4, .int .i64 0] 39, .cells #[.int .i64 1, .int .i64 0] 39, .cells #[.int .i64 1, .int .i64 0] 39] 3 (by simp)) (by decide) (by omega), bel⟩
  have d1 : (op == 1) = false := by simpa using o1
  by_cases o19 : op = 19
  · subst o19
    rw [show plainV 19 = ([tN], []) from rfl, show plainB 19 = true from rfl]
    go_enter Try.func66, Try.ntmps66
    go_wp2_with (first | (go_at_call 74; refine (list_id _ _).mono ?_; rintro e w1 ⟨rfl, rfl⟩) | (go_at_call 75; refine (number_w _).mono ?_; rintro e w1 ⟨rfl, rfl⟩) | (go_at_call 76; refine (array_w _).mono ?_; rintro e w1 ⟨rfl, rfl⟩) | (go_at_call 77; refine (isnum_w _ _ HIS.out).mono ?_; rintro e w1 ⟨rfl, rfl⟩))
    exact bodyPost_ret (v := .tuple #[.agg #[.slice (some ⟨w.heap.size + 1 + 1 + 1, 0, none⟩) 1 1, .slice none 0 0], .bool true]) (by simp [results, Try.results66, go_sem]) rfl ⟨_, _, rfl, RowT.blk (xs := [tN]) (heap_k w [.cells #[.slice (some ⟨w.heap.size + 1 + 1 + 1, 0, none⟩) 1 1, .slice none 0 0] 92, .cells #[.int .i64 4, .int .i64 0] 39, .cells #[.int .i64 1, .int .i64 0] 39, .cells #[.int .i64 1, .int .i64 0] 39] 3 (by simp)) (by decide) (by omega), RowT.nil _ _, bel⟩
  have d19 : (op == 19) = false := by simpa using o19
  by_cases o18 : op = 18
  · subst o18
    rw [show plainV 18 = ([], []) from rfl, show plainB 18 = true from rfl]
    go_enter Try.func66, Try.ntmps66
    go_wp2_with (first | (go_at_call 74; refine (list_id _ _).mono ?_; rintro e w1 ⟨rfl, rfl⟩) | (go_at_call 75; refine (number_w _).mono ?_; rintro e w1 ⟨rfl, rfl⟩) | (go_at_call 76; refine (array_w _).mono ?_; rintro e w1 ⟨rfl, rfl⟩) | (go_at_call 77; refine (isnum_w _ _ HIS.out).mono ?_; rintro e w1 ⟨rfl, rfl⟩))
    exact bodyPost_ret (v := .tuple #[.agg #[.slice none 0 0, .slice none 0 0], .bool true]) (by simp [results, Try.results66, go_sem]) rfl ⟨_, _, rfl, RowT.nil _ _, RowT.nil _ _, bel⟩
  have d18 : (op == 18) = false := by simpa using o18
  by_cases o23 : op = 23
  · subst o23
    rw [show plainV 23 = ([tN], [tA]) from rfl, show plainB 23 = true from rfl]
    go_enter Try.func66, Try.ntmps66
    go_wp2_with (first | (go_at_call 74; refine (list_id _ _).mono ?_; rintro e w1 ⟨rfl, rfl⟩) | (go_at_call 75; refine (number_w _).mono ?_; rintro e w1 ⟨rfl, rfl⟩) | (go_at_call 76; refine (array_w _).mono ?_; rintro e w1 ⟨rfl, rfl⟩) | (go_at_call 77; refine (isnum_w _ _ HIS.out).mono ?_; rintro e w1 ⟨rfl, rfl⟩))
    exact bodyPost_ret (v := .tuple #[.agg #[.slice (some ⟨w.heap.size + 1 + 1 + 1, 0, none⟩) 1 1, .slice (some ⟨w.heap.size + 1 + 1 + 1 + 1 + 1, 0, none⟩) 1 1], .bool true]) (by simp [results, Try.results66, go_sem]) rfl ⟨_, _, rfl, RowT.blk (xs := [tN]) (heap_k w [.cells #[.slice (some ⟨w.heap.size + 1 + 1 + 1, 0, none⟩) 1 1, .slice (some ⟨w.heap.size + 1 + 1 + 1 + 1 + 1, 0, none⟩) 1 1] 92, .cells #[.int .i64 4, .int .i64 0] 39, .cells #[.int .i64 1, .int .i64 0] 39, .cells #[.int .i64 1, .int .i64 0] 39, .cells #[.int .i64 2, .int .i64 0] 39, .cells #[.int .i64 2, .int .i64 0] 39] 3 (by simp)) (by decide) (by omega), RowT.blk (xs := [tA]) (heap_k w [.cells #[.slice (some ⟨w.heap.size + 1 + 1 + 1, 0, none⟩) 1 1, .slice (some ⟨w.heap.size + 1 + 1 + 1 + 1 + 1, 0, none⟩) 1 1] 92, .cells #[.int .i64 4, .int .i64 0] 39, .cells #[.int .i64 1, .int .i64 0] 39, .cells #[.int .i64 1, .int .i64 0] 39, .cells #[.int .i64 2, .int .i64 0] 39, .cells #[.int .i64 2, .int .i64 0] 39] 5 (by simp)) (by decide) (by omega), bel⟩
  have d23 : (op == 23) = false := by simpa using o23
  by_cases h : 7 ≤ op ∧ op ≤ 17
  · have e1 : plainV op = ([tN, tN], [tN]) := by unfold plainV; rw [if_neg o2, if_neg o5, if_neg o20, if_neg o21, if_neg o24, if_neg o25, if_neg o26, if_neg o1, if_neg o19, if_neg o18, if_neg o23, if_pos h]
    have e2 : plainB op = true := decide_eq_true (by omega)
    have HIS := Aside0.mk (decide_eq_true h)
    rw [e1, e2]
    clear e1 e2 h o2 o5 o20 o21 o24 o25 o26 o1 o19 o18 o23
    go_enter Try.func66, Try.ntmps66
    go_wp2_with (first | (go_at_call 74; refine (list_id _ _).mono ?_; rintro e w1 ⟨rfl, rfl⟩) | (go_at_call 75; refine (number_w _).mono ?_; rintro e w1 ⟨rfl, rfl⟩) | (go_at_call 76; refine (array_w _).mono ?_; rintro e w1 ⟨rfl, rfl⟩) | (go_at_call 77; refine (isnum_w _ _ HIS.out).mono ?_; rintro e w1 ⟨rfl, rfl⟩))
    exact bodyPost_ret (v := .tuple #[.agg #[.slice (some ⟨w.heap.size + 1 + 1 + 1 + 1, 0, none⟩) 2 2, .slice (some ⟨w.heap.size + 1 + 1 + 1 + 1 + 1 + 1, 0, none⟩) 1 1], .bool true]) (by simp [results, Try.results66, go_sem]) rfl ⟨_, _, rfl, RowT.blk (xs := [tN, tN]) (heap_k w [.cells #[.slice (some ⟨w.heap.size + 1 + 1 + 1 + 1, 0, none⟩) 2 2, .slice (some ⟨w.heap.size + 1 + 1 + 1 + 1 + 1 + 1, 0, none⟩) 1 1] 92, .cells #[.int .i64 4, .int .i64 0] 39, .cells #[.int .i64 1, .int .i64 0] 39, .cells #[.int .i64 1, .int .i64 0] 39, .cells #[.int .i64 1, .int .i64 0, .int .i64 1, .int .i64 0] 39, .cells #[.int .i64 1, .int .i64 0] 39, .cells #[.int .i64 1, .int .i64 0] 39] 4 (by simp)) (by decide) (by omega), RowT.blk (xs := [tN]) (heap_k w [.cells #[.slice (some ⟨w.heap.size + 1 + 1 + 1 + 1, 0, none⟩) 2 2, .slice (some ⟨w.heap.size + 1 + 1 + 1 + 1 + 1 + 1, 0, none⟩) 1 1] 92, .cells #[.int .i64 4, .int .i64 0] 39, .cells #[.int .i64 1, .int .i64 0] 39, .cells #[.int .i64 1, .int .i64 0] 39, .cells #[.int .i64 1, .int .i64 0, .int .i64 1, .int .i64 0] 39, .cells #[.int .i64 1, .int .i64 0] 39, .cells #[.int .i64 1, .int .i64 0] 39] 6 (by simp)) (by decide) (by omega), bel⟩
  · have e1 : plainV op = ([], []) := by unfold plainV; rw [if_neg o2, if_neg o5, if_neg o20, if_neg o21, if_neg o24, if_neg o25, if_neg o26, if_neg o1, if_neg o19, if_neg o18, if_neg o23, if_neg h]
    have e2 : plainB op = false := decide_eq_false (by omega)
    have HIS := Aside0.mk (decide_eq_false h)
    rw [e1, e2]
    clear e1 e2 h o2 o5 o20 o21 o24 o25 o26 o1 o19 o18 o23
    go_enter Try.func66, Try.ntmps66
    go_wp2_with (first | (go_at_call 74; refine (list_id _ _).mono ?_; rintro e w1 ⟨rfl, rfl⟩) | (go_at_call 75; refine (number_w _).mono ?_; rintro e w1 ⟨rfl, rfl⟩) | (go_at_call 76; refine (array_w _).mono ?_; rintro e w1 ⟨rfl, rfl⟩) | (go_at_call 77; refine (isnum_w _ _ HIS.out).mono ?_; rintro e w1 ⟨rfl, rfl⟩))
    exact bodyPost_ret (v := .tuple #[.agg #[.slice none 0 0, .slice none 0 0], .bool false]) (by simp [results, Try.results66, go_sem]) rfl ⟨_, _, rfl, RowT.nil _ _, RowT.nil _ _, bel⟩
end Go.Proofs.Ytcfbhobpfnlkpaa.Flow
