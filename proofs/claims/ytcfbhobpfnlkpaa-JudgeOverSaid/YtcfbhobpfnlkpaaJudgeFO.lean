/- Functions of slices, walked by hand. -/
import Derived.Test.YtcfbhobpfnlkpaaJudgeFP
namespace Go.Proofs.Ytcfbhobpfnlkpaa.Flow
open Go.RowKit Go.Proofs.Ytcfbhobpfnlkpaa.QJudgeFound Go.Proofs.YtcfbhobpfnlkpaaW.PrintWords Go.Proofs.YtcfbhobpfnlkpaaW.PrintLast Go.Proofs.Ytcfbhobpfnlkpaa.Chain
set_option linter.unusedVariables false
set_option linter.unusedSimpArgs false
def localV (x : S52) (n : Int) : S39 := if n < 0 ∨ ((x.f0.length + x.f1.length : Nat) : Int) ≤ n then ⟨0, 0⟩ else rd_T39 (x.f0 ++ x.f1) n
def givesV (x : S52) : List S39 := if x.f2.f0 = 5 then [] else [x.f2]
def slotV (m : Im) (c n : Int) : Int := rd (rd_T80 m.c c).f2 n
theorem heapT : Kd.Heap k39 := Kd.heap_iso _ (Kd.heap_pair (Kd.heap_int _) (Kd.heap_int _))
theorem heapC : Kd.Heap k80 := Kd.heap_iso _ (Kd.heap_pair (Kd.heap_int _) (Kd.heap_pair (Kd.heap_slice _ heapT) (Kd.heap_slice _ (Kd.heap_int _))))
theorem take_C {w : World} {A : Option Addr} {l : List S39} (hl : Kd.C k39 w A l.length l) {n : Nat} (hn : n ≤ l.length) : Kd.C k39 w A n (l.take n) := by
  have h := Kd.C_take hl hn
  rw [List.length_take, Nat.min_eq_left hn] at h
  exact h
theorem concat2_c {w : World} {g : Nat} {A1 A2 : Option Addr} {c1 c2 : Nat} {x y : List S39} {e : TypeId} (hg : w.heap[g]? = some (.cells #[.slice A1 x.length c1, .slice A2 y.length c2] e (0, 0))) (h1 : Kd.C k39 w A1 x.length x) (l1 : x.length ≤ c1) (h2 : Kd.C k39 w A2 y.length y) (l2 : y.length ≤ c2) (hx : x.length ≤ 1000000000) (hy : y.length ≤ 1000000000) :
    Calls Try.prog 49 #[.slice (some ⟨g, 0, none⟩) 2 2] w fun e w' => ∃ v, e = .returned v ∧ RowT w' w.heap.size v (x ++ y) ∧ Below w.heap.size w w' := by
  have hC : Kd.C (Kd.slice 39 k39) w (some ⟨g, 0, none⟩) ([x, y] : List (List S39)).length [x, y] := by
    refine ⟨rfl, by simp, fun _ => ⟨_, rfl, fun j p hj => ?_⟩⟩
    have hjl : j < 2 := (List.getElem?_eq_some_iff.1 hj).1
    rcases j with _ | _ | j
    · obtain rfl : x = p := by simpa using hj
      refine ⟨[.slice A1 x.length c1], rfl, ⟨A1, c1, rfl, l1, h1⟩, fun i u hu => ?_⟩
      have hi : i < 1 := (List.getElem?_eq_some_iff.1 hu).1
      obtain rfl : i = 0 := by omega
      obtain rfl : Value.slice A1 x.length c1 = u := by simpa using hu
      exact (blk_cell hg 0).trans rfl
    · obtain rfl : y = p := by simpa using hj
      refine ⟨[.slice A2 y.length c2], rfl, ⟨A2, c2, rfl, l2, h2⟩, fun i u hu => ?_⟩
      have hi : i < 1 := (List.getElem?_eq_some_iff.1 hu).1
      obtain rfl : i = 0 := by omega
      obtain rfl : Value.slice A2 y.length c2 = u := by simpa using hu
      exact (blk_cell hg 1).trans rfl
    · omega
  refine (api_Type_49.calls 6 _ 2 [x, y] _ w hC (Nat.le_refl _) (concat_val x y hx hy 6 (Nat.le_refl _))).mono ?_
  rintro e w' ⟨v, rfl, hr, hb⟩
  exact ⟨v, rfl, RowT.ofR hr, hb⟩
theorem concat2_c' {w : World} {g n1 n2 : Nat} {A1 A2 : Option Addr} {c1 c2 : Nat} {x y : List S39} {e : TypeId} (hg : w.heap[g]? = some (.cells #[.slice A1 n1 c1, .slice A2 n2 c2] e (0, 0))) (e1 : x.length = n1) (e2 : y.length = n2) (h1 : Kd.C k39 w A1 n1 x) (l1 : n1 ≤ c1) (h2 : Kd.C k39 w A2 n2 y) (l2 : n2 ≤ c2) (hx : n1 ≤ 1000000000) (hy : n2 ≤ 1000000000) :
    Calls Try.prog 49 #[.slice (some ⟨g, 0, none⟩) 2 2] w fun e w' => ∃ v, e = .returned v ∧ RowT w' w.heap.size v (x ++ y) ∧ Below w.heap.size w w' := by
  subst e1 e2
  exact concat2_c hg h1 l1 h2 l2 hx hy
theorem heap_alloc_at (w : World) (o : Obj) (g : Nat) (h : w.heap.size = g) : (w.alloc o).heap[g]? = some o := h ▸ heap_alloc_new w o
section
variable {w : World} {a : IA} {m : Im} {b : MA} {x : S52}
set_option maxHeartbeats 8000000 in
set_option maxRecDepth 100000 in
theorem local_c (hx : MC w b x) (hl : x.f0.length + x.f1.length ≤ 1000) (n : Int) : Calls Try.prog 68 #[.agg #[.slice b.A0 x.f0.length b.c0, .slice b.A1 x.f1.length b.c1, .int .i64 x.f2.f0, .int .i64 x.f2.f1, .slice b.A4 x.f3.length b.c4, .int .i64 x.f4, .int .i64 x.f5, .slice b.A7 x.f6.length b.c7], .int .i64 n] w fun e w' => e = .returned (.agg #[.int .i64 (localV x n).f0, .int .i64 (localV x n).f1]) ∧ Below w.heap.size w w' := by
  obtain ⟨f0, f1, ⟨t0, t1⟩, f3, f4, f5, f6⟩ := x
  obtain ⟨A0, A1, A4, A7, k0, k1, k4, k7⟩ := b
  dsimp only at hl ⊢
  have h0 : Kd.C k39 w A0 f0.length f0 := hx.h0
  have h1 : Kd.C k39 w A1 f1.length f1 := hx.h1
  clear hx
  by_cases n0 : n < 0 ∨ ((f0.length + f1.length : Nat) : Int) ≤ n
  · have HV := Aside0.mk (show localV ⟨f0, f1, ⟨t0, t1⟩, f3, f4, f5, f6⟩ n = ⟨0, 0⟩ from if_pos n0)
    rw [HV.out]
    clear h0 h1
    by_cases n1 : n < 0
    · clear n0
      go_enter Try.func68, Try.ntmps68
      go_wp2_with fail
      exact bodyPost_ret (v := .agg #[.int .i64 0, .int .i64 0]) (by simp [results, Try.results68, go_sem, *]) rfl ⟨rfl, (by repeat (first | exact Below.refl _ _ | apply below_alloc | refine Below.setCell ?_ (Nat.le_succ _) _))⟩
    · have n2 : (f0.length : Int) + (f1.length : Int) ≤ n := by omega
      clear n0
      go_enter Try.func68, Try.ntmps68
      go_wp2_with fail
      exact bodyPost_ret (v := .agg #[.int .i64 0, .int .i64 0]) (by simp [results, Try.results68, go_sem, *]) rfl ⟨rfl, (by repeat (first | exact Below.refl _ _ | apply below_alloc | refine Below.setCell ?_ (Nat.le_succ _) _))⟩
  have n1 : 0 ≤ n := by omega
  have n2 : n < (f0.length : Int) + (f1.length : Int) := by omega
  by_cases n3 : n < (f0.length : Int)
  · have HV := Aside0.mk (show localV ⟨f0, f1, ⟨t0, t1⟩, f3, f4, f5, f6⟩ n = rd_T39 f0 n from by
      unfold localV
      rw [if_neg n0]
      unfold rd_T39
      dsimp only
      rw [List.getD_eq_getElem?_getD, List.getD_eq_getElem?_getD, List.getElem?_append_left (by omega)])
    rw [HV.out]
    obtain ⟨ad, e0, q0, q1⟩ := at_T39 h0 n n1 n3
    subst e0
    have ql := World.block_lt_of_cell? w _ q0
    have ql1 : (ad.add (n.toNat * 2)).block < w.heap.size + 1 := Nat.lt_succ_of_lt ql
    have ql2 : (ad.add (n.toNat * 2)).block < w.heap.size + 1 + 1 := Nat.lt_succ_of_lt ql1
    clear h0 h1 n0
    go_enter Try.func68, Try.ntmps68
    go_wp2_with fail
    exact bodyPost_ret (v := .agg #[.int .i64 (rd_T39 f0 n).f0, .int .i64 (rd_T39 f0 n).f1]) (by simp [results, Try.results68, go_sem, *]) rfl ⟨rfl, (by repeat (first | exact Below.refl _ _ | apply below_alloc | refine Below.setCell ?_ (Nat.le_succ _) _))⟩
  · obtain ⟨j, rfl⟩ : ∃ j : Nat, n = (f0.length : Int) + (j : Int) := ⟨(n - (f0.length : Int)).toNat, by omega⟩
    have HV := Aside0.mk (show localV ⟨f0, f1, ⟨t0, t1⟩, f3, f4, f5, f6⟩ ((f0.length : Int) + (j : Int)) = rd_T39 f1 (j : Int) from by
      unfold localV
      rw [if_neg n0]
      unfold rd_T39
      dsimp only
      rw [List.getD_eq_getElem?_getD, List.getD_eq_getElem?_getD, List.getElem?_append_right (by omega)]
      congr 3; omega)
    rw [HV.out]
    have n5 : (j : Int) < (f1.length : Int) := by omega
    obtain ⟨ad, e0, q0, q1⟩ := at_T39 h1 (j : Int) (by omega) n5
    subst e0
    simp only [Int.toNat_natCast] at q0 q1
    have ql := World.block_lt_of_cell? w _ q0
    have ql1 : (ad.add (j * 2)).block < w.heap.size + 1 := Nat.lt_succ_of_lt ql
    have ql2 : (ad.add (j * 2)).block < w.heap.size + 1 + 1 := Nat.lt_succ_of_lt ql1
    clear h0 h1 n0 n3
    go_enter Try.func68, Try.ntmps68
    go_wp2_with fail
    exact bodyPost_ret (v := .agg #[.int .i64 (rd_T39 f1 (j : Int)).f0, .int .i64 (rd_T39 f1 (j : Int)).f1]) (by simp [results, Try.results68, go_sem, *]) rfl ⟨rfl, (by repeat (first | exact Below.refl _ _ | apply below_alloc | refine Below.setCell ?_ (Nat.le_succ _) _))⟩
theorem fields_c (hm : IC w a m) (ht : tot m.c < 200) (c : Int) : Calls Try.prog 70 #[.agg #[.slice a.A0 m.c.length a.c0, .slice a.A1 m.s.length a.c1, .slice a.A2 m.n.length a.c2, .slice a.A3 m.m.length a.c3, .slice a.A4 m.e.length a.c4, .int .i64 m.sk, .int .i64 m.hp], .int .i64 c] w fun e w' => ∃ v, e = .returned v ∧ RowT w' w.heap.size v (flds m.c c) ∧ Below w.heap.size w w' := by
  refine (class_Fields.calls 300 (fun k => k < w.heap.size) a.A0 a.c0 m.c a.A1 a.c1 m.s a.A2 a.c2 m.n a.A3 a.c3 m.m a.A4 a.c4 m.e m.sk m.hp c (flds m.c c) w (Kd.V_mk hm.n0 (Kd.C_F heapC hm.h0)) hm.h1 hm.n1 hm.h2 hm.n2 hm.h3 hm.n3 hm.h4 hm.n4 (fields_val m.c m.s m.n m.m m.e m.sk m.hp ht c 300 (Nat.le_refl _))).mono ?_
  rintro e w' ⟨v, rfl, hr, hb⟩
  exact ⟨v, rfl, RowT.ofR hr, hb⟩
theorem object_c (w : World) (c : Int) : Calls Try.prog 69 #[.int .i64 c] w fun e w' => e = .returned (.agg #[.int .i64 3, .int .i64 c]) ∧ Below w.heap.size w w' := flow_object.calls c 3 c w rfl
theorem slot_val (c n : Int) (h0 : 0 ≤ c) (h1 : c < (m.c.length : Int)) (h2 : 0 ≤ n) (h3 : n < ((rd_T80 m.c c).f2.length : Int)) : class_Slot.f m.c m.s m.n m.m m.e m.sk m.hp c n = some (slotV m c n, true) := by
  unfold class_Slot.f slotV
  exact (if_neg (by omega)).trans ((if_neg (by omega)).trans ((if_neg (by omega)).trans ((if_pos h0).trans ((if_pos h1).trans ((if_neg (by omega)).trans ((if_pos h2).trans (if_pos h3)))))))
theorem slot_c (hm : IC w a m) (c n : Int) (h0 : 0 ≤ c) (h1 : c < (m.c.length : Int)) (h2 : 0 ≤ n) (h3 : n < ((rd_T80 m.c c).f2.length : Int)) : Calls Try.prog 72 #[.agg #[.slice a.A0 m.c.length a.c0, .slice a.A1 m.s.length a.c1, .slice a.A2 m.n.length a.c2, .slice a.A3 m.m.length a.c3, .slice a.A4 m.e.length a.c4, .int .i64 m.sk, .int .i64 m.hp], .int .i64 c, .int .i64 n] w fun e w' => e = .returned (.tuple #[.int .i64 (slotV m c n), .bool true]) ∧ Below w.heap.size w w' :=
  class_Slot.calls a.A0 a.c0 m.c a.A1 a.c1 m.s a.A2 a.c2 m.n a.A3 a.c3 m.m a.A4 a.c4 m.e m.sk m.hp c n _ _ w hm.h0 hm.n0 hm.h1 hm.n1 hm.h2 hm.n2 hm.h3 hm.n3 hm.h4 hm.n4 (slot_val c n h0 h1 h2 h3)
set_option maxHeartbeats 8000000 in
set_option maxRecDepth 100000 in
theorem called_c (hx : MC w b x) {A : Option Addr} {c : Nat} {l : List S39} (hl : Kd.C k39 w A l.length l) (hc : l.length ≤ c) (h1 : l.length ≤ x.f0.length) (h2 : x.f0.length ≤ 1000) :
    Calls Try.prog 71 #[.agg #[.slice b.A0 x.f0.length b.c0, .slice b.A1 x.f1.length b.c1, .int .i64 x.f2.f0, .int .i64 x.f2.f1, .slice b.A4 x.f3.length b.c4, .int .i64 x.f4, .int .i64 x.f5, .slice b.A7 x.f6.length b.c7], .slice A l.length c] w fun e w' => ∃ vi vo, e = .returned (.agg #[vi, vo]) ∧ RowT w' w.heap.size vi (l ++ x.f0.drop l.length) ∧ RowT w' w.heap.size vo (givesV x) ∧ Below w.heap.size w w' := by
  obtain ⟨f0, f1, ⟨t0, t1⟩, f3, f4, f5, f6⟩ := x
  obtain ⟨A0, A1, A4, A7, k0, k1, k4, k7⟩ := b
  dsimp only at h1 h2 ⊢
  have hk0 : f0.length ≤ k0 := hx.n0
  have HL := Aside0.mk hl
  have hd := Kd.C_drop (m := l.length) (show Kd.C k39 w A0 f0.length f0 from hx.h0) h1 hk0
  rw [List.length_drop] at hd
  have h3 : (l.length : Int) ≤ (f0.length : Int) := by omega
  obtain ⟨L1, hL1⟩ : ∃ L, l ++ f0.drop l.length = L := ⟨_, rfl⟩
  rw [hL1]
  have HL1 := Aside0.mk hL1
  clear hL1
  by_cases hk : k0 = l.length
  · rw [if_pos hk] at hd
    have HD := Aside0.mk hd
    clear hx hl hd
    by_cases h5 : t0 = 5
    · have HG := Aside0.mk (show givesV ⟨f0, f1, ⟨t0, t1⟩, f3, f4, f5, f6⟩ = [] from if_pos h5)
      subst h5
      go_enter Try.func71, Try.ntmps71
      go_wp2_with (first | (go_at_call 49; (refine (concat2_c' (x := l) (y := f0.drop l.length) (A1 := A) (c1 := c) (A2 := A0) (by exact heap_alloc_at _ _ _ (by simp)) rfl List.length_drop (Kd.C_below HL.out (by repeat (first | exact Below.refl _ _ | apply below_alloc))) hc (Kd.C_below HD.out (by repeat (first | exact Below.refl _ _ | apply below_alloc))) (by omega) (by omega) (by omega)).mono ?_); rintro e w1 ⟨v1, rfl, hr1, hb1⟩; rw [HL1.out] at hr1; obtain ⟨Ar1, cr1, rfl, hcr1, hcR1⟩ := hr1.form; clear hcr1 hcR1; obtain ⟨hc1, hf1⟩ := bcell hb1; have hz1 : w.heap.size < w1.heap.size := (by have := hb1.size; (try simp at this); omega); have hz2 : w.heap.size + 1 < w1.heap.size := (by have := hb1.size; (try simp at this); omega); have HR1 := Aside0.mk (hr1.lower (B' := w.heap.size + 1 + 1) (by simp)); have HB1 : Below w.heap.size w w1 := below_mid bel hb1; clear hr1 hb1))
      rw [HG.out]
      exact bodyPost_ret (v := .agg #[.slice Ar1 L1.length cr1, .slice none 0 0]) (by simp [results, Try.results71, go_sem, *]) rfl ⟨.slice Ar1 L1.length cr1, .slice none 0 0, rfl, (RowT.lower (B := w.heap.size + 1 + 1) (by repeat (first | exact HR1.out | refine RowT.below ?_ (below_alloc (Below.refl _ _) _) | refine RowT.set ?_ (Nat.lt_succ_self _) _)) (by omega)), RowT.nil _ _, (by repeat (first | exact Below.refl _ _ | assumption | apply below_alloc | refine Below.setCell ?_ (Nat.le_succ _) _))⟩
    · have HG := Aside0.mk (show givesV ⟨f0, f1, ⟨t0, t1⟩, f3, f4, f5, f6⟩ = [⟨t0, t1⟩] from if_neg h5)
      have d5 : (t0 != 5) = true := by simpa using h5
      clear h5
      go_enter Try.func71, Try.ntmps71
      go_wp2_with (first | (go_at_call 49; (refine (concat2_c' (x := l) (y := f0.drop l.length) (A1 := A) (c1 := c) (A2 := A0) (by exact heap_alloc_at _ _ _ (by simp)) rfl List.length_drop (Kd.C_below HL.out (by repeat (first | exact Below.refl _ _ | apply below_alloc))) hc (Kd.C_below HD.out (by repeat (first | exact Below.refl _ _ | apply below_alloc))) (by omega) (by omega) (by omega)).mono ?_); rintro e w1 ⟨v1, rfl, hr1, hb1⟩; rw [HL1.out] at hr1; obtain ⟨Ar1, cr1, rfl, hcr1, hcR1⟩ := hr1.form; clear hcr1 hcR1; obtain ⟨hc1, hf1⟩ := bcell hb1; have hz1 : w.heap.size < w1.heap.size := (by have := hb1.size; (try simp at this); omega); have hz2 : w.heap.size + 1 < w1.heap.size := (by have := hb1.size; (try simp at this); omega); have HR1 := Aside0.mk (hr1.lower (B' := w.heap.size + 1 + 1) (by simp)); have HB1 : Below w.heap.size w w1 := below_mid bel hb1; clear hr1 hb1))
      rw [HG.out]
      exact bodyPost_ret (v := .agg #[.slice Ar1 L1.length cr1, .slice (some ⟨w1.heap.size + 1, 0, none⟩) 1 1]) (by simp [results, Try.results71, go_sem, *]) rfl ⟨.slice Ar1 L1.length cr1, .slice (some ⟨w1.heap.size + 1, 0, none⟩) 1 1, rfl, (RowT.lower (B := w.heap.size + 1 + 1) (by repeat (first | exact HR1.out | refine RowT.below ?_ (below_alloc (Below.refl _ _) _) | refine RowT.set ?_ (Nat.lt_succ_self _) _)) (by omega)), RowT.blk (xs := [⟨t0, t1⟩]) (heap_alloc_at _ _ _ (by simp)) (by simp) (by omega), (by repeat (first | exact Below.refl _ _ | assumption | apply below_alloc | refine Below.setCell ?_ (Nat.le_succ _) _))⟩
  · rw [if_neg hk] at hd
    have HD := Aside0.mk hd
    clear hx hl hd
    by_cases h5 : t0 = 5
    · have HG := Aside0.mk (show givesV ⟨f0, f1, ⟨t0, t1⟩, f3, f4, f5, f6⟩ = [] from if_pos h5)
      subst h5
      go_enter Try.func71, Try.ntmps71
      go_wp2_with (first | (go_at_call 49; (refine (concat2_c' (x := l) (y := f0.drop l.length) (A1 := A) (c1 := c) (A2 := A0.map (fun x => x.add (l.length * 2))) (by exact heap_alloc_at _ _ _ (by simp)) rfl List.length_drop (Kd.C_below HL.out (by repeat (first | exact Below.refl _ _ | apply below_alloc))) hc (Kd.C_below HD.out (by repeat (first | exact Below.refl _ _ | apply below_alloc))) (by omega) (by omega) (by omega)).mono ?_); rintro e w1 ⟨v1, rfl, hr1, hb1⟩; rw [HL1.out] at hr1; obtain ⟨Ar1, cr1, rfl, hcr1, hcR1⟩ := hr1.form; clear hcr1 hcR1; obtain ⟨hc1, hf1⟩ := bcell hb1; have hz1 : w.heap.size < w1.heap.size := (by have := hb1.size; (try simp at this); omega); have hz2 : w.heap.size + 1 < w1.heap.size := (by have := hb1.size; (try simp at this); omega); have HR1 := Aside0.mk (hr1.lower (B' := w.heap.size + 1 + 1) (by simp)); have HB1 : Below w.heap.size w w1 := below_mid bel hb1; clear hr1 hb1))
      rw [HG.out]
      exact bodyPost_ret (v := .agg #[.slice Ar1 L1.length cr1, .slice none 0 0]) (by simp [results, Try.results71, go_sem, *]) rfl ⟨.slice Ar1 L1.length cr1, .slice none 0 0, rfl, (RowT.lower (B := w.heap.size + 1 + 1) (by repeat (first | exact HR1.out | refine RowT.below ?_ (below_alloc (Below.refl _ _) _) | refine RowT.set ?_ (Nat.lt_succ_self _) _)) (by omega)), RowT.nil _ _, (by repeat (first | exact Below.refl _ _ | assumption | apply below_alloc | refine Below.setCell ?_ (Nat.le_succ _) _))⟩
    · have HG := Aside0.mk (show givesV ⟨f0, f1, ⟨t0, t1⟩, f3, f4, f5, f6⟩ = [⟨t0, t1⟩] from if_neg h5)
      have d5 : (t0 != 5) = true := by simpa using h5
      clear h5
      go_enter Try.func71, Try.ntmps71
      go_wp2_with (first | (go_at_call 49; (refine (concat2_c' (x := l) (y := f0.drop l.length) (A1 := A) (c1 := c) (A2 := A0.map (fun x => x.add (l.length * 2))) (by exact heap_alloc_at _ _ _ (by simp)) rfl List.length_drop (Kd.C_below HL.out (by repeat (first | exact Below.refl _ _ | apply below_alloc))) hc (Kd.C_below HD.out (by repeat (first | exact Below.refl _ _ | apply below_alloc))) (by omega) (by omega) (by omega)).mono ?_); rintro e w1 ⟨v1, rfl, hr1, hb1⟩; rw [HL1.out] at hr1; obtain ⟨Ar1, cr1, rfl, hcr1, hcR1⟩ := hr1.form; clear hcr1 hcR1; obtain ⟨hc1, hf1⟩ := bcell hb1; have hz1 : w.heap.size < w1.heap.size := (by have := hb1.size; (try simp at this); omega); have hz2 : w.heap.size + 1 < w1.heap.size := (by have := hb1.size; (try simp at this); omega); have HR1 := Aside0.mk (hr1.lower (B' := w.heap.size + 1 + 1) (by simp)); have HB1 : Below w.heap.size w w1 := below_mid bel hb1; clear hr1 hb1))
      rw [HG.out]
      exact bodyPost_ret (v := .agg #[.slice Ar1 L1.length cr1, .slice (some ⟨w1.heap.size + 1, 0, none⟩) 1 1]) (by simp [results, Try.results71, go_sem, *]) rfl ⟨.slice Ar1 L1.length cr1, .slice (some ⟨w1.heap.size + 1, 0, none⟩) 1 1, rfl, (RowT.lower (B := w.heap.size + 1 + 1) (by repeat (first | exact HR1.out | refine RowT.below ?_ (below_alloc (Below.refl _ _) _) | refine RowT.set ?_ (Nat.lt_succ_self _) _)) (by omega)), RowT.blk (xs := [⟨t0, t1⟩]) (heap_alloc_at _ _ _ (by simp)) (by simp) (by omega), (by repeat (first | exact Below.refl _ _ | assumption | apply below_alloc | refine Below.setCell ?_ (Nat.le_succ _) _))⟩
end
theorem one_c (w : World) (a b : Int) : Calls Try.prog 67 #[.agg #[.int .i64 a, .int .i64 b]] w fun e w' => ∃ v, e = .returned v ∧ RowT w' w.heap.size v [⟨a, b⟩] ∧ Below w.heap.size w w' := by
  go_enter Try.func67, Try.ntmps67
  go_wp2
  go_ret
  exact ⟨_, rfl, RowT.blk (xs := [⟨a, b⟩]) (heap_k w [.cells #[.int .i64 a, .int .i64 b] 39, .cells #[.int .i64 a, .int .i64 b] 39] 1 (by simp)) (by simp) (by omega), bel⟩
end Go.Proofs.Ytcfbhobpfnlkpaa.Flow
