/- What stands while the appends of the law's last statement come up, in any order. -/
import Derived.Test.YthfkajolockcgaaAddsAV0
namespace Go.Proofs.Ythfkajolockcgaa.Adds
open Go.RowKit Go.Proofs.Ythfkajolockcgaa.QLinAdds Go.Proofs.YthfkajolockcgaaW.PrintWords Go.Proofs.YthfkajolockcgaaW.PrintLast Go.Proofs.YthfkajolockcgaaW.PrintMore Go.Proofs.Ythfkajolockcgaa.Open Go.Proofs.Ythfkajolockcgaa.Lin
set_option linter.unusedVariables false
/-- append(v, ys...), v a row of the call's own, over raw cells. -/
theorem OwnRow.app_rows {P : Program} {α : Type} {R : α → List Value → Prop} {e : TypeId} {size base : Nat} {w : World} {v : Value} {ps ys : List α} (t ty : TypeId) (z : Value) (bytes : Nat) (ht : P.underlying t = some (.slice e))
    (hinfo : (P.info? e).map (fun i => (i.zero, i.size, i.bytes)) = some (some z, size, bytes)) (hz : z.cells.size = size) (hs0 : 0 < size) (A : Option Addr) (m c : Nat)
    (HO : OwnRow R e size w base v ps) (HR : ReadsRow R size w A m ys) (hR1 : ∀ p cs, R p cs → ∀ u ∈ cs, u.oneCell' = true) (hbase : base ≤ w.heap.size) (hl : (ps.length + m) * bytes ≤ 140737488355328) (hm : ps.length + m ≤ 140737488355328) :
    ∃ r W1, (Builtin.append_ #[t, t] ty #[v, .slice A m c]).run P w = .ok r W1 ∧ (OwnRow R e size W1 base r (ps ++ ys) ∧ w.grownBy W1 v.ownBlock ∧ (r.ownBlock = v.ownBlock ∨ r.ownBlock = some w.heap.size)) := by
  obtain ⟨i0, hi, hz0, hz1, hz2⟩ := info_parts hinfo
  obtain ⟨inner, hown, hr⟩ := HO
  have hlen : ys.length = m := HR.1
  rcases A with _ | ad
  · have h0 : m = 0 := by
      rcases Nat.eq_zero_or_pos m with h0 | h0
      · exact h0
      · obtain ⟨ad, h, _⟩ := HR.2.2 h0
        cases h
    subst h0
    obtain rfl : ys = [] := List.eq_nil_of_length_eq_zero hlen
    refine ⟨v, w, ?_, ?_, World.grownBy.refl w _, .inl rfl⟩
    · rcases hown.2 with ⟨rfl, hn⟩ | ⟨g, cap, cur, rfl, _, _, hnc, _⟩
      · simp [Builtin.append_, run_underlying ht, sizeOf, typeInfo, hi, Builtin.lenOf, Builtin.firstCells]
      · simp [Builtin.append_, run_underlying ht, sizeOf, typeInfo, hi, Builtin.lenOf, Builtin.firstCells, hnc, storeCells]
    · rw [List.append_nil]
      exact ⟨inner, hown, hr⟩
  · obtain ⟨news, hnr, hnc⟩ := ReadsRow.inner_ HR
    have hone : ∀ u ∈ news, u.oneCell' = true := by
      intro u hu
      obtain ⟨q, hq, rfl⟩ := List.mem_iff_getElem.1 hu
      have hql : q / size < ys.length := by
        rw [Nat.div_lt_iff_lt_mul hs0]
        rw [← hnr.1]
        exact hq
      have hc := hnr.2 (q / size) _ (List.getElem?_eq_getElem hql)
      refine hR1 _ _ hc _ ?_
      rw [List.mem_iff_getElem?]
      refine ⟨q % size, ?_⟩
      rw [List.getElem?_take, if_pos (Nat.mod_lt _ hs0), List.getElem?_drop, Nat.mul_comm, Nat.div_add_mod, List.getElem?_eq_getElem hq]
    obtain ⟨v1, w1, hrun, h2, hg, _, hat⟩ := run_append_own_at (P := P) w base t ty e i0 z size bytes ht hi hz0 hz1 hz2 hz hs0 v ps.length inner hown ad m c news (by rw [hnr.1, hlen]) hnc hone (by simp only [maxLen]; omega) hl hbase
    refine ⟨v1, w1, hrun, ⟨inner ++ news, ?_, Kd.reps_append hr hnr⟩, hg, hat⟩
    rw [List.length_append, hlen]
    exact h2
/-- What stands while the last region's appends come up, in any order. -/
structure LR (w W : World) (gb gx : Nat) (A2 : Option Addr) (c2 : Nat) (mc : List Int) (mm : Int) (vt vx : Value) (l0 : List S27) (ts X : List Int) (M : Int) (b : Nat → Bool) (v11 v13 v15 v16 v18 v19 : Value) (w' : World) : Prop where
  bel : Below w.heap.size w w'
  siz : W.heap.size ≤ w'.heap.size
  wsz : w.heap.size ≤ W.heap.size
  sx : SB w w' gx vx X M vt
  glt : gx < W.heap.size
  gbb : w'.heap[gb]? = some (.cells #[.slice A2 mc.length c2, .int .i64 mm] 27 (0, 0))
  gbl : gb < W.heap.size
  vlt : ∀ k, vt.ownBlock = some k → k < W.heap.size
  xlt : ∀ k, vx.ownBlock = some k → k < W.heap.size
  ot : b 19 = false → w'.ownsRow w.heap.size 3 1 vt ts.length (nums .i64 ts)
  r11 : b 11 = true → b 13 = false → OwnRow (k27.K w) 27 2 w' W.heap.size v11 []
  r13 : b 13 = true → b 16 = false → OwnRow (k27.K w) 27 2 w' W.heap.size v13 l0
  r15 : b 15 = true → b 16 = false → ∃ g, v15 = .slice (some ⟨g, 0, none⟩) 1 1 ∧ w'.heap[g]? = some (.cells #[.slice A2 mc.length c2, .int .i64 mm] 27 (0, 0)) ∧ (b 11 = true → b 13 = false → v11.ownBlock ≠ some g) ∧ (b 13 = true → v13.ownBlock ≠ some g)
  r16 : b 16 = true → OwnRow (k27.K w) 27 2 w' W.heap.size v16 (l0 ++ [⟨mc, mm⟩])
  r18 : b 18 = true → b 19 = false → ∃ g, v18 = .slice (some ⟨g, 0, none⟩) 1 1 ∧ w'.heap[g]? = some (.cells #[.int .i64 0] 3 (0, 0)) ∧ W.heap.size ≤ g
  r19 : b 19 = true → w'.ownsRow w.heap.size 3 1 v19 (ts.length + 1) (nums .i64 (ts ++ [0]))
section
variable {w W w' w2 : World} {gb gx : Nat} {A2 : Option Addr} {c2 : Nat} {mc : List Int} {mm : Int} {vt vx : Value} {l0 : List S27} {ts X : List Int} {M : Int} {b : Nat → Bool} {v11 v13 v15 v16 v18 v19 : Value}
theorem LR.below (h : LR w W gb gx A2 c2 mc mm vt vx l0 ts X M b v11 v13 v15 v16 v18 v19 w') (hb : Below w'.heap.size w' w2) : LR w W gb gx A2 c2 mc mm vt vx l0 ts X M b v11 v13 v15 v16 v18 v19 w2 :=
  ⟨h.bel.trans (hb.mono h.bel.size), Nat.le_trans h.siz hb.size, h.wsz, h.sx.below hb, h.glt, blk_below h.gbb hb, h.gbl, h.vlt, h.xlt, fun a => pw_own_below (h.ot a) hb, fun a c => (h.r11 a c).below hb, fun a c => (h.r13 a c).below hb,
    fun a c => by
      obtain ⟨g, e, hg, k1, k2⟩ := h.r15 a c
      exact ⟨g, e, blk_below hg hb, k1, k2⟩, fun a => (h.r16 a).below hb,
    fun a c => by
      obtain ⟨g, e, hg, k⟩ := h.r18 a c
      exact ⟨g, e, blk_below hg hb, k⟩, fun a => pw_own_below (h.r19 a) hb⟩
/-- Nothing that it speaks of is listed by operations 21 to 24. -/
theorem LR.upto (h : LR w W gb gx A2 c2 mc mm vt vx l0 ts X M b v11 v13 v15 v16 v18 v19 w') (i : Nat) (hi : 21 ≤ i) : LR w W gb gx A2 c2 mc mm vt vx l0 ts X M (up b i) v11 v13 v15 v16 v18 v19 w' := by
  have e : ∀ j, j ≤ 19 → up b i j = b j := fun j hj => up_ne (by omega)
  exact ⟨h.bel, h.siz, h.wsz, h.sx, h.glt, h.gbb, h.gbl, h.vlt, h.xlt, by rw [e 19 (by omega)]; exact h.ot, by rw [e 11 (by omega), e 13 (by omega)]; exact h.r11, by rw [e 13 (by omega), e 16 (by omega)]; exact h.r13,
    by rw [e 15 (by omega), e 16 (by omega), e 11 (by omega), e 13 (by omega)]; exact h.r15, by rw [e 16 (by omega)]; exact h.r16, by rw [e 18 (by omega), e 19 (by omega)]; exact h.r18, by rw [e 19 (by omega)]; exact h.r19⟩
theorem LR.s11 (h : LR w W gb gx A2 c2 mc mm vt vx l0 ts X M b v11 v13 v15 v16 v18 v19 w') (h13 : b 13 = false) : LR w W gb gx A2 c2 mc mm vt vx l0 ts X M (up b 11) (.slice (some ⟨w'.heap.size, 0, none⟩) 0 0) v13 v15 v16 v18 v19 (w'.alloc (.cells #[] 27)) := by
  have k := h.below (below_alloc (Below.refl _ _) (.cells #[] 27))
  have e : ∀ j, j ≠ 11 → up b 11 j = b j := fun j hj => up_ne hj
  refine ⟨k.bel, k.siz, k.wsz, k.sx, k.glt, k.gbb, k.gbl, k.vlt, k.xlt, by rw [e 19 (by omega)]; exact k.ot, fun _ _ => ?_, by rw [e 13 (by omega), e 16 (by omega)]; exact k.r13, ?_, by rw [e 16 (by omega)]; exact k.r16, by rw [e 18 (by omega), e 19 (by omega)]; exact k.r18, by rw [e 19 (by omega)]; exact k.r19⟩
  · exact OwnRow.lit (R := k27.K w) (e := 27) (size := 2) (ps := []) w' W.heap.size (inner := []) (Reps.none _ _) h.siz (by simp)
  · rw [e 15 (by omega), e 16 (by omega), e 13 (by omega)]
    intro a c
    obtain ⟨g, e1, hg, k1, k2⟩ := h.r15 a c
    refine ⟨g, e1, blk_alloc hg _, fun _ _ => ?_, fun h13' => by rw [h13] at h13'; cases h13'⟩
    have := blk_lt hg
    simp only [Value.ownBlock]
    intro he
    injection he with he
    omega
theorem LR.s15 (h : LR w W gb gx A2 c2 mc mm vt vx l0 ts X M b v11 v13 v15 v16 v18 v19 w') (h16 : b 16 = false) : LR w W gb gx A2 c2 mc mm vt vx l0 ts X M (up b 15) v11 v13 (.slice (some ⟨w'.heap.size, 0, none⟩) 1 1) v16 v18 v19 (w'.alloc (.cells #[.slice A2 mc.length c2, .int .i64 mm] 27)) := by
  have k := h.below (below_alloc (Below.refl _ _) (.cells #[.slice A2 mc.length c2, .int .i64 mm] 27))
  have e : ∀ j, j ≠ 15 → up b 15 j = b j := fun j hj => up_ne hj
  refine ⟨k.bel, k.siz, k.wsz, k.sx, k.glt, k.gbb, k.gbl, k.vlt, k.xlt, by rw [e 19 (by omega)]; exact k.ot, by rw [e 11 (by omega), e 13 (by omega)]; exact k.r11, by rw [e 13 (by omega), e 16 (by omega)]; exact k.r13, ?_, by rw [e 16 (by omega)]; exact k.r16, by rw [e 18 (by omega), e 19 (by omega)]; exact k.r18, by rw [e 19 (by omega)]; exact k.r19⟩
  intro _ _
  rw [e 11 (by omega), e 13 (by omega)]
  refine ⟨w'.heap.size, rfl, heap_alloc_new w' _, fun a c he => ?_, fun a he => ?_⟩
  · obtain ⟨inner, ho, _⟩ := h.r11 a c
    exact Nat.lt_irrefl _ (own_lt ho _ he)
  · obtain ⟨inner, ho, _⟩ := h.r13 a h16
    exact Nat.lt_irrefl _ (own_lt ho _ he)
theorem LR.s18 (h : LR w W gb gx A2 c2 mc mm vt vx l0 ts X M b v11 v13 v15 v16 v18 v19 w') : LR w W gb gx A2 c2 mc mm vt vx l0 ts X M (up b 18) v11 v13 v15 v16 (.slice (some ⟨w'.heap.size, 0, none⟩) 1 1) v19 (w'.alloc (.cells #[.int .i64 0] 3)) := by
  have k := h.below (below_alloc (Below.refl _ _) (.cells #[.int .i64 0] 3))
  have e : ∀ j, j ≠ 18 → up b 18 j = b j := fun j hj => up_ne hj
  exact ⟨k.bel, k.siz, k.wsz, k.sx, k.glt, k.gbb, k.gbl, k.vlt, k.xlt, by rw [e 19 (by omega)]; exact k.ot, by rw [e 11 (by omega), e 13 (by omega)]; exact k.r11, by rw [e 13 (by omega), e 16 (by omega)]; exact k.r13, by rw [e 15 (by omega), e 16 (by omega), e 11 (by omega), e 13 (by omega)]; exact k.r15, by rw [e 16 (by omega)]; exact k.r16, fun _ _ => ⟨w'.heap.size, rfl, heap_alloc_new w' _, h.siz⟩, by rw [e 19 (by omega)]; exact k.r19⟩
theorem box_ne {w : World} {base e size n k : Nat} {v : Value} {xs : List Value} (h : w.ownsRow base e size v n xs) (hk : k < base) : some k ≠ v.ownBlock := fun he => by have := own_base h k he.symm; omega
/-- What an append to a row of 27s (its block behind W) leaves. -/
theorem LR.grow27 (h : LR w W gb gx A2 c2 mc mm vt vx l0 ts X M b v11 v13 v15 v16 v18 v19 w') {v : Value} {n : Nat} {xs : List Value} (ho : w'.ownsRow W.heap.size 27 2 v n xs) (hg : w'.grownBy w2 v.ownBlock) :
    Below w.heap.size w w2 ∧ W.heap.size ≤ w2.heap.size ∧ SB w w2 gx vx X M vt ∧ w2.heap[gb]? = some (.cells #[.slice A2 mc.length c2, .int .i64 mm] 27 (0, 0)) ∧ (b 19 = false → w2.ownsRow w.heap.size 3 1 vt ts.length (nums .i64 ts)) ∧
    (b 18 = true → b 19 = false → ∃ g, v18 = .slice (some ⟨g, 0, none⟩) 1 1 ∧ w2.heap[g]? = some (.cells #[.int .i64 0] 3 (0, 0)) ∧ W.heap.size ≤ g) ∧ (b 19 = true → w2.ownsRow w.heap.size 3 1 v19 (ts.length + 1) (nums .i64 (ts ++ [0]))) := by
  have hs : w.heap.size ≤ w'.heap.size := Nat.le_trans h.wsz h.siz
  refine ⟨h.bel.grown hg hs (fun k e => Nat.le_trans h.wsz (own_base ho k e)), Nat.le_trans h.siz hg.size, ⟨blk_grown h.sx.bx hg (box_ne ho h.glt), h.sx.bg, own_other h.sx.ow hg (own_type_ne h.sx.ow ho (by decide)), h.sx.ne⟩, blk_grown h.gbb hg (box_ne ho h.gbl), fun a => own_other (h.ot a) hg (own_type_ne (h.ot a) ho (by decide)), fun a c => ?_, fun a => own_other (h.r19 a) hg (own_type_ne (h.r19 a) ho (by decide))⟩
  obtain ⟨g, e, hgg, k⟩ := h.r18 a c
  exact ⟨g, e, blk_grown hgg hg (own_ne ho hgg (by decide)), k⟩
theorem k27_one (w : World) : ∀ p cs, k27.K w p cs → ∀ u ∈ cs, u.oneCell' = true := fun _ _ hp => k27.K_one hp
theorem reads_same {α : Type} {R : α → List Value → Prop} {size : Nat} {w w1 : World} {A : Option Addr} {n : Nat} {ps : List α} (h : ReadsRow R size w A n ps) (hb : Below w.heap.size w w1) : ReadsRow R size w1 A n ps := ReadsRow.imp_ h hb (fun _ _ hp => hp)
theorem LR.s13 (h : LR w W gb gx A2 c2 mc mm vt vx l0 ts X M b v11 v13 v15 v16 v18 v19 w') (h11 : b 11 = true) (h13 : b 13 = false) (h16 : b 16 = false) (A0 : Option Addr) (c0 : Nat) (hr0 : Kd.C k27 w A0 l0.length l0) (hl : l0.length ≤ 10) (ty : TypeId) :
    ∃ r W1, (Builtin.append_ #[22, 22] ty #[v11, .slice A0 l0.length c0]).run Try.prog w' = .ok r W1 ∧ LR w W gb gx A2 c2 mc mm vt vx l0 ts X M (up b 13) v11 r v15 v16 v18 v19 W1 := by
  have ho := h.r11 h11 h13
  obtain ⟨r, W1, hrun, hr, hg, hat⟩ := OwnRow.app_rows (P := Try.prog) 22 ty _ _ Try.underlying22 info27 rfl (by decide) A0 l0.length c0 ho (reads_same (show ReadsRow (k27.K w) 2 w A0 l0.length l0 from hr0) h.bel) (k27_one w) h.siz (by simp; omega) (by simp; omega)
  rw [List.nil_append] at hr
  refine ⟨r, W1, hrun, ?_⟩
  obtain ⟨inner, hown, _⟩ := ho
  obtain ⟨q1, q2, q3, qb, q4, q5, q6⟩ := h.grow27 hown hg
  have e : ∀ j, j ≠ 13 → up b 13 j = b j := fun j hj => up_ne hj
  refine ⟨q1, q2, h.wsz, q3, h.glt, qb, h.gbl, h.vlt, h.xlt, by rw [e 19 (by omega)]; exact q4, fun _ h2 => (by rw [up_self] at h2; cases h2), fun _ _ => hr, ?_, by rw [e 16 (by omega), h16]; exact fun a => (by cases a), by rw [e 18 (by omega), e 19 (by omega)]; exact q5, by rw [e 19 (by omega)]; exact q6⟩
  rw [e 15 (by omega), e 16 (by omega)]
  intro a c
  obtain ⟨g, e1, hgg, k1, k2⟩ := h.r15 a c
  have hne := k1 h11 h13
  refine ⟨g, e1, blk_grown hgg hg (fun he => hne he.symm), fun _ h2 => (by rw [up_self] at h2; cases h2), fun _ => ?_⟩
  rcases hat with hat | hat
  · rw [hat]; exact hne
  · rw [hat]
    have := blk_lt hgg
    intro he
    injection he with he
    omega
theorem LR.s16 (h : LR w W gb gx A2 c2 mc mm vt vx l0 ts X M b v11 v13 v15 v16 v18 v19 w') (h13 : b 13 = true) (h15 : b 15 = true) (h16 : b 16 = false) (hr2 : Kd.C (Kd.int .i64) w A2 mc.length mc) (hc2 : mc.length ≤ c2) (hl : l0.length ≤ 10) (ty : TypeId) :
    ∃ r W1, (Builtin.append_ #[22, 22] ty #[v13, v15]).run Try.prog w' = .ok r W1 ∧ LR w W gb gx A2 c2 mc mm vt vx l0 ts X M (up b 16) v11 v13 v15 r v18 v19 W1 := by
  have ho := h.r13 h13 h16
  obtain ⟨g, rfl, hgg, _, k2⟩ := h.r15 h15 h16
  have hrd : ReadsRow (k27.K w) 2 w' (some ⟨g, 0, none⟩) 1 [(⟨mc, mm⟩ : S27)] := by
    refine ⟨rfl, by omega, fun _ => ⟨_, rfl, fun j p hj => ?_⟩⟩
    have hj0 : j = 0 := by have := (List.getElem?_eq_some_iff.1 hj).1; simpa using this
    subst hj0
    obtain rfl : (⟨mc, mm⟩ : S27) = p := by simpa using hj
    refine ⟨[.slice A2 mc.length c2, .int .i64 mm], rfl, ?_, fun i u hu => ?_⟩
    · exact ⟨_, _, rfl, ⟨A2, c2, rfl, hc2, hr2⟩, rfl⟩
    · rw [Nat.zero_mul, Nat.zero_add, add_plain, blk_cell hgg]
      simpa using hu
  obtain ⟨r, W1, hrun, hr, hg, hat⟩ := OwnRow.app_rows (P := Try.prog) 22 ty _ _ Try.underlying22 info27 rfl (by decide) (some ⟨g, 0, none⟩) 1 1 ho hrd (k27_one w) h.siz (by omega) (by omega)
  refine ⟨r, W1, hrun, ?_⟩
  obtain ⟨inner, hown, _⟩ := ho
  obtain ⟨q1, q2, q3, qb, q4, q5, q6⟩ := h.grow27 hown hg
  have e : ∀ j, j ≠ 16 → up b 16 j = b j := fun j hj => up_ne hj
  exact ⟨q1, q2, h.wsz, q3, h.glt, qb, h.gbl, h.vlt, h.xlt, by rw [e 19 (by omega)]; exact q4, by rw [e 13 (by omega), h13]; exact fun _ a => (by cases a), fun _ h2 => (by rw [up_self] at h2; cases h2), fun _ h2 => (by rw [up_self] at h2; cases h2), fun _ => hr, by rw [e 18 (by omega), e 19 (by omega)]; exact q5, by rw [e 19 (by omega)]; exact q6⟩
theorem LR.s19 (h : LR w W gb gx A2 c2 mc mm vt vx l0 ts X M b v11 v13 v15 v16 v18 v19 w') (h18 : b 18 = true) (h19 : b 19 = false) (hl : ts.length ≤ 1000) (ty : TypeId) :
    ∃ r W1, (Builtin.append_ #[23, 23] ty #[vt, v18]).run Try.prog w' = .ok r W1 ∧ LR w W gb gx A2 c2 mc mm vt vx l0 ts X M (up b 19) v11 v13 v15 v16 v18 r W1 := by
  have ho := h.ot h19
  obtain ⟨g, rfl, hgg, _⟩ := h.r18 h18 h19
  obtain ⟨i0, hi, hz0, hz1, hz2⟩ := info_parts info3
  have hcell : ∀ j u, ([Value.int .i64 0])[j]? = some u → w'.cell? ((⟨g, 0, none⟩ : Addr).add j) = some u := fun j u hu => by
    have hj : j = 0 := by have := (List.getElem?_eq_some_iff.1 hu).1; simpa using this
    subst hj
    obtain rfl : Value.int .i64 0 = u := by simpa using hu
    exact (blk_cell hgg 0).trans rfl
  have hs : w.heap.size ≤ w'.heap.size := Nat.le_trans h.wsz h.siz
  obtain ⟨r, W1, h1, h2, h3, _, h5⟩ := run_append_own_at (P := Try.prog) w' w.heap.size 23 ty 3 i0 _ 1 8 Try.underlying23 hi hz0 hz1 hz2 rfl (by decide) vt ts.length (nums .i64 ts) ho ⟨g, 0, none⟩ 1 1 [.int .i64 0] rfl hcell (by simp [Value.oneCell']) (by simp only [maxLen]; omega) (by omega) hs
  refine ⟨r, W1, h1, ?_⟩
  have e : ∀ j, j ≠ 19 → up b 19 j = b j := fun j hj => up_ne hj
  have m27 : ∀ {v : Value} {ps : List S27}, OwnRow (k27.K w) 27 2 w' W.heap.size v ps → OwnRow (k27.K w) 27 2 W1 W.heap.size v ps := fun hr => by
    obtain ⟨inner, hown, hq⟩ := hr
    exact ⟨inner, own_other hown h3 (own_type_ne hown ho (by decide)), hq⟩
  refine ⟨h.bel.grown h3 hs (fun k e => own_base ho k e), Nat.le_trans h.siz h3.size, h.wsz, ⟨blk_grown h.sx.bx h3 (own_ne ho h.sx.bx (by decide)), h.sx.bg, ?_, h.sx.ne⟩, h.glt, blk_grown h.gbb h3 (own_ne ho h.gbb (by decide)), h.gbl, h.vlt, h.xlt, fun a => (by rw [up_self] at a; cases a), by rw [e 11 (by omega), e 13 (by omega)]; exact fun a c => m27 (h.r11 a c), by rw [e 13 (by omega), e 16 (by omega)]; exact fun a c => m27 (h.r13 a c), ?_, by rw [e 16 (by omega)]; exact fun a => m27 (h.r16 a), fun _ a => (by rw [up_self] at a; cases a), fun _ => ?_⟩
  · refine own_move h.sx.ow (fun k e1 => h3.block k (own_lt h.sx.ow k e1) (fun e2 => h.sx.ne k e2.symm e1))
  · rw [e 15 (by omega), e 16 (by omega), e 11 (by omega), e 13 (by omega)]
    intro a c
    obtain ⟨g', e1, hg', k1, k2⟩ := h.r15 a c
    exact ⟨g', e1, blk_grown hg' h3 (own_ne ho hg' (by decide)), k1, k2⟩
  · have e : nums .i64 (ts ++ [0]) = nums .i64 ts ++ [.int .i64 0] := List.map_append
    rw [e]
    exact h2
/-- What the second call of Proves reads. -/
theorem LR.reads (h : LR w W gb gx A2 c2 mc mm vt vx l0 ts X M b v11 v13 v15 v16 v18 v19 w') (h16 : b 16 = true) (h19 : b 19 = true) :
    ∃ A c A' c', v16 = .slice A (l0 ++ [(⟨mc, mm⟩ : S27)]).length c ∧ Kd.C k27 w' A (l0 ++ [(⟨mc, mm⟩ : S27)]).length (l0 ++ [⟨mc, mm⟩]) ∧ (l0 ++ [(⟨mc, mm⟩ : S27)]).length ≤ c ∧ v19 = .slice A' (ts ++ [0]).length c' ∧ Kd.C (Kd.int .i64) w' A' (ts ++ [0]).length (ts ++ [0]) ∧ (ts ++ [0]).length ≤ c' := by
  obtain ⟨A, c, e, hc, hr⟩ := (h.r16 h16).reads
  have ho := h.r19 h19
  have hl : ts.length + 1 = (ts ++ [0]).length := by simp
  rw [hl] at ho
  obtain ⟨A', c', e', hC', hc'⟩ := own_blk ho
  exact ⟨A, c, A', c', e, ⟨hr.1, hr.2.1, fun hn => by
    obtain ⟨ad, ea, hx⟩ := hr.2.2 hn
    refine ⟨ad, ea, fun j p hj => ?_⟩
    obtain ⟨cc, k1, k2, k3⟩ := hx j p hj
    exact ⟨cc, k1, k27.K_below h.bel k2, k3⟩⟩, hc, e', hC', hc'⟩
end
theorem step_append_w {P : Program} {ops : Array Oper} {o : Oper} {a : Act} {Q : Exit → Act → World → Prop} {K : Act → World → Prop} {E : Prop} {W : World} {t : TypeId} {s x : Operand} {v u : Value} {R : Value → World → Prop} (hw : Region.wanted o (yielded ops a.tmps) = true) (ho : o.op = .call { callee := .builtin .append, args := #[s, x], argTypes := #[t, t] }) (hs : a.eval s = v) (hx : a.eval x = u)
    (hr : ∃ r W1, (Builtin.append_ #[t, t] o.type #[v, u]).run P W = .ok r W1 ∧ R r W1) (hK : ∀ r W1, R r W1 → K (a.put o.dst r) W1) : if Region.wanted o (yielded ops a.tmps) = true then Oper.wp P o a W K Q else E := by
  obtain ⟨r, W1, h1, h2⟩ := hr
  rw [if_pos hw]
  unfold Oper.wp
  simp [execOp, ho, resolve, invoke, builtin, hs, hx, h1, Result.andThen]
  exact hK _ _ h2
theorem LR.s14 {w W w' : World} {gb gx : Nat} {A2 : Option Addr} {c2 : Nat} {mc : List Int} {mm : Int} {vt vx : Value} {l0 : List S27} {ts X : List Int} {M : Int} {b : Nat → Bool} {v11 v13 v15 v16 v18 v19 : Value} {i : Nat} (h : LR w W gb gx A2 c2 mc mm vt vx l0 ts X M b v11 v13 v15 v16 v18 v19 w') (hi : i = 14 ∨ i = 20 := by decide) : LR w W gb gx A2 c2 mc mm vt vx l0 ts X M (up b i) v11 v13 v15 v16 v18 v19 w' := by
  have e : ∀ j, j ≠ 14 → j ≠ 20 → up b i j = b j := fun j h1 h2 => up_ne (by omega)
  exact ⟨h.bel, h.siz, h.wsz, h.sx, h.glt, h.gbb, h.gbl, h.vlt, h.xlt, by rw [e 19 (by omega) (by omega)]; exact h.ot, by rw [e 11 (by omega) (by omega), e 13 (by omega) (by omega)]; exact h.r11, by rw [e 13 (by omega) (by omega), e 16 (by omega) (by omega)]; exact h.r13,
    by rw [e 15 (by omega) (by omega), e 16 (by omega) (by omega), e 11 (by omega) (by omega), e 13 (by omega) (by omega)]; exact h.r15, by rw [e 16 (by omega) (by omega)]; exact h.r16, by rw [e 18 (by omega) (by omega), e 19 (by omega) (by omega)]; exact h.r18, by rw [e 19 (by omega) (by omega)]; exact h.r19⟩
theorem lr_start {w W w' : World} {gb gx gy n : Nat} {A2 : Option Addr} {c2 : Nat} {mc : List Int} {mm : Int} {At Ax : Option Addr} {ct cx : Nat} {vu vy : Value} {l0 : List S27} {ts us X : List Int} {M : Int} (h : TW w W gb gx gy A2 mc.length c2 mm (.slice At ts.length ct) vu ts us (.slice Ax n cx) X M vy) (hb : Below W.heap.size W w') :
    LR w W gb gx A2 c2 mc mm (.slice At ts.length ct) (.slice Ax n cx) l0 ts X M (fun _ => false) undef undef undef undef undef undef w' :=
  ⟨h.aw.bel.trans (hb.mono h.aw.bel.size), hb.size, h.aw.bel.size, h.sx.below hb, blk_lt h.sx.bx, blk_below h.aw.bx hb, blk_lt h.aw.bx, fun k e => own_lt h.aw.ot k e, fun k e => own_lt h.sx.ow k e, fun _ => pw_own_below h.aw.ot hb,
    fun a => (by cases a), fun a => (by cases a), fun a => (by cases a), fun a => (by cases a), fun a => (by cases a), fun a => (by cases a)⟩
end Go.Proofs.Ythfkajolockcgaa.Adds
