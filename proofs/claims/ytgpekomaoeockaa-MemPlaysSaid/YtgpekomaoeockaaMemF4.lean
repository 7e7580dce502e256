/- What holds in the loop of Drop. -/
import Derived.Test.YtgpekomaoeockaaMemF2
namespace Go.Proofs.Ytgpekomaoeockaa.MemC
open Go.RowKit Go.Proofs.YtgpekomaoeockaaW.PrintWords Go.Proofs.YtgpekomaoeockaaW.PrintLast Go.Proofs.YtgpekomaoeockaaW.PrintMore Go.Proofs.Ytgpekomaoeockaa.QMemSizes
set_option linter.unusedVariables false
/-- What holds at the head of Drop's loop. -/
structure LI (w w' : World) (base p sb hb g gb cap N1 : Nat) (st : List Int) (n : Nat) (rs : List Reg) (id : Int) (fr sz i : Nat) : Prop where
  box : w'.heap[p]? = some (.cells #[.slice (some ⟨sb, 0, none⟩) st.length st.length, .slice (some ⟨hb, 0, none⟩) n n, .slice (some ⟨g, 0, none⟩) N1 cap] 48 (0, 0))
  stk : w'.heap[sb]? = some (.cells (nums .i32 st).toArray 21 (0, 0))
  hea : ∃ j2, w'.heap[hb]? = some (.cells (nums .i32 (flat rs ++ j2)).toArray 21 (0, 0)) ∧ tot rs + j2.length = n
  lst : ∃ cur, w'.heap[g]? = some (.cells cur 50 (0, 0)) ∧ cur.size = cap * 3 ∧ cur.toList.take (N1 * 3) = cells50 (half rs sz i)
  gon : w'.heap[gb]? = some (.cells #[.int .i64 id, .int .i64 (fr : Int), .int .i64 (sz : Int)] 50 (0, 0))
  bel : Below base w w'
  kep : Kept w w' (fun k => k = p ∨ k = hb ∨ k = g)
theorem cells50_one (l : List S50) : ∀ u ∈ cells50 l, u.oneCell' = true := by
  intro u hu
  obtain ⟨x, _, hx⟩ := List.mem_flatMap.1 hu
  simp only [List.mem_cons, List.not_mem_nil, or_false] at hx
  rcases hx with rfl | rfl | rfl <;> rfl
/-- Behind the copy. -/
structure LI0 (w w' : World) (base p sb hb g gb cap N : Nat) (st : List Int) (n : Nat) (rs : List Reg) (k : Nat) (id : Int) (fr sz : Nat) : Prop where
  box : w'.heap[p]? = some (.cells #[.slice (some ⟨sb, 0, none⟩) st.length st.length, .slice (some ⟨hb, 0, none⟩) n n, .slice (some ⟨g, 0, none⟩) N cap] 48 (0, 0))
  stk : w'.heap[sb]? = some (.cells (nums .i32 st).toArray 21 (0, 0))
  hea : ∃ j2, w'.heap[hb]? = some (.cells (nums .i32 (flat (without rs k) ++ j2)).toArray 21 (0, 0)) ∧ tot (without rs k) + j2.length = n
  lst : ∃ cur, w'.heap[g]? = some (.cells cur 50 (0, 0)) ∧ cur.size = cap * 3 ∧ cur.toList.take (N * 3) = cells50 (lay 0 rs) ∧ N ≤ cap ∧ cap ≤ 9223372036854775807
  gon : w'.heap[gb]? = some (.cells #[.int .i64 id, .int .i64 (fr : Int), .int .i64 (sz : Int)] 50 (0, 0))
  bel : Below base w w'
  kep : Kept w w' (fun k => k = p ∨ k = hb ∨ k = g)

theorem setCells_below {base : Nat} {w w7 : World} (h : Below base w w7) {g o : Nat} (hg : base ≤ g) (cs : List Value) : Below base w (w7.setCells g o cs) := by
  obtain ⟨a1, a2, a3, a4⟩ := setCells_same g cs o w7
  exact h.trans ⟨a1, a2, a3, Nat.le_of_eq a4.symm, fun k hk => setCells_far _ _ k (by omega)⟩
theorem setCells_kept {w w7 : World} {S : Nat → Prop} (h : Kept w w7 S) {g o : Nat} (hg : S g) (cs : List Value) : Kept w (w7.setCells g o cs) S := by
  obtain ⟨a1, a2, a3, a4⟩ := setCells_same g cs o w7
  exact h.then_ (S2 := fun k => k = g) ⟨Nat.le_of_eq a4.symm, fun k _ hk => setCells_far _ _ k hk⟩ (fun k hk => .inl (hk ▸ hg))
theorem LI0.of {w w7 : World} {base p sb hb g gb cap : Nat} {st : List Int} {n : Nat} {rs : List Reg} {k : Nat} {id : Int} {fr sz : Nat} (h : MS w7 base p sb hb st n rs (.slice (some ⟨g, 0, none⟩) rs.length cap)) (hk : k < rs.length)
    (hcur : ∃ cur, w7.heap[g]? = some (.cells cur 50 (0, 0)) ∧ cur.size = cap * 3 ∧ cur.toList.take (rs.length * 3) = cells50 (lay 0 rs) ∧ rs.length ≤ cap ∧ cap ≤ 9223372036854775807) (hgon : w7.heap[gb]? = some (.cells #[.int .i64 id, .int .i64 (fr : Int), .int .i64 (sz : Int)] 50 (0, 0)))
    (hb1 : Below base w w7) (hk1 : Kept w w7 (fun k => k = p ∨ k = hb ∨ k = g)) : LI0 w (w7.setCells hb (tot (rs.take k)) (nums .i32 (flat (rs.drop (k + 1))))) base p sb hb g gb cap rs.length st n rs k id fr sz := by
  have far : ∀ q, q ≠ hb → (w7.setCells hb (tot (rs.take k)) (nums .i32 (flat (rs.drop (k + 1))))).heap[q]? = w7.heap[q]? := fun q hq => setCells_far _ _ q hq
  obtain ⟨cur, c1, c2⟩ := hcur
  obtain ⟨j0, hj0, _⟩ := h.hea
  exact ⟨(far p h.p_ne_h).trans h.box, (far sb h.ne).trans h.stk, h.copied k hk, ⟨cur, (far g (blk_ne c1 hj0 (by decide))).trans c1, c2⟩, (far gb (blk_ne hgon hj0 (by decide))).trans hgon, setCells_below hb1 h.bh _, setCells_kept hk1 (.inr (.inl rfl)) _⟩
theorem LI.of {w w8 w9 : World} {base p sb hb g gb cap : Nat} {st : List Int} {n : Nat} {rs : List Reg} {k : Nat} {id : Int} {fr sz : Nat} (h : LI0 w w8 base p sb hb g gb cap rs.length st n rs k id fr sz) (hk : k < rs.length) (hsz : rs[k].2.length = sz) (hbp : base ≤ p) (hbg : base ≤ g) (hgg : gb ≠ g)
    (h9 : ∃ cur', w9.heap[g]? = some (.cells cur' 50 (0, 0)) ∧ cur'.size = cap * 3 ∧ cur'.toList.take ((rs.length - 1) * 3) = (cells50 (lay 0 rs)).take (k * 3) ++ (cells50 (lay 0 rs)).drop ((k + 1) * 3) ∧ w8.grownBy w9 (some g)) :
    LI w (w9.setCell ⟨p, 2, none⟩ (.slice (some ⟨g, 0, none⟩) (rs.length - 1) cap)) base p sb hb g gb cap (rs.length - 1) st n (without rs k) id fr sz k := by
  obtain ⟨cur, c1, c2, c3, hg⟩ := h9
  obtain ⟨cur0, d1, _⟩ := h.lst
  obtain ⟨j0, hj0, hjn⟩ := h.hea
  have npg : p ≠ g := blk_ne h.box d1 (by decide)
  have b1 := blk_grown h.box hg (fun e => npg (by injection e))
  have b2 := blk_grown h.stk hg (fun e => blk_ne h.stk d1 (by decide) (by injection e))
  have b3 := blk_grown hj0 hg (fun e => blk_ne hj0 d1 (by decide) (by injection e))
  have b4 := blk_grown h.gon hg (fun e => hgg (by injection e))
  refine ⟨(blk_set b1 2 _).trans rfl, blk_far b2 (fun e => blk_ne h.box h.stk (by decide) e.symm) _, ⟨j0, blk_far b3 (fun e => blk_ne h.box hj0 (by decide) e.symm) _, hjn⟩, ⟨cur, blk_far c1 (fun e => npg e.symm) _, c2, ?_⟩, blk_far b4 (fun e => blk_ne h.box h.gon (by decide) e.symm) _, ?_, ?_⟩
  · rw [c3, cells50_take, cells50_drop, ← cells50_append, half_start rs k hk, hsz]
  · exact Below.setCell (h.bel.grown hg (Nat.le_of_lt (Nat.lt_of_le_of_lt hbp (blk_lt h.box))) (fun q e => by injection e with e; omega)) hbp _
  · exact (Kept.of_grown hg h.kep (fun q e => .inl (.inr (.inr (by injection e with e; exact e.symm))))).setCell (.inl (.inl rfl)) _
theorem LI0.box9 {w w8 w9 : World} {base p sb hb g gb cap : Nat} {st : List Int} {n : Nat} {rs : List Reg} {k : Nat} {id : Int} {fr sz N : Nat} {xs : List Value} (h : LI0 w w8 base p sb hb g gb cap N st n rs k id fr sz)
    (h9 : ∃ cur', w9.heap[g]? = some (.cells cur' 50 (0, 0)) ∧ cur'.size = cap * 3 ∧ cur'.toList.take ((rs.length - 1) * 3) = xs ∧ w8.grownBy w9 (some g)) : w9.heap[p]? = some (.cells #[.slice (some ⟨sb, 0, none⟩) st.length st.length, .slice (some ⟨hb, 0, none⟩) n n, .slice (some ⟨g, 0, none⟩) N cap] 48 (0, 0)) := by
  obtain ⟨_, _, _, _, hg⟩ := h9
  obtain ⟨c0, h0, _⟩ := h.lst
  exact blk_grown h.box hg (fun e => blk_ne h.box h0 (by decide) (by injection e))
theorem LI.drew {w w' : World} {base p sb hb g gb cap N1 : Nat} {st : List Int} {n : Nat} {rs : List Reg} {id : Int} {fr sz i : Nat} (h : LI w w' base p sb hb g gb cap N1 st n rs id fr sz i) : LI w w'.drew base p sb hb g gb cap N1 st n rs id fr sz i :=
  ⟨h.box, h.stk, h.hea, h.lst, h.gon, h.bel.drew, h.kep⟩
theorem LI.cell {w w' : World} {base p sb hb g gb cap N1 : Nat} {st : List Int} {n : Nat} {rs : List Reg} {id : Int} {fr sz i : Nat} (h : LI w w' base p sb hb g gb cap N1 st n rs id fr sz i) (hN : rs.length = N1) (hi : i < N1) : w'.cell? ⟨g, i * 3 + 1, none⟩ = some (.int .i64 (((tot (rs.take i) : Nat) : Int) + (sz : Int))) := by
  obtain ⟨cur, c1, c2, c3⟩ := h.lst
  rw [blk_cell c1, ← Array.getElem?_toList]
  have := half_cell rs sz i (by omega)
  rw [← c3, List.getElem?_take, if_pos (by omega)] at this
  exact this
theorem LI.next {w w' : World} {base p sb hb g gb cap N1 : Nat} {st : List Int} {n : Nat} {rs : List Reg} {id : Int} {fr sz i : Nat} (h : LI w w' base p sb hb g gb cap N1 st n rs id fr sz i) (hN : rs.length = N1) (hi : i < N1) (hbg : base ≤ g) (hgg : gb ≠ g) :
    LI w (w'.setCell ⟨g, i * 3 + 1, none⟩ (.int .i64 ((tot (rs.take i) : Nat) : Int))) base p sb hb g gb cap N1 st n rs id fr sz (i + 1) := by
  obtain ⟨cur, c1, c2, c3⟩ := h.lst
  obtain ⟨j0, hj0, hjn⟩ := h.hea
  have npg : p ≠ g := blk_ne h.box c1 (by decide)
  have hlen : cur.toList.length = cap * 3 := by rw [Array.length_toList, c2]
  refine ⟨blk_far h.box npg _, blk_far h.stk (blk_ne h.stk c1 (by decide)) _, ⟨j0, blk_far hj0 (blk_ne hj0 c1 (by decide)) _, hjn⟩, ⟨_, blk_set c1 _ _, by rw [Array.size_setIfInBounds]; exact c2, ?_⟩, blk_far h.gon hgg _, h.bel.setCell hbg _, h.kep.setCell (.inl (.inr (.inr rfl))) _⟩
  rw [Array.toList_setIfInBounds, List.take_set, c3]
  exact half_set rs sz i (by omega)
theorem LI.done {w w' : World} {base p sb hb g gb cap N1 : Nat} {st : List Int} {n : Nat} {rs : List Reg} {id : Int} {fr sz : Nat} (h : LI w w' base p sb hb g gb cap N1 st n rs id fr sz N1) (hN : rs.length = N1) (hbp : base ≤ p) (hbs : base ≤ sb) (hbh : base ≤ hb) (hbg : base ≤ g) (hne : sb ≠ hb) (hn : n ≤ 65536) (hsn : st.length ≤ 65536) (hc : N1 ≤ cap) (hcm : cap ≤ 9223372036854775807) :
    MS w' base p sb hb st n rs (.slice (some ⟨g, 0, none⟩) N1 cap) := by
  obtain ⟨cur, c1, c2, c3⟩ := h.lst
  subst hN
  refine ⟨h.box, h.stk, h.hea, ⟨?_, .inr ⟨g, cap, cur, rfl, hbg, c1, hc, by simpa [maxLen] using hcm, c2, ?_⟩⟩, hbp, hbs, hbh, hne, hn, hsn⟩
  · rw [cells50_length, lay_length]
  · rw [c3, half_end]
end Go.Proofs.Ytgpekomaoeockaa.MemC
