/- A law for make that tells the slice's own form. -/
import Derived.Test.YtgpekomaoeockaaMemV
namespace Go.Proofs.Ytgpekomaoeockaa.MemC
open Go.RowKit Go.Proofs.YtgpekomaoeockaaW.PrintWords Go.Proofs.YtgpekomaoeockaaW.PrintLast Go.Proofs.YtgpekomaoeockaaW.PrintMore Go.Proofs.Ytgpekomaoeockaa.QMemSizes
section
variable {P : Program} {ops : Array Oper} {o : Oper} {a : Act} {Q : Exit → Act → World → Prop} {Kc : Act → World → Prop} {α : Type}
/-- make([]T, n), with the slice's own form told. -/
theorem make_ex (d : Kd α) {w0 W : World} (base e : Nat) (hw : Region.wanted o (yielded ops a.tmps) = true) {N : Tmp} (_hd : o.dst = some N) (t : TypeId) (x y : Operand) (ho : o.op = .makeSlice t x y) (n : Int) (hx : a.eval x = .int .i64 n) (hy : a.eval y = .int .i64 n)
    (ht : P.underlying t = some (.slice e)) (z : Value) (bytes : Nat) (hinfo : (P.info? e).map (fun i => (i.zero, i.size, i.bytes)) = some (some z, d.sz, bytes)) (hz : z.cells.size = d.sz) (hs0 : 0 < d.sz) (hb0 : 0 < bytes)
    (z0 : α) {ok okp : Nat → Prop} (hzero : d.M W base okp z0 z.cells.toList) (hok : ∀ k, okp k → ok k) (hfresh : ok W.heap.size) (h0 : 0 ≤ n) (hl : n.toNat * bytes ≤ 281474976710656) (HB : Below base w0 W) (hbase : base ≤ W.heap.size)
    (h : ∀ v1 w1, d.R e w1 base ok v1 (List.replicate n.toNat z0) → Below base w0 w1 → W.grownBy w1 none → (∃ b, v1 = .slice (some ⟨b, 0, none⟩) n.toNat n.toNat) → Kc (a.put o.dst v1) w1) : if Region.wanted o (yielded ops a.tmps) = true then Oper.wp P o a W Kc Q else Kc (a.put o.dst undef) W := by
  obtain ⟨m, rfl⟩ := Int.eq_ofNat_of_zero_le h0
  simp only [Int.toNat_natCast] at hl h
  obtain ⟨i0, hi, hzz⟩ := Option.map_eq_some_iff.1 hinfo
  simp only [Prod.mk.injEq] at hzz
  obtain ⟨hz0, hz1, hz2⟩ := hzz
  have hm : m ≤ 281474976710656 := Nat.le_trans (Nat.le_mul_of_pos_right _ hb0) hl
  have hr := run_make (P := P) W t e i0 z ht hi hz0 .i64 .i64 (m : Int) (m : Int) (by omega) (by omega)
    (by
      have h3 : ((i0.bytes * m : Nat) : Int) ≤ 281474976710656 := by rw [hz2, Nat.mul_comm]; omega
      rwa [Int.natCast_mul] at h3) (by omega)
  simp only [Int.toNat_natCast] at hr
  rw [hz1] at hr
  have hrep : Reps (d.M W base okp) d.sz (List.replicate m z0) (madeCells z.cells (m * d.sz)).toList := Kd.reps_made hz hs0 hzero m
  have hrun : (execOp a.eval o).run P W = .ok (.value (.slice (some ⟨W.heap.size, 0, none⟩) (List.replicate m z0).length (List.replicate m z0).length)) (W.alloc (.cells (madeCells z.cells (m * d.sz)).toList.toArray e)) := by simp [execOp, ho, hx, hy, hr]
  refine event_step hw hrun (h _ _ ⟨fun k hk => ?_, (madeCells z.cells (m * d.sz)).toList, ?_, ?_⟩ (HB.alloc hbase _) (World.grownBy_alloc W _ none) ⟨W.heap.size, by simp⟩)
  · have : W.heap.size = k := by simpa [Value.ownBlock] using hk
    subst this
    exact hfresh
  · have h2 := World.ownsRow_lit (base := base) (e := e) (size := d.sz) W (madeCells z.cells (m * d.sz)).toList.toArray (List.replicate m z0).length hbase (by simp [maxLen]; omega) (by simpa using hrep.1)
    simpa using h2
  · refine hrep.imp_ (fun p c hp => d.M_mono (fun k hk => ⟨hok k hk.1, fun he => ?_⟩) (Kd.M_below (d.M_bound hp) (below_alloc (Below.refl _ _) _)))
    have h3 : k = W.heap.size := by simpa [Value.ownBlock] using he
    have := hk.2.2.1
    omega
end
/-- The form of a slice that was made. -/
def Made (v : Value) (n : Nat) : Prop := ∃ b, v = .slice (some ⟨b, 0, none⟩) n n
theorem made_blk {w : World} {base : Nat} {ok : Nat → Prop} {v : Value} {xs : List Int} (h : Kd.R (Kd.int .i32) 21 w base ok v xs) (hm : Made v xs.length) : ∃ b, v = .slice (some ⟨b, 0, none⟩) xs.length xs.length ∧ base ≤ b ∧ ok b ∧ w.heap[b]? = some (.cells (nums .i32 xs).toArray 21 (0, 0)) := by
  obtain ⟨b, rfl⟩ := hm
  have ho := Kd.own_of_R h
  rcases ho.2 with ⟨he, _⟩ | ⟨g, cap, cur, he, hg, hh, _, _, hs, ht⟩
  · cases he
  · injection he with h1 h2 h3
    injection h1 with h1
    injection h1 with h1
    subst h1
    refine ⟨b, rfl, hg, h.1 b rfl, ?_⟩
    rw [hh]
    have e1 : cur.toList = nums .i32 xs := by
      rw [← List.take_length (l := cur.toList), Array.length_toList, hs, ← h3]
      exact ht
    rw [← e1]
end Go.Proofs.Ytgpekomaoeockaa.MemC
