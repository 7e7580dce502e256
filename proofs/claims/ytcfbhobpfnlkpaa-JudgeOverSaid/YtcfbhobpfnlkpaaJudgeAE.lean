/- The walk: edges. -/
import Derived.Test.YtcfbhobpfnlkpaaJudgeAW
namespace Go.Proofs.Ytcfbhobpfnlkpaa.Flow
open Go.RowKit Go.Proofs.Ytcfbhobpfnlkpaa.QJudgeFound Go.Proofs.YtcfbhobpfnlkpaaW.PrintWords Go.Proofs.YtcfbhobpfnlkpaaW.PrintLast Go.Proofs.Ytcfbhobpfnlkpaa.Chain
set_option linter.unusedVariables false
set_option linter.unusedSimpArgs false
def x0 : S52 := ⟨[], [], ⟨1, 0⟩, [⟨1, 0, 0⟩, ⟨33, 0, 0⟩], 0, 0, [0, 0]⟩
def m0 : Im := ⟨[], [], [1], [x0], [], 0, 0⟩
def a0 (g : Nat) : IA := ⟨none, none, some ⟨g, 0, none⟩, some ⟨g + 1 + 1 + 1, 0, none⟩, none, 0, 0, 1, 1, 0⟩
theorem C_of_blk {α : Type} {d : Kd α} {w : World} {g : Nat} {t : TypeId} {cs : List Value} {xs : List α} (h : w.heap[g]? = some (.cells cs.toArray t (0, 0))) (hr : Reps (d.K w) d.sz xs cs) (hm : xs.length ≤ 1000) : Kd.C d w (some ⟨g, 0, none⟩) xs.length xs := by
  refine ⟨rfl, by omega, fun _ => ⟨_, rfl, fun j p hj => ?_⟩⟩
  have hjl := (List.getElem?_eq_some_iff.1 hj).1
  refine ⟨(cs.drop (j * d.sz)).take d.sz, ?_, hr.2 j p hj, fun i u hu => ?_⟩
  · have h1 : j * d.sz + d.sz ≤ cs.length := by
      rw [hr.1]
      have : (j + 1) * d.sz ≤ xs.length * d.sz := Nat.mul_le_mul_right _ hjl
      rw [Nat.succ_mul] at this
      exact this
    rw [List.length_take, List.length_drop]
    omega
  · rw [add_plain, blk_cell h]
    rw [List.getElem?_take] at hu
    split at hu
    · rw [List.getElem?_drop] at hu
      show cs.toArray[j * d.sz + i]? = some u
      simpa using hu
    · cases hu
theorem one_r {α : Type} {d : Kd α} {w : World} {x : α} {cs : List Value} (h : d.K w x cs) (hl : cs.length = d.sz) : Reps (d.K w) d.sz [x] cs := by
  have := (Reps.none (d.K w) d.sz).snoc h hl
  simpa using this
theorem two_r {α : Type} {d : Kd α} {w : World} {x y : α} {cs ds : List Value} (h : d.K w x cs) (hl : cs.length = d.sz) (h' : d.K w y ds) (hl' : ds.length = d.sz) : Reps (d.K w) d.sz [x, y] (cs ++ ds) := (one_r h hl).snoc h' hl'
theorem m0_ic {W : World} {g : Nat} {t2 : TypeId} (b0 : W.heap[g]? = some (.cells #[.int .i32 1] t2 (0, 0))) (b1 : W.heap[g + 1]? = some (.cells #[.int .i64 1, .int .i64 0, .int .i64 0, .int .i64 33, .int .i64 0, .int .i64 0] 49 (0, 0))) (b2 : W.heap[g + 1 + 1]? = some (.cells #[.int .i64 0, .int .i64 0] 3 (0, 0)))
    (b3 : W.heap[g + 1 + 1 + 1]? = some (.cells #[.slice none 0 0, .slice none 0 0, .int .i64 1, .int .i64 0, .slice (some ⟨g + 1, 0, none⟩) 2 2, .int .i64 0, .int .i64 0, .slice (some ⟨g + 1 + 1, 0, none⟩) 2 2] 52 (0, 0))) : IC W (a0 g) m0 := by
  have hI : Kd.C (Kd.int .i32) W (some ⟨g, 0, none⟩) 1 [1] := C_of_blk (xs := [(1 : Int)]) b0 (one_r rfl rfl) (by decide)
  have hc : Kd.C k49 W (some ⟨g + 1, 0, none⟩) 2 ([⟨1, 0, 0⟩, ⟨33, 0, 0⟩] : List S49) := C_of_blk (xs := ([⟨1, 0, 0⟩, ⟨33, 0, 0⟩] : List S49)) b1 (two_r (k49_mk W (⟨1, 0, 0⟩ : S49)) rfl (k49_mk W (⟨33, 0, 0⟩ : S49)) rfl) (by decide)
  have hp : Kd.C (Kd.int .i64) W (some ⟨g + 1 + 1, 0, none⟩) 2 [0, 0] := C_of_blk (xs := [(0 : Int), 0]) b2 (two_r (d := Kd.int .i64) (cs := [.int .i64 0]) (ds := [.int .i64 0]) rfl rfl rfl rfl) (by decide)
  have hm : Kd.C k52 W (some ⟨g + 1 + 1 + 1, 0, none⟩) 1 [x0] := C_of_blk (xs := [x0]) b3 (one_r (k52_mk W x0 (Nat.zero_le 0) (C_zero _ _ _) (Nat.zero_le 0) (C_zero _ _ _) (Nat.le_refl 2) hc (Nat.le_refl 2) hp) rfl) (by decide)
  exact ⟨C_zero _ _ _, C_zero _ _ _, hI, hm, C_zero _ _ _, Nat.zero_le _, Nat.zero_le _, Nat.le_refl _, Nat.le_refl _, Nat.zero_le _⟩
theorem m0_sane : saneB m0 = true := by kernel_rfl
theorem m0_met : MetP m0 x0 := (saneP m0_sane).metP (List.mem_singleton.2 rfl)
theorem calls0_c {w : World} {g : Nat} (hm : IC w (a0 g) m0) : Calls Try.prog 27 #[.agg #[.slice none 0 0, .slice none 0 0, .slice (some ⟨g, 0, none⟩) 1 1, .slice (some ⟨g + 1 + 1 + 1, 0, none⟩) 1 1, .slice none 0 0, .int .i64 0, .int .i64 0], .int .i64 0, .int .i64 0] w fun e w' => e = .returned (.bool false) ∧ Below w.heap.size w w' :=
  calls_c hm 0 0 (by decide) (by decide) (by decide) (by decide)
set_option maxHeartbeats 8000000 in
set_option maxRecDepth 100000 in
theorem edges_c {w : World} {g : Nat} (hm : IC w (a0 g) m0) : Calls Try.prog 15 #[.agg #[.slice none 0 0, .slice none 0 0, .slice (some ⟨g, 0, none⟩) 1 1, .slice (some ⟨g + 1 + 1 + 1, 0, none⟩) 1 1, .slice none 0 0, .int .i64 0, .int .i64 0]] w fun e w' => ∃ R c, e = .returned (.slice R 1 c) ∧ Below w.heap.size w w' := by
  have HM := Aside0.mk hm
  clear hm
  go_enter Try.func15, Try.ntmps15
  go_wp2_with fail
  refine see (F := fun w0_ => Below w.heap.size w w0_ ∧ w0_.heap[w.heap.size]? = some (.cells #[.slice none 0 0, .slice none 0 0, .slice (some ⟨g, 0, none⟩) 1 1, .slice (some ⟨g + 1 + 1 + 1, 0, none⟩) 1 1, .slice none 0 0, .int .i64 0, .int .i64 0] 28 (0, 0)) ∧ w0_.ownsRow w.heap.size 26 1 (.slice (some ⟨w.heap.size + 1, 0, none⟩) 0 0) 0 []) _ ⟨bel, blk_alloc (blk_new w _) _, by have := World.ownsRow_lit (base := w.heap.size) (e := 26) (size := 1) (w.alloc (.cells #[.slice none 0 0, .slice none 0 0, .slice (some ⟨g, 0, none⟩) 1 1, .slice (some ⟨g + 1 + 1 + 1, 0, none⟩) 1 1, .slice none 0 0, .int .i64 0, .int .i64 0] 28)) #[] 0 (by simp) (by decide) (by decide); simpa using this⟩ ?_
  rintro w0 ⟨hb0, hx0, hr0⟩
  have HB0 := Aside0.mk hb0
  have HX0 := Aside0.mk hx0
  have HR0 := Aside0.mk hr0
  have i0 := (blk_cell hx0 0).trans rfl
  have i1 := (blk_cell hx0 1).trans rfl
  have i2 := (blk_cell hx0 2).trans rfl
  have i3 := (blk_cell hx0 3).trans rfl
  have i4 := (blk_cell hx0 4).trans rfl
  have i5 := (blk_cell hx0 5).trans rfl
  have i6 := (blk_cell hx0 6).trans rfl
  have hlt : w.heap.size < w0.heap.size := blk_lt hx0
  clear hx0 hr0 hb0
  refine wp_loop_rounds 2 ?_
  rw [rounds_succ]
  go_wp2_with fail
  refine wp_loop_rounds 2 ?_
  rw [rounds_succ]
  go_wp2_with (first | (go_at_call 27; (refine (calls0_c (g := g) (HM.out.below (below_step HB0.out (below_alloc (Below.refl _ _) _)))).mono ?_); rintro e w2 ⟨rfl, hb2⟩; obtain ⟨hc2, hf2⟩ := bcell hb2; have hz2 : w.heap.size < w2.heap.size := lts hb2.size; have HB2 : Below w0.heap.size w0 w2 := below_step (below_alloc (Below.refl _ _) _) hb2; clear hb2))
  rw [rounds_succ]
  go_wp2_with fail
  rw [rounds_succ]
  go_wp2_with fail
  go_ret
  exact ⟨_, _, rfl, below_step HB0.out (below_drew (below_alloc (below_alloc HB2 _) _))⟩
end Go.Proofs.Ytcfbhobpfnlkpaa.Flow
