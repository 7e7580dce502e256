/- Part of the proofs about package mem. -/
import Derived.Test.YtgpekomaoeockaaMemJ1
namespace Go.Proofs.Ytgpekomaoeockaa.MemC
open Go.RowKit Go.Proofs.YtgpekomaoeockaaW.PrintWords Go.Proofs.YtgpekomaoeockaaW.PrintLast Go.Proofs.YtgpekomaoeockaaW.PrintMore Go.Proofs.Ytgpekomaoeockaa.QMemSizes
set_option linter.unusedVariables false
def zeroF (s : Nat → Nat) (j : Nat) : List Int := List.replicate (s j) 0
def upTo (i : Nat) : List Int := (List.range i).map fun (j : Nat) => (j : Int)
theorem upTo_succ (i : Nat) : nums .i64 (upTo i) ++ [.int .i64 (i : Int)] = nums .i64 (upTo (i + 1)) := by simp [upTo, nums, List.range_succ]
theorem rsG_take (f : Nat → List Int) (len k : Nat) (h : k ≤ len) : (rsG f len).take k = rsG f k := by
  unfold rsG
  rw [← List.map_take, List.take_range, Nat.min_eq_left h]
theorem rsG_tot_congr (f g : Nat → List Int) (len : Nat) (h : ∀ j, j < len → (f j).length = (g j).length) : tot (rsG f len) = tot (rsG g len) := by
  induction len with
  | zero => rfl
  | succ n ih =>
    rw [rsG_succ, rsG_succ, tot_append, tot_append, tot_cons, tot_cons, ih (fun j hj => h j (by omega))]
    have := h n (by omega)
    dsimp only
    omega
/-- The state while the law runs: the regions f 0 .. f (len - 1), the numbers 0 .. len - 1 in ids. -/
structure LA (w w' : World) (base p sb hb : Nat) (f : Nat → List Int) (len : Nat) (lv v8 : Value) : Prop where
  ms : MS w' base p sb hb (List.replicate 20 0) 3000 (rsG f len) lv
  own : w'.ownsRow base 3 1 v8 len (nums .i64 (upTo len))
  bel : Below base w w'
  bas : base = w.heap.size
theorem LA.below {w w' w2 : World} {base p sb hb : Nat} {f : Nat → List Int} {len : Nat} {lv v8 : Value} (h : LA w w' base p sb hb f len lv v8) (hb' : Below w'.heap.size w' w2) : LA w w2 base p sb hb f len lv v8 :=
  ⟨h.ms.below hb', pw_own_below h.own hb', h.bel.trans (hb'.mono (by have := h.bel.size; rw [h.bas]; exact this)), h.bas⟩
theorem LA.give {w w' : World} {base p sb hb : Nat} {s : Nat → Nat} {len : Nat} {lv v8 : Value} (h : LA w w' base p sb hb (zeroF s) len lv v8) (hl : len < 10) (hs : ∀ j, s j ≤ 255) :
    Calls Try.prog 9 #[.pointer (some ⟨p, 0, none⟩), .int .i64 (s len : Int)] w' fun e w2 => e = .returned (.tuple #[.int .i64 (len : Int), .bool true]) ∧ ∃ lv', MS w2 base p sb hb (List.replicate 20 0) 3000 (rsG (zeroF s) (len + 1)) lv' ∧ w2.ownsRow base 3 1 v8 len (nums .i64 (upTo len)) ∧ Below base w w2 := by
  have ht := rsG_tot (zeroF s) 255 len (fun j => by unfold zeroF; rw [List.length_replicate]; exact hs j)
  have := hs len
  refine (h.ms.give (by rw [rsG_length]; omega) (s len) (by omega) len (by omega) (fun j hj => ⟨j, rsG_at _ _ _ hj⟩) (rsG_free _ _)).mono ?_
  rintro e w2 ⟨rfl, lv', h1, h2, h3, _⟩
  rw [rsG_succ]
  exact ⟨rfl, lv', h1, own3_kept h.ms h.own h3, h.bel.trans h2⟩
theorem LA.region {w w' : World} {base p sb hb : Nat} {f : Nat → List Int} {len : Nat} {lv v8 : Value} (h : LA w w' base p sb hb f len lv v8) (hl : len ≤ 10) (k : Nat) (hk : k < len) :
    Calls Try.prog 11 #[.pointer (some ⟨p, 0, none⟩), .int .i64 (k : Int)] w' fun e w2 => ∃ o c, e = .returned (.slice (some ⟨hb, o, none⟩) c c) ∧ c = (f k).length ∧ (0 < c → o = tot (rsG f k)) ∧ LA w w2 base p sb hb f len lv v8 := by
  obtain ⟨h1, h2, h3⟩ := rsG_at f len k hk
  refine (h.ms.region (by rw [rsG_length]; omega) k k h1 h2 h3).mono ?_
  rintro e w2 ⟨rfl, hb⟩
  rw [rsG_take f len k (by omega), rsG_get]
  unfold regV
  by_cases e0 : (f k).length = 0
  · exact ⟨0, 0, by simp [e0], e0.symm, fun h => absurd h (by omega), h.below hb⟩
  · exact ⟨tot (rsG f k), (f k).length, by simp [e0], rfl, fun _ => rfl, h.below hb⟩
theorem LA.id {w w' : World} {base p sb hb : Nat} {f : Nat → List Int} {len : Nat} {lv v8 : Value} (h : LA w w' base p sb hb f len lv v8) (hl : 0 < len) : ∃ gi cap, v8 = .slice (some ⟨gi, 0, none⟩) len cap := by
  rcases h.own.2 with ⟨_, h0⟩ | ⟨g, cap, cur, hv, _⟩
  · omega
  · exact ⟨g, cap, hv⟩
theorem LA.idAt {w w' : World} {base p sb hb : Nat} {f : Nat → List Int} {len : Nat} {lv : Value} {gi cap : Nat} (h : LA w w' base p sb hb f len lv (.slice (some ⟨gi, 0, none⟩) len cap)) (k : Nat) (hk : k < len) : w'.cell? ⟨gi, k, none⟩ = some (.int .i64 (k : Int)) := by
  have h1 : (nums .i64 (upTo len))[k]? = some (.int .i64 (k : Int)) := by simp [nums, upTo, hk]
  rcases h.own.2 with ⟨hv, _⟩ | ⟨g, cap', cur, hv, _, hh, _, _, _, ht⟩
  · cases hv
  · injection hv with hv _ _
    injection hv with hv
    injection hv with hv
    subst hv
    rw [← ht, List.getElem?_take] at h1
    split at h1
    · rw [blk_cell hh, ← Array.getElem?_toList]
      exact h1
    · cases h1
theorem LA.read {w w' : World} {base p sb hb : Nat} {f : Nat → List Int} {len : Nat} {lv v8 : Value} (h : LA w w' base p sb hb f len lv v8) (k : Nat) (hk : k < len) (q : Nat) (hq : q < (f k).length) :
    w'.cell? ⟨hb, tot (rsG f k) + q, none⟩ = some (.int .i32 (f k)[q]) := by
  have h1 := h.ms.read k (by rw [rsG_length]; exact hk) q (by rw [rsG_get]; exact hq)
  rw [rsG_take f len k (by omega)] at h1
  rw [h1]
  congr 2
  simp only [rsG_get]
theorem LA.write {w w' : World} {base p sb hb : Nat} {s : Nat → Nat} {k q : Nat} {v : Int} {len : Nat} {lv v8 : Value} (h : LA w w' base p sb hb (fillF s k q v) len lv v8) (hk : k < len) (hq : q < s k) :
    LA w (w'.setCell ⟨hb, tot (rsG (zeroF s) k) + q, none⟩ (.int .i32 v)) base p sb hb (fillF s k (q + 1) v) len lv v8 := by
  have hlen := fill_length s k q v (by omega)
  have ht : tot (rsG (fillF s k q v) k) = tot (rsG (zeroF s) k) := rsG_tot_congr _ _ _ (fun j hj => by rw [hlen]; unfold zeroF; rw [List.length_replicate])
  have h1 := h.ms.write k (by rw [rsG_length]; exact hk) q (by rw [rsG_get]; show q < (fillF s k q v k).length; rw [hlen]; exact hq) v
  rw [rsG_take _ len k (by omega), ht, fill_succ s k q v len hq] at h1
  exact ⟨h1, own_setCell h.own (fun e => (own3_ne h.ms h.own).2.1 e.symm) _, h.bel.setCell h.ms.bh _, h.bas⟩
theorem fill_tot (s : Nat → Nat) (k q : Nat) (v : Int) (hq : q ≤ s k) (j : Nat) : tot (rsG (fillF s k q v) j) = tot (rsG (zeroF s) j) :=
  rsG_tot_congr _ _ _ (fun j hj => by rw [fill_length s k q v hq]; unfold zeroF; rw [List.length_replicate])
theorem LA.there {w w' : World} {base p sb hb : Nat} {s : Nat → Nat} {k q : Nat} {v : Int} {len : Nat} {lv v8 : Value} (h : LA w w' base p sb hb (fillF s k q v) len lv v8) (hk : k < len) (hq : q < s k) :
    ∃ x, w'.cell? ⟨hb, tot (rsG (zeroF s) k) + q, none⟩ = some (.int .i32 x) := by
  have := h.read k hk q (by rw [fill_length s k q v (by omega)]; exact hq)
  rw [fill_tot s k q v (by omega)] at this
  exact ⟨_, this⟩
theorem LA.final {w w' : World} {base p sb hb : Nat} {s : Nat → Nat} {k : Nat} {v : Int} {len : Nat} {lv v8 : Value} (h : LA w w' base p sb hb (fillF s k (s k) v) len lv v8) (j : Nat) (hj : j < len) (q : Nat) (hq : q < s j) :
    w'.cell? ⟨hb, tot (rsG (fillF s k (s k) v) j) + q, none⟩ = some (.int .i32 (if j = k then v else 0)) := by
  rw [h.read j hj q (by rw [fill_length s k (s k) v (Nat.le_refl _)]; exact hq), fill_end]
theorem LA.stk {w w' : World} {base p sb hb : Nat} {f : Nat → List Int} {len : Nat} {lv v8 : Value} (h : LA w w' base p sb hb f len lv v8) (q : Nat) (hq : q < 20) : w'.cell? ⟨sb, q, none⟩ = some (.int .i32 0) := by
  rw [blk_cell h.ms.stk, List.getElem?_toArray]
  unfold nums
  rw [List.getElem?_map, List.getElem?_eq_getElem (by rw [List.length_replicate]; exact hq), List.getElem_replicate]
  rfl
theorem C_at8 {w : World} {A : Option Addr} {l : List Int} {k : IntKind} (h : Kd.C (Kd.int k) w A l.length l) (i : Nat) (hi : i < l.length) : ∃ ad, A = some ad ∧ w.cell? (ad.add i) = some (.int k (rd l (i : Int))) := Kd.at_int h (i : Int) (by omega) (by omega)
end Go.Proofs.Ytgpekomaoeockaa.MemC
