/- What the laws ask of found types. -/
import Derived.Test.YtcfbhobpfnlkpaaJudgeJYa
namespace Go.Proofs.Ytcfbhobpfnlkpaa.Flow
open Go.RowKit Go.Proofs.Ytcfbhobpfnlkpaa.QJudgeFound Go.Proofs.YtcfbhobpfnlkpaaW.PrintWords Go.Proofs.YtcfbhobpfnlkpaaW.PrintLast Go.Proofs.Ytcfbhobpfnlkpaa.Chain
set_option linter.unusedVariables false
set_option linter.unusedSimpArgs false
theorem loopV_len {m : Im} {f : Int} : ∀ (k : Nat) (sh : List Shp) (td : List Bool) (s : List Shp), (∀ i, (shA sh i).2.length ≤ 8) → loopV m f k sh td = some (some s) → ∀ i, (shA s i).2.length ≤ 8
  | 0, _, _, _, _, h => by unfold loopV at h; cases h
  | k + 1, sh, td, s, hg, h => by
    cases hf : td.findIdx? id with
    | none =>
      have := loopV_end h hf
      injection this with this
      subst this
      exact hg
    | some j =>
      cases ho : oneV m f j sh (td.set j false) with
      | none => have := loopV_no h hf ho; cases this
      | some q =>
        obtain ⟨sh', td'⟩ := q
        exact loopV_len k sh' td' s (oneV_len hg ho) (loopV_go h hf ho)
theorem tyV_len {m : Im} (hq : saneB m = true) {f : Int} (h0 : 0 ≤ f) (h1 : f < (m.m.length : Int)) {s : List Shp} (h : tyV m f = some s) (i : Nat) : (shA s i).2.length ≤ 8 := by
  refine loopV_len _ _ _ s (fun i => ?_) (show loopV m f (fuelV m (codeN m f)) (sh0 (codeN m f)) (td0 (codeN m f)) = some (some s) from by rw [← h]; exact (tyV_spec hq h0 h1).1) i
  rw [sh0_at (n := codeN m f) ((saneP hq).metP (rdM_mem h0 h1)).c0]
  split <;> exact Nat.zero_le _
theorem checkV_len {m : Im} (hq : saneB m = true) : ∀ (k f : Nat), f + k = m.m.length → ∀ l, checkV m k f = some l → ∀ s ∈ l, ∀ i, (shA s i).2.length ≤ 8
  | 0, f, _, l, h => by unfold checkV at h; injection h with h; subst h; intro s hs; cases hs
  | k + 1, f, hfk, l, h => by
    unfold checkV at h
    cases ht : tyV m (f : Int) with
    | none => rw [ht] at h; cases h
    | some s0 =>
      rw [ht] at h
      obtain ⟨l', hl', rfl⟩ := Option.map_eq_some_iff.1 h
      intro s hs
      rcases List.mem_cons.1 hs with rfl | hs
      · exact tyV_len hq (by omega) (by omega) ht
      · exact checkV_len hq k (f + 1) (by omega) l' hl' s hs
theorem check_long {m : Im} (hq : saneB m = true) {l : List (List Shp)} (h : checkV m m.m.length 0 = some l) : ∀ u ∈ unM l, ∀ s ∈ u, s.f1.length ≤ 100000 := by
  intro u hu s hs
  unfold unM at hu
  obtain ⟨t, ht, rfl⟩ := List.mem_map.1 hu
  obtain ⟨p, hp, rfl⟩ := List.mem_map.1 hs
  obtain ⟨i, hi, rfl⟩ := List.mem_iff_getElem.1 hp
  have h8 := checkV_len hq m.m.length 0 (by omega) l h t ht i
  rw [shA_at hi] at h8
  show (t[i]).2.length ≤ 100000
  omega
theorem right_u (a : IA) (m : Im) (AL : Option Addr) (l : List (List Shp)) (w : World) (hm : IC w a m) (hq : saneB m = true) (hC : Kd.C (Kd.slice 44 k44) w AL l.length (unM l)) (hL : ∀ u ∈ unM l, ∀ s ∈ u, s.f1.length ≤ 100000) {p : Bool} (hp : rightB m l = p) :
    Calls Try.prog 10 #[.agg #[.slice a.A0 m.c.length a.c0, .slice a.A1 m.s.length a.c1, .slice a.A2 m.n.length a.c2, .slice a.A3 m.m.length a.c3, .slice a.A4 m.e.length a.c4, .int .i64 m.sk, .int .i64 m.hp], .slice AL l.length l.length] w fun e w' => e = .returned (.bool p) ∧ Below w.heap.size w w' := by
  have e := unM_len l
  have h := right_c a m AL l.length (unM l) w hm hq (by rw [e]; exact hC) (Nat.le_of_eq e) (long_of hL) (p := p) (by rw [mps_unM]; exact hp)
  rw [e] at h
  exact h
theorem over_v (a : IA) (m : Im) (AL : Option Addr) (l : List (List Shp)) (Y : Option Addr) (cy : Nat) (y : List (List S44)) (w : World) (hm : IC w a m) (hC : Kd.C (Kd.slice 44 k44) w AL l.length (unM l)) (hy : Kd.C (Kd.slice 44 k44) w Y y.length y) (hyc : y.length ≤ cy) {p : Bool} (hp : overB m l (mps y) = p) :
    Calls Try.prog 11 #[.agg #[.slice a.A0 m.c.length a.c0, .slice a.A1 m.s.length a.c1, .slice a.A2 m.n.length a.c2, .slice a.A3 m.m.length a.c3, .slice a.A4 m.e.length a.c4, .int .i64 m.sk, .int .i64 m.hp], .slice AL l.length l.length, .slice Y y.length cy] w fun e w' => e = .returned (.bool p) ∧ Below w.heap.size w w' := by
  have e := unM_len l
  have h := over_c a m AL Y l.length cy (unM l) y w hm (by rw [e]; exact hC) (Nat.le_of_eq e) hy hyc (p := p) (by rw [mps_unM]; exact hp)
  rw [e] at h
  exact h
end Go.Proofs.Ytcfbhobpfnlkpaa.Flow
