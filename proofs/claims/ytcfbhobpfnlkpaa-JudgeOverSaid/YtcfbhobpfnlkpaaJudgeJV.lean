/- The typer's rounds: they end, right and least. -/
import Derived.Test.YtcfbhobpfnlkpaaJudgeJU
namespace Go.Proofs.Ytcfbhobpfnlkpaa.Flow
open Go.RowKit Go.Proofs.Ytcfbhobpfnlkpaa.QJudgeFound Go.Proofs.YtcfbhobpfnlkpaaW.PrintWords Go.Proofs.YtcfbhobpfnlkpaaW.PrintLast Go.Proofs.Ytcfbhobpfnlkpaa.Chain
set_option linter.unusedVariables false
set_option linter.unusedSimpArgs false
theorem step_next {m : Im} (hs : SaneP m) {f pc : Int} (h0 : 0 ≤ f) (h1 : f < (m.m.length : Int)) (h2 : 0 ≤ pc) (h3 : pc < ((rd_T52 m.m f).f3.length : Int)) {st : List S39} (he : (stepV m f pc st).1 = 0) :
    ∀ tg ∈ (stepV m f pc st).2.2, 0 ≤ tg ∧ tg < ((rd_T52 m.m f).f3.length : Int) := by
  have hx := hs.metP (rdM_mem h0 h1)
  have hi := rdI_mem h2 h3
  have hb := hx.ib _ hi
  have hn := hx.nm _ hi
  rw [stepV_in h0 h1 h2 h3] at he ⊢
  generalize rd_T52 m.m f = x at *
  generalize rd_T49 x.f3 pc = i at *
  have hk : ¬ (x.f3.length : Int) ∈ nextsV i pc := by
    intro hc
    unfold stepI at he
    rw [if_pos hc] at he
    cases he
  have hnx : (stepI m x i pc st).2.2 = nextsV i pc := by
    unfold stepI at he ⊢
    rw [if_neg hk] at he ⊢
    split
    · rename_i h6
      rw [if_pos h6] at he
      unfold dupV at he ⊢
      split
      · rename_i h7; rw [if_pos h7] at he; cases he
      · rfl
    · rename_i h6
      rw [if_neg h6] at he
      unfold typesV at he ⊢
      split
      · rename_i h7; rw [if_pos h7] at he; cases he
      · rename_i h7
        rw [if_neg h7] at he
        split
        · rfl
        · rename_i h8; rw [if_neg h8] at he; cases he
  rw [hnx]
  intro tg ht
  have hne : tg ≠ (x.f3.length : Int) := fun e => hk (e ▸ ht)
  unfold nextsV at ht
  split at ht
  · rename_i h18
    rw [List.mem_singleton] at ht
    subst ht
    unfold namedB at hn
    rw [h18] at hn
    simp at hn
    omega
  · split at ht
    · rename_i h19
      unfold namedB at hn
      rw [h19] at hn
      simp at hn
      simp at ht
      omega
    · split at ht
      · cases ht
      · rw [List.mem_singleton] at ht
        omega
theorem step_out {m : Im} (hq : saneB m = true) {f pc : Int} (h0 : 0 ≤ f) (h1 : f < (m.m.length : Int)) (h2 : 0 ≤ pc) (h3 : pc < ((rd_T52 m.m f).f3.length : Int)) {st : List S39} (hst : sounds m st) (he : (stepV m f pc st).1 = 0) :
    sounds m (stepV m f pc st).2.1 ∧ (stepV m f pc st).2.1.length ≤ 8 := by
  have hx := (saneP hq).metP (rdM_mem h0 h1)
  have hi := rdI_mem h2 h3
  have hb := hx.ib _ hi
  have ho := of_out m (saneP hq) (saneB_st hq) _ hx _ _ _ hb.1 hb.2.2.1 (hx.nm _ hi)
  rw [stepV_in h0 h1 h2 h3] at he ⊢
  generalize rd_T52 m.m f = x at *
  generalize rd_T49 x.f3 pc = i at *
  unfold stepI at he ⊢
  split
  · exact ⟨sounds_nil, Nat.zero_le _⟩
  · rename_i hc
    rw [if_neg hc] at he
    split
    · unfold dupV
      split
      · exact ⟨sounds_nil, Nat.zero_le _⟩
      · refine ⟨fun t h => ?_, by simp only [List.length_append, List.length_drop]; omega⟩
        rcases List.mem_append.1 h with h | h
        · exact hst t h
        · exact hst t (List.mem_of_mem_drop h)
    · unfold typesV
      split
      · exact ⟨sounds_nil, Nat.zero_le _⟩
      · split
        · refine ⟨fun t h => ?_, by simp only [List.length_append, List.length_take]; omega⟩
          rcases List.mem_append.1 h with h | h
          · exact hst t (List.mem_of_mem_take h)
          · exact ho.2 t h
        · exact ⟨sounds_nil, Nat.zero_le _⟩
theorem step_mono {m : Im} (hq : saneB m = true) {f pc : Int} (h0 : 0 ≤ f) (h1 : f < (m.m.length : Int)) (h2 : 0 ≤ pc) (h3 : pc < ((rd_T52 m.m f).f3.length : Int)) {a b : List S39} (hu : underV m.c a b = true) (he : (stepV m f pc b).1 = 0) :
    (stepV m f pc a).1 = 0 ∧ (stepV m f pc a).2.2 = (stepV m f pc b).2.2 ∧ underV m.c (stepV m f pc a).2.1 (stepV m f pc b).2.1 = true := by
  have hx := (saneP hq).metP (rdM_mem h0 h1)
  have hi := rdI_mem h2 h3
  have hb := hx.ib _ hi
  rw [stepV_in h0 h1 h2 h3] at he ⊢
  rw [stepV_in h0 h1 h2 h3]
  exact stepI_fits (of_out m (saneP hq) (saneB_st hq) _ hx _ _ _ hb.1 hb.2.2.1 (hx.nm _ hi)).2 hu he
def StepOK (m : Im) (f : Int) (sh : List Shp) (i : Nat) : Prop :=
  (stepV m f (i : Int) (shA sh i).2).1 = 0 ∧ ∀ tg ∈ (stepV m f (i : Int) (shA sh i).2).2.2, (shA sh tg.toNat).1 = true ∧ underV m.c (stepV m f (i : Int) (shA sh i).2).2.1 (shA sh tg.toNat).2 = true
def codeN (m : Im) (f : Int) : Nat := (rd_T52 m.m f).f3.length
def RightM (m : Im) (f : Int) (s : List Shp) : Prop := s.length = codeN m f ∧ codeN m f ≠ 0 ∧ (shA s 0).1 = true ∧ (shA s 0).2 = [] ∧ ∀ i, (shA s i).1 = true → StepOK m f s i
def cnt (td : List Bool) : Nat := (td.map (fun b => if b = true then 1 else 0)).sum
def size (m : Im) (sh : List Shp) (td : List Bool) : Nat := mu m sh * (td.length + 1) + cnt td
theorem cnt_max (td : List Bool) : cnt td ≤ td.length := by
  unfold cnt
  induction td with
  | nil => simp
  | cons b td ih =>
    rw [List.map_cons, List.sum_cons, List.length_cons]
    split <;> omega
theorem tdA_at {td : List Bool} {i : Nat} (h : i < td.length) : tdA td i = td[i] := by unfold tdA; simp [List.getD_eq_getElem?_getD, List.getElem?_eq_getElem h]
theorem shA_lt {sh : List Shp} {i : Nat} (h : (shA sh i).1 = true) : i < sh.length := by
  rcases Nat.lt_or_ge i sh.length with h1 | h1
  · exact h1
  · unfold shA at h
    rw [List.getD_eq_getElem?_getD, List.getElem?_eq_none h1] at h
    cases h
theorem cnt_off {td : List Bool} {i : Nat} (h : i < td.length) (h1 : td[i] = true) : cnt (td.set i false) + 1 = cnt td := by
  have := sum_set (fun b => if b = true then 1 else 0) td i false h
  unfold cnt
  rw [h1] at this
  simpa using this
structure InvV (m : Im) (f : Int) (sh : List Shp) (td : List Bool) : Prop where
  good : GoodS m (codeN m f) sh
  tl : td.length = codeN m f
  z1 : (shA sh 0).1 = true
  z2 : (shA sh 0).2 = []
  tds : ∀ i, tdA td i = true → (shA sh i).1 = true
  ok : ∀ i, (shA sh i).1 = true → tdA td i = false → StepOK m f sh i
section
variable {m : Im} {f : Int} (hq : saneB m = true) (h0 : 0 ≤ f) (h1 : f < (m.m.length : Int))
include hq h0 h1
theorem oneV_inv {sh : List Shp} {td : List Bool} {pc : Nat} (hI : InvV m f sh td) (hp : tdA td pc = true) {sh' : List Shp} {td' : List Bool} (h : oneV m f pc sh (td.set pc false) = some (sh', td')) :
    InvV m f sh' td' ∧ LeS m sh sh' ∧ size m sh' td' < size m sh td := by
  have hseen := hI.tds pc hp
  have hpl : pc < codeN m f := by rw [← hI.good.1]; exact shA_lt hseen
  have hptd : pc < td.length := by rw [hI.tl]; exact hpl
  have hst := hI.good.2 pc hseen
  unfold oneV at h
  by_cases he : (stepV m f (pc : Int) (shA sh pc).2).1 ≠ 0
  · rw [if_pos he] at h; cases h
  rw [if_neg he] at h
  have he : (stepV m f (pc : Int) (shA sh pc).2).1 = 0 := Classical.not_not.1 he
  have hpi : ((pc : Nat) : Int) < ((rd_T52 m.m f).f3.length : Int) := by unfold codeN at hpl; omega
  have hout := step_out hq h0 h1 (by omega) hpi hst.1 he
  have hnx := step_next (saneP hq) h0 h1 (by omega) hpi he
  obtain ⟨g1, g2, g3, g4, g5, g6, g7, g8⟩ := toV_spec (n := codeN m f) hout.1 hout.2 _ _ _ _ _ hnx hI.good (by rw [List.length_set]; exact hI.tl) h
  have hle := g3
  refine ⟨⟨g1, g2, (g3 0 hI.z1).1, ?_, fun i h => ?_, fun i hi htd => ?_⟩, g3, ?_⟩
  · have := (g3 0 hI.z1).2
    rw [hI.z2] at this
    have := underV_len this
    exact List.length_eq_zero_iff.1 this.symm
  · rcases g7 i h with h | h
    · rw [tdA_set hptd] at h
      split at h
      · cases h
      · exact (g3 i (hI.tds i h)).1
    · exact h
  · have hsame : shA sh' i = shA sh i := Classical.byContradiction fun hne => by rw [g5 i hne] at htd; cases htd
    have htd1 : tdA (td.set pc false) i = false := by
      cases hb : tdA (td.set pc false) i with
      | false => rfl
      | true => rw [g6 i hb] at htd; cases htd
    by_cases hpi2 : pc = i
    · subst hpi2
      unfold StepOK
      rw [hsame]
      exact ⟨he, fun tg htg => ⟨(g4 tg htg).1, (g4 tg htg).2⟩⟩
    · rw [tdA_set hptd, if_neg hpi2] at htd1
      have hs := hI.ok i (by rw [← hsame]; exact hi) htd1
      unfold StepOK at hs ⊢
      rw [hsame]
      refine ⟨hs.1, fun tg htg => ?_⟩
      have h5 := hs.2 tg htg
      have h6 := g3 tg.toNat h5.1
      exact ⟨h6.1, underV_trans h5.2 h6.2⟩
  · have hc := cnt_off hptd (by rw [← tdA_at hptd]; exact hp)
    unfold size
    rw [g2, hI.tl]
    rcases g8 with ⟨e1, e2⟩ | hlt
    · rw [e1, e2]
      omega
    · have hm := cnt_max td'
      rw [g2] at hm
      have h7 : (mu m sh' + 1) * (codeN m f + 1) ≤ mu m sh * (codeN m f + 1) := Nat.mul_le_mul_right _ hlt
      rw [Nat.add_mul] at h7
      omega
theorem oneV_least {sh : List Shp} {td : List Bool} {pc : Nat} (hI : InvV m f sh td) (hp : tdA td pc = true) {o : List Shp} (ho : RightM m f o) (hl : LeS m sh o) :
    ∃ sh' td', oneV m f pc sh (td.set pc false) = some (sh', td') ∧ LeS m sh' o := by
  have hseen := hI.tds pc hp
  have hpl : pc < codeN m f := by rw [← hI.good.1]; exact shA_lt hseen
  have hst := hI.good.2 pc hseen
  have hpi : ((pc : Nat) : Int) < ((rd_T52 m.m f).f3.length : Int) := by unfold codeN at hpl; omega
  have hu := hl pc hseen
  have hok := ho.2.2.2.2 pc hu.1
  have hm := step_mono hq h0 h1 (by omega) hpi hu.2 hok.1
  have hout := step_out hq h0 h1 (by omega) hpi hst.1 hm.1
  have hnx := step_next (saneP hq) h0 h1 (by omega) hpi hm.1
  unfold oneV
  rw [if_neg (fun h => h hm.1)]
  refine toV_least (n := codeN m f) hout.1 hout.2 _ _ _ hnx hI.good (by rw [List.length_set]; exact hI.tl) hl (fun tg htg => ?_)
  rw [hm.2.1] at htg
  have := hok.2 tg htg
  exact ⟨this.1, underV_trans hm.2.2 this.2⟩
theorem loopV_spec : ∀ (k : Nat) (sh : List Shp) (td : List Bool), InvV m f sh td → size m sh td < k →
    ∃ r, loopV m f k sh td = some r ∧ (∀ s, r = some s → RightM m f s ∧ GoodS m (codeN m f) s) ∧ ∀ o, RightM m f o → LeS m sh o → ∃ s, r = some s ∧ LeS m s o
  | 0, _, _, _, h => absurd h (Nat.not_lt_zero _)
  | k + 1, sh, td, hI, hk => by
    unfold loopV
    cases hf : td.findIdx? id with
    | none =>
      have hall := List.findIdx?_eq_none_iff.1 hf
      have hno : ∀ i, tdA td i = false := by
        intro i
        rcases Nat.lt_or_ge i td.length with h | h
        · rw [tdA_at h]; exact hall _ (List.getElem_mem h)
        · unfold tdA; rw [List.getD_eq_getElem?_getD, List.getElem?_eq_none h]; rfl
      refine ⟨some sh, rfl, fun s hs => ?_, fun o _ hl => ⟨sh, rfl, hl⟩⟩
      injection hs with hs
      subst hs
      have h9 := shA_lt hI.z1
      exact ⟨⟨hI.good.1, by have := hI.good.1; omega, hI.z1, hI.z2, fun i hi => hI.ok i hi (hno i)⟩, hI.good⟩
    | some pc =>
      obtain ⟨hpl, hpt, _⟩ := List.findIdx?_eq_some_iff_getElem.1 hf
      have hp : tdA td pc = true := by rw [tdA_at hpl]; exact hpt
      dsimp only
      cases ho : oneV m f pc sh (td.set pc false) with
      | none =>
        refine ⟨none, rfl, fun s h => by (cases h), fun o hr hl => ?_⟩
        obtain ⟨sh', td', h, _⟩ := oneV_least hq h0 h1 hI hp hr hl
        rw [ho] at h
        cases h
      | some r =>
        obtain ⟨sh', td'⟩ := r
        dsimp only
        obtain ⟨g1, g2, g3⟩ := oneV_inv hq h0 h1 hI hp ho
        obtain ⟨r, e1, e2, e3⟩ := loopV_spec k sh' td' g1 (by omega)
        refine ⟨r, e1, e2, fun o hr hl => ?_⟩
        obtain ⟨sh2, td2, h, h2⟩ := oneV_least hq h0 h1 hI hp hr hl
        rw [ho] at h
        injection h with h
        injection h with h3 h4
        subst h3
        exact e3 o hr h2
end
def sh0 (n : Nat) : List Shp := (List.replicate n (false, [])).set 0 (true, [])
def td0 (n : Nat) : List Bool := (List.replicate n false).set 0 true
def fuelV (m : Im) (n : Nat) : Nat := size m (sh0 n) (td0 n) + 1
def tyV (m : Im) (f : Int) : Option (List Shp) := (loopV m f (fuelV m (codeN m f)) (sh0 (codeN m f)) (td0 (codeN m f))).getD none
theorem sh0_at {n i : Nat} (hn : n ≠ 0) : shA (sh0 n) i = if 0 = i then (true, []) else (false, []) := by
  unfold sh0
  rw [shA_set (by rw [List.length_replicate]; omega)]
  split
  · rfl
  · unfold shA
    rw [List.getD_eq_getElem?_getD, List.getElem?_replicate]
    split <;> rfl
theorem td0_at {n i : Nat} (hn : n ≠ 0) : tdA (td0 n) i = if 0 = i then true else false := by
  unfold td0
  rw [tdA_set (by rw [List.length_replicate]; omega)]
  split
  · rfl
  · unfold tdA
    rw [List.getD_eq_getElem?_getD, List.getElem?_replicate]
    split <;> rfl
theorem inv0 {m : Im} {f : Int} (hn : codeN m f ≠ 0) : InvV m f (sh0 (codeN m f)) (td0 (codeN m f)) := by
  refine ⟨⟨by unfold sh0; rw [List.length_set, List.length_replicate], fun i hi => ?_⟩, by unfold td0; rw [List.length_set, List.length_replicate], by rw [sh0_at hn]; rfl, by rw [sh0_at hn]; rfl, fun i h => ?_, fun i h h2 => ?_⟩
  · rw [sh0_at hn] at hi ⊢
    split at hi
    · rename_i e; rw [if_pos e]; exact ⟨sounds_nil, Nat.zero_le _⟩
    · cases hi
  · rw [td0_at hn] at h
    rw [sh0_at hn]
    split at h
    · rename_i e; rw [if_pos e]
    · cases h
  · rw [sh0_at hn] at h
    rw [td0_at hn] at h2
    split at h
    · rename_i e; rw [if_pos e] at h2; cases h2
    · cases h
theorem tyV_spec {m : Im} {f : Int} (hq : saneB m = true) (h0 : 0 ≤ f) (h1 : f < (m.m.length : Int)) :
    loopV m f (fuelV m (codeN m f)) (sh0 (codeN m f)) (td0 (codeN m f)) = some (tyV m f) ∧ (∀ s, tyV m f = some s → RightM m f s ∧ GoodS m (codeN m f) s) ∧ ∀ o, RightM m f o → ∃ s, tyV m f = some s ∧ LeS m s o := by
  have hn : codeN m f ≠ 0 := ((saneP hq).metP (rdM_mem h0 h1)).c0
  obtain ⟨r, e1, e2, e3⟩ := loopV_spec hq h0 h1 _ _ _ (inv0 hn) (Nat.lt_succ_self _)
  have e : tyV m f = r := by unfold tyV fuelV; rw [e1]; rfl
  rw [e]
  refine ⟨e1, e2, fun o ho => e3 o ho (fun i hi => ?_)⟩
  rw [sh0_at hn] at hi ⊢
  split at hi
  · rename_i e
    subst e
    rw [if_pos rfl]
    refine ⟨ho.2.2.1, ?_⟩
    rw [ho.2.2.2.1]
    rfl
  · cases hi
end Go.Proofs.Ytcfbhobpfnlkpaa.Flow
