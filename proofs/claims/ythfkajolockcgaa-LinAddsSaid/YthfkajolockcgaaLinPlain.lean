/- Sums of products that may grow too great: plain lists and numbers; each theorem names its conditions. -/
import Derived.Test.YthfkajolockcgaaWMore
namespace Go.Proofs.Ythfkajolockcgaa.Lin
open Go.RowKit

def Fine (n : Int) : Prop := -4611686018427387904 < n ∧ n < 4611686018427387904
instance (n : Int) : Decidable (Fine n) := inferInstanceAs (Decidable (_ ∧ _))
def tms (a b : Int) : Option Int := if Fine a ∧ Fine b ∧ Fine (a * b) then some (a * b) else none
def pls (s p : Int) : Option Int := if Fine s ∧ Fine p ∧ Fine (s + p) then some (s + p) else none
def stp (acc : Option Int) (c t : Int) : Option Int := acc.bind fun s => (tms c t).bind fun p => pls s p
def dotF : Option Int → List Int → List Int → Option Int
  | acc, c :: cs, t :: ts => dotF (stp acc c t) cs ts
  | acc, _, _ => acc
theorem stp_none (c t : Int) : stp none c t = none := rfl
theorem dotF_none : ∀ (cs ts : List Int), dotF none cs ts = none := by
  intro cs
  induction cs with
  | nil => intro ts; cases ts <;> rfl
  | cons c cs ih =>
    intro ts
    cases ts with
    | nil => rfl
    | cons t ts => exact ih ts
theorem pls_fine {s p r : Int} (h : pls s p = some r) : Fine r ∧ r = s + p := by
  unfold pls at h
  split at h
  · injection h with h; subst h; rename_i h; exact ⟨h.2.2, rfl⟩
  · cases h
theorem tms_fine {a b r : Int} (h : tms a b = some r) : Fine r ∧ r = a * b := by
  unfold tms at h
  split at h
  · injection h with h; subst h; rename_i h; exact ⟨h.2.2, rfl⟩
  · cases h
theorem stp_some {a : Option Int} {c t r : Int} (h : stp a c t = some r) : ∃ s, a = some s ∧ r = s + c * t ∧ Fine r := by
  unfold stp at h
  rw [Option.bind_eq_some_iff] at h
  obtain ⟨s, rfl, h⟩ := h
  rw [Option.bind_eq_some_iff] at h
  obtain ⟨p, hp, h⟩ := h
  obtain ⟨h1, rfl⟩ := pls_fine h
  obtain ⟨_, rfl⟩ := tms_fine hp
  exact ⟨s, rfl, rfl, h1⟩
theorem natAbs_fine {a b : Int} : Fine (a * b) ↔ a.natAbs * b.natAbs < 4611686018427387904 := by
  rw [← Int.natAbs_mul]; unfold Fine; omega

theorem fine_prod (a b : Int) : Fine (a * b) ↔ (a.natAbs : Int) * (b.natAbs : Int) < 4611686018427387904 := by
  rw [natAbs_fine, ← Int.natCast_mul]; omega

/-! a number that may have grown too great, as the program keeps it -/
def sv (p : Int × Bool) : Option Int := if p.2 = true then some p.1 else none
def GoodP (p : Int × Bool) : Prop := p.2 = true → Fine p.1

/-! high and low words of a product -/
def hi64 (x y : Int) : Int := (x * y) / 18446744073709551616
theorem mask_low (x : Int) (h0 : 0 ≤ x) (h1 : x < 18446744073709551616) : Go.bits .and .u64 x 4294967295 = x % 4294967296 := by
  simp only [Go.bits]
  rw [IntKind.wrap_u64]
  have h : ((BitVec.ofInt IntKind.u64.bits x &&& BitVec.ofInt IntKind.u64.bits 4294967295).toNat) = x.toNat % 4294967296 := by
    rw [BitVec.toNat_and]
    have e1 : (BitVec.ofInt IntKind.u64.bits x).toNat = x.toNat := by
      show (BitVec.ofInt 64 x).toNat = _
      rw [BitVec.toNat_ofInt]; omega
    have e2 : (BitVec.ofInt IntKind.u64.bits 4294967295).toNat = 2 ^ 32 - 1 := by decide
    rw [e1, e2, Nat.and_two_pow_sub_one_eq_mod]
  show ((BitVec.ofInt IntKind.u64.bits x &&& BitVec.ofInt IntKind.u64.bits 4294967295).toNat : Int) % _ = _
  rw [h]; omega
theorem mul_words (x y : Int) (hx0 : 0 ≤ x) (hx : x < 4611686018427387904) (hy0 : 0 ≤ y) (hy : y < 4611686018427387904) :
    ∃ hi lo : Int, IntKind.u64.wrap ((IntKind.u64.wrap ((IntKind.u64.wrap ((x / 4294967296) * (y / 4294967296))) + ((IntKind.u64.wrap ((IntKind.u64.wrap ((x / 4294967296) * (Go.bits .and .u64 y 4294967295))) + ((IntKind.u64.wrap ((Go.bits .and .u64 x 4294967295) * (Go.bits .and .u64 y 4294967295))) / 4294967296))) / 4294967296))) + ((IntKind.u64.wrap ((Go.bits .and .u64 (IntKind.u64.wrap ((IntKind.u64.wrap ((x / 4294967296) * (Go.bits .and .u64 y 4294967295))) + ((IntKind.u64.wrap ((Go.bits .and .u64 x 4294967295) * (Go.bits .and .u64 y 4294967295))) / 4294967296))) 4294967295) + (IntKind.u64.wrap ((Go.bits .and .u64 x 4294967295) * (y / 4294967296))))) / 4294967296)) = hi ∧
      IntKind.u64.wrap (x * y) = lo ∧ x * y = hi * 18446744073709551616 + lo ∧ 0 ≤ lo ∧ lo < 18446744073709551616 ∧ 0 ≤ hi := by
  have hxy0 : 0 ≤ x * y := Int.mul_nonneg hx0 hy0
  rw [mask_low x hx0 (by omega), mask_low y hy0 (by omega)]
  generalize hx1 : x / 4294967296 = x1
  generalize hxx0 : x % 4294967296 = x0
  generalize hy1 : y / 4294967296 = y1
  generalize hyy0 : y % 4294967296 = y0
  have ex : x = x1 * 4294967296 + x0 := by omega
  have ey : y = y1 * 4294967296 + y0 := by omega
  have b1 : 0 ≤ x1 ∧ x1 ≤ 1073741823 := by omega
  have b2 : 0 ≤ x0 ∧ x0 ≤ 4294967295 := by omega
  have b3 : 0 ≤ y1 ∧ y1 ≤ 1073741823 := by omega
  have b4 : 0 ≤ y0 ∧ y0 ≤ 4294967295 := by omega
  have mb : ∀ {a b A B : Int}, 0 ≤ a ∧ a ≤ A → 0 ≤ b ∧ b ≤ B → 0 ≤ a * b ∧ a * b ≤ A * B := fun h1 h2 => ⟨Int.mul_nonneg h1.1 h2.1, Int.mul_le_mul h1.2 h2.2 h2.1 (by omega)⟩
  have p11 := mb b1 b3
  have p10 := mb b1 b4
  have p01 := mb b2 b3
  have p00 := mb b2 b4
  have eq : x * y = x1 * y1 * 18446744073709551616 + (x1 * y0 + x0 * y1) * 4294967296 + x0 * y0 := by
    rw [ex, ey]
    rw [Int.add_mul, Int.mul_add, Int.mul_add]
    have e1 : x1 * 4294967296 * (y1 * 4294967296) = x1 * y1 * 18446744073709551616 := by
      rw [Int.mul_assoc, Int.mul_left_comm 4294967296 y1, ← Int.mul_assoc, ← Int.mul_assoc, Int.mul_assoc (x1 * y1)]; rfl
    have e2 : x1 * 4294967296 * y0 = x1 * y0 * 4294967296 := by rw [Int.mul_right_comm]
    have e3 : x0 * (y1 * 4294967296) = x0 * y1 * 4294967296 := by rw [Int.mul_assoc]
    rw [e1, e2, e3]; omega
  rw [eq]
  generalize x1 * y1 = P at *
  generalize x1 * y0 = Q at *
  generalize x0 * y1 = R at *
  generalize x0 * y0 = S at *
  have hS : IntKind.u64.wrap S = S := IntWalk.u64_in _ (by omega)
  have hQ : IntKind.u64.wrap Q = Q := IntWalk.u64_in _ (by omega)
  have hR : IntKind.u64.wrap R = R := IntWalk.u64_in _ (by omega)
  have hP : IntKind.u64.wrap P = P := IntWalk.u64_in _ (by omega)
  rw [hS, hQ, hR, hP]
  clear hS hQ hR hP
  rw [IntWalk.u64_in (Q + S / 4294967296) (by omega), mask_low (Q + S / 4294967296) (by omega) (by omega), IntWalk.u64_in ((Q + S / 4294967296) % 4294967296 + R) (by omega),
    IntWalk.u64_in (P + (Q + S / 4294967296) / 4294967296) (by omega), IntWalk.u64_in (P + (Q + S / 4294967296) / 4294967296 + ((Q + S / 4294967296) % 4294967296 + R) / 4294967296) (by omega), IntKind.wrap_u64]
  refine ⟨_, _, rfl, rfl, ?_, ?_, ?_, ?_⟩ <;> omega

/-! rows put together -/
def rowStp (A : List (Option Int)) (cs : List Int) (t : Int) : List (Option Int) := List.zipWith (fun a c => stp a c t) A cs
def sumR (vars : Nat) : List (List Int × Int) → List Int → List (Option Int) → Option Int → Option (List (Option Int) × Option Int)
  | r :: rs, t :: ts, A, m => if t < 0 ∨ r.1.length ≠ vars then none else sumR vars rs ts (rowStp A r.1 t) (stp m r.2 t)
  | _, _, A, m => some (A, m)
theorem rowStp_len {A : List (Option Int)} {cs : List Int} {t : Int} (h : A.length = cs.length) : (rowStp A cs t).length = A.length := by unfold rowStp; simp [h]
theorem rowStp_get {A : List (Option Int)} {cs : List Int} {t : Int} {v : Nat} (h : v < A.length) (h2 : v < cs.length) : (rowStp A cs t)[v]'(by unfold rowStp; simp; omega) = stp A[v] cs[v] t := by unfold rowStp; simp
/-- each column by itself -/
theorem sumR_some {vars : Nat} : ∀ (rs : List (List Int × Int)) (ts : List Int) (A : List (Option Int)) (m : Option Int) (A' : List (Option Int)) (m' : Option Int), A.length = vars → rs.length = ts.length → sumR vars rs ts A m = some (A', m') →
    A'.length = vars ∧ m' = dotF m (rs.map (·.2)) ts ∧ (∀ v, v < vars → A'[v]? = some (dotF (A[v]?.getD none) (rs.map (fun r => r.1.getD v 0)) ts)) ∧ (∀ r ∈ rs, r.1.length = vars) ∧ ∀ t ∈ ts, 0 ≤ t := by
  intro rs
  induction rs with
  | nil =>
    intro ts A m A' m' hA hl h
    cases ts with
    | nil =>
      simp only [sumR, Option.some.injEq, Prod.mk.injEq] at h
      obtain ⟨rfl, rfl⟩ := h
      refine ⟨hA, rfl, fun v hv => ?_, by simp, by simp⟩
      simp only [List.map_nil, dotF]
      rw [List.getElem?_eq_getElem (by omega)]; rfl
    | cons t ts => simp at hl
  | cons r rs ih =>
    intro ts A m A' m' hA hl h
    cases ts with
    | nil => simp at hl
    | cons t ts =>
      simp only [sumR] at h
      by_cases hc : t < 0 ∨ r.1.length ≠ vars
      · rw [if_pos hc] at h; cases h
      · rw [if_neg hc] at h
        have hr : r.1.length = vars := by omega
        obtain ⟨h1, h2, h3, h4, h5⟩ := ih ts _ _ A' m' ((rowStp_len (by omega)).trans hA) (by simpa using hl) h
        refine ⟨h1, h2, fun v hv => ?_, ?_, ?_⟩
        · rw [h3 v hv]
          have e1 : (rowStp A r.1 t)[v]?.getD none = stp (A[v]?.getD none) (r.1.getD v 0) t := by
            rw [List.getElem?_eq_getElem (by rw [rowStp_len (by omega)]; omega), List.getElem?_eq_getElem (show v < A.length by omega)]
            simp only [Option.getD_some]
            rw [rowStp_get (by omega) (by omega)]
            simp [List.getD_eq_getElem?_getD, List.getElem?_eq_getElem (show v < r.1.length by omega)]
          rw [e1]; rfl
        · intro x hx
          rcases List.mem_cons.1 hx with rfl | hx
          · exact hr
          · exact h4 x hx
        · intro x hx
          rcases List.mem_cons.1 hx with rfl | hx
          · omega
          · exact h5 x hx
theorem sumR_none {vars : Nat} : ∀ (rs : List (List Int × Int)) (ts : List Int) (A : List (Option Int)) (m : Option Int), rs.length = ts.length → sumR vars rs ts A m = none → ∃ i : Nat, i < rs.length ∧ (ts.getD i 0 < 0 ∨ (rs.getD i ([], 0)).1.length ≠ vars) ∧ ∀ j, j < i → ¬ (ts.getD j 0 < 0 ∨ (rs.getD j ([], 0)).1.length ≠ vars) := by
  intro rs
  induction rs with
  | nil => intro ts A m hl h; cases ts <;> simp [sumR] at h
  | cons r rs ih =>
    intro ts A m hl h
    cases ts with
    | nil => simp at hl
    | cons t ts =>
      simp only [sumR] at h
      by_cases hc : t < 0 ∨ r.1.length ≠ vars
      · exact ⟨0, by simp, by simpa using hc, fun j hj => by omega⟩
      · rw [if_neg hc] at h
        obtain ⟨i, h1, h2, h3⟩ := ih ts _ _ (by simpa using hl) h
        refine ⟨i + 1, by simp; omega, by simpa using h2, fun j hj => ?_⟩
        cases j with
        | zero => simpa using hc
        | succ j => simpa using h3 j (by omega)
/-- the whole: the sum, if it is one -/
def getAll : List (Option Int) → Option (List Int)
  | [] => some []
  | some x :: r => (getAll r).map (x :: ·)
  | none :: _ => none
def sumSpec (rs : List (List Int × Int)) (ts : List Int) (vars : Int) : Option (List Int × Int) :=
  if rs.length = ts.length ∧ 0 ≤ vars ∧ vars ≤ 64 then
    (sumR vars.toNat rs ts (List.replicate vars.toNat (some 0)) (some 0)).bind fun x => (getAll x.1).bind fun c => x.2.map fun m => (c, m)
  else none
theorem getAll_some : ∀ {A : List (Option Int)} {c : List Int}, getAll A = some c → A = c.map some := by
  intro A
  induction A with
  | nil => intro c h; simp [getAll] at h; subst h; rfl
  | cons a A ih =>
    intro c h
    cases a with
    | none => simp [getAll] at h
    | some x =>
      simp only [getAll, Option.map_eq_some_iff] at h
      obtain ⟨c', h1, rfl⟩ := h
      rw [ih h1]; rfl
theorem getAll_none : ∀ {A : List (Option Int)}, getAll A = none → ∃ i : Nat, A[i]? = some none ∧ ∀ j, j < i → ∃ x, A[j]? = some (some x) := by
  intro A
  induction A with
  | nil => intro h; simp [getAll] at h
  | cons a A ih =>
    intro h
    cases a with
    | none => exact ⟨0, rfl, fun j hj => by omega⟩
    | some x =>
      simp only [getAll, Option.map_eq_none_iff] at h
      obtain ⟨i, h1, h2⟩ := ih h
      refine ⟨i + 1, h1, fun j hj => ?_⟩
      cases j with
      | zero => exact ⟨x, rfl⟩
      | succ j => exact h2 j (by omega)

/-! exact sums -/
def prodSum : List Int → List Int → Int
  | c :: cs, t :: ts => c * t + prodSum cs ts
  | _, _ => 0
theorem dotF_exact : ∀ (cs ts : List Int) (s r : Int), dotF (some s) cs ts = some r → r = s + prodSum cs ts := by
  intro cs
  induction cs with
  | nil => intro ts s r h; cases ts <;> (simp only [dotF, Option.some.injEq] at h; simp [prodSum, h])
  | cons c cs ih =>
    intro ts s r h
    cases ts with
    | nil => simp only [dotF, Option.some.injEq] at h; simp [prodSum, h]
    | cons t ts =>
      simp only [dotF] at h
      cases hs : stp (some s) c t with
      | none => rw [hs, dotF_none] at h; cases h
      | some q =>
        rw [hs] at h
        obtain ⟨s', h1, h2, _⟩ := stp_some hs
        injection h1 with h1
        subst h1
        have := ih ts q r h
        simp only [prodSum]
        omega
theorem dotF_small {A T : Int} (hA : 0 ≤ A ∧ A < 4611686018427387904) (hT : 0 ≤ T ∧ T < 4611686018427387904) : ∀ (cs ts : List Int) (s : Int), (∀ c ∈ cs, -A ≤ c ∧ c ≤ A) → (∀ t ∈ ts, -T ≤ t ∧ t ≤ T) → s.natAbs + cs.length * (A * T).toNat < 4611686018427387904 →
    dotF (some s) cs ts = some (s + prodSum cs ts) := by
  intro cs
  induction cs with
  | nil => intro ts s _ _ _; cases ts <;> simp [dotF, prodSum]
  | cons c cs ih =>
    intro ts s hc ht hb
    cases ts with
    | nil => simp [dotF, prodSum]
    | cons t ts =>
      have c1 := hc c List.mem_cons_self
      have t1 := ht t List.mem_cons_self
      have hp : (c * t).natAbs ≤ (A * T).toNat := by
        rw [Int.natAbs_mul]
        have e : (A * T).toNat = A.toNat * T.toNat := Int.toNat_mul hA.1 hT.1
        rw [e]
        exact Nat.mul_le_mul (by omega) (by omega)
      have hl : (c :: cs).length * (A * T).toNat = cs.length * (A * T).toNat + (A * T).toNat := by rw [List.length_cons, Nat.succ_mul]
      have f1 : Fine c := by unfold Fine; omega
      have f2 : Fine t := by unfold Fine; omega
      have f3 : Fine (c * t) := by unfold Fine; omega
      have f4 : Fine s := by unfold Fine; omega
      have f5 : Fine (s + c * t) := by unfold Fine; omega
      have hs : stp (some s) c t = some (s + c * t) := by
        unfold stp tms pls
        rw [if_pos ⟨f1, f2, f3⟩]
        simp only [Option.bind_some]
        rw [if_pos ⟨f4, f3, f5⟩]
      simp only [dotF]
      rw [hs, ih ts (s + c * t) (fun x hx => hc x (List.mem_cons_of_mem _ hx)) (fun x hx => ht x (List.mem_cons_of_mem _ hx)) (by omega)]
      simp only [prodSum]
      congr 1; omega
def sumN : Nat → (Nat → Int) → Int
  | 0, _ => 0
  | n + 1, f => sumN n f + f n
theorem sumN_congr {n : Nat} {f g : Nat → Int} (h : ∀ i, i < n → f i = g i) : sumN n f = sumN n g := by
  induction n with
  | zero => rfl
  | succ n ih => simp only [sumN]; rw [ih (fun i hi => h i (by omega)), h n (by omega)]
theorem sumN_add {n : Nat} {f g : Nat → Int} : sumN n (fun i => f i + g i) = sumN n f + sumN n g := by
  induction n with
  | zero => rfl
  | succ n ih => simp only [sumN]; rw [ih]; omega
theorem sumN_zero {n : Nat} : sumN n (fun _ => 0) = 0 := by
  induction n with
  | zero => rfl
  | succ n ih => simp only [sumN]; rw [ih]; rfl
theorem sumN_comm {n m : Nat} {f : Nat → Nat → Int} : sumN n (fun v => sumN m (fun i => f v i)) = sumN m (fun i => sumN n (fun v => f v i)) := by
  induction n with
  | zero => simp only [sumN]; exact sumN_zero.symm
  | succ n ih => simp only [sumN]; rw [ih, ← sumN_add]
theorem sumN_mul {n : Nat} {f : Nat → Int} {a : Int} : sumN n f * a = sumN n (fun i => f i * a) := by
  induction n with
  | zero => simp [sumN]
  | succ n ih => simp only [sumN]; rw [Int.add_mul, ih]
theorem sumN_le {n : Nat} {f g : Nat → Int} (h : ∀ i, i < n → f i ≤ g i) : sumN n f ≤ sumN n g := by
  induction n with
  | zero => exact Int.le_refl _
  | succ n ih => simp only [sumN]; have := ih (fun i hi => h i (by omega)); have := h n (by omega); omega
theorem sumN_shift {n : Nat} {f : Nat → Int} : sumN (n + 1) f = f 0 + sumN n (fun i => f (i + 1)) := by
  induction n with
  | zero => simp [sumN]
  | succ n ih => rw [sumN, ih]; simp only [sumN]; omega
theorem prodSum_sumN : ∀ (cs ts : List Int), cs.length = ts.length → prodSum cs ts = sumN cs.length (fun v => cs.getD v 0 * ts.getD v 0) := by
  intro cs
  induction cs with
  | nil => intro ts _; cases ts <;> rfl
  | cons c cs ih =>
    intro ts h
    cases ts with
    | nil => simp at h
    | cons t ts =>
      simp only [prodSum, List.length_cons]
      rw [sumN_shift, ih ts (by simpa using h)]
      simp
theorem sumN_bound {n : Nat} {f : Nat → Int} {B : Int} (h : ∀ i, i < n → -B ≤ f i ∧ f i ≤ B) : -(n * B) ≤ sumN n f ∧ sumN n f ≤ n * B := by
  induction n with
  | zero => simp [sumN]
  | succ n ih =>
    have h1 := ih (fun i hi => h i (by omega))
    have h2 := h n (by omega)
    have e : ((n + 1 : Nat) : Int) * B = n * B + B := by rw [Int.natCast_succ, Int.add_mul, Int.one_mul]
    simp only [sumN]
    rw [e]
    omega
/-- What rows prove holds where the rows hold. -/
theorem sound {rs : List (List Int × Int)} {ts x want : List Int} {m mo : Int} (hn : rs.length ≤ 20) (hx : x.length ≤ 20) (hl : rs.length = ts.length)
    (hrow : ∀ r ∈ rs, r.1.length = x.length ∧ (∀ c ∈ r.1, -1048576 ≤ c ∧ c ≤ 1048576) ∧ ∃ s, dotF (some 0) r.1 x = some s ∧ s ≤ r.2) (ht : ∀ t ∈ ts, 0 ≤ t ∧ t ≤ 255) (hxb : ∀ a ∈ x, -32768 ≤ a ∧ a ≤ 32767)
    (hs : sumSpec rs ts (x.length : Int) = some (want, m)) (hm : m ≤ mo) : want.length = x.length ∧ ∃ s, dotF (some 0) want x = some s ∧ s ≤ mo := by
  unfold sumSpec at hs
  split at hs
  rotate_left
  · cases hs
  rw [Option.bind_eq_some_iff] at hs
  obtain ⟨⟨A, m'⟩, h1, h2⟩ := hs
  rw [Option.bind_eq_some_iff] at h2
  obtain ⟨c', h3, h4⟩ := h2
  rw [Option.map_eq_some_iff] at h4
  obtain ⟨m2, h5, h6⟩ := h4
  simp only [Prod.mk.injEq] at h6
  obtain ⟨rfl, rfl⟩ := h6
  have e1 : ((x.length : Int)).toNat = x.length := by omega
  rw [e1] at h1
  obtain ⟨g1, g2, g3, g4, g5⟩ := sumR_some (vars := x.length) _ _ _ _ _ _ (by simp) hl h1
  have hA : A = c'.map some := getAll_some h3
  have hcl : c'.length = x.length := by have h7 := congrArg List.length hA; simp at h7; omega
  have hm' : m' = some m2 := h5
  rw [hm'] at g2
  have em := dotF_exact _ _ _ _ g2.symm
  rw [prodSum_sumN _ _ (by simp; exact hl)] at em
  have ec : ∀ v, v < x.length → c'.getD v 0 = sumN rs.length (fun i => ((rs.map (fun r => r.1.getD v 0)).getD i 0) * ts.getD i 0) := by
    intro v hv
    have h8 := g3 v hv
    rw [hA] at h8
    have e2 : (List.replicate x.length (some (0 : Int)))[v]?.getD none = some 0 := by rw [List.getElem?_eq_getElem (by simp; exact hv)]; simp
    rw [e2] at h8
    rw [List.getElem?_map, List.getElem?_eq_getElem (show v < c'.length by omega)] at h8
    simp only [Option.map_some, Option.some.injEq] at h8
    have h9 := dotF_exact _ _ _ _ h8.symm
    rw [prodSum_sumN _ _ (by simp; exact hl)] at h9
    simp only [List.length_map] at h9
    rw [List.getD_eq_getElem?_getD, List.getElem?_eq_getElem (show v < c'.length by omega), Option.getD_some, h9]
    omega
  have rget : ∀ (i v : Nat), i < rs.length → (rs.map (fun r => r.1.getD v 0)).getD i 0 = (rs.getD i ([], 0)).1.getD v 0 := by
    intro i v hi
    rw [List.getD_eq_getElem?_getD, List.getElem?_map, List.getElem?_eq_getElem hi, List.getD_eq_getElem?_getD (l := rs), List.getElem?_eq_getElem hi]; rfl
  have rmem : ∀ i, i < rs.length → rs.getD i ([], 0) ∈ rs := by
    intro i hi
    rw [List.getD_eq_getElem?_getD, List.getElem?_eq_getElem hi]
    exact List.getElem_mem hi
  have tmem : ∀ i, i < rs.length → ts.getD i 0 ∈ ts := by
    intro i hi
    rw [List.getD_eq_getElem?_getD, List.getElem?_eq_getElem (show i < ts.length by omega)]
    exact List.getElem_mem _
  have xmem : ∀ v, v < x.length → x.getD v 0 ∈ x := by
    intro v hv
    rw [List.getD_eq_getElem?_getD, List.getElem?_eq_getElem hv]
    exact List.getElem_mem _
  have rb : ∀ i v, i < rs.length → v < x.length → -1048576 ≤ (rs.getD i ([], 0)).1.getD v 0 ∧ (rs.getD i ([], 0)).1.getD v 0 ≤ 1048576 := by
    intro i v hi hv
    obtain ⟨q1, q2, _⟩ := hrow _ (rmem i hi)
    refine q2 _ ?_
    rw [List.getD_eq_getElem?_getD (l := (rs.getD i ([], 0)).1), List.getElem?_eq_getElem (show v < (rs.getD i ([], 0)).1.length by omega)]
    exact List.getElem_mem _
  have cb : ∀ c ∈ c', -(20 * 267386880) ≤ c ∧ c ≤ 20 * 267386880 := by
    intro c hc
    obtain ⟨v, hv⟩ := List.getElem?_of_mem hc
    have hvl := (List.getElem?_eq_some_iff.1 hv).1
    have e3 : c = c'.getD v 0 := by rw [List.getD_eq_getElem?_getD, hv]; rfl
    rw [e3, ec v (by omega)]
    have h := sumN_bound (n := rs.length) (f := fun i => ((rs.map (fun r => r.1.getD v 0)).getD i 0) * ts.getD i 0) (B := 267386880) (fun i hi => by
      have q1 := rb i v hi (by omega)
      have q2 := ht _ (tmem i hi)
      rw [rget i v hi]
      have hp : ((rs.getD i ([], 0)).1.getD v 0 * ts.getD i 0).natAbs ≤ 1048576 * 255 := by rw [Int.natAbs_mul]; exact Nat.mul_le_mul (by omega) (by omega)
      omega)
    omega
  have hd := dotF_small (A := 20 * 267386880) (T := 32768) (by omega) (by omega) c' x 0 cb (fun a ha => by have := hxb a ha; omega) (by
    have : c'.length * ((20 * 267386880 : Int) * 32768).toNat ≤ 20 * ((20 * 267386880 : Int) * 32768).toNat := Nat.mul_le_mul (by omega) (Nat.le_refl _)
    have e : ((20 * 267386880 : Int) * 32768).toNat = 175234665676800 := by decide
    rw [e] at this ⊢
    omega)
  refine ⟨hcl, _, hd, ?_⟩
  rw [prodSum_sumN _ _ hcl, hcl]
  have e4 : sumN x.length (fun v => c'.getD v 0 * x.getD v 0) = sumN rs.length (fun i => sumN x.length (fun v => ((rs.getD i ([], 0)).1.getD v 0 * x.getD v 0) * ts.getD i 0)) := by
    rw [← sumN_comm]
    refine sumN_congr fun v hv => ?_
    rw [ec v hv, sumN_mul]
    refine sumN_congr fun i hi => ?_
    rw [rget i v hi, Int.mul_right_comm]
  have e5 : sumN rs.length (fun i => sumN x.length (fun v => ((rs.getD i ([], 0)).1.getD v 0 * x.getD v 0) * ts.getD i 0)) ≤ sumN rs.length (fun i => (rs.map (·.2)).getD i 0 * ts.getD i 0) := by
    refine sumN_le fun i hi => ?_
    obtain ⟨q1, _, s, q3, q4⟩ := hrow _ (rmem i hi)
    have q5 := dotF_exact _ _ _ _ q3
    rw [prodSum_sumN _ _ q1, q1] at q5
    rw [← sumN_mul]
    have e6 : (rs.map (·.2)).getD i 0 = (rs.getD i ([], 0)).2 := by
      rw [List.getD_eq_getElem?_getD, List.getElem?_map, List.getElem?_eq_getElem hi, List.getD_eq_getElem?_getD, List.getElem?_eq_getElem hi]; rfl
    rw [e6]
    exact Int.mul_le_mul_of_nonneg_right (by omega) (ht _ (tmem i hi)).1
  simp only [List.length_map] at em
  omega

end Go.Proofs.Ythfkajolockcgaa.Lin
