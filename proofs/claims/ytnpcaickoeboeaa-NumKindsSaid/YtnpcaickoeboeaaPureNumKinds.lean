/- The pure statement of NumKinds: num.Is says of each instruction whether num.Do answers it, and it is one of the numbers 7 to 17; no condition. -/
import Derived.Test.YtnpcaickoeboeaaRdNumKinds
import Derived.Test.YtnpcaickoeboeaaAid
namespace Go.Proofs.Ytnpcaickoeboeaa.Pure
open Go.RowKit Go.Proofs.Ytnpcaickoeboeaa.PNumKinds Go.Proofs.YtnpcaickoeboeaaW.PrintWords Go.Proofs.YtnpcaickoeboeaaW.PrintLast Go.Proofs.Ytnpcaickoeboeaa.Aid Go.Proofs.Ytnpcaickoeboeaa.Open Go.Proofs.Ytnpcaickoeboeaa.RdNumKinds

/-- what num.Do answers -/
def dv (op a b : Int) : Int × Bool :=
  if op = 7 then (wrap32 (a + b), true) else if op = 8 then (wrap32 (a - b), true) else if op = 9 then (wrap32 (a * b), true)
  else if op = 10 then (if b = 0 then (0, false) else if b = -1 then (wrap32 (-a), true) else (wrap32 (Int.tdiv a b), true))
  else if op = 11 then (if b = 0 then (0, false) else if b = -1 then (0, true) else (Int.tmod a b, true))
  else if op = 12 then (wrap32 ((whole a &&& whole b : Nat) : Int), true)
  else if op = 13 then (wrap32 ((whole a ^^^ whole b : Nat) : Int), true)
  else if op = 14 then (wrap32 (a * 2 ^ ((b % 4294967296) % 32).toNat), true)
  else if op = 15 then (a / 2 ^ ((b % 4294967296) % 32).toNat, true)
  else if op = 16 then (if a < b then 1 else 0, true)
  else if op = 17 then (if a = b then 1 else 0, true)
  else (0, false)

theorem do_j0 (k : Nat) (op a b c : Int) (t : Bool) : num_Do.j0 (k + 1) op a b c t = if t = true then (if b = 0 then (some (0, false)) else ((num_divide.f k op a b).bind fun t101 => (some (t101, true)))) else (if c = 12 then (some (Go.bits .and .i32 a b, true)) else (if c = 13 then (some (Go.bits .xor .i32 a b, true)) else (if c = 14 then (some (wrap32 (a * 2 ^ (((b) % 4294967296) % 32).toNat), true)) else (if c = 15 then (some (a / 2 ^ (((b) % 4294967296) % 32).toNat, true)) else (if c = 16 then ((num_flag.f (decide (a < b))).bind fun t102 => (some (t102, true))) else (if c = 17 then ((num_flag.f (a == b)).bind fun t103 => (some (t103, true))) else (some (0, false)))))))) := by
  simp only [num_Do.j0]
theorem divide_val (k : Nat) (op a b : Int) (hb : b ≠ 0) : num_divide.f (k + 1) op a b = some (if op = 10 then (if b = -1 then wrap32 (-a) else wrap32 (Int.tdiv a b)) else (if b = -1 then 0 else Int.tmod a b)) := by
  unfold num_divide.f
  simp only [num_divide.j0]
  by_cases h : op = 10
  · subst h
    by_cases h1 : b = -1 <;> simp [h1, hb]
  · by_cases h1 : b = -1 <;> simp [h1, hb, h]
theorem flag_val (t : Bool) : num_flag.f t = some (if t = true then 1 else 0) := by
  unfold num_flag.f; cases t <;> rfl
theorem ops (op : Int) : op = 7 ∨ op = 8 ∨ op = 9 ∨ op = 10 ∨ op = 11 ∨ op = 12 ∨ op = 13 ∨ op = 14 ∨ op = 15 ∨ op = 16 ∨ op = 17 ∨ (¬ op = 7 ∧ ¬ op = 8 ∧ ¬ op = 9 ∧ ¬ op = 10 ∧ ¬ op = 11 ∧ ¬ op = 12 ∧ ¬ op = 13 ∧ ¬ op = 14 ∧ ¬ op = 15 ∧ ¬ op = 16 ∧ ¬ op = 17) := by omega
theorem do_val (k : Nat) (op a b : Int) : num_Do.f (k + 3) op a b = some (dv op a b) := by
  unfold num_Do.f dv
  simp only [do_j0, flag_val, Option.bind_some, bits_and, bits_xor]
  rcases ops op with rfl | rfl | rfl | rfl | rfl | rfl | rfl | rfl | rfl | rfl | rfl | ⟨h7, h8, h9, h10, h11, h12, h13, h14, h15, h16, h17⟩
  · simp
  · simp
  · simp
  · by_cases hb : b = 0
    · simp [hb]
    · simp [hb, divide_val]; split <;> rfl
  · by_cases hb : b = 0
    · simp [hb]
    · simp [hb, divide_val]; split <;> rfl
  · simp
  · simp
  · simp
  · simp
  · simp
  · simp
  · simp [h7, h8, h9, h10, h11, h12, h13, h14, h15, h16, h17]

theorem is_val (op : Int) : num_Is.f op = some (decide (7 ≤ op ∧ op ≤ 17)) := by
  unfold num_Is.f
  split
  · rename_i h; simp; intro _; exact h
  · rename_i h; simp; omega

theorem awake_ok : ∀ k, plimsolllaw01_awake.f (k + 10) = some true := by
  intro k
  have h : plimsolllaw01_awake.f 10 = some true := by decide +kernel
  exact at_rounds (plimsolllaw01_awake.mono) (by omega) h

theorem kinds (op : Int) : (dv op 9 4).2 = decide (7 ≤ op ∧ op ≤ 17) := by
  rcases ops op with rfl | rfl | rfl | rfl | rfl | rfl | rfl | rfl | rfl | rfl | rfl | ⟨h7, h8, h9, h10, h11, h12, h13, h14, h15, h16, h17⟩ <;> first | (simp [dv]; done) | skip
  simp [dv, h7, h8, h9, h10, h11, h12, h13, h14, h15, h16, h17]
  omega
theorem NumKinds : NumKinds_Pure := by
  intro op _
  refine ⟨100, ?_⟩
  unfold plimsolllaw01_NumKinds.f
  rw [do_val 97, awake_ok 90, is_val]
  simp only [Option.bind_some, if_true, kinds]
  by_cases h : op ≥ 7
  · rw [if_pos h]
    by_cases h2 : op ≤ 17 <;> simp [h, h2]
  · rw [if_neg h]
    simp [h]

end Go.Proofs.Ytnpcaickoeboeaa.Pure
