/- The pure statement of NumRings: sums and products of 32 bits come to the same in any order, and together; no condition. -/
import Derived.Test.YtnpcaickoeboeaaPNumRingsx2
import Derived.Test.YtnpcaickoeboeaaAid
namespace Go.Proofs.Ytnpcaickoeboeaa.Pure
open Go.RowKit Go.Proofs.Ytnpcaickoeboeaa.PNumRings Go.Proofs.YtnpcaickoeboeaaW.PrintWords Go.Proofs.YtnpcaickoeboeaaW.PrintLast Go.Proofs.Ytnpcaickoeboeaa.Aid

/-- what num.Do answers -/
def dv (op a b : Int) : Int × Bool :=
  if op = 7 then (wrap32 (a + b), true) else if op = 8 then (wrap32 (a - b), true) else if op = 9 then (wrap32 (a * b), true)
  else if op = 10 then (if b = 0 then (0, false) else if b = -1 then (wrap32 (-a), true) else (wrap32 (Int.tdiv a b), true))
  else if op = 11 then (if b = 0 then (0, false) else if b = -1 then (0, true) else (Int.tmod a b, true))
  else if op = 12 then (wrap32 ((whole a &&& whole b : Nat) : Int), true)
  else if op = 13 then (wrap32 ((whole a ^^^ whole b : Nat) : Int), true)
  else if op = 14 then (wrap32 (a * 2 ^ ((b % 4294967296) % 32).toNat), true)
  else if op = 15 then (a / 2 ^ ((b % 4294967296) % 32).toNat, true)
  else if op = 16 then (if a < b then 1 else 0, true)
  else if op = 17 then (if a = b then 1 else 0, true)
  else (0, false)

theorem do_j0 (k : Nat) (op a b c : Int) (t : Bool) : num_Do.j0 (k + 1) op a b c t = if t = true then (if b = 0 then (some (0, false)) else ((num_divide.f k op a b).bind fun t101 => (some (t101, true)))) else (if c = 12 then (some (Go.bits .and .i32 a b, true)) else (if c = 13 then (some (Go.bits .xor .i32 a b, true)) else (if c = 14 then (some (wrap32 (a * 2 ^ (((b) % 4294967296) % 32).toNat), true)) else (if c = 15 then (some (a / 2 ^ (((b) % 4294967296) % 32).toNat, true)) else (if c = 16 then ((num_flag.f (decide (a < b))).bind fun t102 => (some (t102, true))) else (if c = 17 then ((num_flag.f (a == b)).bind fun t103 => (some (t103, true))) else (some (0, false)))))))) := by
  simp only [num_Do.j0]
theorem divide_val (k : Nat) (op a b : Int) (hb : b ≠ 0) : num_divide.f (k + 1) op a b = some (if op = 10 then (if b = -1 then wrap32 (-a) else wrap32 (Int.tdiv a b)) else (if b = -1 then 0 else Int.tmod a b)) := by
  unfold num_divide.f
  simp only [num_divide.j0]
  by_cases h : op = 10
  · subst h
    by_cases h1 : b = -1 <;> simp [h1, hb]
  · by_cases h1 : b = -1 <;> simp [h1, hb, h]
theorem flag_val (t : Bool) : num_flag.f t = some (if t = true then 1 else 0) := by
  unfold num_flag.f; cases t <;> rfl
theorem ops (op : Int) : op = 7 ∨ op = 8 ∨ op = 9 ∨ op = 10 ∨ op = 11 ∨ op = 12 ∨ op = 13 ∨ op = 14 ∨ op = 15 ∨ op = 16 ∨ op = 17 ∨ (¬ op = 7 ∧ ¬ op = 8 ∧ ¬ op = 9 ∧ ¬ op = 10 ∧ ¬ op = 11 ∧ ¬ op = 12 ∧ ¬ op = 13 ∧ ¬ op = 14 ∧ ¬ op = 15 ∧ ¬ op = 16 ∧ ¬ op = 17) := by omega
theorem do_val (k : Nat) (op a b : Int) : num_Do.f (k + 3) op a b = some (dv op a b) := by
  unfold num_Do.f dv
  simp only [do_j0, flag_val, Option.bind_some, bits_and, bits_xor]
  rcases ops op with rfl | rfl | rfl | rfl | rfl | rfl | rfl | rfl | rfl | rfl | rfl | ⟨h7, h8, h9, h10, h11, h12, h13, h14, h15, h16, h17⟩
  · simp
  · simp
  · simp
  · by_cases hb : b = 0
    · simp [hb]
    · simp [hb, divide_val]; split <;> rfl
  · by_cases hb : b = 0
    · simp [hb]
    · simp [hb, divide_val]; split <;> rfl
  · simp
  · simp
  · simp
  · simp
  · simp
  · simp
  · simp [h7, h8, h9, h10, h11, h12, h13, h14, h15, h16, h17]

theorem is_val (op : Int) : num_Is.f op = some (decide (7 ≤ op ∧ op ≤ 17)) := by
  unfold num_Is.f
  split
  · rename_i h; simp; intro _; exact h
  · rename_i h; simp; omega

theorem awake_ok : ∀ k, plimsolllaw01_awake.f (k + 10) = some true := by
  intro k
  have h : plimsolllaw01_awake.f 10 = some true := by decide +kernel
  exact at_rounds (plimsolllaw01_awake.mono) (by omega) h
theorem dv7 (a b : Int) : dv 7 a b = (wrap32 (a + b), true) := by simp [dv]
theorem dv8 (a b : Int) : dv 8 a b = (wrap32 (a - b), true) := by simp [dv]
theorem dv9 (a b : Int) : dv 9 a b = (wrap32 (a * b), true) := by simp [dv]
theorem dv10 (a b : Int) (h : b ≠ 0) : dv 10 a b = (if b = -1 then wrap32 (-a) else wrap32 (Int.tdiv a b), true) := by simp [dv, h]; split <;> rfl
theorem dv11 (a b : Int) (h : b ≠ 0) : dv 11 a b = (if b = -1 then 0 else Int.tmod a b, true) := by simp [dv, h]; split <;> rfl
theorem dv12 (a b : Int) : dv 12 a b = (wrap32 ((whole a &&& whole b : Nat) : Int), true) := by simp [dv]
theorem dv13 (a b : Int) : dv 13 a b = (wrap32 ((whole a ^^^ whole b : Nat) : Int), true) := by simp [dv]
theorem dv14 (a b : Int) : dv 14 a b = (wrap32 (a * 2 ^ ((b % 4294967296) % 32).toNat), true) := by simp [dv]
theorem dv15 (a b : Int) : dv 15 a b = (a / 2 ^ ((b % 4294967296) % 32).toNat, true) := by simp [dv]
theorem dv16 (a b : Int) : dv 16 a b = (if a < b then 1 else 0, true) := by simp [dv]
theorem dv17 (a b : Int) : dv 17 a b = (if a = b then 1 else 0, true) := by simp [dv]

theorem ring1 (a b c : Int) : wrap32 (wrap32 (a + b) * c) = wrap32 (wrap32 (a * c) + wrap32 (b * c)) := by
  rw [wrap32_mul_l, wrap32_add_l, wrap32_add_r, Int.add_mul]
theorem ring2 (a b : Int) : wrap32 (wrap32 ((whole a ^^^ whole b : Nat) : Int) + wrap32 (wrap32 ((whole a &&& whole b : Nat) : Int) + wrap32 ((whole a &&& whole b : Nat) : Int))) = wrap32 (a + b) := by
  have h := xor_and_sum 32 (whole a) (whole b) (whole_lt a)
  have q : ∀ x y : Int, wrap32 (wrap32 x + wrap32 (wrap32 y + wrap32 y)) = wrap32 (x + (y + y)) := fun x y => by unfold wrap32; omega
  rw [q]
  have e : ((whole a ^^^ whole b : Nat) : Int) + (((whole a &&& whole b : Nat) : Int) + ((whole a &&& whole b : Nat) : Int)) = (whole a : Int) + (whole b : Int) := by omega
  rw [e, ← wrap32_add_l, wrap32_whole, wrap32_add_l, ← wrap32_add_r, wrap32_whole, wrap32_add_r]
theorem NumRings : plimsolllaw01_NumRings.Pure := by
  intro a b c ha hb hc
  refine ⟨100, ?_⟩
  unfold plimsolllaw01_NumRings.f
  simp only [do_val 97, awake_ok 90, Option.bind_some, dv7, dv9, dv12, dv13, if_true]
  rw [ring1, ring2, if_pos rfl, Int.mul_comm c a, if_pos rfl, Nat.and_comm (whole b), if_pos rfl]
  simp

end Go.Proofs.Ytnpcaickoeboeaa.Pure
