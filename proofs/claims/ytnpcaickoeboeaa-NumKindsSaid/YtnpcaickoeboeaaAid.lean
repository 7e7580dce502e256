/- Plain facts on whole numbers of 32 and 64 bits (wrap-round, quotients, bit by bit), used by this seat's pure statements; no conditions but those that each theorem names. -/
import Derived.Test.YtnpcaickoeboeaaWMore
namespace Go.Proofs.Ytnpcaickoeboeaa.Aid
open Go.RowKit

theorem wf32 {a : Int} (h : (Lit.int .i32 a).wf = true) : -2147483648 ≤ a ∧ a ≤ 2147483647 := by
  simp only [Lit.wf, Bool.and_eq_true, decide_eq_true_eq] at h
  exact h
theorem wf64 {a : Int} (h : (Lit.int .i64 a).wf = true) : -9223372036854775808 ≤ a ∧ a ≤ 9223372036854775807 := by
  simp only [Lit.wf, Bool.and_eq_true, decide_eq_true_eq] at h
  exact h
/-- the 32 bits of a number, without a sign -/
def whole (a : Int) : Nat := (a % 4294967296).toNat
theorem whole_lt (a : Int) : whole a < 4294967296 := by unfold whole; omega
theorem bits_and (a b : Int) : Go.bits .and .i32 a b = wrap32 ((whole a &&& whole b : Nat) : Int) := by
  simp only [Go.bits]
  rw [IntWalk.i32_left]
  rfl
theorem bits_xor (a b : Int) : Go.bits .xor .i32 a b = wrap32 ((whole a ^^^ whole b : Nat) : Int) := by
  simp only [Go.bits]
  rw [IntWalk.i32_left]
  rfl
theorem wrap32_whole (a : Int) : wrap32 (whole a : Int) = wrap32 a := by unfold wrap32 whole; omega
theorem whole_wrap (a : Int) : whole (wrap32 a) = whole a := by unfold wrap32 whole; omega
theorem wrap32_id {a : Int} (h : -2147483648 ≤ a ∧ a ≤ 2147483647) : wrap32 a = a := by unfold wrap32; omega
theorem whole_nat {n : Nat} (h : n < 4294967296) : whole (n : Int) = n := by unfold whole; omega
theorem wrap32_b (a : Int) : -2147483648 ≤ wrap32 a ∧ wrap32 a ≤ 2147483647 := by unfold wrap32; omega
theorem wrap32_eq (a b : Int) : wrap32 a = wrap32 b ↔ a % 4294967296 = b % 4294967296 := by unfold wrap32; omega
theorem wrap32_emod (a : Int) : wrap32 a % 4294967296 = a % 4294967296 := by unfold wrap32; omega
/-- and, xor and sums of naturals -/
theorem xor_and_sum (n : Nat) : ∀ a b : Nat, a < 2 ^ n → (a ^^^ b) + 2 * (a &&& b) = a + b := by
  induction n with
  | zero => intro a b h; have : a = 0 := by omega
            subst this; simp
  | succ n ih =>
    intro a b h
    have h1 := ih (a / 2) (b / 2) (by omega)
    have e1 := @Nat.and_div_two a b
    have e2 := @Nat.xor_div_two a b
    have e3 := @Nat.and_mod_two_eq_one a b
    have e4 := @Nat.xor_mod_two_eq_one a b
    rw [← e1, ← e2] at h1
    have p : a % 2 = 0 ∨ a % 2 = 1 := by omega
    have q : b % 2 = 0 ∨ b % 2 = 1 := by omega
    have s : (a &&& b) % 2 = 0 ∨ (a &&& b) % 2 = 1 := by omega
    have t : (a ^^^ b) % 2 = 0 ∨ (a ^^^ b) % 2 = 1 := by omega
    rcases p with p | p <;> rcases q with q | q <;> rw [p, q] at e3 e4 <;> omega

/-- wraps that do nothing -/
theorem wrap64_id {a : Int} (h : -9223372036854775808 ≤ a ∧ a ≤ 9223372036854775807) : wrap64 a = a := by unfold wrap64; omega
theorem tmod_c {a c : Int} (hc : 0 < c) : -c < Int.tmod a c ∧ Int.tmod a c < c ∧ (Int.tmod a c) % c = a % c := by
  rw [Int.tmod_eq_emod]
  have h1 := Int.emod_nonneg a (show c ≠ 0 by omega)
  have h2 := Int.emod_lt_of_pos a hc
  split
  · simp; omega
  · rename_i h
    refine ⟨by omega, by omega, ?_⟩
    have : ((c.natAbs : Nat) : Int) = c := by omega
    rw [this]
    simp
/-- numbers bit by bit -/
def bw (op : Int) (x y : Nat) : Nat := if op = 12 then x &&& y else x ^^^ y
theorem bw_div (op : Int) (x y : Nat) : bw op (x / 2) (y / 2) = bw op x y / 2 := by
  unfold bw; split
  · exact Nat.and_div_two.symm
  · exact Nat.xor_div_two.symm
theorem bw_mod_and (x y : Nat) : bw 12 x y % 2 = if x % 2 = 1 ∧ y % 2 = 1 then 1 else 0 := by
  have e3 := @Nat.and_mod_two_eq_one x y
  unfold bw; split <;> split <;> first | omega | contradiction
theorem bw_mod_xor (x y : Nat) : bw 13 x y % 2 = if x % 2 = y % 2 then 0 else 1 := by
  have e4 := @Nat.xor_mod_two_eq_one x y
  unfold bw; rw [if_neg (by decide)]; split <;> omega
theorem wrap32_mul_l (a c : Int) : wrap32 (wrap32 a * c) = wrap32 (a * c) := by
  rw [wrap32_eq, Int.mul_emod, wrap32_emod, ← Int.mul_emod]
theorem wrap32_mul_r (a c : Int) : wrap32 (a * wrap32 c) = wrap32 (a * c) := by
  rw [Int.mul_comm, wrap32_mul_l, Int.mul_comm]
theorem wrap32_add_l (a c : Int) : wrap32 (wrap32 a + c) = wrap32 (a + c) := by unfold wrap32; omega
theorem wrap32_add_r (a c : Int) : wrap32 (a + wrap32 c) = wrap32 (a + c) := by unfold wrap32; omega
theorem half_neg {n : Int} (h : n < 0) : Int.tdiv (n - 1) 2 = n / 2 := by
  have e : n - 1 = -(1 - n) := by omega
  rw [e, Int.neg_tdiv, Int.tdiv_eq_ediv_of_nonneg (by omega)]; omega
theorem half_pos {n : Int} (h : ¬ n < 0) : Int.tdiv n 2 = n / 2 := Int.tdiv_eq_ediv_of_nonneg (by omega)
theorem tdiv_two_nat (n : Nat) : Int.tdiv (n : Int) 2 = ((n / 2 : Nat) : Int) := by
  rw [Int.tdiv_eq_ediv_of_nonneg (by omega)]; omega
theorem tmod_two_nat (n : Nat) : Int.tmod (n : Int) 2 = ((n % 2 : Nat) : Int) := by
  rw [Int.tmod_eq_emod_of_nonneg (by omega)]; omega
theorem prod_b {a b : Int} (ha : -2147483648 ≤ a ∧ a ≤ 2147483647) (hb : -2147483648 ≤ b ∧ b ≤ 2147483647) : -9223372036854775808 ≤ a * b ∧ a * b ≤ 9223372036854775807 := by
  have h : (a * b).natAbs ≤ 2147483648 * 2147483648 := by rw [Int.natAbs_mul]; exact Nat.mul_le_mul (by omega) (by omega)
  omega
theorem tdiv_b {a b : Int} (ha : -2147483648 ≤ a ∧ a ≤ 2147483647) : -2147483648 ≤ Int.tdiv a b ∧ Int.tdiv a b ≤ 2147483648 := by
  have h : (Int.tdiv a b).natAbs ≤ a.natAbs := by rw [Int.natAbs_tdiv]; exact Nat.div_le_self _ _
  omega
theorem tmod_b {a b : Int} (ha : -2147483648 ≤ a ∧ a ≤ 2147483647) : -2147483648 ≤ Int.tmod a b ∧ Int.tmod a b ≤ 2147483647 := by
  have h : (Int.tmod a b).natAbs ≤ a.natAbs := by rw [Int.natAbs_tmod]; exact Nat.mod_le _ _
  have h2 : 0 ≤ a → 0 ≤ Int.tmod a b := fun h => Int.tmod_nonneg b h
  have h3 : a < 0 → Int.tmod a b ≤ 0 := fun h => by
    have := Int.tmod_nonneg b (show 0 ≤ -a by omega)
    rw [Int.neg_tmod] at this
    omega
  omega
theorem ediv_b {a : Int} (ha : -2147483648 ≤ a ∧ a ≤ 2147483647) (n : Nat) : -2147483648 ≤ a / 2 ^ n ∧ a / 2 ^ n ≤ 2147483647 := by
  have hp : (0 : Int) < 2 ^ n := Int.pow_pos (by decide)
  constructor
  · rw [Int.le_ediv_iff_mul_le hp]
    have : (2147483648 : Int) * 1 ≤ 2147483648 * 2 ^ n := Int.mul_le_mul_of_nonneg_left (by omega) (by decide)
    omega
  · have : a / 2 ^ n < 2147483648 := by
      rw [Int.ediv_lt_iff_lt_mul hp]
      have : (2147483648 : Int) * 1 ≤ 2147483648 * 2 ^ n := Int.mul_le_mul_of_nonneg_left (by omega) (by decide)
      omega
    omega
end Go.Proofs.Ytnpcaickoeboeaa.Aid
