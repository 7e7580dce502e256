/- The pure statement of NumDoes: num.Do answers as the reference does, at every instruction and any two numbers of 32 bits; no condition. -/
import Derived.Test.YtnpcaickoeboeaaPNumDoesx3
import Derived.Test.YtnpcaickoeboeaaAid
namespace Go.Proofs.Ytnpcaickoeboeaa.Pure
open Go.RowKit Go.Proofs.Ytnpcaickoeboeaa.PNumDoes Go.Proofs.YtnpcaickoeboeaaW.PrintWords Go.Proofs.YtnpcaickoeboeaaW.PrintLast Go.Proofs.Ytnpcaickoeboeaa.Aid

/-- what num.Do answers -/
def dv (op a b : Int) : Int × Bool :=
  if op = 7 then (wrap32 (a + b), true) else if op = 8 then (wrap32 (a - b), true) else if op = 9 then (wrap32 (a * b), true)
  else if op = 10 then (if b = 0 then (0, false) else if b = -1 then (wrap32 (-a), true) else (wrap32 (Int.tdiv a b), true))
  else if op = 11 then (if b = 0 then (0, false) else if b = -1 then (0, true) else (Int.tmod a b, true))
  else if op = 12 then (wrap32 ((whole a &&& whole b : Nat) : Int), true)
  else if op = 13 then (wrap32 ((whole a ^^^ whole b : Nat) : Int), true)
  else if op = 14 then (wrap32 (a * 2 ^ ((b % 4294967296) % 32).toNat), true)
  else if op = 15 then (a / 2 ^ ((b % 4294967296) % 32).toNat, true)
  else if op = 16 then (if a < b then 1 else 0, true)
  else if op = 17 then (if a = b then 1 else 0, true)
  else (0, false)

theorem do_j0 (k : Nat) (op a b c : Int) (t : Bool) : num_Do.j0 (k + 1) op a b c t = if t = true then (if b = 0 then (some (0, false)) else ((num_divide.f k op a b).bind fun t101 => (some (t101, true)))) else (if c = 12 then (some (Go.bits .and .i32 a b, true)) else (if c = 13 then (some (Go.bits .xor .i32 a b, true)) else (if c = 14 then (some (wrap32 (a * 2 ^ (((b) % 4294967296) % 32).toNat), true)) else (if c = 15 then (some (a / 2 ^ (((b) % 4294967296) % 32).toNat, true)) else (if c = 16 then ((num_flag.f (decide (a < b))).bind fun t102 => (some (t102, true))) else (if c = 17 then ((num_flag.f (a == b)).bind fun t103 => (some (t103, true))) else (some (0, false)))))))) := by
  simp only [num_Do.j0]
theorem divide_val (k : Nat) (op a b : Int) (hb : b ≠ 0) : num_divide.f (k + 1) op a b = some (if op = 10 then (if b = -1 then wrap32 (-a) else wrap32 (Int.tdiv a b)) else (if b = -1 then 0 else Int.tmod a b)) := by
  unfold num_divide.f
  simp only [num_divide.j0]
  by_cases h : op = 10
  · subst h
    by_cases h1 : b = -1 <;> simp [h1, hb]
  · by_cases h1 : b = -1 <;> simp [h1, hb, h]
theorem flag_val (t : Bool) : num_flag.f t = some (if t = true then 1 else 0) := by
  unfold num_flag.f; cases t <;> rfl
theorem ops (op : Int) : op = 7 ∨ op = 8 ∨ op = 9 ∨ op = 10 ∨ op = 11 ∨ op = 12 ∨ op = 13 ∨ op = 14 ∨ op = 15 ∨ op = 16 ∨ op = 17 ∨ (¬ op = 7 ∧ ¬ op = 8 ∧ ¬ op = 9 ∧ ¬ op = 10 ∧ ¬ op = 11 ∧ ¬ op = 12 ∧ ¬ op = 13 ∧ ¬ op = 14 ∧ ¬ op = 15 ∧ ¬ op = 16 ∧ ¬ op = 17) := by omega
theorem do_val (k : Nat) (op a b : Int) : num_Do.f (k + 3) op a b = some (dv op a b) := by
  unfold num_Do.f dv
  simp only [do_j0, flag_val, Option.bind_some, bits_and, bits_xor]
  rcases ops op with rfl | rfl | rfl | rfl | rfl | rfl | rfl | rfl | rfl | rfl | rfl | ⟨h7, h8, h9, h10, h11, h12, h13, h14, h15, h16, h17⟩
  · simp
  · simp
  · simp
  · by_cases hb : b = 0
    · simp [hb]
    · simp [hb, divide_val]; split <;> rfl
  · by_cases hb : b = 0
    · simp [hb]
    · simp [hb, divide_val]; split <;> rfl
  · simp
  · simp
  · simp
  · simp
  · simp
  · simp
  · simp [h7, h8, h9, h10, h11, h12, h13, h14, h15, h16, h17]

theorem is_val (op : Int) : num_Is.f op = some (decide (7 ≤ op ∧ op ≤ 17)) := by
  unfold num_Is.f
  split
  · rename_i h; simp; intro _; exact h
  · rename_i h; simp; omega

theorem awake_ok : ∀ k, plimsolllaw01_awake.f (k + 10) = some true := by
  intro k
  have h : plimsolllaw01_awake.f 10 = some true := by decide +kernel
  exact at_rounds (plimsolllaw01_awake.mono) (by omega) h

theorem wrap_val (n : Int) : plimsollref01_wrap.f n = some (wrap32 n) := by
  obtain ⟨h1, h2, h3⟩ := @tmod_c n 4294967296 (by decide)
  unfold plimsollref01_wrap.f
  generalize hr : Int.tmod n 4294967296 = r at *
  have w1 : wrap64 (r + 4294967296) = r + 4294967296 := wrap64_id (by omega)
  have w2 : wrap64 (r - 4294967296) = r - 4294967296 := wrap64_id (by omega)
  have w3 : wrap64 (r + 4294967296 - 4294967296) = r := by rw [wrap64_id (by omega)]; omega
  rw [w1, w2, w3]
  have e : ∀ m : Int, m % 4294967296 = n % 4294967296 → some (wrap32 m) = some (wrap32 n) := fun m h => by rw [(wrap32_eq m n).2 h]
  split
  · split
    · exact e _ h3
    · exact e _ (by omega)
  · split
    · exact e _ (by omega)
    · exact e _ h3
theorem whole_val {a : Int} (h : -2147483648 ≤ a ∧ a ≤ 2147483647) : plimsollref01_whole.f a = some (whole a : Int) := by
  unfold plimsollref01_whole.f whole
  rw [wrap64_id (a := a) (by omega)]
  split
  · rw [wrap64_id (by omega)]; congr 1; omega
  · congr 1; omega
theorem nat64 {n : Nat} (h : n < 9223372036854775808) : wrap64 (n : Int) = (n : Int) := wrap64_id (by omega)
theorem bitwise_l (op : Int) (hop : op = 12 ∨ op = 13) : ∀ (j k x y out i : Nat), j < k → i + j = 32 → x < 4294967296 → y < 4294967296 → out < 2 ^ i →
    plimsollref01_bitwise.l0 k op x y out ((2 ^ i : Nat) : Int) i = some ((out + 2 ^ i * (bw op x y % 2 ^ j) : Nat) : Int) := by
  intro j
  induction j with
  | zero =>
    intro k x y out i hk hi hx hy ho
    obtain ⟨k, rfl⟩ : ∃ m, k = m + 1 := ⟨k - 1, by omega⟩
    rw [plimsollref01_bitwise.l0]
    refine (if_neg (by omega)).trans ?_
    simp [Nat.mod_one]
  | succ j ih =>
    intro k x y out i hk hi hx hy ho
    obtain ⟨k, rfl⟩ : ∃ m, k = m + 1 := ⟨k - 1, by omega⟩
    have hp : 2 ^ i ≤ 2 ^ 32 := Nat.pow_le_pow_right (by decide) (by omega)
    have hp2 : 2 ^ (i + 1) = 2 ^ i * 2 := Nat.pow_succ 2 i
    have hm : bw op x y % 2 ^ (j + 1) = bw op x y % 2 + 2 * (bw op (x / 2) (y / 2) % 2 ^ j) := by
      rw [Nat.pow_succ, Nat.mul_comm, Nat.mod_mul, bw_div]
    rw [plimsollref01_bitwise.l0]
    refine (if_pos (by omega)).trans ?_
    have e1 : wrap64 (((2 ^ i : Nat) : Int) * 2) = ((2 ^ (i + 1) : Nat) : Int) := by rw [wrap64_id (by omega)]; omega
    have e2 : wrap64 ((i : Int) + 1) = ((i + 1 : Nat) : Int) := by rw [wrap64_id (by omega)]; omega
    have e3 : wrap64 ((out : Int) + ((2 ^ i : Nat) : Int)) = ((out + 2 ^ i : Nat) : Int) := by rw [wrap64_id (by omega)]; omega
    have e4 : wrap64 ((x / 2 : Nat) : Int) = ((x / 2 : Nat) : Int) := nat64 (by omega)
    have e5 : wrap64 ((y / 2 : Nat) : Int) = ((y / 2 : Nat) : Int) := nat64 (by omega)
    simp only [tdiv_two_nat, tmod_two_nat, e1, e2, e3, e4, e5]
    clear e1 e2 e3 e4 e5
    have yes := ih k (x / 2) (y / 2) (out + 2 ^ i) (i + 1) (by omega) (by omega) (by omega) (by omega) (by omega)
    have no := ih k (x / 2) (y / 2) out (i + 1) (by omega) (by omega) (by omega) (by omega) (by omega)
    have done1 : bw op x y % 2 = 1 → plimsollref01_bitwise.l0 k op (x / 2 : Nat) (y / 2 : Nat) (out + 2 ^ i : Nat) ((2 ^ (i + 1) : Nat) : Int) (i + 1 : Nat) = some ((out + 2 ^ i * (bw op x y % 2 ^ (j + 1)) : Nat) : Int) := by
      intro h
      rw [yes, hm, h, hp2]
      congr 2
      rw [Nat.mul_add, Nat.mul_one, Nat.mul_assoc, Nat.add_assoc]
    have done0 : bw op x y % 2 = 0 → plimsollref01_bitwise.l0 k op (x / 2 : Nat) (y / 2 : Nat) out ((2 ^ (i + 1) : Nat) : Int) (i + 1 : Nat) = some ((out + 2 ^ i * (bw op x y % 2 ^ (j + 1)) : Nat) : Int) := by
      intro h
      rw [no, hm, h, hp2]
      congr 2
      rw [Nat.mul_add, Nat.mul_zero, Nat.zero_add, Nat.mul_assoc]
    rcases hop with rfl | rfl
    · have b := bw_mod_and x y
      by_cases hx1 : x % 2 = 1
      · by_cases hy1 : y % 2 = 1
        · refine (if_pos rfl).trans ((if_pos (by omega)).trans ((if_pos (by omega)).trans ?_)); exact done1 (by rw [b, if_pos ⟨hx1, hy1⟩])
        · refine (if_pos rfl).trans ((if_pos (by omega)).trans ((if_neg (by omega)).trans ((if_neg (by decide)).trans ?_))); exact done0 (by rw [b, if_neg (fun h => hy1 h.2)])
      · refine (if_pos rfl).trans ((if_neg (by omega)).trans ((if_neg (by decide)).trans ?_)); exact done0 (by rw [b, if_neg (fun h => hx1 h.1)])
    · have b := bw_mod_xor x y
      refine (if_neg (by decide)).trans ((if_pos rfl).trans ?_)
      by_cases he : x % 2 = y % 2
      · refine (if_pos (by omega)).trans ?_; exact done0 (by rw [b, if_pos he])
      · refine (if_neg (by omega)).trans ?_; exact done1 (by rw [b, if_neg he])
theorem bitwise_val (op : Int) (hop : op = 12 ∨ op = 13) (k x y : Nat) (hk : 32 < k) (hx : x < 4294967296) (hy : y < 4294967296) :
    plimsollref01_bitwise.f k op x y = some ((bw op x y : Nat) : Int) := by
  have h := bitwise_l op hop 32 k x y 0 0 hk rfl hx hy (by decide)
  have hb : bw op x y < 2 ^ 32 := by
    unfold bw; split
    · exact Nat.and_lt_two_pow (n := 32) _ (by omega)
    · exact Nat.xor_lt_two_pow (n := 32) (by omega) (by omega)
  rw [Nat.mod_eq_of_lt hb] at h
  simp only [Nat.pow_zero, Nat.one_mul, Nat.zero_add] at h
  exact h
theorem shl_l (b : Int) (hb : -2147483648 ≤ b ∧ b ≤ 2147483647) : ∀ (d k i : Nat) (n : Int), d < k → i + d = ((b % 4294967296) % 32).toNat → -2147483648 ≤ n ∧ n ≤ 2147483647 →
    plimsollref01_Do.l0 k b n i = some (wrap32 (n * 2 ^ d), true) := by
  have hw := whole_lt b
  have hc : Int.tmod (whole b : Int) 32 = ((b % 4294967296) % 32) := by rw [Int.tmod_eq_emod_of_nonneg (by omega)]; unfold whole; omega
  intro d
  induction d with
  | zero =>
    intro k i n hk hi hn
    obtain ⟨k, rfl⟩ : ∃ m, k = m + 1 := ⟨k - 1, by omega⟩
    simp only [plimsollref01_Do.l0, whole_val hb, Option.bind_some, wrap_val, hc]
    refine (if_neg (by omega)).trans ?_; simp
  | succ d ih =>
    intro k i n hk hi hn
    obtain ⟨k, rfl⟩ : ∃ m, k = m + 1 := ⟨k - 1, by omega⟩
    simp only [plimsollref01_Do.l0, whole_val hb, Option.bind_some, wrap_val, hc]
    refine (if_pos (by omega)).trans ?_
    rw [wrap64_id (a := 2 * n) (by omega)]
    have h := wrap32_b (2 * n)
    rw [wrap64_id (a := wrap32 (2 * n)) (by omega)]
    have hr := ih k (i + 1) _ (by omega) (by omega) h
    have e2 : wrap64 ((i : Int) + 1) = ((i + 1 : Nat) : Int) := by rw [wrap64_id (by omega)]; omega
    rw [e2, hr, wrap32_mul_l]
    rw [Int.pow_succ, Int.mul_comm 2 n, Int.mul_assoc, Int.mul_comm 2]
theorem shr_l (b : Int) (hb : -2147483648 ≤ b ∧ b ≤ 2147483647) : ∀ (d k i : Nat) (n : Int), d < k → i + d = ((b % 4294967296) % 32).toNat → -2147483648 ≤ n ∧ n ≤ 2147483647 →
    plimsollref01_Do.l1 k b n i = some (n / 2 ^ d, true) := by
  have hw := whole_lt b
  have hc : Int.tmod (whole b : Int) 32 = ((b % 4294967296) % 32) := by rw [Int.tmod_eq_emod_of_nonneg (by omega)]; unfold whole; omega
  intro d
  induction d with
  | zero =>
    intro k i n hk hi hn
    obtain ⟨k, rfl⟩ : ∃ m, k = m + 1 := ⟨k - 1, by omega⟩
    simp only [plimsollref01_Do.l1, whole_val hb, Option.bind_some, wrap_val, hc]
    rw [if_neg (by omega), wrap32_id hn]; simp
  | succ d ih =>
    intro k i n hk hi hn
    obtain ⟨k, rfl⟩ : ∃ m, k = m + 1 := ⟨k - 1, by omega⟩
    simp only [plimsollref01_Do.l1, whole_val hb, Option.bind_some, wrap_val, hc]
    refine (if_pos (by omega)).trans ?_
    have hr := ih k (i + 1) (n / 2) (by omega) (by omega) (by omega)
    have e2 : wrap64 ((i : Int) + 1) = ((i + 1 : Nat) : Int) := by rw [wrap64_id (by omega)]; omega
    have e3 : n / 2 / 2 ^ d = n / 2 ^ (d + 1) := by rw [Int.ediv_ediv_of_nonneg (by decide), Int.pow_succ, Int.mul_comm 2]
    by_cases h : n < 0
    · refine (if_pos h).trans ?_
      rw [e2, wrap64_id (a := n - 1) (by clear e2; omega), half_neg h, wrap64_id (a := n / 2) (by clear e2; omega), hr, e3]
    · refine (if_neg h).trans ?_
      rw [e2, half_pos h, wrap64_id (a := n / 2) (by clear e2; omega), hr, e3]
theorem shift_lt (b : Int) : ((b % 4294967296) % 32).toNat < 32 := by omega
theorem ref_val (op a b : Int) (ha : -2147483648 ≤ a ∧ a ≤ 2147483647) (hb : -2147483648 ≤ b ∧ b ≤ 2147483647) : plimsollref01_Do.f 100 op a b = some (dv op a b) := by
  unfold plimsollref01_Do.f dv
  have hp := prod_b ha hb
  have hd := @tdiv_b a b ha
  have hm := @tmod_b a b ha
  have hs := shift_lt b
  simp only [wrap64_id (a := a) (by omega), wrap64_id (a := b) (by omega), wrap64_id (a := a + b) (by omega), wrap64_id (a := a - b) (by omega), wrap64_id hp, wrap_val, Option.bind_some]
  rcases ops op with rfl | rfl | rfl | rfl | rfl | rfl | rfl | rfl | rfl | rfl | rfl | ⟨h7, h8, h9, h10, h11, h12, h13, h14, h15, h16, h17⟩
  · simp
  · simp
  · simp
  · by_cases hb0 : b = 0
    · simp [hb0, plimsollref01_Do.j0]
    · simp [hb0, plimsollref01_Do.j0, wrap_val, wrap64_id (a := Int.tdiv a b) (by omega)]
      intro h; subst h; rw [Int.tdiv_neg, Int.tdiv_one]
  · by_cases hb0 : b = 0
    · simp [hb0, plimsollref01_Do.j0]
    · simp [hb0, plimsollref01_Do.j0, wrap_val, wrap32_id hm]
      intro h; subst h; rw [Int.tmod_neg, Int.tmod_one]
  · simp [plimsollref01_Do.j0, plimsollref01_Do.j1, whole_val ha, whole_val hb, bitwise_val 12 (.inl rfl) 98 _ _ (by decide) (whole_lt a) (whole_lt b), wrap_val, bw]
  · simp [plimsollref01_Do.j0, plimsollref01_Do.j1, whole_val ha, whole_val hb, bitwise_val 13 (.inr rfl) 98 _ _ (by decide) (whole_lt a) (whole_lt b), wrap_val, bw]
  · simp only [plimsollref01_Do.j0, plimsollref01_Do.j1]
    have h := shl_l b hb ((b % 4294967296) % 32).toNat 98 0 a (by omega) (by omega) ha
    simpa using h
  · simp only [plimsollref01_Do.j0, plimsollref01_Do.j1]
    have h := shr_l b hb ((b % 4294967296) % 32).toNat 98 0 a (by omega) (by omega) ha
    simpa using h
  · simp [plimsollref01_Do.j0, plimsollref01_Do.j1]; split <;> rfl
  · simp [plimsollref01_Do.j0, plimsollref01_Do.j1]; split <;> rfl
  · simp [plimsollref01_Do.j0, plimsollref01_Do.j1, h7, h8, h9, h10, h11, h12, h13, h14, h15, h16, h17]

theorem NumDoes : plimsolllaw01_NumDoes.Pure := by
  intro op a b _ ha hb
  refine ⟨100, ?_⟩
  unfold plimsolllaw01_NumDoes.f
  rw [do_val 97, ref_val op a b (wf32 ha) (wf32 hb), awake_ok 90]
  simp
end Go.Proofs.Ytnpcaickoeboeaa.Pure
