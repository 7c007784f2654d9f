/- Plain mathematics: the digit at a place; a row of so many digits; limbs against digits. No condition. -/
import Derived.Test.YteggjfmcpodepaaDoorWSign
import Derived.Test.YteggjfmcpodepaaDoorByteWords
namespace Go.Proofs.YteggjfmcpodepaaDoor

/-- The decimal digits of a number, the lowest first. -/
@[irreducible] def tens (i : Int) : List Nat := digs 10 i.natAbs
theorem tens_eq (i : Int) : tens i = digs 10 i.natAbs := by unfold tens; rfl
theorem tens_small (i : Int) : small 10 (tens i) := by rw [tens_eq]; exact small_digs (by decide) _
theorem val_tens (i : Int) : val 10 (tens i) = i.natAbs := by rw [tens_eq]; exact val_digs (by decide) _
theorem tens_zero : tens 0 = [] := by rw [tens_eq]; rfl

theorem getD_val {b : Nat} (hb : 0 < b) : ∀ {l : List Nat}, small b l → ∀ k, l.getD k 0 = val b l / b ^ k % b
  | [], _, k => by simp [val]
  | x :: l, h, 0 => by
    obtain ⟨h1, _⟩ := small_cons.1 h
    simp [val, Nat.add_mul_mod_self_left, Nat.mod_eq_of_lt h1]
  | x :: l, h, k + 1 => by
    obtain ⟨h1, h2⟩ := small_cons.1 h
    have e : val b (x :: l) / b ^ (k + 1) = val b l / b ^ k := by
      rw [Nat.pow_succ, Nat.mul_comm, ← Nat.div_div_eq_div_mul]
      congr 1
      simp only [val]
      rw [Nat.add_mul_div_left _ _ hb, Nat.div_eq_of_lt h1, Nat.zero_add]
    rw [e, ← getD_val hb h2 k]
    simp
theorem nth_val {b : Nat} (hb : 0 < b) {l : List Nat} (h : small b l) (k : Nat) : nth l k = ((val b l / b ^ k % b : Nat) : Int) := by
  unfold nth; rw [getD_val hb h k]
theorem nth_tens (i : Int) (k : Nat) : nth (tens i) k = ((i.natAbs / 10 ^ k % 10 : Nat) : Int) := by
  rw [nth_val (by decide) (tens_small i), val_tens]

/-- So many digits of a number, the lowest first, noughts ahead too. -/
def pad : Nat → Nat → List Nat
  | 0, _ => []
  | k + 1, n => n % 10 :: pad k (n / 10)
theorem pad_length : ∀ k n, (pad k n).length = k
  | 0, _ => rfl
  | k + 1, n => by simp [pad, pad_length k]
theorem pad_small : ∀ k n, small 10 (pad k n)
  | 0, _ => small_nil
  | k + 1, n => small_cons.2 ⟨Nat.mod_lt _ (by decide), pad_small k _⟩
theorem pad_val : ∀ k n, val 10 (pad k n) = n % 10 ^ k
  | 0, n => by simp [pad, val, Nat.mod_one]
  | k + 1, n => by
    rw [pad, val, pad_val k, Nat.pow_succ, Nat.mul_comm (10 ^ k) 10, Nat.mod_mul]
theorem pad_snoc : ∀ k n, pad (k + 1) n = pad k n ++ [n / 10 ^ k % 10]
  | 0, n => by simp [pad]
  | k + 1, n => by
    rw [pad, pad_snoc k, pad, List.cons_append, Nat.div_div_eq_div_mul, Nat.pow_succ, Nat.mul_comm 10]
theorem B18_pow (k : Nat) : B18 ^ k = 10 ^ (18 * k) := by
  rw [Nat.pow_mul]; rfl
theorem chunk_div (V k j : Nat) : V / 10 ^ (18 * k + j) = V / B18 ^ k / 10 ^ j := by
  rw [B18_pow, Nat.div_div_eq_div_mul, Nat.pow_add]
theorem mod_div_pow (M j : Nat) (hj : j ≤ 18) : M % B18 / 10 ^ j = M / 10 ^ j % 10 ^ (18 - j) := by
  have e : B18 = 10 ^ j * 10 ^ (18 - j) := by rw [← Nat.pow_add, show j + (18 - j) = 18 from by omega]; rfl
  rw [e, Nat.mod_mul_right_div_self]
theorem chunk_digit (M j : Nat) (hj : j < 18) : M % B18 / 10 ^ j % 10 = M / 10 ^ j % 10 := by
  rw [mod_div_pow M j (by omega)]
  refine Nat.mod_mod_of_dvd _ ?_
  obtain ⟨m, hm⟩ : ∃ m, 18 - j = m + 1 := ⟨17 - j, by omega⟩
  rw [hm, Nat.pow_succ]
  exact Nat.dvd_mul_left _ _
/-- The digit of a row of limbs at a place. -/
theorem limb_digit {xs : List Nat} (h : small B18 xs) (k j : Nat) (hj : j < 18) : xs.getD k 0 / 10 ^ j % 10 = val B18 xs / 10 ^ (18 * k + j) % 10 := by
  rw [getD_val (by unfold B18; omega) h k, chunk_div, chunk_digit _ j hj]
theorem val_lt18 {xs : List Nat} (h : small B18 xs) : val B18 xs < 10 ^ (18 * xs.length) := by
  rw [← B18_pow]; exact val_lt h
theorem digs_pad {n k : Nat} (h : n < 10 ^ k) : digs 10 (val 10 (pad k n)) = digs 10 n := by
  rw [pad_val, Nat.mod_eq_of_lt h]
theorem digs_peel {b : Nat} (hb : 2 ≤ b) (n m : Nat) (h : n / b ^ m ≠ 0) : digs b (n / b ^ m) = n / b ^ m % b :: digs b (n / b ^ (m + 1)) := by
  rw [digs_step hb h, Nat.div_div_eq_div_mul, Nat.pow_succ]
theorem tens_le (i : Int) (m : Nat) : (tens i).length ≤ 18 * m ↔ i.natAbs / B18 ^ m = 0 := by
  have h0 : 0 < B18 ^ m := Nat.pow_pos (by unfold B18; omega)
  rw [tens_eq, digs_length_le (by decide), ← B18_pow]
  constructor
  · intro h; exact Nat.div_eq_of_lt h
  · intro h
    rcases Nat.lt_or_ge i.natAbs (B18 ^ m) with h1 | h1
    · exact h1
    · have := Nat.div_pos h1 h0; omega
/-- A limb is built from its digits, the highest first. -/
theorem limb_step (M k : Nat) (hk : k < 18) : M % B18 / 10 ^ k = 10 * (M % B18 / 10 ^ (k + 1)) + M / 10 ^ k % 10 := by
  rw [← chunk_digit M k hk, Nat.pow_succ, ← Nat.div_div_eq_div_mul]
  omega
end Go.Proofs.YteggjfmcpodepaaDoor
