/- Plain mathematics of long division: the guess of a quotient's digit. No program in sight. -/
import Derived.Test.YteggjfmcpodepaaDoorWTake
namespace Go.Proofs.YteggjfmcpodepaaDoor

section
variable {P D R V v1 v2 u3 top g rest B : Nat}
/-- The first guess is not too small. -/
theorem guess_first (hD : P * (v1 * B + v2) ≤ D) (hR : R < P * (top * B + u3 + 1)) (hu : u3 < B) (h : top < (g + 1) * v1) : R < (g + 1) * D := by
  have h1 : top * B + u3 + 1 ≤ (top + 1) * B := by rw [Nat.add_mul]; omega
  have h2 : (top + 1) * B ≤ (g + 1) * v1 * B := Nat.mul_le_mul_right _ h
  have h3 : (g + 1) * v1 * B ≤ (g + 1) * (v1 * B + v2) := by rw [Nat.mul_assoc]; exact Nat.mul_le_mul_left _ (by omega)
  have h4 : P * (top * B + u3 + 1) ≤ P * ((g + 1) * (v1 * B + v2)) := Nat.mul_le_mul_left _ (by omega)
  have h5 : P * ((g + 1) * (v1 * B + v2)) = (g + 1) * (P * (v1 * B + v2)) := Nat.mul_left_comm _ _ _
  have h6 : (g + 1) * (P * (v1 * B + v2)) ≤ (g + 1) * D := Nat.mul_le_mul_left _ hD
  omega
/-- A guess of the base or more is too great. -/
theorem guess_base (hR : R < B * D) (h : B ≤ g) : R < g * D := Nat.lt_of_lt_of_le hR (Nat.mul_le_mul_right _ h)
/-- A guess that the second digit refutes is too great. -/
theorem guess_second (hD : P * (v1 * B + v2) ≤ D) (hR : R < P * (top * B + u3 + 1)) (ht : g * v1 + rest = top) (h : rest * B + u3 < g * v2) : R < g * D := by
  subst ht
  have h1 : (g * v1 + rest) * B + u3 + 1 ≤ g * (v1 * B + v2) := by rw [Nat.add_mul, Nat.mul_add, Nat.mul_assoc]; omega
  have h4 : P * ((g * v1 + rest) * B + u3 + 1) ≤ P * (g * (v1 * B + v2)) := Nat.mul_le_mul_left _ h1
  have h5 : P * (g * (v1 * B + v2)) = g * (P * (v1 * B + v2)) := Nat.mul_left_comm _ _ _
  have h6 : g * (P * (v1 * B + v2)) ≤ g * D := Nat.mul_le_mul_left _ hD
  omega
/-- A rest of the base or more: the guess is right. -/
theorem guess_rest (hD : D < P * (v1 * B + v2 + 1)) (hv : v2 < B) (hR : P * (top * B + u3) ≤ R) (ht : g * v1 + rest = top) (hg : g ≤ rest) : g * D ≤ R := by
  subst ht
  have h1 : g * D ≤ g * (P * (v1 * B + v2 + 1)) := Nat.mul_le_mul_left _ (Nat.le_of_lt hD)
  have h2 : g * (P * (v1 * B + v2 + 1)) = P * (g * (v1 * B + v2 + 1)) := Nat.mul_left_comm _ _ _
  have h3 : g * (v1 * B + v2 + 1) ≤ (g * v1 + rest) * B + u3 := by
    have a1 : g * (v1 * B + v2 + 1) ≤ g * (v1 * B + B) := Nat.mul_le_mul_left _ (by omega)
    have a2 : g * (v1 * B + B) = g * v1 * B + g * B := by rw [Nat.mul_add, Nat.mul_assoc]
    have a3 : g * B ≤ rest * B := Nat.mul_le_mul_right _ hg
    rw [Nat.add_mul]; omega
  have h4 : P * (g * (v1 * B + v2 + 1)) ≤ P * ((g * v1 + rest) * B + u3) := Nat.mul_le_mul_left _ h3
  omega
/-- A guess that stands the second digit's test is at most one too great. -/
theorem guess_last (hD : D < P * (v1 * B + v2 + 1)) (hD' : P * (v1 * B + v2) ≤ D) (hv1 : 1 ≤ v1) (hR : P * (top * B + u3) ≤ R) (ht : g * v1 + rest = top) (hg : g < B) (h : g * v2 ≤ rest * B + u3) : g * D ≤ R + D := by
  subst ht
  have h1 : g * D ≤ g * (P * (v1 * B + v2 + 1)) := Nat.mul_le_mul_left _ (Nat.le_of_lt hD)
  have h2 : g * (P * (v1 * B + v2 + 1)) = P * (g * (v1 * B + v2 + 1)) := Nat.mul_left_comm _ _ _
  have h3 : g * (v1 * B + v2 + 1) ≤ (g * v1 + rest) * B + u3 + B := by
    have a2 : g * (v1 * B + v2 + 1) = g * v1 * B + g * v2 + g := by rw [Nat.mul_add, Nat.mul_add, Nat.mul_assoc, Nat.mul_one]
    rw [a2, Nat.add_mul]; omega
  have h4 : P * (g * (v1 * B + v2 + 1)) ≤ P * ((g * v1 + rest) * B + u3 + B) := Nat.mul_le_mul_left _ h3
  have h5 : P * ((g * v1 + rest) * B + u3 + B) = P * ((g * v1 + rest) * B + u3) + P * B := Nat.mul_add _ _ _
  have h6 : P * B ≤ P * (v1 * B + v2) := Nat.mul_le_mul_left _ (by have := Nat.mul_le_mul_right B hv1; omega)
  omega
theorem guess_top (hD : D < P * (v1 * B + v2 + 1)) (hv : v2 < B) (hR : P * (top * B + u3) ≤ R) (hlt : R < B * D) : top < (v1 + 1) * B := by
  rcases Nat.lt_or_ge top ((v1 + 1) * B) with h | h
  · exact h
  · exfalso
    have h1 : P * ((v1 + 1) * B * B) ≤ P * (top * B + u3) := Nat.mul_le_mul_left _ (by have := Nat.mul_le_mul_right B h; omega)
    have h2 : B * D ≤ B * (P * (v1 * B + v2 + 1)) := Nat.mul_le_mul_left _ (Nat.le_of_lt hD)
    have h3 : B * (P * (v1 * B + v2 + 1)) = P * (B * (v1 * B + v2 + 1)) := Nat.mul_left_comm _ _ _
    have h4 : P * (B * (v1 * B + v2 + 1)) ≤ P * ((v1 + 1) * B * B) := Nat.mul_le_mul_left _ (by
      rw [Nat.mul_comm ((v1 + 1) * B) B]; refine Nat.mul_le_mul_left _ ?_
      rw [Nat.add_mul]; omega)
    omega
end

/-- The digits of u that the guess looks at. -/
theorem window_u {us : List Nat} {t m : Nat} (hs : small B9 us) (hz : zeroFrom us (t + m + 3)) (hl : t + m + 2 < us.length) :
    B9 ^ (t + m) * ((us.getD (t + m + 2) 0 * B9 + us.getD (t + m + 1) 0) * B9 + us.getD (t + m) 0) ≤ val B9 us ∧ val B9 us < B9 ^ (t + m) * ((us.getD (t + m + 2) 0 * B9 + us.getD (t + m + 1) 0) * B9 + us.getD (t + m) 0 + 1) := by
  have e1 := val_take_of_zero (b := B9) us (t + m + 3) (fun j hj _ => hz j hj)
  rw [val_take_succ, val_take_succ, val_take_succ] at e1
  have h1 := val_lt (small_take hs (t + m))
  rw [List.length_take, Nat.min_eq_left (by omega)] at h1
  generalize us.getD (t + m) 0 = x at *
  generalize us.getD (t + m + 1) 0 = y at *
  generalize us.getD (t + m + 2) 0 = z at *
  have e2 : B9 ^ (t + m) * ((z * B9 + y) * B9 + x) = B9 ^ (t + m) * x + B9 ^ (t + m + 1) * y + B9 ^ (t + m + 2) * z := by
    simp only [show t + m + 2 = t + m + 1 + 1 from rfl, Nat.pow_succ]
    generalize B9 ^ (t + m) = p
    simp only [Nat.mul_add, Nat.mul_comm, Nat.mul_left_comm]
    omega
  rw [Nat.mul_add (B9 ^ (t + m)) _ 1, Nat.mul_one, e2]
  omega
/-- The digits of v that the guess looks at. -/
theorem window_v {vs : List Nat} {t m : Nat} (hs : small B9 vs) (hl : vs.length = m + 2) :
    B9 ^ (t + m) * (vs.getD (m + 1) 0 * B9 + vs.getD m 0) ≤ B9 ^ t * val B9 vs ∧ B9 ^ t * val B9 vs < B9 ^ (t + m) * (vs.getD (m + 1) 0 * B9 + vs.getD m 0 + 1) := by
  have e1 := val_take_all (b := B9) vs (m + 2) (by omega)
  rw [val_take_succ, val_take_succ] at e1
  have h1 := val_lt (small_take hs m)
  rw [List.length_take, Nat.min_eq_left (by omega)] at h1
  generalize vs.getD m 0 = x at *
  generalize vs.getD (m + 1) 0 = y at *
  have e2 : B9 ^ m * (y * B9 + x) = B9 ^ m * x + B9 ^ (m + 1) * y := by
    rw [Nat.pow_succ, Nat.mul_add]
    have a2 : B9 ^ m * (y * B9) = B9 ^ m * B9 * y := by rw [Nat.mul_comm y, Nat.mul_assoc]
    rw [a2]; omega
  have h2 : B9 ^ m * (y * B9 + x) ≤ val B9 vs := by omega
  have h3 : val B9 vs < B9 ^ m * (y * B9 + x + 1) := by rw [Nat.mul_add, Nat.mul_one]; omega
  rw [Nat.pow_add, Nat.mul_assoc, Nat.mul_assoc]
  exact ⟨Nat.mul_le_mul_left _ h2, Nat.mul_lt_mul_of_pos_left h3 (pow_pos' B9_two t)⟩
/-- One digit of the quotient more. -/
theorem long_step {X V Rz Ry t Q : Nat} {qs : List Nat} (ht : t < qs.length) (h : X = B9 ^ (t + 1) * (val B9 (qs.drop (t + 1)) * V) + Rz) (hq : Ry + B9 ^ t * (Q * V) = Rz) :
    X = B9 ^ t * (val B9 ((qs.set t Q).drop t) * V) + Ry := by
  rw [drop_set qs t Q ht, h, ← hq]
  simp only [val]
  generalize val B9 (qs.drop (t + 1)) = W
  have e1 : B9 ^ t * ((Q + B9 * W) * V) = B9 ^ t * (Q * V) + B9 ^ (t + 1) * (W * V) := by
    rw [Nat.add_mul, Nat.mul_add, Nat.pow_succ, Nat.mul_assoc B9, Nat.mul_assoc]
  rw [e1]
  omega
theorem long_yes {V Rz Ry t Q : Nat} (hq : Ry + B9 ^ t * (Q * V) = Rz) (hG : Rz < (Q + 1) * (B9 ^ t * V)) : Ry < B9 ^ t * V := by
  have e : (Q + 1) * (B9 ^ t * V) = B9 ^ t * (Q * V) + B9 ^ t * V := by rw [Nat.add_mul, Nat.one_mul, Nat.mul_left_comm]
  omega
theorem long_no {V Rz Ry t Q : Nat} (hq : Ry + B9 ^ t * (Q * V) = Rz + B9 ^ t * V) (hlt : Rz < B9 ^ t * (Q * V)) : 1 ≤ Q ∧ Ry + B9 ^ t * ((Q - 1) * V) = Rz ∧ Ry < B9 ^ t * V := by
  have h1 : 1 ≤ Q := by
    rcases Nat.eq_zero_or_pos Q with h | h
    · subst h; simp at hlt
    · exact h
  obtain ⟨q, rfl⟩ : ∃ q, Q = q + 1 := ⟨Q - 1, by omega⟩
  have e : B9 ^ t * ((q + 1) * V) = B9 ^ t * (q * V) + B9 ^ t * V := by rw [Nat.add_mul, Nat.one_mul, Nat.mul_add]
  refine ⟨h1, ?_, ?_⟩
  · rw [Nat.add_sub_cancel]; omega
  · omega
/-- The end: what is left, divided by the scale, is the rest. -/
theorem long_end {X Y Q Z d r : Nat} (h : X * d = Q * (Y * d) + (Z * d + r)) (hr : r < d) (hlt : Z * d + r < Y * d) : X = Q * Y + Z ∧ Z < Y := by
  have h1 : Q * (Y * d) = Q * Y * d := (Nat.mul_assoc _ _ _).symm
  have h2 : X * d = (Q * Y + Z) * d + r := by rw [h, h1, Nat.add_mul]; omega
  have h3 : X = Q * Y + Z := by
    have a : (X * d) / d = ((Q * Y + Z) * d + r) / d := by rw [h2]
    rw [Nat.mul_div_cancel _ (by omega), Nat.add_comm, Nat.add_mul_div_right _ _ (by omega), Nat.div_eq_of_lt hr] at a
    omega
  refine ⟨h3, ?_⟩
  rcases Nat.lt_or_ge Z Y with h4 | h4
  · exact h4
  · have := Nat.mul_le_mul_right d h4; omega
end Go.Proofs.YteggjfmcpodepaaDoor
