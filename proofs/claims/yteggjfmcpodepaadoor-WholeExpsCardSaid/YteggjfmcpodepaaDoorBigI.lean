/- Numbers in limbs that are in form, by the whole number that they are: the contracts of package whole in that wording. -/
import Derived.Test.YteggjfmcpodepaaDoorTy
import Derived.Test.YteggjfmcpodepaaDoorLawFns
import Derived.Test.YteggjfmcpodepaaDoorWMul
import Derived.Test.YteggjfmcpodepaaDoorPers
import Derived.Test.YteggjfmcpodepaaDoorWDivBad
import Derived.Test.YteggjfmcpodepaaDoorWCmp
namespace Go.Proofs.YteggjfmcpodepaaDoor
open Go.RowKit
theorem Per.nums {X : Nat → Prop} {w : World} {A : Option Addr} {xs : List Nat} (h : Nums w A xs) (hx : ∀ q, A = some q → ¬ X q.block) : Per X w (fun b => Nums b A xs) := fun b hb =>
  ⟨h.1, fun h0 => by
    obtain ⟨g, o, rfl, hg, hc⟩ := h.2 h0
    exact ⟨g, o, rfl, Nat.lt_of_lt_of_le hg hb.size, fun k hk => (hb.cell (p := ⟨g, o + k, none⟩) hg (hx ⟨g, o, none⟩ rfl)).trans (hc k hk)⟩⟩
theorem Per.nums0 {w : World} {A : Option Addr} {xs : List Nat} (h : Nums w A xs) : Per No w (fun b => Nums b A xs) := Per.nums h (fun _ _ => id)
theorem Per.own {X : Nat → Prop} {w : World} {base : Nat} {A : Option Addr} {c : Nat} {xs : List Nat} (h : Own w base A c xs) (hx : ∀ k, X k → k < base) : Per X w (fun b => Nums b A xs) := Per.nums h.nums (fun q hq e => by have := hx _ e; have := (h.ge q hq).1; omega)
theorem good_is {n : Bool} {xs : List Nat} (h : goodB n xs = true) : ∃ i : Int, n = decide (i < 0) ∧ xs = limbs i ∧ i.natAbs < B18 ^ 30 := by
  refine ⟨num n xs, ?_, (limbs_num h).symm, num_lt h⟩
  obtain ⟨hs, hn, _, h0⟩ := good_parts h
  rw [num_eq, sgn_neg]
  cases n
  · rfl
  · have hne : val B18 xs ≠ 0 := val_ne_zero B18_two hn (fun e => by have := h0 e; cases this)
    simp [hne]
/-- A number in limbs, as a value. -/
def big (i : Int) (A : Option Addr) (c : Nat) : Value := .agg #[.bool (decide (i < 0)), .slice A (limbs i).length c]
section
variable {i j : Int} (A B : Option Addr) (c d : Nat) (w : World) (hi : i.natAbs < B18 ^ 30) (hj : j.natAbs < B18 ^ 30) (hx : Nums w A (limbs i)) (hy : Nums w B (limbs j))
include hi
theorem lim_le : (limbs i).length ≤ 30 := limbs_length hi
include hx
theorem goodI : Calls Tryd.prog 19 #[.agg #[.bool (decide (i < 0)), .slice A (limbs i).length c]] w fun e w' => e = .returned (.bool true) ∧ Below w.heap.size w w' := by
  have h := good_any (decide (i < 0)) c w A (limbs i) (by have := limbs_length hi; omega) hx
  rwa [good_limbs hi] at h
theorem signI : Calls Tryd.prog 30 #[.agg #[.bool (decide (i < 0)), .slice A (limbs i).length c]] w fun e w' => e = .returned (.int .i64 (cmpI i 0)) ∧ Below w.heap.size w w' := by
  have h := sign_good A c (limbs i) w (decide (i < 0)) hx (good_limbs hi)
  rwa [num_limbs] at h
include hj hy
theorem addI : Calls Tryd.prog 27 #[.agg #[.bool (decide (i < 0)), .slice A (limbs i).length c], .agg #[.bool (decide (j < 0)), .slice B (limbs j).length d]] w (RetBigErr w (outV true (i + j)) (outE true (i + j))) := by
  have h := add_any A B c d (limbs i) (limbs j) w (decide (i < 0)) (decide (j < 0)) hx hy (by have := limbs_length hi; omega) (by have := limbs_length hj; omega)
  rwa [good_limbs hi, good_limbs hj, num_limbs, num_limbs] at h
theorem subI : Calls Tryd.prog 28 #[.agg #[.bool (decide (i < 0)), .slice A (limbs i).length c], .agg #[.bool (decide (j < 0)), .slice B (limbs j).length d]] w (RetBigErr w (outV true (i - j)) (outE true (i - j))) := by
  have h := sub_any A B c d (limbs i) (limbs j) w (decide (i < 0)) (decide (j < 0)) hx hy (by have := limbs_length hi; omega) (by have := limbs_length hj; omega)
  rwa [good_limbs hi, good_limbs hj, num_limbs, num_limbs] at h
theorem mulI : Calls Tryd.prog 36 #[.agg #[.bool (decide (i < 0)), .slice A (limbs i).length c], .agg #[.bool (decide (j < 0)), .slice B (limbs j).length d]] w (RetBigErr w (outV true (i * j)) (outE true (i * j))) := by
  have h := mul_any (decide (i < 0)) (decide (j < 0)) A B c d (limbs i) (limbs j) w hx hy (by have := limbs_length hi; omega) (by have := limbs_length hj; omega)
  rwa [good_limbs hi, good_limbs hj, num_limbs, num_limbs] at h
theorem cmpI_ : Calls Tryd.prog 29 #[.agg #[.bool (decide (i < 0)), .slice A (limbs i).length c], .agg #[.bool (decide (j < 0)), .slice B (limbs j).length d]] w fun e w' => e = .returned (.int .i64 (cmpI i j)) ∧ Below w.heap.size w w' := by
  have h := cmp_any A B c d (limbs i) (limbs j) w (decide (i < 0)) (decide (j < 0)) hx hy (by have := limbs_length hi; omega) (by have := limbs_length hj; omega)
  rw [good_limbs hi, good_limbs hj, num_limbs, num_limbs] at h
  unfold cmpO at h
  exact h
theorem formI : Calls Tryd.prog 15 #[.agg #[.bool (decide (i < 0)), .slice A (limbs i).length c], .agg #[.bool (decide (j < 0)), .slice B (limbs j).length d]] w fun e w' => e = .returned (.int .i64 0) ∧ Below w.heap.size w w' := by
  have h := lform_any (decide (i < 0)) (decide (j < 0)) A B c d (limbs i) (limbs j) w hx hy (by have := limbs_length hi; omega) (by have := limbs_length hj; omega)
  rw [good_limbs hi, good_limbs hj] at h
  exact h
/-- Same, of two numbers that are one. -/
theorem sameI (e : j = i) : Calls Tryd.prog 21 #[.agg #[.bool (decide (i < 0)), .slice A (limbs i).length c], .agg #[.bool (decide (j < 0)), .slice B (limbs j).length d]] w fun e w' => e = .returned (.bool true) ∧ Below w.heap.size w w' := by
  have _ := hj
  subst e
  exact rsame_self A B c d _ _ w hx hy (by have := limbs_length hi; omega)
end
theorem outV_lt {i : Int} : (outV true i).natAbs < B18 ^ 30 := by
  unfold outV
  rw [if_pos rfl]
  split
  · assumption
  · exact Nat.pow_pos (by unfold B18; omega)
theorem outE_zero {i : Int} (h : outE true i = 0) : i.natAbs < B18 ^ 30 := by
  unfold outE at h
  rw [if_pos rfl] at h
  split at h
  · assumption
  · cases h
theorem dqI {n1 n2 : Bool} {X Y : Nat} (hX : X < B18 ^ 30) (hY : 0 < Y) : (dq n1 n2 X Y).natAbs < B18 ^ 30 := by
  have h3 : X / Y ≤ X := Nat.div_le_self _ _
  have hp : 1 < B18 ^ 30 := Nat.one_lt_pow (by decide) (by unfold B18; omega)
  unfold dq
  split
  · rw [Int.natAbs_natCast]; omega
  · split
    · rw [Int.natAbs_neg, Int.natAbs_natCast]; omega
    · rename_i h
      rw [Int.natAbs_neg, Int.natAbs_natCast]
      have hY2 : 2 ≤ Y := by
        rcases Nat.lt_or_ge Y 2 with h2 | h2
        · exact absurd (by rw [show Y = 1 by omega, Nat.mod_one]) h
        · exact h2
      have h4 : X / Y ≤ X / 2 := Nat.div_le_div_left hY2 (by omega)
      omega
theorem euclid {n1 n2 : Bool} {X Y : Nat} (hY : 0 < Y) : dq n1 n2 X Y * sgn n2 Y + dr n1 n2 X Y = sgn n1 X := by
  have h1 := Nat.mod_add_div X Y
  have h2 := Nat.mod_lt X hY
  unfold dq dr
  generalize hq : X / Y = q at *
  generalize hr : X % Y = r at *
  have h3 : ((r : Nat) : Int) + (Y : Int) * (q : Int) = (X : Int) := by exact_mod_cast h1
  cases n1 <;> cases n2 <;> simp only [sgn, reduceCtorEq, if_true, if_false, Bool.false_eq_true]
  · rw [Int.mul_comm]; omega
  · split
    · rename_i h0; subst h0; simp only [Int.neg_mul_neg]; rw [Int.mul_comm]; omega
    · simp only [Int.neg_mul_neg, Int.natCast_add, Int.add_mul, Int.natCast_one, Int.one_mul]
      rw [Int.mul_comm (q : Int)]; omega
  · split
    · rename_i h0; subst h0; rw [Int.neg_mul, Int.mul_comm]; omega
    · simp only [Int.neg_mul, Int.natCast_add, Int.add_mul, Int.natCast_one, Int.one_mul]
      rw [Int.mul_comm (q : Int)]; omega
  · rw [Int.mul_neg, Int.mul_comm]; omega
theorem below_ext {a b : World} (h : Ext No a b) : Below a.heap.size a b := h.toBelow
end Go.Proofs.YteggjfmcpodepaaDoor
