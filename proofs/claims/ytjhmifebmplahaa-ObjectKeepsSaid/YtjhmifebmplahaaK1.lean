/- Texts of this claim. -/
namespace Go.Proofs.Ytjhmifebmplahaa
def val (b : Nat) : List Nat → Nat
 | [] => 0
 | x :: l => x + b * val b l
def small (b : Nat) (l : List Nat) : Prop := ∀ x ∈ l, x < b
def digsF (b : Nat) : Nat → Nat → List Nat
 | 0, _ => []
 | f + 1, n => if n = 0 then [] else n % b :: digsF b f (n / b)
def digs (b n : Nat) : List Nat := digsF b n n
def noLead (l : List Nat) : Prop := l.length = 0 ∨ l.getD (l.length - 1) 0 ≠ 0
section
variable {b : Nat}
theorem oz (l : List Nat) (k : Nat) (h : l.length ≤ k) : l.getD k 0 = 0 := by
 simp [List.getD, List.getElem?_eq_none h]
/-! ### the digits of a number -/
/-! ### comparison -/
def cmpN (m n : Nat) : Int := if m < n then -1 else if n < m then 1 else 0
end
end Go.Proofs.Ytjhmifebmplahaa
