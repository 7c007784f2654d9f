/- Texts of this claim. -/
namespace Go.Proofs.YtmjbnhjgebjhlaaDoor
def val (b : Nat) : List Nat → Nat
 | [] => 0
 | x :: l => x + b * val b l
def small (b : Nat) (l : List Nat) : Prop := ∀ x ∈ l, x < b
def zzx (b : Nat) : Nat → Nat → List Nat
 | 0, _ => []
 | f + 1, n => if n = 0 then [] else n % b :: zzx b f (n / b)
def digs (b n : Nat) : List Nat := zzx b n n
def noLead (l : List Nat) : Prop := l.length = 0 ∨ l.getD (l.length - 1) 0 ≠ 0
section
variable {b : Nat}
theorem val_append (l m : List Nat) : val b (l ++ m) = val b l + b ^ l.length * val b m := by
 induction l with
 | nil => simp [val]
 | cons x l ih =>
  simp only [List.cons_append, val, ih, List.length_cons, Nat.pow_succ, Nat.mul_add]
  rw [Nat.mul_comm (b ^ l.length) b, Nat.mul_assoc];omega
theorem val_snoc (l : List Nat) (x : Nat) : val b (l ++ [x]) = val b l + b ^ l.length * x := by
 rw [val_append]; simp [val]
theorem take_succ_getD (l : List Nat) (k : Nat) (h : k < l.length) : l.take (k + 1) = l.take k ++ [l.getD k 0] := by
 rw [List.take_succ_eq_append_getElem h]; simp [List.getD, List.getElem?_eq_getElem h]
theorem zeq (l : List Nat) (k : Nat) (h : l.length ≤ k) : l.getD k 0 = 0 := by
 simp [List.getD, List.getElem?_eq_none h]
theorem val_take_succ (l : List Nat) (k : Nat) : val b (l.take (k + 1)) = val b (l.take k) + b ^ k * l.getD k 0 := by
 by_cases h : k < l.length
 · rw [take_succ_getD l k h, val_snoc, List.length_take, Nat.min_eq_left (by omega)]
 · rw [List.take_of_length_le (by omega), List.take_of_length_le (by omega), zeq l k (by omega)]; simp
theorem val_take_all (l : List Nat) (k : Nat) (h : l.length ≤ k) : val b (l.take k) = val b l := by rw [List.take_of_length_le h]
theorem small_append {l m : List Nat} : small b (l ++ m) ↔ small b l ∧ small b m := by
 unfold small;constructor
 · intro h; exact ⟨fun x hx => h x (by simp [hx]), fun x hx => h x (by simp [hx])⟩
 · rintro ⟨h1, h2⟩ x hx;rcases List.mem_append.1 hx with h | h
   · exact h1 x h
   · exact h2 x h
theorem zfz {l : List Nat} {x : Nat} (h : small b l) (hx : x < b) : small b (l ++ [x]) :=
 small_append.2 ⟨h, fun y hy => by simp at hy; subst hy; exact hx⟩
theorem zmv : small b [] := fun _ h => by cases h
theorem small_cons {x : Nat} {l : List Nat} : small b (x :: l) ↔ x < b ∧ small b l := by
 unfold small; constructor
 · intro h; exact ⟨h x (by simp), fun y hy => h y (by simp [hy])⟩
 · rintro ⟨h1, h2⟩ y hy;rcases List.mem_cons.1 hy with h | h
   · subst h; exact h1
   · exact h2 y h
theorem small_take {l : List Nat} (h : small b l) (k : Nat) : small b (l.take k) := fun x hx => h x (List.mem_of_mem_take hx)
theorem val_lt {l : List Nat} (h : small b l) : val b l < b ^ l.length := by
 induction l with
 | nil => simp [val]
 | cons x l ih =>
  obtain ⟨h1, h2⟩ := small_cons.1 h;have := ih h2;simp only [val, List.length_cons, Nat.pow_succ]
  have h3 : b * (val b l + 1) ≤ b * b ^ l.length := Nat.mul_le_mul_left b this;rw [Nat.mul_add, Nat.mul_one] at h3;rw [Nat.mul_comm (b ^ l.length) b];omega
/-! ### the digits of a number -/
theorem digsF_enough (hb : 2 ≤ b) : ∀ (f g n : Nat), n ≤ f → n ≤ g → zzx b f n = zzx b g n := by
 intro f;induction f with
 | zero =>
  intro g n hf _;obtain rfl : n = 0 := by omega
  cases g <;> simp [zzx]
 | succ f ih =>
  intro g n hf hg;by_cases hn : n = 0
  · subst hn; cases g <;> simp [zzx]
  · obtain ⟨g, rfl⟩ : ∃ g', g = g' + 1 := ⟨g - 1, by omega⟩;have hlt : n / b < n := Nat.div_lt_self (by omega) hb;simp only [zzx, hn, if_false]
    rw [ih g (n / b) (by omega) (by omega)]
theorem digs_zero : digs b 0 = [] := rfl
theorem digs_step (hb : 2 ≤ b) {n : Nat} (hn : n ≠ 0) : digs b n = n % b :: digs b (n / b) := by
 obtain ⟨m, rfl⟩ : ∃ m, n = m + 1 := ⟨n - 1, by omega⟩;have hlt : (m + 1) / b < m + 1 := Nat.div_lt_self (by omega) hb;show zzx b (m + 1) (m + 1) = _
 simp only [zzx, hn, if_false]
 rw [digsF_enough hb m ((m + 1) / b) _ (by omega) (Nat.le_refl _)];rfl
theorem ygv {x : Nat} {l : List Nat} (h : noLead (x :: l)) : noLead l := by
 rcases h with h | h
 · simp at h
 · by_cases hl : l.length = 0
   · exact Or.inl hl
   · right
     obtain ⟨m, hm⟩ : ∃ m, l.length = m + 1 := ⟨l.length - 1, by omega⟩;rw [List.length_cons, Nat.add_sub_cancel, hm] at h;rw [hm];simpa using h
theorem val_ne_zero (hb : 2 ≤ b) : ∀ {l : List Nat}, noLead l → l.length ≠ 0 → val b l ≠ 0 := by
 intro l;induction l with
 | nil => intro _ h; simp at h
 | cons x l ih =>
  intro h _;by_cases hl : l.length = 0
  · obtain rfl := List.eq_nil_of_length_eq_zero hl;rcases h with h | h
    · simp at h
    · simp at h; simp [val]; exact h
  · have := ih (ygv h) hl;have h2 : 0 < b * val b l := Nat.mul_pos (by omega) (by omega);simp only [val]; omega
theorem eq_digs (hb : 2 ≤ b) : ∀ {l : List Nat}, small b l → noLead l → l = digs b (val b l) := by
 intro l;induction l with
 | nil => intro _ _; rfl
 | cons x l ih =>
  intro hs hl;obtain ⟨h1, h2⟩ := small_cons.1 hs;have hne := val_ne_zero hb hl (by simp);rw [digs_step hb hne];have hm : val b (x :: l) % b = x := by simp only [val]; rw [Nat.add_mul_mod_self_left]; exact Nat.mod_eq_of_lt h1
  have hd : val b (x :: l) / b = val b l := by simp only [val]; rw [Nat.add_mul_div_left _ _ (by omega), Nat.div_eq_of_lt h1]; omega
  rw [hm, hd, ← ih h2 (ygv hl)]
theorem zdk (l : List Nat) (k : Nat) (h : ∀ j, k ≤ j → j < l.length → l.getD j 0 = 0) : val b (l.take k) = val b l := by
 by_cases hk : l.length ≤ k
 · exact val_take_all l k hk
 · have : ∀ d, k + d ≤ l.length → val b (l.take (k + d)) = val b (l.take k) := by
    intro d;induction d with
    | zero => intro _; rfl
    | succ d ih =>
     intro hd;rw [← Nat.add_assoc, val_take_succ, h (k + d) (by omega) (by omega), ih (by omega)]; simp
   have h2 := this (l.length - k) (by omega);rw [← h2, show k + (l.length - k) = l.length from by omega, List.take_length]
theorem strip_eq (hb : 2 ≤ b) {l : List Nat} {k : Nat} (hs : small b l) (hk : k ≤ l.length) (h0 : ∀ j, k ≤ j → j < l.length → l.getD j 0 = 0) (hl : 0 < k → l.getD (k - 1) 0 ≠ 0) :
 l.take k = digs b (val b l) := by
 rw [← zdk (b := b) l k h0];refine eq_digs hb (small_take hs k) ?_;by_cases hk0 : k = 0
 · left; simp [hk0]
 · right
   have h2 := hl (by omega);rw [List.length_take, Nat.min_eq_left hk];have e : (l.take k).getD (k - 1) 0 = l.getD (k - 1) 0 := by
    simp only [List.getD, List.getElem?_take]; rw [if_pos (by omega)]
   rw [e]; exact h2
/-! ### comparison -/
def cmpN (m n : Nat) : Int := if m < n then -1 else if n < m then 1 else 0
end
end Go.Proofs.YtmjbnhjgebjhlaaDoor
