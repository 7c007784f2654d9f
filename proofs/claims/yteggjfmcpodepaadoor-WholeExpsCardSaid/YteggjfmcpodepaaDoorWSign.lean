/- What numbers in form are; the walks of whole.Sign, Neg, Cmp. -/
import Derived.Test.YteggjfmcpodepaaDoorWGood
import Derived.Test.YteggjfmcpodepaaDoorWFits
import Derived.Test.YteggjfmcpodepaaDoorWSize
namespace Go.Proofs.YteggjfmcpodepaaDoor
open Go.RowKit

/-- The number that a sign and limbs say. -/
@[irreducible] def num (neg : Bool) (xs : List Nat) : Int := sgn neg (val B18 xs)
theorem num_eq (neg : Bool) (xs : List Nat) : num neg xs = sgn neg (val B18 xs) := by unfold num; rfl
theorem good_parts {neg : Bool} {xs : List Nat} (h : goodB neg xs = true) : small B18 xs ∧ noLead xs ∧ xs.length ≤ 30 ∧ (xs.length = 0 → neg = false) := by
  unfold goodB at h
  by_cases h0 : xs.length = 0
  · rw [if_pos h0] at h
    obtain rfl := List.eq_nil_of_length_eq_zero h0
    exact ⟨small_nil, Or.inl rfl, by simp, fun _ => by simpa using h⟩
  rw [if_neg h0] at h
  by_cases h1 : 30 < xs.length
  · rw [if_pos h1] at h; cases h
  rw [if_neg h1] at h
  by_cases h2 : nth xs (xs.length - 1) = 0
  · rw [if_pos h2] at h; cases h
  rw [if_neg h2] at h
  refine ⟨small_of_getD fun k hk => ?_, Or.inr fun e => h2 (by unfold nth; rw [e]; rfl), by omega, fun e => absurd e h0⟩
  unfold allLt at h
  rw [List.all_eq_true] at h
  have := h k (by simpa using hk)
  unfold nth at this
  simp only [decide_eq_true_eq] at this
  unfold B18; omega
theorem good_of_parts {neg : Bool} {xs : List Nat} (hs : small B18 xs) (hn : noLead xs) (hl : xs.length ≤ 30) (h0 : xs.length = 0 → neg = false) : goodB neg xs = true := by
  unfold goodB
  by_cases h : xs.length = 0
  · rw [if_pos h, h0 h]; rfl
  rw [if_neg h, if_neg (by omega)]
  rcases hn with hn | hn
  · exact absurd hn h
  rw [if_neg (by unfold nth; omega)]
  exact allLt_yes fun k _ => nth_lt (by unfold B18; omega) hs k
theorem num_natAbs (neg : Bool) (xs : List Nat) : (num neg xs).natAbs = val B18 xs := by rw [num_eq, sgn_natAbs]
theorem limbs_num {neg : Bool} {xs : List Nat} (h : goodB neg xs = true) : limbs (num neg xs) = xs := by
  obtain ⟨hs, hn, _, _⟩ := good_parts h
  rw [limbs_eq, num_natAbs, ← eq_digs B18_two hs hn]
theorem val_zero_iff {neg : Bool} {xs : List Nat} (h : goodB neg xs = true) : val B18 xs = 0 ↔ xs.length = 0 := by
  obtain ⟨_, hn, _, _⟩ := good_parts h
  constructor
  · intro hv
    rcases Nat.eq_zero_or_pos xs.length with h0 | h0
    · exact h0
    · exact absurd hv (val_ne_zero B18_two hn (by omega))
  · intro h0; rw [List.eq_nil_of_length_eq_zero h0]; rfl
theorem neg_num {neg : Bool} {xs : List Nat} (h : goodB neg xs = true) : decide (num neg xs < 0) = neg := by
  rw [num_eq, sgn_neg]
  by_cases h0 : xs.length = 0
  · rw [(good_parts h).2.2.2 h0]; rfl
  · simp [mt (val_zero_iff h).1 h0]
theorem num_lt {neg : Bool} {xs : List Nat} (h : goodB neg xs = true) : (num neg xs).natAbs < B18 ^ 30 := by
  obtain ⟨hs, _, hl, _⟩ := good_parts h
  rw [num_natAbs]
  exact Nat.lt_of_lt_of_le (val_lt hs) (Nat.pow_le_pow_right (by unfold B18; omega) hl)
theorem good_limbs {i : Int} (h : i.natAbs < B18 ^ 30) : goodB (decide (i < 0)) (limbs i) = true := by
  rw [limbs_eq]
  refine good_of_parts (small_digs B18_two _) (noLead_digs B18_two _) ((digs_length_le B18_two _ _).2 h) fun h0 => ?_
  have hz : i.natAbs = 0 := by
    rcases Nat.eq_zero_or_pos i.natAbs with h1 | h1
    · exact h1
    · have := digs_pos B18_two (n := i.natAbs) (by omega); omega
  simp; omega
theorem num_limbs (i : Int) : num (decide (i < 0)) (limbs i) = i := by
  rw [num_eq, limbs_eq, val_digs B18_two]; unfold sgn
  by_cases h : i < 0 <;> simp [h] <;> omega

/-- -1, 0, 1: how one number stands to another. -/
def cmpI (i j : Int) : Int := if i < j then -1 else if j < i then 1 else 0
theorem Own.nums' {w : World} {base c : Nat} {A : Option Addr} {xs : List Nat} (h : Own w base A c xs) : Nums w A xs := h.nums

section
variable (A : Option Addr) (c : Nat) (xs : List Nat) (w : World)
set_option maxRecDepth 100000
theorem sign_bad (neg : Bool) (hx : Nums w A xs) (hl : xs.length ≤ 9223372036854775807) (hg : goodB neg xs = false) :
    Calls Tryd.prog 30 #[.agg #[.bool neg, .slice A xs.length c]] w fun e w' => e = .returned (.int .i64 0) ∧ Below w.heap.size w w' := by
  go_enter Tryd.func30, Tryd.ntmps30
  go_wp2_with (go_at_call 19; refine (good_any neg c _ A xs hl (hx.alloc _)).mono ?_; rintro e w1 ⟨rfl, hb1⟩)
  go_ret
  exact ⟨rfl, ((Below.refl _ _).alloc (Nat.le_refl _) _).trans (hb1.mono (by simp))⟩
theorem sign_good (neg : Bool) (hx : Nums w A xs) (hg : goodB neg xs = true) :
    Calls Tryd.prog 30 #[.agg #[.bool neg, .slice A xs.length c]] w fun e w' => e = .returned (.int .i64 (cmpI (num neg xs) 0)) ∧ Below w.heap.size w w' := by
  have hl := (good_parts hg).2.2.1
  by_cases h0 : xs.length = 0
  · have hz : ((xs.length : Int) == 0) = true := beq_iff_eq.2 (by omega)
    have hv : num neg xs = 0 := by have := num_natAbs neg xs; rw [(val_zero_iff hg).2 h0] at this; omega
    have HV := Lib.hid hv
    clear h0 hv
    go_enter Tryd.func30, Tryd.ntmps30
    go_wp2_with (go_at_call 19; refine (good_any neg c _ A xs (by omega) (hx.alloc _)).mono ?_; rintro e w1 ⟨rfl, hb1⟩; obtain ⟨c0, c1, f0, f1⟩ := ((Blk.new w 24 #[.bool neg, .slice A xs.length c]).below hb1 (by simp)).two)
    go_ret
    exact ⟨ret_int' (by rw [HV.out]; rfl), ((Below.refl _ _).alloc (Nat.le_refl _) _).trans (hb1.mono (by simp))⟩
  · have hz : ((xs.length : Int) == 0) = false := beq_eq_false_iff_ne.2 (by omega)
    have hv := mt (val_zero_iff hg).1 h0
    have hna := num_natAbs neg xs
    have hneg := neg_num hg
    cases neg
    · have hp : ¬ num false xs < 0 := by simpa using hneg
      have HV : Hid (cmpI (num false xs) 0 = 1) := by show _ = _; unfold cmpI; rw [if_neg hp, if_pos (by omega)]
      clear h0 hv hna hneg hp
      go_enter Tryd.func30, Tryd.ntmps30
      go_wp2_with (go_at_call 19; refine (good_any false c _ A xs (by omega) (hx.alloc _)).mono ?_; rintro e w1 ⟨rfl, hb1⟩; obtain ⟨c0, c1, f0, f1⟩ := ((Blk.new w 24 #[.bool false, .slice A xs.length c]).below hb1 (by simp)).two)
      go_ret
      exact ⟨ret_int' HV.out.symm, ((Below.refl _ _).alloc (Nat.le_refl _) _).trans (hb1.mono (by simp))⟩
    · have hp : num true xs < 0 := by simpa using hneg
      have HV : Hid (cmpI (num true xs) 0 = -1) := by show _ = _; unfold cmpI; rw [if_pos hp]
      clear h0 hv hna hneg hp
      go_enter Tryd.func30, Tryd.ntmps30
      go_wp2_with (go_at_call 19; refine (good_any true c _ A xs (by omega) (hx.alloc _)).mono ?_; rintro e w1 ⟨rfl, hb1⟩; obtain ⟨c0, c1, f0, f1⟩ := ((Blk.new w 24 #[.bool true, .slice A xs.length c]).below hb1 (by simp)).two)
      go_ret
      exact ⟨ret_int' HV.out.symm, ((Below.refl _ _).alloc (Nat.le_refl _) _).trans (hb1.mono (by simp))⟩

set_option maxHeartbeats 400000 in
theorem neg_bad (neg : Bool) (hx : Nums w A xs) (hl : xs.length ≤ 9223372036854775807) (hg : goodB neg xs = false) :
    Calls Tryd.prog 31 #[.agg #[.bool neg, .slice A xs.length c]] w (RetBig w 0) := by
  go_enter Tryd.func31, Tryd.ntmps31
  go_wp2_with (go_at_call 19; refine (good_any neg c _ A xs hl ((hx.alloc _).alloc _)).mono ?_; rintro e w1 ⟨rfl, hb1⟩; obtain ⟨c0, c1, f0, f1⟩ := ((Blk.new (w.alloc (.cells #[.bool neg, .slice A xs.length c] 24)) 24 #[.bool false, .slice none 0 0]).below hb1 (by simp)).two; simp only [World.size_alloc] at c0 c1 f0 f1)
  refine bodyPost_ret (v := .agg #[.bool false, .slice none 0 0]) (by simp [results, Tryd.results31, go_sem, c0, c1]) rfl ?_
  exact retBig_zero (((((Below.refl _ _).alloc (Nat.le_refl _) _).alloc (by simp) _).trans (hb1.mono (by simp; omega))).setCell (by simp) _ |>.setCell (by simp) _)
set_option maxHeartbeats 400000 in
theorem neg_good (neg : Bool) (hx : Nums w A xs) (hg : goodB neg xs = true) :
    Calls Tryd.prog 31 #[.agg #[.bool neg, .slice A xs.length c]] w (RetBig w (- num neg xs)) := by
  obtain ⟨hs, hn, hl, h00⟩ := good_parts hg
  have hv : sgn (!neg) (val B18 xs) = - num neg xs := by rw [num_eq]; cases neg <;> simp [sgn]
  have HV := Lib.hid hv
  clear hv h00
  go_enter Tryd.func31, Tryd.ntmps31
  go_wp2_with (go_at_call 19; refine (good_any neg c _ A xs (by omega) ((hx.alloc _).alloc _)).mono ?_; rintro e w1 ⟨rfl, hb1⟩; obtain ⟨c0, c1, f0, f1⟩ := ((Blk.new (w.alloc (.cells #[.bool neg, .slice A xs.length c] 24)) 24 #[.bool false, .slice none 0 0]).below hb1 (by simp)).two; simp only [World.size_alloc] at c0 c1 f0 f1; obtain ⟨d0, d1, g0, g1⟩ := ((Blk.first w 24 #[.bool neg, .slice A xs.length c] (.cells #[.bool false, .slice none 0 0] 24)).below hb1 (by simp; omega)).two)
  have B1 := (Blk.new (w.alloc (.cells #[.bool neg, .slice A xs.length c] 24)) 24 #[.bool false, .slice none 0 0]).below hb1 (by simp)
  refine (form_any (!neg) A c xs _ (((hx.alloc _).alloc _).below hb1 (by simp)) hs (by omega)).mono ?_
  rintro e w2 ⟨A2, c2, rfl, hown, hb2⟩
  rw [HV.out] at hown ⊢
  simp only [World.size_alloc] at B1 hb1
  have hs1 := hb1.size
  simp only [World.size_alloc] at hs1
  obtain ⟨c0, c1, f0, f1⟩ := (B1.below hb2 B1.lt).two
  go_wp2
  refine bodyPost_ret (v := .agg #[.bool (decide (-num neg xs < 0)), .slice A2 (limbs (-num neg xs)).length c2]) (by simp [results, Tryd.results31, go_sem, c0, c1]) rfl ?_
  exact ⟨A2, c2, rfl, ((hown.setBelow (by simp; omega) _).setBelow (by simp; omega) _).mono (by omega), ((((((Below.refl _ _).alloc (Nat.le_refl _) _).alloc (by simp) _).trans (hb1.mono (by omega))).trans (hb2.mono (by omega))).setCell (by simp) _).setCell (by simp) _⟩
end
end Go.Proofs.YteggjfmcpodepaaDoor
