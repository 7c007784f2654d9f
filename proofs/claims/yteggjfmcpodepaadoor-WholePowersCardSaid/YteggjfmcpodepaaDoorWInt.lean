/- The walk of whole.Int. -/
import Derived.Test.YteggjfmcpodepaaDoorWCmp
namespace Go.Proofs.YteggjfmcpodepaaDoor
open Go.RowKit

/-- Does the number lie in an int? -/
def inR (v : Int) : Prop := -9223372036854775808 ≤ v ∧ v ≤ 9223372036854775807
instance (v : Int) : Decidable (inR v) := by unfold inR; infer_instance
@[irreducible] def intV (ok : Bool) (v : Int) : Int := if ok then (if inR v then v else 0) else 0
@[irreducible] def intE (ok : Bool) (v : Int) : Int := if ok then (if inR v then 0 else 7) else 3
def RetInt (W : World) (ok : Bool) (v : Int) (e : Ending) (w' : World) : Prop := e = .returned (.tuple #[.int .i64 (intV ok v), .int .i64 (intE ok v)]) ∧ Below W.heap.size W w'
theorem retInt_bad {W w' : World} {v : Int} (h : Below W.heap.size W w') : RetInt W false v (.returned (.tuple #[.int .i64 0, .int .i64 3])) w' := ⟨by unfold intV intE; rfl, h⟩
theorem retInt_out {W w' : World} {v : Int} (h : Below W.heap.size W w') (hv : ¬ inR v) : RetInt W true v (.returned (.tuple #[.int .i64 0, .int .i64 7])) w' := ⟨by unfold intV intE; simp [hv], h⟩
theorem retInt_in {W w' : World} {v u : Int} (h : Below W.heap.size W w') (hv : inR v) (hu : u = v) : RetInt W true v (.returned (.tuple #[.int .i64 u, .int .i64 0])) w' := ⟨by subst hu; unfold intV intE; simp [hv], h⟩

theorem val_drop_step {b : Nat} {l : List Nat} {k : Nat} (h : k < l.length) : val b (l.drop k) = l.getD k 0 + b * val b (l.drop (k + 1)) := by
  rw [List.drop_eq_getElem_cons h, val]; simp [List.getD, List.getElem?_eq_getElem h]
theorem val_drop_le {b : Nat} (hb : 1 ≤ b) (l : List Nat) (k : Nat) : val b (l.drop k) ≤ val b l := by
  have h := val_split (b := b) l k
  have h1 : 1 ≤ b ^ (l.take k).length := Nat.one_le_pow _ _ hb
  have h2 : 1 * val b (l.drop k) ≤ b ^ (l.take k).length * val b (l.drop k) := Nat.mul_le_mul_right _ h1
  omega
theorem int_out3 {neg : Bool} {xs : List Nat} (hg : goodB neg xs = true) (h : 2 < xs.length) : ¬ inR (num neg xs) := by
  obtain ⟨hs, hn, hl, _⟩ := good_parts hg
  have h1 := le_val B18_two hn (by omega)
  have h2 : B18 ^ 2 ≤ B18 ^ (xs.length - 1) := Nat.pow_le_pow_right (by unfold B18; omega) (by omega)
  have h3 := num_natAbs neg xs
  have h4 : B18 ^ 2 = 1000000000000000000000000000000000000 := by unfold B18; rfl
  unfold inR; omega
theorem val_two {xs : List Nat} (h : xs.length = 2) : val B18 xs = xs.getD 0 0 + 1000000000000000000 * xs.getD 1 0 := by
  have e1 := val_drop_step (b := B18) (l := xs) (k := 0) (by omega)
  have e2 := val_drop_step (b := B18) (l := xs) (k := 1) (by omega)
  rw [List.drop_of_length_le (i := 1 + 1) (by omega)] at e2
  rw [List.drop_zero] at e1
  simp only [val] at e2
  rw [e1, e2]; unfold B18; omega
theorem int_out2 {neg : Bool} {xs : List Nat} (h : xs.length = 2) (h9 : 9 < nth xs 1) : ¬ inR (num neg xs) := by
  have h3 := num_natAbs neg xs
  rw [val_two h] at h3
  have h4 : 9 < xs.getD 1 0 := by unfold nth at h9; omega
  unfold inR; omega
theorem int_small {neg : Bool} {xs : List Nat} (hg : goodB neg xs = true) (h : xs.length ≤ 2) (h9 : xs.length = 2 → nth xs 1 ≤ 9) : val B18 xs < 10000000000000000000 := by
  obtain ⟨hs, hn, hl, _⟩ := good_parts hg
  rcases Nat.lt_or_ge xs.length 2 with h2 | h2
  · have h1 := val_lt hs
    have h3 : B18 ^ xs.length ≤ B18 ^ 1 := Nat.pow_le_pow_right (by unfold B18; omega) (by omega)
    have h4 : B18 ^ 1 = 1000000000000000000 := by unfold B18; rfl
    omega
  · have h3 : xs.length = 2 := by omega
    rw [val_two h3]
    have h4 := h9 h3
    have h5 := nth_lt (by unfold B18; omega) hs 0
    unfold nth at h4 h5
    unfold B18 at h5
    omega
theorem neg_wrap (u : Int) (h0 : 0 ≤ u) (h1 : u ≤ 9223372036854775808) : IntKind.i64.wrap (IntKind.u64.wrap (-u)) = -u := by
  simp [IntKind.wrap, IntKind.signed, IntKind.bits]; omega
theorem pos_wrap (u : Int) (h0 : 0 ≤ u) (h1 : u < 9223372036854775808) : IntKind.i64.wrap u = u := by
  simp [IntKind.wrap, IntKind.signed, IntKind.bits]; omega
theorem id_wrap (u : Int) (h0 : 0 ≤ u) (h1 : u < 18446744073709551616) : IntKind.u64.wrap u = u := by
  simp [IntKind.wrap, IntKind.signed, IntKind.bits]; omega

section
variable (A : Option Addr) (c : Nat) (xs : List Nat) (w : World)
set_option maxRecDepth 100000
set_option maxHeartbeats 1000000 in
theorem int_bad (neg : Bool) (hx : Nums w A xs) (hl : xs.length ≤ 9223372036854775807) (hg : goodB neg xs = false) :
    Calls Tryd.prog 25 #[.agg #[.bool neg, .slice A xs.length c]] w (RetInt w false (num neg xs)) := by
  go_enter Tryd.func25, Tryd.ntmps25
  go_wp2_with fail
  refine (good_any neg c _ A xs hl (hx.alloc _)).mono ?_
  rintro e w1 ⟨rfl, hb1⟩
  have L1 : Below w.heap.size w w1 := ((Below.refl _ _).alloc (Nat.le_refl _) _).trans (hb1.mono (by simp))
  go_wp2_with fail
  refine bodyPost_ret (v := .tuple #[.int .i64 0, .int .i64 3]) (by simp [results, Tryd.results25, go_sem]) rfl ?_
  exact retInt_bad L1
set_option maxHeartbeats 1000000 in
theorem int_out (neg : Bool) (hx : Nums w A xs) (hg : goodB neg xs = true) (h : 2 < xs.length ∨ (xs.length = 2 ∧ 9 < nth xs 1)) :
    Calls Tryd.prog 25 #[.agg #[.bool neg, .slice A xs.length c]] w (RetInt w true (num neg xs)) := by
  obtain ⟨hs, hn, hl, _⟩ := good_parts hg
  rcases h with h | ⟨h, h9⟩
  · have HO := Lib.hid (int_out3 hg h)
    have h2 : (2 : Int) < (xs.length : Int) := by omega
    go_enter Tryd.func25, Tryd.ntmps25
    go_wp2_with fail
    refine (good_any neg c _ A xs (by omega) (hx.alloc _)).mono ?_
    rintro e w1 ⟨rfl, hb1⟩
    have X1 := (Blk.new w 24 #[.bool neg, .slice A xs.length c]).below hb1 (by simp)
    have L1 : Below w.heap.size w w1 := ((Below.refl _ _).alloc (Nat.le_refl _) _).trans (hb1.mono (by simp))
    obtain ⟨x0, x1, x2, x3⟩ := X1.two
    clear hb1
    go_wp2_with fail
    refine bodyPost_ret (v := .tuple #[.int .i64 0, .int .i64 7]) (by simp [results, Tryd.results25, go_sem]) rfl ?_
    exact retInt_out L1 HO.out
  · have HO := Lib.hid (int_out2 (neg := neg) h h9)
    obtain ⟨b, o, rfl, hb, hc⟩ := hx.2 (by omega)
    have hc1 := hc 1 (by omega)
    have H2 := Lib.hid h
    have HX := Lib.hid hx
    clear h hx
    go_enter Tryd.func25, Tryd.ntmps25
    go_wp2_with fail
    refine (good_any neg c _ _ xs (by omega) (HX.out.alloc _)).mono ?_
    rintro e w1 ⟨rfl, hb1⟩
    have X1 := (Blk.new w 24 #[.bool neg, .slice (some ⟨b, o, none⟩) xs.length c]).below hb1 (by simp)
    have L1 : Below w.heap.size w w1 := ((Below.refl _ _).alloc (Nat.le_refl _) _).trans (hb1.mono (by simp))
    obtain ⟨x0, x1, x2, x3⟩ := X1.two
    have hcw : w1.cell? ⟨b, o + 1, none⟩ = some (.int .u64 (nth xs 1)) := (L1.cell (p := ⟨b, o + 1, none⟩) hb).trans hc1
    rw [H2.out] at x1
    clear hb1 hc hc1
    go_wp2_with fail
    refine bodyPost_ret (v := .tuple #[.int .i64 0, .int .i64 7]) (by simp [results, Tryd.results25, go_sem]) rfl ?_
    exact retInt_out L1 HO.out
set_option maxHeartbeats 1000000 in
theorem int_in (neg : Bool) (hx : Nums w A xs) (hg : goodB neg xs = true) (h : xs.length ≤ 2) (h9 : xs.length = 2 → nth xs 1 ≤ 9) :
    Calls Tryd.prog 25 #[.agg #[.bool neg, .slice A xs.length c]] w (RetInt w true (num neg xs)) := by
  obtain ⟨hs, hn, hl, _⟩ := good_parts hg
  have hsm := int_small hg h h9
  have htest : (xs.length = 2 ∧ ∃ b o, A = some ⟨b, o, none⟩ ∧ b < w.heap.size ∧ w.cell? ⟨b, o + 1, none⟩ = some (.int .u64 (nth xs 1))) ∨ xs.length < 2 := by
    rcases Nat.lt_or_ge xs.length 2 with h2 | h2
    · exact Or.inr h2
    · obtain ⟨b, o, rfl, hb, hc⟩ := hx.2 (by omega)
      exact Or.inl ⟨by omega, b, o, rfl, hb, hc 1 (by omega)⟩
  have h2 : ¬ (2 : Int) < (xs.length : Int) := by omega
  have HS := Lib.hid hsm
  clear hsm
  go_enter Tryd.func25, Tryd.ntmps25
  go_wp2_with fail
  refine (good_any neg c _ _ xs (by omega) (hx.alloc _)).mono ?_
  rintro e w1 ⟨rfl, hb1⟩
  have X1 := (Blk.new w 24 #[.bool neg, .slice A xs.length c]).below hb1 (by simp)
  have L1 : Below w.heap.size w w1 := ((Below.refl _ _).alloc (Nat.le_refl _) _).trans (hb1.mono (by simp))
  obtain ⟨x0, x1, x2, x3⟩ := X1.two
  have hx1 := hx.below L1 (Nat.le_refl _)
  have hu : ∀ k, k < xs.length → ((val B18 (xs.drop (k + 1)) : Nat) : Int) * 1000000000000000000 + nth xs k = ((val B18 (xs.drop k) : Nat) : Int) ∧ ((val B18 (xs.drop k) : Nat) : Int) < 10000000000000000000 := by
    intro k hk
    have e := val_drop_step (b := B18) hk
    have e2 := val_drop_le (b := B18) (by unfold B18; omega) xs k
    have e3 := HS.out
    unfold nth
    generalize val B18 (xs.drop (k + 1)) = p at *
    generalize val B18 (xs.drop k) = q at *
    unfold B18 at e
    omega
  have HU := Lib.hid hu
  clear hb1 hu
  rcases htest with ⟨h3, b, o, rfl, hb, hc1⟩ | h3
  · have hcw : w1.cell? ⟨b, o + 1, none⟩ = some (.int .u64 (nth xs 1)) := (L1.cell (p := ⟨b, o + 1, none⟩) hb).trans hc1
    have h9' := h9 h3
    have hlt2 : ((xs.length : Int) == 2) = true := by simp; omega
    have hone : (1 : Int) < (xs.length : Int) := by omega
    have H3 := Lib.hid h3
    clear hc1 h3 h9
    go_wp2_with fail
    go_loop [4, 5] (fun u v => ∃ k : Nat, k ≤ xs.length ∧ u = .int .u64 ((val B18 (xs.drop k) : Nat) : Int) ∧ v = .int .i64 ((k : Int) - 1)) (fun u v => (intOf v + 1).toNat)
    case atStart => exact ⟨xs.length, Nat.le_refl _, by rw [List.drop_of_length_le (Nat.le_refl _)]; rfl, rfl⟩
    case round =>
      obtain ⟨k, hk, rfl, rfl⟩ := hrel
      by_cases hk0 : k = 0
      · subst hk0
        obtain ⟨u, hu⟩ : ∃ u : Int, u = ((val B18 (xs.drop 0) : Nat) : Int) := ⟨_, rfl⟩
        have hu1 : u < 10000000000000000000 := by rw [hu, List.drop_zero]; have := HS.out; omega
        have hu0 : 0 ≤ u := by rw [hu]; omega
        have hval : u = ((val B18 xs : Nat) : Int) := by rw [hu, List.drop_zero]
        rw [← hu]
        clear hu
        cases neg
        · have hv : num false xs = u := by rw [num_eq, hval]; rfl
          have HV := Lib.hid hv
          clear hv hval
          by_cases hr : u < 9223372036854775808
          · have hw := pos_wrap u hu0 hr
            go_wp2
            refine bodyPost_ret (v := .tuple #[.int .i64 u, .int .i64 0]) (by simp [results, Tryd.results25, go_sem, hw]) rfl ?_
            exact retInt_in L1 (by rw [HV.out]; unfold inR; omega) HV.out.symm
          · go_wp2
            refine bodyPost_ret (v := .tuple #[.int .i64 0, .int .i64 7]) (by simp [results, Tryd.results25, go_sem]) rfl ?_
            exact retInt_out L1 (by rw [HV.out]; unfold inR; omega)
        · have hv : num true xs = -u := by rw [num_eq, hval]; rfl
          have HV := Lib.hid hv
          clear hv hval
          by_cases hr : u ≤ 9223372036854775808
          · have hw := neg_wrap u hu0 hr
            go_wp2
            refine bodyPost_ret (v := .tuple #[.int .i64 (-u), .int .i64 0]) (by simp [results, Tryd.results25, go_sem, hw]) rfl ?_
            exact retInt_in L1 (by rw [HV.out]; unfold inR; omega) HV.out.symm
          · go_wp2
            refine bodyPost_ret (v := .tuple #[.int .i64 0, .int .i64 7]) (by simp [results, Tryd.results25, go_sem]) rfl ?_
            exact retInt_out L1 (by rw [HV.out]; unfold inR; omega)
      · obtain ⟨m, rfl⟩ : ∃ m, k = m + 1 := ⟨k - 1, by omega⟩
        obtain ⟨b1, o1, hA, hb1, hc1⟩ := hx1.2 (by omega)
        have hcm := hc1 m (by omega)
        have hm1 : (m : Int) < (xs.length : Int) := by omega
        have hnn := nth_nonneg xs m
        obtain ⟨he, hlt⟩ := HU.out m (by omega)
        obtain ⟨p, hp⟩ : ∃ p : Int, p = ((val B18 (xs.drop (m + 1)) : Nat) : Int) := ⟨_, rfl⟩
        have hp0 : 0 ≤ p := by rw [hp]; omega
        rw [← hp] at he ⊢
        have HE := Lib.hid he
        have hb2 : p * 1000000000000000000 + nth xs m < 10000000000000000000 := by rw [he]; exact hlt
        have hp1 : p ≤ 10 := by omega
        clear hc1 he hp hlt
        (first | (injection hA with hA; injection hA with h1 h2; subst h1; subst h2) | subst hA)
        go_wp2
        go_round
        case rel => exact ⟨m, by omega, by rw [HE.out], by go_num⟩
        case measure => simp [intOf]
  · have hlt2 : ((xs.length : Int) == 2) = false := by simp; omega
    clear h9
    go_wp2_with fail
    go_loop [4, 5] (fun u v => ∃ k : Nat, k ≤ xs.length ∧ u = .int .u64 ((val B18 (xs.drop k) : Nat) : Int) ∧ v = .int .i64 ((k : Int) - 1)) (fun u v => (intOf v + 1).toNat)
    case atStart => exact ⟨xs.length, Nat.le_refl _, by rw [List.drop_of_length_le (Nat.le_refl _)]; rfl, rfl⟩
    case round =>
      obtain ⟨k, hk, rfl, rfl⟩ := hrel
      by_cases hk0 : k = 0
      · subst hk0
        obtain ⟨u, hu⟩ : ∃ u : Int, u = ((val B18 (xs.drop 0) : Nat) : Int) := ⟨_, rfl⟩
        have hu1 : u < 10000000000000000000 := by rw [hu, List.drop_zero]; have := HS.out; omega
        have hu0 : 0 ≤ u := by rw [hu]; omega
        have hval : u = ((val B18 xs : Nat) : Int) := by rw [hu, List.drop_zero]
        rw [← hu]
        clear hu
        cases neg
        · have hv : num false xs = u := by rw [num_eq, hval]; rfl
          have HV := Lib.hid hv
          clear hv hval
          by_cases hr : u < 9223372036854775808
          · have hw := pos_wrap u hu0 hr
            go_wp2
            refine bodyPost_ret (v := .tuple #[.int .i64 u, .int .i64 0]) (by simp [results, Tryd.results25, go_sem, hw]) rfl ?_
            exact retInt_in L1 (by rw [HV.out]; unfold inR; omega) HV.out.symm
          · go_wp2
            refine bodyPost_ret (v := .tuple #[.int .i64 0, .int .i64 7]) (by simp [results, Tryd.results25, go_sem]) rfl ?_
            exact retInt_out L1 (by rw [HV.out]; unfold inR; omega)
        · have hv : num true xs = -u := by rw [num_eq, hval]; rfl
          have HV := Lib.hid hv
          clear hv hval
          by_cases hr : u ≤ 9223372036854775808
          · have hw := neg_wrap u hu0 hr
            go_wp2
            refine bodyPost_ret (v := .tuple #[.int .i64 (-u), .int .i64 0]) (by simp [results, Tryd.results25, go_sem, hw]) rfl ?_
            exact retInt_in L1 (by rw [HV.out]; unfold inR; omega) HV.out.symm
          · go_wp2
            refine bodyPost_ret (v := .tuple #[.int .i64 0, .int .i64 7]) (by simp [results, Tryd.results25, go_sem]) rfl ?_
            exact retInt_out L1 (by rw [HV.out]; unfold inR; omega)
      · obtain ⟨m, rfl⟩ : ∃ m, k = m + 1 := ⟨k - 1, by omega⟩
        obtain ⟨b1, o1, hA, hb1, hc1⟩ := hx1.2 (by omega)
        have hcm := hc1 m (by omega)
        have hm1 : (m : Int) < (xs.length : Int) := by omega
        have hnn := nth_nonneg xs m
        obtain ⟨he, hlt⟩ := HU.out m (by omega)
        obtain ⟨p, hp⟩ : ∃ p : Int, p = ((val B18 (xs.drop (m + 1)) : Nat) : Int) := ⟨_, rfl⟩
        have hp0 : 0 ≤ p := by rw [hp]; omega
        rw [← hp] at he ⊢
        have HE := Lib.hid he
        have hb2 : p * 1000000000000000000 + nth xs m < 10000000000000000000 := by rw [he]; exact hlt
        have hp1 : p ≤ 10 := by omega
        clear hc1 he hp hlt
        (first | (injection hA with hA; injection hA with h1 h2; subst h1; subst h2) | subst hA)
        go_wp2
        go_round
        case rel => exact ⟨m, by omega, by rw [HE.out], by go_num⟩
        case measure => simp [intOf]
theorem int_any (neg : Bool) (hx : Nums w A xs) (hl : xs.length ≤ 9223372036854775807) :
    Calls Tryd.prog 25 #[.agg #[.bool neg, .slice A xs.length c]] w (RetInt w (goodB neg xs) (num neg xs)) := by
  cases hg : goodB neg xs
  · exact int_bad A c xs w neg hx hl hg
  by_cases h1 : 2 < xs.length
  · exact int_out A c xs w neg hx hg (Or.inl h1)
  by_cases h2 : xs.length = 2 ∧ 9 < nth xs 1
  · exact int_out A c xs w neg hx hg (Or.inr h2)
  exact int_in A c xs w neg hx hg (by omega) (by intro h3; by_cases h4 : nth xs 1 ≤ 9; exact h4; exact absurd ⟨h3, by omega⟩ h2)
end
end Go.Proofs.YteggjfmcpodepaaDoor
