/- The walk of whole.size. -/
import Derived.Test.YteggjfmcpodepaaDoorNumWords
namespace Go.Proofs.YteggjfmcpodepaaDoor
open Go.RowKit

theorem cmp_length {xs ys : List Nat} (hs : small B18 xs) (hm : noLead ys) (h : xs.length < ys.length) : cmpN (val B18 xs) (val B18 ys) = -1 ∧ cmpN (val B18 ys) (val B18 xs) = 1 := by
  have := val_lt_of_length B18_two hs hm h
  unfold cmpN
  exact ⟨if_pos this, by rw [if_neg (by omega), if_pos this]⟩
theorem nth_lt_iff (xs ys : List Nat) (j k : Nat) : nth xs j < nth ys k ↔ xs.getD j 0 < ys.getD k 0 := by unfold nth; omega
theorem nth_eq_iff (xs ys : List Nat) (j k : Nat) : nth xs j = nth ys k ↔ xs.getD j 0 = ys.getD k 0 := by unfold nth; omega
theorem cmp_digit {xs ys : List Nat} (hs : small B18 xs) (h : xs.length = ys.length) {k : Nat} (hk : k < xs.length) (hd : ∀ j, k + 1 ≤ j → nth xs j = nth ys j) (hlt : nth xs k < nth ys k) :
    cmpN (val B18 xs) (val B18 ys) = -1 ∧ cmpN (val B18 ys) (val B18 xs) = 1 := by
  have := val_lt_of_digit hs h hk (fun j hj _ => (nth_eq_iff _ _ _ _).1 (hd j hj)) ((nth_lt_iff _ _ _ _).1 hlt)
  unfold cmpN
  exact ⟨if_pos this, by rw [if_neg (by omega), if_pos this]⟩
theorem cmp_same {xs ys : List Nat} (h : xs.length = ys.length) (hd : ∀ j, 0 ≤ j → nth xs j = nth ys j) : cmpN (val B18 xs) (val B18 ys) = 0 := by
  have : xs = ys := by
    apply List.ext_getElem h
    intro j h1 h2
    have := (nth_eq_iff _ _ _ _).1 (hd j (Nat.zero_le _))
    simpa [List.getD, List.getElem?_eq_getElem h1, List.getElem?_eq_getElem h2] using this
  subst this
  simp [cmpN]

set_option maxRecDepth 100000 in
set_option maxHeartbeats 400000 in
theorem size_any (A B : Option Addr) (c d : Nat) (xs ys : List Nat) (w : World) (hx : Nums w A xs) (hy : Nums w B ys) (hs : small B18 xs) (ht : small B18 ys) (hn : noLead xs) (hm : noLead ys)
    (hl : xs.length ≤ 1048576) (hl' : ys.length ≤ 1048576) :
    Calls Tryd.prog 57 #[.slice A xs.length c, .slice B ys.length d] w fun e w' => e = .returned (.int .i64 (cmpN (val B18 xs) (val B18 ys))) ∧ ∃ n, w' = w.drewN n := by
  by_cases hlen : xs.length = ys.length
  · have hne : ((xs.length : Int) != (ys.length : Int)) = false := by simp [hlen]
    have HL := Lib.hid hlen; clear hlen
    go_enter Tryd.func57, Tryd.ntmps57
    go_wp2
    go_loopw [5] (fun v wr => ∃ k : Nat, k ≤ xs.length ∧ v = .int .i64 ((k : Int) - 1) ∧ (∀ j, k ≤ j → nth xs j = nth ys j) ∧ ∃ n, wr = w.drewN n) (fun v _ => (intOf v + 1).toNat)
    case atStart => exact ⟨xs.length, Nat.le_refl _, rfl, fun j hj => by rw [nth_past xs j hj, nth_past ys j (by rw [← HL.out]; exact hj)], 0, rfl⟩
    case round =>
      obtain ⟨k, hk, rfl, hz, n, rfl⟩ := hrel
      have HZ := Lib.hid hz; clear hz
      by_cases hk0 : k = 0
      · subst hk0
        go_wp2
        go_ret
        exact ⟨ret_int' (cmp_same HL.out HZ.out).symm, n, rfl⟩
      · obtain ⟨m, rfl⟩ : ∃ m, k = m + 1 := ⟨k - 1, by omega⟩
        obtain ⟨b, o, rfl, hb, hc⟩ := hx.2 (by omega)
        obtain ⟨b', o', rfl, hb', hc'⟩ := hy.2 (by rw [← HL.out]; omega)
        have hcell := hc m (by omega)
        have hcell' := hc' m (by rw [← HL.out]; omega)
        have hm1 : (m : Int) < (xs.length : Int) := by omega
        have hm2 : (m : Int) < (ys.length : Int) := by have := HL.out; omega
        have hm0 : (0 : Int) ≤ (m : Int) := by omega
        clear hc hc'
        rcases Int.lt_trichotomy (nth xs m) (nth ys m) with h | h | h
        · have hne : (nth xs m != nth ys m) = true := by simp; omega
          have hdl : decide (nth xs m < nth ys m) = true := by simpa using h
          have H := Lib.hid h
          clear h
          go_wp2
          go_quiet (fail)
          go_wp2
          go_quiet (fail)
          go_wp2
          go_ret
          exact ⟨ret_int' (cmp_digit hs HL.out (by omega) HZ.out H.out).1.symm, _, by simp only [World.drewN_drewN]; rfl⟩
        · have hne : (nth xs m != nth ys m) = false := by simp [h]
          have H := Lib.hid h
          clear h
          go_wp2
          go_quiet (fail)
          go_wp2
          go_roundw
          case rel => exact ⟨m, by omega, rfl, fun j hj => by
            by_cases e : j = m
            · rw [e]; exact H.out
            · exact HZ.out j (by omega), _, by first | rfl | (simp only [World.drewN_drewN]; rfl)⟩
          case measure => simp [intOf]
        · have hne : (nth xs m != nth ys m) = true := by simp; omega
          have hdl : decide (nth xs m < nth ys m) = false := by simp; omega
          have H := Lib.hid h
          clear h
          go_wp2
          go_quiet (fail)
          go_wp2
          go_quiet (fail)
          go_wp2
          go_ret
          exact ⟨ret_int' (cmp_digit ht HL.out.symm (by have := HL.out; omega) (fun j hj => (HZ.out j hj).symm) H.out).2.symm, _, by simp only [World.drewN_drewN]; rfl⟩
  · rcases Nat.lt_or_ge xs.length ys.length with h | h
    · have hne : ((xs.length : Int) != (ys.length : Int)) = true := by simp; omega
      have hlt : (xs.length : Int) < (ys.length : Int) := by omega
      go_enter Tryd.func57, Tryd.ntmps57
      go_wp2
      go_ret
      exact ⟨ret_int' (cmp_length hs hm h).1.symm, 0, rfl⟩
    · have hne : ((xs.length : Int) != (ys.length : Int)) = true := by simp; omega
      have hlt : ¬ (xs.length : Int) < (ys.length : Int) := by omega
      go_enter Tryd.func57, Tryd.ntmps57
      go_wp2
      go_ret
      exact ⟨ret_int' (cmp_length ht hn (by omega)).2.symm, 0, rfl⟩
end Go.Proofs.YteggjfmcpodepaaDoor
