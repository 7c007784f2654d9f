/- The walk of whole.take. -/
import Derived.Test.YteggjfmcpodepaaDoorWScaled
namespace Go.Proofs.YteggjfmcpodepaaDoor
open Go.RowKit

theorem val_set {b : Nat} (l : List Nat) (k x : Nat) (h : k < l.length) : val b (l.set k x) + b ^ k * l.getD k 0 = val b l + b ^ k * x := by
  induction l generalizing k with
  | nil => simp at h
  | cons y l ih =>
    cases k with
    | zero => simp [val]; omega
    | succ k =>
      have := ih k (by simpa using h)
      simp only [List.set_cons_succ, val, List.getD_cons_succ, Nat.pow_succ]
      have h2 : b * (val b (l.set k x) + b ^ k * l.getD k 0) = b * (val b l + b ^ k * x) := by rw [this]
      rw [Nat.mul_add, Nat.mul_add, ← Nat.mul_assoc, ← Nat.mul_assoc] at h2
      rw [Nat.mul_comm (b ^ k) b]
      omega
theorem getD_zero_of_val {b : Nat} (hb : 2 ≤ b) {l : List Nat} {k : Nat} (h : val b l < b ^ k) (j : Nat) (hj : k ≤ j) : l.getD j 0 = 0 := by
  rcases Nat.eq_zero_or_pos (l.getD j 0) with h0 | h0
  · exact h0
  · exfalso
    have e := val_split (b := b) l (j + 1)
    rw [val_take_succ] at e
    have h1 : b ^ k ≤ b ^ j := Nat.pow_le_pow_right (by omega) hj
    have h2 : b ^ j * 1 ≤ b ^ j * l.getD j 0 := Nat.mul_le_mul_left _ h0
    omega
theorem val_lt_of_zero {b : Nat} (hb : 2 ≤ b) {l : List Nat} (hs : small b l) {k : Nat} (h : ∀ j, k ≤ j → l.getD j 0 = 0) : val b l < b ^ k := by
  rw [← val_take_of_zero (b := b) l k (fun j hj _ => h j hj)]
  have h1 := val_lt (small_take hs k)
  have h2 : b ^ (l.take k).length ≤ b ^ k := Nat.pow_le_pow_right (by omega) (by rw [List.length_take]; omega)
  omega

/-- One place of 'q times v off u': x was there, x' is there now. -/
theorem take_step {us ys vs : List Nat} {t k Q : Nat} {x' bw bw' : Int} (hk : t + k < ys.length) (hb : 0 ≤ bw) (hb' : 0 ≤ bw') (hx' : 0 ≤ x')
    (h : val B9 ys + B9 ^ t * (Q * val B9 (vs.take k)) = val B9 us + B9 ^ (t + k) * bw.toNat)
    (hx : x' + ((Q : Int) * nth vs k + bw) = nth ys (t + k) + 1000000000 * bw') :
    val B9 (ys.set (t + k) x'.toNat) + B9 ^ t * (Q * val B9 (vs.take (k + 1))) = val B9 us + B9 ^ (t + (k + 1)) * bw'.toNat := by
  have hs := val_set (b := B9) ys (t + k) x'.toNat hk
  rw [val_take_succ]
  obtain ⟨b, rfl⟩ := Int.eq_ofNat_of_zero_le hb
  obtain ⟨c, rfl⟩ := Int.eq_ofNat_of_zero_le hb'
  obtain ⟨z, rfl⟩ := Int.eq_ofNat_of_zero_le hx'
  simp only [Int.toNat_natCast] at *
  have e : z + (Q * vs.getD k 0 + b) = ys.getD (t + k) 0 + B9 * c := by
    have e1 : nth vs k = ((vs.getD k 0 : Nat) : Int) := by unfold nth; rfl
    have e2 : nth ys (t + k) = ((ys.getD (t + k) 0 : Nat) : Int) := by unfold nth; rfl
    rw [e1, e2, ← Int.natCast_mul] at hx
    unfold B9; omega
  have e3 : B9 ^ (t + k) * z + B9 ^ (t + k) * (Q * vs.getD k 0) + B9 ^ (t + k) * b = B9 ^ (t + k) * ys.getD (t + k) 0 + B9 ^ (t + k) * (B9 * c) := by
    rw [← Nat.mul_add, ← Nat.mul_add, ← Nat.mul_add, Nat.add_assoc, e]
  have e4 : B9 ^ t * (Q * (val B9 (vs.take k) + B9 ^ k * vs.getD k 0)) = B9 ^ t * (Q * val B9 (vs.take k)) + B9 ^ (t + k) * (Q * vs.getD k 0) := by
    rw [Nat.mul_add, Nat.mul_add, Nat.pow_add, Nat.mul_left_comm Q, Nat.mul_assoc]
  have e5 : B9 ^ (t + (k + 1)) * c = B9 ^ (t + k) * (B9 * c) := by rw [← Nat.add_assoc, Nat.pow_succ, Nat.mul_assoc]
  rw [e4, e5]
  omega

theorem take_bound {s x : Int} (h0 : 0 ≤ s) (h1 : s ≤ 999999999 * 1000000000) (hx0 : 0 ≤ x) (hx1 : x < 1000000000) :
    0 ≤ s / 1000000000 ∧ s / 1000000000 ≤ 999999999 ∧ 0 ≤ s % 1000000000 ∧ s % 1000000000 < 1000000000 ∧ (x < s % 1000000000 → s / 1000000000 + 1 ≤ 999999999) := by
  refine ⟨by omega, by omega, by omega, by omega, fun h => by omega⟩

def zeroFrom (ys : List Nat) (k : Nat) : Prop := ∀ j, k ≤ j → ys.getD j 0 = 0
theorem zeroFrom_set {ys : List Nat} {k : Nat} (h : zeroFrom ys k) (i x : Nat) (hi : i < k) : zeroFrom (ys.set i x) k := by
  intro j hj
  have e : (ys.set i x).getD j 0 = ys.getD j 0 := by simp [List.getD, show ¬ i = j by omega]
  rw [e]; exact h j hj
theorem take_add_step {ys zs vs : List Nat} {t k : Nat} {cy s : Int} (hk : t + k < zs.length) (hc : 0 ≤ cy) (hs : s = nth zs (t + k) + nth vs k + cy)
    (h : val B9 zs + B9 ^ (t + k) * cy.toNat = val B9 ys + B9 ^ t * val B9 (vs.take k)) :
    val B9 (zs.set (t + k) (s % 1000000000).toNat) + B9 ^ (t + (k + 1)) * (s / 1000000000).toNat = val B9 ys + B9 ^ t * val B9 (vs.take (k + 1)) := by
  have h1 := val_set (b := B9) zs (t + k) (s % 1000000000).toNat hk
  rw [val_take_succ, Nat.mul_add, ← Nat.mul_assoc, ← Nat.pow_add, ← Nat.add_assoc, Nat.pow_succ, Nat.mul_assoc]
  have e : (s % 1000000000).toNat + B9 * (s / 1000000000).toNat = zs.getD (t + k) 0 + vs.getD k 0 + cy.toNat := by
    have e1 : nth vs k = ((vs.getD k 0 : Nat) : Int) := by unfold nth; rfl
    have e2 : nth zs (t + k) = ((zs.getD (t + k) 0 : Nat) : Int) := by unfold nth; rfl
    rw [e1, e2] at hs
    unfold B9; omega
  have e2 : B9 ^ (t + k) * (s % 1000000000).toNat + B9 ^ (t + k) * (B9 * (s / 1000000000).toNat) = B9 ^ (t + k) * zs.getD (t + k) 0 + B9 ^ (t + k) * vs.getD k 0 + B9 ^ (t + k) * cy.toNat := by
    rw [← Nat.mul_add, e, Nat.mul_add, Nat.mul_add]
  omega
/-- What take leaves. -/
def TakePost (w : World) (g n t Q V U : Nat) (e : Ending) (w' : World) : Prop :=
  ∃ (ys : List Nat) (b : Bool), e = .returned (.bool b) ∧ Row w' g n ys ∧ ys.length = n ∧ small B9 ys ∧ w.grownBy w' (some g) ∧ val B9 ys + B9 ^ t * (Q * V) = U + (if b then 0 else B9 ^ t * V) ∧ (b = false → U < B9 ^ t * (Q * V))
theorem take_yes {ys : List Nat} {t m Q V U : Nat} {bw : Int} (hk : t + m < ys.length) (hb : 0 ≤ bw) (hle : bw ≤ nth ys (t + m)) (h : val B9 ys + B9 ^ t * (Q * V) = U + B9 ^ (t + m) * bw.toNat) :
    val B9 (ys.set (t + m) (nth ys (t + m) - bw).toNat) + B9 ^ t * (Q * V) = U := by
  have h1 := val_set (b := B9) ys (t + m) (nth ys (t + m) - bw).toNat hk
  have e : ys.getD (t + m) 0 = (nth ys (t + m) - bw).toNat + bw.toNat := by unfold nth at hle ⊢; omega
  rw [e, Nat.mul_add] at h1
  omega
theorem take_no {ys : List Nat} {t m Q V U : Nat} {bw : Int} (hk : t + m < ys.length) (hb : 0 ≤ bw) (hb1 : bw ≤ 1000000000) (h : val B9 ys + B9 ^ t * (Q * V) = U + B9 ^ (t + m) * bw.toNat) :
    val B9 (ys.set (t + m) (nth ys (t + m) + 1000000000 - bw).toNat) + B9 ^ t * (Q * V) = U + B9 ^ (t + m + 1) := by
  have h1 := val_set (b := B9) ys (t + m) (nth ys (t + m) + 1000000000 - bw).toNat hk
  have e : (nth ys (t + m) + 1000000000 - bw).toNat + bw.toNat = ys.getD (t + m) 0 + B9 := by unfold nth B9; omega
  have e2 : B9 ^ (t + m) * (nth ys (t + m) + 1000000000 - bw).toNat + B9 ^ (t + m) * bw.toNat = B9 ^ (t + m) * ys.getD (t + m) 0 + B9 ^ (t + m) * B9 := by rw [← Nat.mul_add, e, Nat.mul_add]
  rw [Nat.pow_succ]
  omega
theorem take_less {ys : List Nat} {t m Q V U : Nat} {bw : Int} (hk : t + m < ys.length) (hs : small B9 ys) (hz : zeroFrom ys (t + m + 1)) (hb : 0 ≤ bw) (hlt : nth ys (t + m) < bw) (h : val B9 ys + B9 ^ t * (Q * V) = U + B9 ^ (t + m) * bw.toNat) :
    U < B9 ^ t * (Q * V) := by
  have e1 := val_take_of_zero (b := B9) ys (t + m + 1) (fun j hj _ => hz j hj)
  rw [val_take_succ] at e1
  have h1 := val_lt (small_take hs (t + m))
  rw [List.length_take, Nat.min_eq_left (by omega)] at h1
  have h2 : B9 ^ (t + m) * (ys.getD (t + m) 0 + 1) ≤ B9 ^ (t + m) * bw.toNat := Nat.mul_le_mul_left _ (by unfold nth at hlt; omega)
  rw [Nat.mul_add, Nat.mul_one] at h2
  omega
theorem take_last {zs ys : List Nat} {t m Q V U : Nat} {cy : Int} (hk : t + m < zs.length) (hs : small B9 zs) (hz : zeroFrom zs (t + m + 1)) (hc : 0 ≤ cy) (hc1 : cy ≤ 1)
    (h1 : val B9 zs + B9 ^ (t + m) * cy.toNat = val B9 ys + B9 ^ t * V) (h2 : val B9 ys + B9 ^ t * (Q * V) = U + B9 ^ (t + m + 1)) (hp : B9 ^ t * (Q * V) ≤ U + B9 ^ t * V) :
    val B9 (zs.set (t + m) ((nth zs (t + m) + cy) % 1000000000).toNat) + B9 ^ t * (Q * V) = U + B9 ^ t * V := by
  have hset := val_set (b := B9) zs (t + m) ((nth zs (t + m) + cy) % 1000000000).toNat hk
  have hlt : zs.getD (t + m) 0 < B9 := small_getD (by unfold B9; omega) hs _
  have hsm : val B9 (zs.set (t + m) ((nth zs (t + m) + cy) % 1000000000).toNat) < B9 ^ (t + m + 1) :=
    val_lt_of_zero B9_two (small_set hs _ _ (by unfold B9; omega)) (zeroFrom_set hz _ _ (by omega))
  by_cases he : (zs.getD (t + m) 0 : Int) + cy = 1000000000
  · have e : ((nth zs (t + m) + cy) % 1000000000).toNat = 0 := by unfold nth; omega
    rw [e] at hset ⊢
    have e2 : B9 ^ (t + m) * zs.getD (t + m) 0 + B9 ^ (t + m) * cy.toNat = B9 ^ (t + m) * B9 := by
      rw [← Nat.mul_add]; congr 1; unfold B9; omega
    rw [Nat.pow_succ] at h2
    omega
  · exfalso
    have e : ((nth zs (t + m) + cy) % 1000000000).toNat = zs.getD (t + m) 0 + cy.toNat := by unfold nth; unfold B9 at hlt; omega
    rw [e, Nat.mul_add] at hset
    rw [e] at hsm
    omega

set_option maxRecDepth 100000 in
set_option maxHeartbeats 1000000 in
theorem take_any (B : Option Addr) (g n t cu cv : Nat) (us vs : List Nat) (q : Int) (w : World) (hrow : Row w g n us) (hun : us.length = n) (hv : Nums w B vs) (hBg : ∀ a, B = some a → a.block ≠ g) (hs : small B9 us) (ht : small B9 vs)
    (hn : n ≤ 1048576) (hm : t + vs.length < n) (hq0 : 0 ≤ q) (hq1 : q < 1000000000)
    (hU : val B9 us < B9 ^ (t + vs.length + 1)) (hp : B9 ^ t * (q.toNat * val B9 vs) ≤ val B9 us + B9 ^ t * val B9 vs) :
    Calls Tryd.prog 69 #[.slice (some ⟨g, 0, none⟩) n cu, .slice B vs.length cv, .int .i64 (t : Int), .int .u64 q] w (TakePost w g n t q.toNat (val B9 vs) (val B9 us)) := by
  have hz0 : zeroFrom us (t + vs.length + 1) := getD_zero_of_val B9_two hU
  have HP := Lib.hid hp; clear hp hU
  go_enter Tryd.func69, Tryd.ntmps69
  go_wp2
  go_loopw [9, 17] (fun bv v wr => ∃ (k : Nat) (ys : List Nat) (bw : Int), k ≤ vs.length ∧ v = .int .i64 k ∧ bv = .int .u64 bw ∧ 0 ≤ bw ∧ bw ≤ 999999999 ∧ ys.length = n ∧ small B9 ys ∧
      val B9 ys + B9 ^ t * (q.toNat * val B9 (vs.take k)) = val B9 us + B9 ^ (t + k) * bw.toNat ∧ zeroFrom ys (t + vs.length + 1) ∧ Row wr g n ys ∧ w.grownBy wr (some g)) (fun _ v _ => vs.length - (intOf v).toNat)
  case atStart => exact ⟨0, us, 0, Nat.zero_le _, rfl, rfl, by omega, by omega, hun, hs, by simp [val], hz0, hrow, World.grownBy.refl w _⟩
  case round =>
    obtain ⟨k, ys, bw, hk, rfl, rfl, hb0, hb1, hyl, hys, hval, hzf, hrw, hgr⟩ := hrel
    have HV := Lib.hid hval; have HY := Lib.hid hyl; clear hval hyl
    by_cases hlt : k < vs.length
    · obtain ⟨b, o, rfl, hb, hc⟩ := hv.2 (by omega)
      have hca : wr.cell? ⟨b, o + k, none⟩ = some (.int .u64 (nth vs k)) := (World.cell?_of_block (hgr.block b hb (fun e => hBg _ rfl (by simpa using e)))).trans (hc k hlt)
      have hbg : b ≠ g := hBg _ rfl
      have hxk : nth vs k < 1000000000 := nth_lt (by unfold B9; omega) ht k
      have hxk0 := nth_nonneg vs k
      have hy1 : nth ys (t + k) < 1000000000 := nth_lt (by unfold B9; omega) hys _
      have hy0 := nth_nonneg ys (t + k)
      have hp0 : 0 ≤ q * nth vs k := Int.mul_nonneg hq0 hxk0
      have hp1 : q * nth vs k ≤ 999999999 * 999999999 := by
        have h1 : q * nth vs k ≤ q * 999999999 := Int.mul_le_mul_of_nonneg_left (by omega) hq0
        omega
      have hcell := hrw.cell (j := t + k) (by omega)
      have hfro := hrw.frozen (t + k)
      have hglt := hrw.lt
      have hi0 : (0 : Int) ≤ (t : Int) + (k : Int) := by omega
      have hi1 : (t : Int) + (k : Int) < (n : Int) := by omega
      obtain ⟨s0, s1, s2, s3, s4⟩ := take_bound (s := q * nth vs k + bw) (x := nth ys (t + k)) (by omega) (by omega) hy0 hy1
      clear hc
      by_cases hcmp : nth ys (t + k) < (q * nth vs k + bw) % 1000000000
      · have s5 := s4 hcmp
        clear s4
        go_wp2
        go_roundw
        case rel => exact ⟨k + 1, ys.set (t + k) (nth ys (t + k) + 1000000000 - (q * nth vs k + bw) % 1000000000).toNat, (q * nth vs k + bw) / 1000000000 + 1, by omega, by go_num, rfl, by omega, by omega, by rw [List.length_set]; exact HY.out,
          small_set hys _ _ (by unfold B9; omega), take_step (by have := HY.out; omega) hb0 (by omega) (by omega) HV.out (by rw [Int.toNat_of_nonneg hq0]; omega), zeroFrom_set hzf _ _ (by omega),
          by have h1 := (hrw.setInt (nth ys (t + k) + 1000000000) (by omega) (i := t + k) (by have := HY.out; omega)).setInt (nth ys (t + k) + 1000000000 - (q * nth vs k + bw) % 1000000000) (by omega) (i := t + k) (by rw [List.length_set]; have := HY.out; omega)
             rw [List.set_set] at h1; exact h1, only_setCell (only_setCell hgr (.inl rfl) _) (.inl rfl) _⟩
        case measure => simp [intOf]; omega
      · clear s4
        go_wp2
        go_roundw
        case rel => exact ⟨k + 1, ys.set (t + k) (nth ys (t + k) - (q * nth vs k + bw) % 1000000000).toNat, (q * nth vs k + bw) / 1000000000, by omega, by go_num, rfl, by omega, by omega, by rw [List.length_set]; exact HY.out,
          small_set hys _ _ (by unfold B9; omega), take_step (by have := HY.out; omega) hb0 (by omega) (by omega) HV.out (by rw [Int.toNat_of_nonneg hq0]; omega), zeroFrom_set hzf _ _ (by omega),
          hrw.setInt _ (by omega) (by have := HY.out; omega), only_setCell hgr (.inl rfl) _⟩
        case measure => simp [intOf]; omega
    · obtain rfl : k = vs.length := by omega
      have hv1 := HV.out
      rw [val_take_all _ _ (Nat.le_refl _)] at hv1
      have HV2 := Lib.hid hv1
      clear hv1
      have hcell := hrw.cell (j := t + vs.length) (by omega)
      have hfro := hrw.frozen (t + vs.length)
      have hglt := hrw.lt
      have hi0 : (0 : Int) ≤ (t : Int) + (vs.length : Int) := by omega
      have hi1 : (t : Int) + (vs.length : Int) < (n : Int) := by omega
      have hy1 : nth ys (t + vs.length) < 1000000000 := nth_lt (by unfold B9; omega) hys _
      have hy0 := nth_nonneg ys (t + vs.length)
      by_cases hcmp : bw ≤ nth ys (t + vs.length)
      · go_wp2
        go_ret
        exact ⟨ys.set (t + vs.length) (nth ys (t + vs.length) - bw).toNat, true, rfl, hrw.setInt _ (by omega) (by have := HY.out; omega), by rw [List.length_set]; exact HY.out, small_set hys _ _ (by unfold B9; omega),
          only_setCell hgr (.inl rfl) _, by rw [if_pos rfl, Nat.add_zero]; exact take_yes (by have := HY.out; omega) hb0 hcmp HV2.out, fun h => by cases h⟩
      · go_wp2
        have hr2 := hrw.setInt (nth ys (t + vs.length) + 1000000000 - bw) (by omega) (i := t + vs.length) (by have := HY.out; omega)
        have hg2 := only_setCell hgr (p := ⟨g, t + vs.length, none⟩) (.inl rfl) (.int .u64 (nth ys (t + vs.length) + 1000000000 - bw))
        obtain ⟨y2, hy2⟩ : ∃ y2, y2 = ys.set (t + vs.length) (nth ys (t + vs.length) + 1000000000 - bw).toNat := ⟨_, rfl⟩
        rw [← hy2] at hr2
        have HY2 := Lib.hid hy2
        have hno := take_no (Q := q.toNat) (V := val B9 vs) (U := val B9 us) (ys := ys) (t := t) (m := vs.length) (by have := HY.out; omega) hb0 (by omega) HV2.out
        rw [← hy2] at hno
        have hl2 : y2.length = n := by rw [hy2, List.length_set]; exact HY.out
        have hs2 : small B9 y2 := by rw [hy2]; exact small_set hys _ _ (by unfold B9; omega)
        have hzf2 : zeroFrom y2 (t + vs.length + 1) := by rw [hy2]; exact zeroFrom_set hzf _ _ (by omega)
        have HLT : Hid (val B9 us < B9 ^ t * (q.toNat * val B9 vs)) := take_less (by have := HY.out; omega) hys hzf hb0 (by omega) HV2.out
        have HNO := Lib.hid hno; have HL2 := Lib.hid hl2
        clear hy2 hno hl2 hcell hfro hglt hy1 hy0 hcmp hrow hun hs hz0 hb0 hb1 hys hzf hrw hgr HV HV2 HY HY2
        generalize wr.setCell ⟨g, t + vs.length, none⟩ (.int .u64 (nth ys (t + vs.length) + 1000000000 - bw)) = wz at hr2 hg2 ⊢
        go_loopw [12, 97] (fun cv v wx => ∃ (k : Nat) (zs : List Nat) (cy : Int), k ≤ vs.length ∧ v = .int .i64 k ∧ cv = .int .u64 cy ∧ 0 ≤ cy ∧ cy ≤ 1 ∧ zs.length = n ∧ small B9 zs ∧
            val B9 zs + B9 ^ (t + k) * cy.toNat = val B9 y2 + B9 ^ t * val B9 (vs.take k) ∧ zeroFrom zs (t + vs.length + 1) ∧ Row wx g n zs ∧ w.grownBy wx (some g)) (fun _ v _ => vs.length - (intOf v).toNat)
        case atStart => exact ⟨0, y2, 0, Nat.zero_le _, rfl, rfl, by omega, by omega, HL2.out, hs2, by simp [val], hzf2, hr2, hg2⟩
        case round =>
          obtain ⟨k, zs, cy, hk, rfl, rfl, hc0, hc1, hzl, hzs, hzv, hzz, hrz, hgz⟩ := hrel
          have HZ := Lib.hid hzl; have HZV := Lib.hid hzv
          clear hzl hzv
          by_cases hlt : k < vs.length
          · obtain ⟨b, o, rfl, hb, hc⟩ := hv.2 (by omega)
            have hca : wr.cell? ⟨b, o + k, none⟩ = some (.int .u64 (nth vs k)) := (World.cell?_of_block (hgz.block b hb (fun e => hBg _ rfl (by simpa using e)))).trans (hc k hlt)
            have hbg : b ≠ g := hBg _ rfl
            have hxk : nth vs k < 1000000000 := nth_lt (by unfold B9; omega) ht k
            have hxk0 := nth_nonneg vs k
            have hy1 : nth zs (t + k) < 1000000000 := nth_lt (by unfold B9; omega) hzs _
            have hy0 := nth_nonneg zs (t + k)
            have hcell := hrz.cell (j := t + k) (by omega)
            have hfro := hrz.frozen (t + k)
            have hglt := hrz.lt
            have hj0 : (0 : Int) ≤ (t : Int) + (k : Int) := by omega
            have hj1 : (t : Int) + (k : Int) < (n : Int) := by omega
            have hk1 : (k : Int) < (vs.length : Int) := by omega
            have hk0 : (0 : Int) ≤ (k : Int) := by omega
            have hsu : IntKind.i64.wrap ((t : Int) + (k : Int)) = (t : Int) + (k : Int) := IntWalk.i64_in _ (by omega)
            clear hc
            go_wp2
            go_quiet (fail)
            go_wp2
            go_roundw
            case rel => exact ⟨k + 1, zs.set (t + k) ((nth zs (t + k) + nth vs k + cy) % 1000000000).toNat, (nth zs (t + k) + nth vs k + cy) / 1000000000, by omega, by go_num, rfl, by omega, by omega, by rw [List.length_set]; exact HZ.out,
              small_set hzs _ _ (by unfold B9; omega), take_add_step (by have := HZ.out; omega) hc0 rfl HZV.out, zeroFrom_set hzz _ _ (by omega), (hrz.drewN _).setInt _ (by omega) (by have := HZ.out; omega), only_setCell (only_drewN hgz _) (.inl rfl) _⟩
            case measure => simp [intOf]; omega
          · obtain rfl : k = vs.length := by omega
            have hv1 := HZV.out
            rw [val_take_all _ _ (Nat.le_refl _)] at hv1
            have HV3 := Lib.hid hv1
            clear hv1
            have hcell := hrz.cell (j := t + vs.length) (by omega)
            have hfro := hrz.frozen (t + vs.length)
            have hglt := hrz.lt
            have hy1 : nth zs (t + vs.length) < 1000000000 := nth_lt (by unfold B9; omega) hzs _
            have hy0 := nth_nonneg zs (t + vs.length)
            go_wp2
            go_ret
            exact ⟨zs.set (t + vs.length) ((nth zs (t + vs.length) + cy) % 1000000000).toNat, false, rfl, hrz.setInt _ (by omega) (by have := HZ.out; omega), by rw [List.length_set]; exact HZ.out, small_set hzs _ _ (by unfold B9; omega),
              only_setCell hgz (.inl rfl) _, by rw [if_neg (by simp)]; exact take_last (by have := HZ.out; omega) hzs hzz hc0 hc1 HV3.out HNO.out HP.out, fun _ => HLT.out⟩
end Go.Proofs.YteggjfmcpodepaaDoor
