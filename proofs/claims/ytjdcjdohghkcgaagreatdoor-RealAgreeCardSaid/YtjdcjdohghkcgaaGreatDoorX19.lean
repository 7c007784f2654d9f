/- Texts of this claim. -/
import Derived.Test.YtjdcjdohghkcgaaGreatDoorX18
import Derived.Lib.ItoaNum
namespace Go.Proofs.YtjdcjdohghkcgaaGreatDoor
open Go.RowKit
set_option maxRecDepth 100000
def shown (ds : List Nat) (k : Nat) : List Value := (List.range k).map fun j => .int .u8 (48 + nth ds (ds.length - 1 - j))
section
variable (i : Int) (A : Option Addr) (c : Nat) (w : World) (hi : i.natAbs < B18 ^ 30) (hx : Nums8 w A (tens i))
include hi hx
end
end Go.Proofs.YtjdcjdohghkcgaaGreatDoor
namespace Go.Proofs.YtjdcjdohghkcgaaGreatDoor
theorem zmx {n : Nat} (h : 10 ≤ n) : Lib.decDigits n = Lib.decDigits (n / 10) ++ [UInt8.ofNat (48 + n % 10)] := by
 rw [Lib.decDigits, dif_neg (by omega)]
theorem zpq {n : Nat} (h : n < 10) : Lib.decDigits n = [UInt8.ofNat (48 + n)] := Lib.decDigits_one h
def padk (k l : Nat) : List UInt8 := List.replicate (k - Lib.nDigits l) 48 ++ Lib.decDigits l
theorem padk_push {k l : Nat} (hk : 1 ≤ k) : padk (k + 1) l = padk k (l / 10) ++ [UInt8.ofNat (48 + l % 10)] := by
 unfold padk;rcases Nat.lt_or_ge l 10 with h | h
 · rw [Nat.div_eq_of_lt h, Nat.mod_eq_of_lt h, Lib.nDigits_small h, Lib.nDigits_small (by decide : 0 < 10), zpq h, zpq (by decide : 0 < 10)];obtain ⟨j, rfl⟩ : ∃ j, k = j + 1 := ⟨k - 1, by omega⟩;rw [show j + 1 + 1 - 1 = j + 1 by omega, show j + 1 - 1 = j by omega, List.replicate_succ'];rfl
 · rw [Lib.nDigits_big (by omega), zmx h, ← List.append_assoc, show k + 1 - (Lib.nDigits (l / 10) + 1) = k - Lib.nDigits (l / 10) by omega]
theorem dec_join {a : Nat} (ha : 0 < a) : ∀ (k l : Nat), l < 10 ^ (k + 1) → Lib.decDigits (a * 10 ^ (k + 1) + l) = Lib.decDigits a ++ padk (k + 1) l
 | 0, l, hl => by
  have h9 : l < 10 := by simpa using hl
  rw [zmx (by omega), show (a * 10 ^ (0 + 1) + l) / 10 = a by omega, show (a * 10 ^ (0 + 1) + l) % 10 = l by omega, padk, Lib.nDigits_small h9, zpq h9];rfl
 | k + 1, l, hl => by
  have e : a * 10 ^ (k + 1 + 1) + l = 10 * (a * 10 ^ (k + 1)) + l := by rw [Nat.pow_succ 10 (k + 1), ← Nat.mul_assoc, Nat.mul_comm _ 10]
  have h0 : 0 < a * 10 ^ (k + 1) := Nat.mul_pos ha (Nat.pow_pos (by decide));have key : ∀ X l : Nat, (10 * X + l) / 10 = X + l / 10 ∧ (10 * X + l) % 10 = l % 10 ∧ (0 < X → 10 ≤ 10 * X + l) := by omega
  have hd : (a * 10 ^ (k + 1 + 1) + l) / 10 = a * 10 ^ (k + 1) + l / 10 := by rw [e, (key _ _).1]
  have hm : (a * 10 ^ (k + 1 + 1) + l) % 10 = l % 10 := by rw [e, (key _ _).2.1]
  have hl2 : l / 10 < 10 ^ (k + 1) := by rw [Nat.pow_succ 10 (k + 1)] at hl; omega
  rw [zmx (by rw [e]; exact (key _ _).2.2 h0), hd, hm, dec_join ha k (l / 10) hl2, padk_push (k := k + 1) (l := l) (by omega), List.append_assoc]
theorem dec_join18 {a l : Nat} (ha : 0 < a) (hl : l < B18) : Lib.decDigits (a * B18 + l) = Lib.decDigits a ++ (List.replicate (18 - Lib.nDigits l) 48 ++ Lib.decDigits l) :=
 dec_join ha 17 l (by simpa [B18] using hl)
theorem ydv {l : Nat} (hl : l < B18) : Lib.nDigits l ≤ 18 := by
 rcases Nat.lt_or_ge l 10 with h | h
 · rw [Lib.nDigits_small h]; omega
 · rcases Nat.lt_or_ge 18 (Lib.nDigits l) with h1 | h1
   · exfalso
     have h2 : ∀ (k u : Nat), k + 1 < Lib.nDigits u → 10 ^ (k + 1) ≤ u := by
      intro k;induction k with
      | zero =>
       intro u hu;rcases Nat.lt_or_ge u 10 with h | h
       · rw [Lib.nDigits_small h] at hu; omega
       · simpa using h
      | succ k ih =>
       intro u hu;rcases Nat.lt_or_ge u 10 with h | h
       · rw [Lib.nDigits_small h] at hu; omega
       · rw [Lib.nDigits_big (by omega)] at hu;have := ih (u / 10) (by omega);rw [Nat.pow_succ 10 (k + 1)]; omega
     have h3 := h2 17 l h1;have : (10 : Nat) ^ (17 + 1) = B18 := by decide
     omega
   · exact h1
def jb (i : Int) (k : Nat) : List UInt8 := (if i < 0 then [45] else []) ++ (if k = 0 then [] else Lib.decDigits (i.natAbs / B18 ^ ((limbs i).length - k)))
theorem limb_at (i : Int) {k : Nat} : (limbs i).getD k 0 = i.natAbs / B18 ^ k % B18 := by
 rw [vi, getD_val (by unfold B18; omega) (kj vf _), kc vf]
theorem nth_limb (i : Int) (k : Nat) : nth (limbs i) k = ((i.natAbs / B18 ^ k % B18 : Nat) : Int) := by
 unfold nth; rw [limb_at]
theorem limbs_top {i : Int} {k : Nat} (hk : k < (limbs i).length) : 0 < i.natAbs / B18 ^ k := by
 rcases Nat.eq_zero_or_pos (i.natAbs / B18 ^ k) with h | h
 · exfalso
   have h0 : 0 < B18 ^ k := Nat.pow_pos (by unfold B18; omega);have h1 : i.natAbs < B18 ^ k := by
    rcases Nat.lt_or_ge i.natAbs (B18 ^ k) with h1 | h1
    · exact h1
    · have := Nat.div_pos h1 h0; omega
   have := (jg vf i.natAbs k).2 h1;rw [← vi] at this;omega
 · exact h
theorem zrv (i : Int) : jb i 0 = if i < 0 then [45] else [] := by simp [jb]
theorem ycq {i : Int} (h : 0 < (limbs i).length) : jb i 0 ++ Lib.decDigits (i.natAbs / B18 ^ ((limbs i).length - 1 - 0) % B18) = jb i 1 := by
 have h1 : i.natAbs < B18 ^ (limbs i).length := (jg vf i.natAbs _).1 (by rw [← vi]; exact Nat.le_refl _);have h2 : i.natAbs / B18 ^ ((limbs i).length - 1) < B18 := by
  rw [Nat.div_lt_iff_lt_mul (Nat.pow_pos (by unfold B18; omega)), ← Nat.pow_succ', Nat.succ_eq_add_one, show (limbs i).length - 1 + 1 = (limbs i).length by omega]; exact h1
 rw [Nat.sub_zero, Nat.mod_eq_of_lt h2];simp [jb]
theorem zsx {i : Int} {k : Nat} (hk0 : 0 < k) (hk : k < (limbs i).length) :
 jb i k ++ (List.replicate (18 - Lib.nDigits (i.natAbs / B18 ^ ((limbs i).length - 1 - k) % B18)) 48 ++ Lib.decDigits (i.natAbs / B18 ^ ((limbs i).length - 1 - k) % B18)) = jb i (k + 1) := by
 have e : i.natAbs / B18 ^ ((limbs i).length - k) = i.natAbs / B18 ^ ((limbs i).length - 1 - k) / B18 := by
  rw [Nat.div_div_eq_div_mul, ← Nat.pow_succ, Nat.succ_eq_add_one, show (limbs i).length - 1 - k + 1 = (limbs i).length - k by omega]
 have hp := limbs_top (i := i) (k := (limbs i).length - k) (by omega);have hj := dec_join18 (a := i.natAbs / B18 ^ ((limbs i).length - k)) (l := i.natAbs / B18 ^ ((limbs i).length - 1 - k) % B18) hp (Nat.mod_lt _ (by unfold B18; omega))
 rw [jb, jb, if_neg (show ¬ k = 0 by omega), if_neg (show ¬ k + 1 = 0 by omega), List.append_assoc, ← hj, e, Nat.mul_comm, Nat.div_add_mod, show (limbs i).length - (k + 1) = (limbs i).length - 1 - k by omega]
theorem texted_all {i : Int} (h : 0 < (limbs i).length) : jb i (limbs i).length = Lib.itoa i := by
 rw [jb, if_neg (show ¬ (limbs i).length = 0 by omega), Nat.sub_self, Nat.pow_zero, Nat.div_one, Lib.itoa];split
 · rfl
 · rw [show i.toNat = i.natAbs by omega]; rfl
theorem texted_len {i : Int} {k : Nat} (hk : k ≤ (limbs i).length) (hl : (limbs i).length ≤ 30) : (jb i k).length ≤ 1 + 18 * k := by
 have h1 : ∀ k, k ≤ (limbs i).length → (jb i k).length ≤ 1 + 18 * k := by
  intro k;induction k with
  | zero => intro _; rw [zrv]; split <;> simp
  | succ k ih =>
   intro hk1;have h2 := ih (by omega);have h3 : i.natAbs / B18 ^ ((limbs i).length - 1 - k) % B18 < B18 := Nat.mod_lt _ (by unfold B18; omega);have h4 := ydv h3;rcases Nat.eq_zero_or_pos k with rfl | h0
   · rw [← ycq (by omega), List.length_append, Lib.decDigits_length];rw [Nat.sub_zero] at h4 ⊢;omega
   · rw [← zsx h0 (by omega), List.length_append, List.length_append, List.length_replicate, Lib.decDigits_length];omega
 exact h1 k hk
/-! ### the number that digits spell -/
def strip : List UInt8 → List UInt8
 | [] => []
 | b :: r => if b = 48 then strip r else b :: r
end Go.Proofs.YtjdcjdohghkcgaaGreatDoor
namespace Go.Proofs.YtjdcjdohghkcgaaGreatDoor
open Go.RowKit
set_option maxRecDepth 100000
theorem byte_of (r : Nat) (h : r < 10) : 48 ≤ (UInt8.ofNat (48 + r)).toNat ∧ (UInt8.ofNat (48 + r)).toNat ≤ 57 := by
 have e : (UInt8.ofNat (48 + r)).toNat = (48 + r) % 256 := rfl;rw [e];omega
theorem dec_all : ∀ n : Nat, ∀ c ∈ Lib.decDigits n, 48 ≤ c.toNat ∧ c.toNat ≤ 57 := by
 intro n;induction n using Nat.strongRecOn with
 | _ n ih =>
  by_cases h : 10 ≤ n
  · rw [zmx h];intro c hc;rcases List.mem_append.1 hc with h1 | h1
    · exact ih (n / 10) (by omega) c h1
    · obtain rfl := List.mem_singleton.1 h1;exact byte_of _ (by omega)
  · rw [zpq (by omega)];intro c hc;obtain rfl := List.mem_singleton.1 hc;exact byte_of _ (by omega)
theorem dec_pos (n : Nat) : 0 < (Lib.decDigits n).length := by
 by_cases h : 10 ≤ n
 · rw [zmx h, List.length_append]; show 0 < _ + 1; omega
 · rw [zpq (by omega)]; exact Nat.one_pos
theorem dec_len : ∀ (k n : Nat), n < 10 ^ (k + 1) → (Lib.decDigits n).length ≤ k + 1
 | 0, n, h => by rw [zpq (by simpa using h)]; exact Nat.le_refl _
 | k + 1, n, h => by
  by_cases h1 : 10 ≤ n
  · rw [zmx h1, List.length_append];have := dec_len k (n / 10) ((Nat.div_lt_iff_lt_mul (by decide)).2 (by rwa [Nat.pow_succ] at h));show _ + 1 ≤ _; omega
  · rw [zpq (by omega)]; show 1 ≤ _; omega
def itS (i : Int) : ByteArray := ⟨(Lib.itoa i).toArray⟩
def itF (i : Int) : Nat := if i < 0 then 1 else 0
theorem itS_at (i : Int) (j : Nat) : bAt (itS i) j = (((Lib.itoa i)[j]?).map (·.toNat)).getD 0 := by
 unfold bAt itS;rw [List.getElem?_toArray]
theorem itS_size (i : Int) : (itS i).size = (Lib.itoa i).length := by
 show (Lib.itoa i).toArray.size = _
 rw [List.size_toArray]
theorem it_neg {i : Int} (h : i < 0) : Lib.itoa i = 45 :: Lib.decDigits i.natAbs := by rw [Lib.itoa, if_pos h]
theorem it_pos {i : Int} (h : ¬ i < 0) : Lib.itoa i = Lib.decDigits i.toNat := by rw [Lib.itoa, if_neg h]
theorem it_sgn (i : Int) : SgnAt (itS i) (itF i) (decide (i < 0)) := by
 by_cases h : i < 0
 · refine .inr ⟨decide_eq_true h, by unfold itF; rw [if_pos h], ?_⟩;rw [itS_at, it_neg h]; rfl
 · exact .inl ⟨decide_eq_false h, by unfold itF; rw [if_neg h]⟩
theorem it_nm (i : Int) : Nm (itS i) (itF i) (itS i).size (itS i).size 0 := by
 have key : itF i < (itS i).size ∧ ∀ j, itF i ≤ j → j < (itS i).size → 48 ≤ bAt (itS i) j ∧ bAt (itS i) j ≤ 57 := by
  rw [itS_size];by_cases h : i < 0
  · have hf : itF i = 1 := by unfold itF; rw [if_pos h]
    have hp := dec_pos i.natAbs;rw [hf, it_neg h];refine ⟨by show 1 < _ + 1; omega, fun j hj hl => ?_⟩;have hl : j < (Lib.decDigits i.natAbs).length + 1 := hl;rw [itS_at, it_neg h];obtain ⟨k, rfl⟩ : ∃ k, j = k + 1 := ⟨j - 1, by omega⟩;rw [List.getElem?_cons_succ, List.getElem?_eq_getElem (by omega)];exact dec_all _ _ (List.getElem_mem _)
  · have hf : itF i = 0 := by unfold itF; rw [if_neg h]
    have hp := dec_pos i.toNat;rw [hf, it_pos h];refine ⟨hp, fun j hj hl => ?_⟩;rw [itS_at, it_pos h, List.getElem?_eq_getElem hl];exact dec_all _ _ (List.getElem_mem _)
 refine ⟨key.1, Nat.le_refl _, Nat.le_refl _, key.2, fun h => absurd h (Nat.lt_irrefl _), fun j h1 h2 => absurd h1 (Nat.not_lt.2 (Nat.le_of_lt h2)), fun h => absurd h (Nat.lt_irrefl _)⟩
theorem it_size {i : Int} (h : i.natAbs < B18 ^ 30) : (itS i).size < 100000 := by
 have e : B18 ^ 30 = 10 ^ (539 + 1) := by unfold B18; decide +kernel
 rw [e] at h;rw [itS_size];by_cases h0 : i < 0
 · rw [it_neg h0];have := dec_len 539 i.natAbs h;show _ + 1 < 100000
   omega
 · rw [it_pos h0];have := dec_len 539 i.toNat (by rw [show i.toNat = i.natAbs by omega]; exact h);omega
noncomputable def ofN (i : Int) : Nat := atV (itS i) (itF i) (decide (i < 0))
noncomputable def ofV (i : Int) : Nat := if rg (ofN i) = 9218868437227405312 then 0 else ofN i
noncomputable def ofE (i : Int) : Int := if rg (ofN i) = 9218868437227405312 then 7 else 0
theorem ofN_sgn (i : Int) : Sgn (decide (i < 0)) (ofN i) := atV_sgn _ (it_nm i)
theorem ofN_bare (i : Int) : ykq (ofN i) = ofN i := by unfold ykq; rw [(ofN_sgn i).num, if_neg (by decide)]
def Tab (w : World) : Prop := ∀ b, Below w.heap.size w b → Lib.TabIs Tryz.prog b "internal/strconv.uint64pow10" .u64 Lib.pow10Tab
theorem Tab.below {w w' : World} (h : Tab w) (hb : Below w.heap.size w w') : Tab w' := fun b hb' => h b (hb.trans (hb'.mono hb.size))
theorem ku (l : List UInt8) : (⟨l.toArray⟩ : ByteArray).size = l.length := by simp [ByteArray.size]
theorem yrz (a b : List UInt8) : (⟨a.toArray⟩ : ByteArray) ++ ⟨b.toArray⟩ = ⟨(a ++ b).toArray⟩ := by
 apply ByteArray.ext
 rw [ByteArray.data_append];simp
theorem ba_cut (a : List UInt8) (l h : Nat) : (⟨a.toArray⟩ : ByteArray).extract l h = ⟨((a.take h).drop l).toArray⟩ := by
 apply ByteArray.ext
 rw [ByteArray.data_extract];apply Array.ext'
 simp [List.extract, List.drop_take]
theorem yux {n : Nat} : (⟨#[48, 48, 48, 48, 48, 48, 48, 48, 48, 48, 48, 48, 48, 48, 48, 48, 48, 48]⟩ : ByteArray).extract n 18 = ⟨(List.replicate (18 - n) (48 : UInt8)).toArray⟩ := by
 have h := ba_cut (List.replicate 18 48) n 18;rw [List.take_of_length_le (by simp), List.drop_replicate] at h;exact h
theorem fmtU (u : Nat) (hu64 : u < 18446744073709551616) (w : World) (ht : Tab w) : Calls Tryz.prog 93 #[.int .u64 u, .int .i64 10] w fun e w' => e = .returned (.string ⟨(Lib.decDigits u).toArray⟩) ∧ Below w.heap.size w w' := by
 refine zo Tryz.func93 rfl Tryz.ntmps93 rfl ?_;have LW := erx (No) w;have XLW := grx (No) w;have E := erx (No) w;refine srx (anx rfl (srx (mvx rfl (mvx rfl (za rfl (zg en128 rfl ((fmt_any u hu64 _ (ht.below (LW.step E XLW).toBelow)).mono ?_)))))));rintro e w1 ⟨rfl, hb⟩;refine ⟨_, rfl, ?_⟩;replace E := blx E hb
 refine anx rfl (zt (zr (rs := [.tmp 4]) (vs := [_]) rfl ⟨rfl, trivial⟩ ?_));exact ⟨rfl, (LW.step E XLW).toBelow⟩
section
variable (i : Int) (A : Option Addr) (c : Nat) (w : World) (hi : i.natAbs < B18 ^ 30) (hx : Nums w A (limbs i)) (ht : Tab w)
include hi hx ht
theorem text_zero (h0 : i = 0) : Calls Tryz.prog 55 #[.agg #[.bool (decide (i < 0)), .slice A (limbs i).length c]] w fun e w' => e = .returned (.string ⟨(Lib.itoa i).toArray⟩) ∧ Below w.heap.size w w' := by
 have _ := ht;have hl : ((limbs i).length : Int) = 0 := by rw [h0, je]; rfl
 refine zo Tryz.func55 rfl Tryz.ntmps55 rfl ?_;have HF : Per (No) w (fun _ => True) := Per.true_;have LW := erx (No) w;have XLW := grx (No) w;have E := erx (No) w;replace HF := HF.on E;replace LW := LW.step E XLW;replace E := erx (No) w;replace HF := HF.and (Per.nums0 hx);refine srx (za rfl (gl rfl ?_));intro gb1 w2 Bb1 Eb1 Gb1;have Gb1 : _ ≤ gb1 := Nat.le_trans E.size Gb1
 have GLb1 := Nat.le_trans LW.size Gb1;replace E := E.trans Eb1.no;replace HF := HF.cons (ye Gb1);replace E := E.cons (some gb1);replace XLW := Mut.grow XLW (fun k e => Or.inr (Nat.le_trans LW.size ((ye Gb1) k e)));replace HF := HF.on E;replace LW := LW.step E XLW;have SB : ∀ q9, No q9 → Mut [(some gb1)] q9 := (Mut.skip Mut.nil_);replace HF := HF.less SB
 replace XLW := fun k h => XLW k (SB k h);clear SB;replace E := erx (No) w2;replace HF := HF.and (Per.blkN Bb1 NotIn.nil);refine anx rfl (zb (srx (za rfl (qb Tryz.underlying42 rfl vh rfl (HF.on E).here.2 rfl (za rfl (zg en54 rfl ((zqk A c _ hi (HF.on E).here.1.2).mono ?_)))))));rintro e w3 ⟨rfl, hb⟩;refine ⟨_, rfl, ?_⟩;replace E := blx E hb
 refine za rfl (jj rfl (rnx (zj rfl (zf (zc (zb (srx (za rfl (ze Tryz.underlying42 rfl zkz (by decide) rfl (za rfl (zy Tryz.underlying40 rfl rfl (HF.on E).here.2 rfl (za rfl (gx Tryz.underlying40 rfl (za rfl (zx rfl rfl (rnx (yc 12 (.bool true) rfl ((by rw [hl]; rfl : (.bool (((((limbs i).length : Nat)) : Int) == 0) : Value) = _)) (zz rfl (srx (anx rfl (zt (zq ?_))))))))))))))))))))))
 have e : Lib.itoa 0 = [48] := by rw [Lib.itoa, if_neg (by decide), Lib.decDigits]; rfl
 refine zr (rs := [.tmp 2]) (vs := [_]) rfl ⟨rfl, trivial⟩ ?_;exact ⟨by rw [h0, e]; rfl, (LW.step E XLW).toBelow⟩
theorem text_neg (hn : i < 0) : Calls Tryz.prog 55 #[.agg #[.bool (decide (i < 0)), .slice A (limbs i).length c]] w fun e w' => e = .returned (.string ⟨(Lib.itoa i).toArray⟩) ∧ Below w.heap.size w w' := by
 have hpos := yiq (j := i) (by omega);have hl : ((limbs i).length : Int) ≠ 0 := by omega
 have hl2 := gf hi;have hdi : decide (i < 0) = true := decide_eq_true hn;obtain ⟨bx, ox, rfl, hbx, hcx⟩ := hx.2 hpos;refine zo Tryz.func55 rfl Tryz.ntmps55 rfl ?_;have HF : Per (No) w (fun _ => True) := Per.true_;have LW := erx (No) w;have XLW := grx (No) w;have E := erx (No) w;replace HF := HF.on E;replace LW := LW.step E XLW;replace E := erx (No) w
 replace HF := HF.and (Per.nums0 hx);refine srx (za rfl (gl rfl ?_));intro gb1 w2 Bb1 Eb1 Gb1;have Gb1 : _ ≤ gb1 := Nat.le_trans E.size Gb1;have GLb1 := Nat.le_trans LW.size Gb1;replace E := E.trans Eb1.no;replace HF := HF.cons (ye Gb1);replace E := E.cons (some gb1);replace XLW := Mut.grow XLW (fun k e => Or.inr (Nat.le_trans LW.size ((ye Gb1) k e)));replace HF := HF.on E
 replace LW := LW.step E XLW;have SB : ∀ q9, No q9 → Mut [(some gb1)] q9 := (Mut.skip Mut.nil_);replace HF := HF.less SB;replace XLW := fun k h => XLW k (SB k h);clear SB;replace E := erx (No) w2;replace HF := HF.and (Per.blkN Bb1 NotIn.nil)
 refine anx rfl (zb (srx (za rfl (qb Tryz.underlying42 rfl vh rfl (HF.on E).here.2 rfl (za rfl (zg en54 rfl ((zqk _ c _ hi (HF.on E).here.1.2).mono ?_)))))));rintro e w3 ⟨rfl, hb⟩;refine ⟨_, rfl, ?_⟩;replace E := blx E hb
 refine za rfl (jj rfl (rnx (zj rfl (zf (zc (zb (srx (za rfl (ze Tryz.underlying42 rfl zkz (by decide) rfl (za rfl (zy Tryz.underlying40 rfl rfl (HF.on E).here.2 rfl (za rfl (gx Tryz.underlying40 rfl (za rfl (zx rfl rfl (rnx (yc 12 (.bool false) rfl ((by rw [beq_eq_false_iff_ne.2 hl] : (.bool (((((limbs i).length : Nat)) : Int) == 0) : Value) = _)) (zj rfl (zf (zc (srx (anx rfl (zb (srx (za rfl (ze Tryz.underlying42 rfl sz4 (by decide) rfl (za rfl (zy Tryz.underlying4 rfl rfl (HF.on E).here.2 rfl (rnx (yc 14 (.bool true) rfl ((by rw [hdi] : (.bool (decide (i < 0)) : Value) = _)) (zz rfl (zh (anx rfl (zb (srx ?_)))))))))))))))))))))))))))))))))))
 refine za rfl (ze Tryz.underlying42 rfl zkz (by decide) rfl (za rfl (zy Tryz.underlying40 rfl rfl (HF.on E).here.2 rfl (za rfl (gx Tryz.underlying40 rfl (za rfl (yd rfl rfl (zp (by omega)) (anx rfl (zw (yc 3 (.string ⟨(jb i 0).toArray⟩) rfl ((by rw [zrv, if_pos hn] : (.string ⟨#[45]⟩ : Value) = _)) (yc 4 (.int .i64 (((limbs i).length : Int) - 1 - ((0 : Nat) : Int))) rfl ((by simp : (.int .i64 (((((limbs i).length : Nat)) : Int) - 1) : Value) = _)) ?_)))))))))))
 replace HF := HF.on E;replace LW := LW.step E XLW;replace E := erx (No) w3;refine jo (ι := Nat) (fun k => [(1, .pointer (some ⟨gb1, 0, none⟩)), (3, .string ⟨(jb i k).toArray⟩), (4, .int .i64 (((limbs i).length : Int) - 1 - (k : Int)))]) (fun k w' => Ext (No) w3 w' ∧ (k ≤ (limbs i).length)) (fun k => (limbs i).length - k) 0 ⟨rfl, rfl, rfl, trivial⟩ ⟨Ext.refl _ _, Nat.zero_le _⟩ ?_
 rintro k w5 ⟨M4, hk⟩;have XM4 := grx (No) w3;replace E := E.trans M4;replace HF := HF.on E;replace LW := LW.step E XLW;replace E := erx (No) w5;refine zb (srx (mvx rfl (za rfl (qz rfl rfl (rnx (yh rfl (fun q => ?_) (fun q => ?_)))))))
 ·
  have q := of_decide_eq_true q;obtain ⟨m, hm⟩ : ∃ m, m = i.natAbs / B18 ^ ((limbs i).length - 1 - k) % B18 := ⟨_, rfl⟩;have hm18 : m < B18 := by rw [hm]; exact Nat.mod_lt _ (by unfold B18; omega)
  have hm64 : m < 18446744073709551616 := by unfold B18 at hm18; omega
  have hnd := ydv hm18;have hlt := texted_len (i := i) hk hl2;have hdl := Lib.decDigits_length m
  refine zf (zc (zb (zw (srx (za rfl (ze Tryz.underlying42 rfl zkz (by decide) rfl (za rfl (zy Tryz.underlying40 rfl rfl (HF.on E).here.2 rfl (mvx rfl (za rfl (yn (j := (limbs i).length - 1 - k) Tryz.underlying40 zfv rfl rfl (by omega) (by omega) ?_)))))))))));obtain ⟨b9, o9, hA9, _, hc9⟩ := ((HF.on E).here.1.2).2 hpos
  obtain ⟨rfl, rfl⟩ : b9 = bx ∧ o9 = ox := by simpa using hA9.symm
  have hc8 := hc9 ((limbs i).length - 1 - k) (by omega);rw [nth_limb, ← hm] at hc8;refine za rfl (yl Tryz.underlying32 rfl rfl hc8 (za rfl (zg en93 rfl ((fmtU m hm64 _ (ht.below (LW.step E XLW).toBelow)).mono ?_))));rintro e w6 ⟨rfl, hb⟩;refine ⟨_, rfl, ?_⟩;replace E := blx E hb
  refine anx rfl (zb (srx (mvx rfl (za rfl (ze Tryz.underlying42 rfl zkz (by decide) rfl (za rfl (zy Tryz.underlying40 rfl rfl (HF.on E).here.2 rfl (za rfl (gx Tryz.underlying40 rfl (za rfl (yd rfl rfl (zp (by omega)) (za rfl (yp rfl rfl (rnx (yh rfl (fun h2 => ?_) (fun h2 => ?_))))))))))))))))
  ·
   have h2 := of_decide_eq_true h2;have hk0 : 0 < k := by omega
   refine zh (mvx rfl (za rfl (qr Tryz.underlying9 rfl (zv 36 (.int .i64 ((Lib.nDigits m : Nat) : Int)) rfl (by rw [ku, hdl]) (za rfl (kn (l := Lib.nDigits m) (h := 18) Tryz.underlying9 rfl ⟨_, rfl⟩ rfl hnd (Nat.le_refl _) (zv 37 (.string ⟨(List.replicate (18 - Lib.nDigits m) (48 : UInt8)).toArray⟩) rfl ((by rw [yux] : (.string ((⟨#[48, 48, 48, 48, 48, 48, 48, 48, 48, 48, 48, 48, 48, 48, 48, 48, 48, 48]⟩ : ByteArray).extract (Lib.nDigits m) 18) : Value) = _)) (mvx rfl (za rfl (zhq rfl rfl (by rw [ku, ku, List.length_replicate, hdl]; omega) (zv 39 (.string ⟨(List.replicate (18 - Lib.nDigits m) (48 : UInt8) ++ Lib.decDigits m).toArray⟩) rfl ((by rw [yrz] : (.string (⟨(List.replicate (18 - Lib.nDigits m) (48 : UInt8)).toArray⟩ ++ ⟨(Lib.decDigits m).toArray⟩) : Value) = _)) (anx rfl (zh (mvx rfl (mvx rfl (za rfl (zhq rfl rfl (by rw [ku, ku, List.length_append, List.length_replicate, hdl]; omega) (zv 42 (.string ⟨(jb i (k + 1)).toArray⟩) rfl ((by rw [yrz, hm, zsx hk0 (by omega)] : (.string (⟨(jb i k).toArray⟩ ++ ⟨(List.replicate (18 - Lib.nDigits m) (48 : UInt8) ++ Lib.decDigits m).toArray⟩) : Value) = _)) (avx rfl (yg (zl (zc (zh (mvx rfl (za rfl (yd rfl rfl (zp (by omega)) (avx rfl (yg (yw 4 (.int .i64 (((limbs i).length : Int) - 1 - ((k + 1 : Nat) : Int))) rfl ((by rw [show ((limbs i).length : Int) - 1 - (k : Int) - 1 = ((limbs i).length : Int) - 1 - ((k + 1 : Nat) : Int) by omega] : (.int .i64 ((((limbs i).length : Int) - 1 - (k : Int)) - 1) : Value) = _)) ?_)))))))))))))))))))))))))))))
   exact yt (k + 1) (by show (limbs i).length - (k + 1) < (limbs i).length - k; omega) ⟨rfl, rfl, rfl, trivial⟩ ⟨M4.step E XM4, (by omega : k + 1 ≤ (limbs i).length)⟩
  ·
   have h2 := of_decide_eq_false h2;have hk0 : k = 0 := by omega
   have hone : jb i k ++ Lib.decDigits m = jb i (k + 1) := by rw [hm, hk0]; exact ycq hpos
   refine zf (zc (zh (mvx rfl (mvx rfl (za rfl (zhq rfl rfl (by rw [ku, ku, hdl]; omega) (zv 42 (.string ⟨(jb i (k + 1)).toArray⟩) rfl ((by rw [yrz, hone] : (.string (⟨(jb i k).toArray⟩ ++ ⟨(Lib.decDigits m).toArray⟩) : Value) = _)) (avx rfl (yg (zl (zc (zh (mvx rfl (za rfl (yd rfl rfl (zp (by omega)) (avx rfl (yg (yw 4 (.int .i64 (((limbs i).length : Int) - 1 - ((k + 1 : Nat) : Int))) rfl ((by rw [show ((limbs i).length : Int) - 1 - (k : Int) - 1 = ((limbs i).length : Int) - 1 - ((k + 1 : Nat) : Int) by omega] : (.int .i64 ((((limbs i).length : Int) - 1 - (k : Int)) - 1) : Value) = _)) ?_))))))))))))))))))
   exact yt (k + 1) (by show (limbs i).length - (k + 1) < (limbs i).length - k; omega) ⟨rfl, rfl, rfl, trivial⟩ ⟨M4.step E XM4, (by omega : k + 1 ≤ (limbs i).length)⟩
 ·
  have q := of_decide_eq_false q;obtain rfl : k = (limbs i).length := by omega
  refine yr (zn (zn (ya (zc (srx (mvx rfl (anx rfl (zt (zr (rs := [.tmp 2]) (vs := [_]) rfl ⟨rfl, trivial⟩ ?_)))))))));exact ⟨by rw [texted_all hpos]; rfl, (LW.step E XLW).toBelow⟩
theorem text_pos (hn : 0 < i) : Calls Tryz.prog 55 #[.agg #[.bool (decide (i < 0)), .slice A (limbs i).length c]] w fun e w' => e = .returned (.string ⟨(Lib.itoa i).toArray⟩) ∧ Below w.heap.size w w' := by
 have hpos := yiq (j := i) (by omega);have hl : ((limbs i).length : Int) ≠ 0 := by omega
 have hl2 := gf hi;have hdi : decide (i < 0) = false := decide_eq_false (by omega);obtain ⟨bx, ox, rfl, hbx, hcx⟩ := hx.2 hpos;refine zo Tryz.func55 rfl Tryz.ntmps55 rfl ?_;have HF : Per (No) w (fun _ => True) := Per.true_;have LW := erx (No) w;have XLW := grx (No) w;have E := erx (No) w;replace HF := HF.on E;replace LW := LW.step E XLW;replace E := erx (No) w
 replace HF := HF.and (Per.nums0 hx);refine srx (za rfl (gl rfl ?_));intro gb1 w2 Bb1 Eb1 Gb1;have Gb1 : _ ≤ gb1 := Nat.le_trans E.size Gb1;have GLb1 := Nat.le_trans LW.size Gb1;replace E := E.trans Eb1.no;replace HF := HF.cons (ye Gb1);replace E := E.cons (some gb1);replace XLW := Mut.grow XLW (fun k e => Or.inr (Nat.le_trans LW.size ((ye Gb1) k e)));replace HF := HF.on E
 replace LW := LW.step E XLW;have SB : ∀ q9, No q9 → Mut [(some gb1)] q9 := (Mut.skip Mut.nil_);replace HF := HF.less SB;replace XLW := fun k h => XLW k (SB k h);clear SB;replace E := erx (No) w2;replace HF := HF.and (Per.blkN Bb1 NotIn.nil)
 refine anx rfl (zb (srx (za rfl (qb Tryz.underlying42 rfl vh rfl (HF.on E).here.2 rfl (za rfl (zg en54 rfl ((zqk _ c _ hi (HF.on E).here.1.2).mono ?_)))))));rintro e w3 ⟨rfl, hb⟩;refine ⟨_, rfl, ?_⟩;replace E := blx E hb
 refine za rfl (jj rfl (rnx (zj rfl (zf (zc (zb (srx (za rfl (ze Tryz.underlying42 rfl zkz (by decide) rfl (za rfl (zy Tryz.underlying40 rfl rfl (HF.on E).here.2 rfl (za rfl (gx Tryz.underlying40 rfl (za rfl (zx rfl rfl (rnx (yc 12 (.bool false) rfl ((by rw [beq_eq_false_iff_ne.2 hl] : (.bool (((((limbs i).length : Nat)) : Int) == 0) : Value) = _)) (zj rfl (zf (zc (srx (anx rfl (zb (srx (za rfl (ze Tryz.underlying42 rfl sz4 (by decide) rfl (za rfl (zy Tryz.underlying4 rfl rfl (HF.on E).here.2 rfl (rnx (yc 14 (.bool false) rfl ((by rw [hdi] : (.bool (decide (i < 0)) : Value) = _)) (zj rfl (zf (zc (zb (srx (za rfl (ze Tryz.underlying42 rfl zkz (by decide) rfl (za rfl (zy Tryz.underlying40 rfl rfl (HF.on E).here.2 rfl ?_)))))))))))))))))))))))))))))))))))))))
 refine za rfl (gx Tryz.underlying40 rfl (za rfl (yd rfl rfl (zp (by omega)) (anx rfl (zw (yc 3 (.string ⟨(jb i 0).toArray⟩) rfl ((by rw [zrv, if_neg (by omega)] : (.string ⟨#[]⟩ : Value) = _)) (yc 4 (.int .i64 (((limbs i).length : Int) - 1 - ((0 : Nat) : Int))) rfl ((by simp : (.int .i64 (((((limbs i).length : Nat)) : Int) - 1) : Value) = _)) ?_)))))))
 replace HF := HF.on E;replace LW := LW.step E XLW;replace E := erx (No) w3;refine jo (ι := Nat) (fun k => [(1, .pointer (some ⟨gb1, 0, none⟩)), (3, .string ⟨(jb i k).toArray⟩), (4, .int .i64 (((limbs i).length : Int) - 1 - (k : Int)))]) (fun k w' => Ext (No) w3 w' ∧ (k ≤ (limbs i).length)) (fun k => (limbs i).length - k) 0 ⟨rfl, rfl, rfl, trivial⟩ ⟨Ext.refl _ _, Nat.zero_le _⟩ ?_
 rintro k w5 ⟨M4, hk⟩;have XM4 := grx (No) w3;replace E := E.trans M4;replace HF := HF.on E;replace LW := LW.step E XLW;replace E := erx (No) w5;refine zb (srx (mvx rfl (za rfl (qz rfl rfl (rnx (yh rfl (fun q => ?_) (fun q => ?_)))))))
 ·
  have q := of_decide_eq_true q;obtain ⟨m, hm⟩ : ∃ m, m = i.natAbs / B18 ^ ((limbs i).length - 1 - k) % B18 := ⟨_, rfl⟩;have hm18 : m < B18 := by rw [hm]; exact Nat.mod_lt _ (by unfold B18; omega)
  have hm64 : m < 18446744073709551616 := by unfold B18 at hm18; omega
  have hnd := ydv hm18;have hlt := texted_len (i := i) hk hl2;have hdl := Lib.decDigits_length m
  refine zf (zc (zb (zw (srx (za rfl (ze Tryz.underlying42 rfl zkz (by decide) rfl (za rfl (zy Tryz.underlying40 rfl rfl (HF.on E).here.2 rfl (mvx rfl (za rfl (yn (j := (limbs i).length - 1 - k) Tryz.underlying40 zfv rfl rfl (by omega) (by omega) ?_)))))))))));obtain ⟨b9, o9, hA9, _, hc9⟩ := ((HF.on E).here.1.2).2 hpos
  obtain ⟨rfl, rfl⟩ : b9 = bx ∧ o9 = ox := by simpa using hA9.symm
  have hc8 := hc9 ((limbs i).length - 1 - k) (by omega);rw [nth_limb, ← hm] at hc8;refine za rfl (yl Tryz.underlying32 rfl rfl hc8 (za rfl (zg en93 rfl ((fmtU m hm64 _ (ht.below (LW.step E XLW).toBelow)).mono ?_))));rintro e w6 ⟨rfl, hb⟩;refine ⟨_, rfl, ?_⟩;replace E := blx E hb
  refine anx rfl (zb (srx (mvx rfl (za rfl (ze Tryz.underlying42 rfl zkz (by decide) rfl (za rfl (zy Tryz.underlying40 rfl rfl (HF.on E).here.2 rfl (za rfl (gx Tryz.underlying40 rfl (za rfl (yd rfl rfl (zp (by omega)) (za rfl (yp rfl rfl (rnx (yh rfl (fun h2 => ?_) (fun h2 => ?_))))))))))))))))
  ·
   have h2 := of_decide_eq_true h2;have hk0 : 0 < k := by omega
   refine zh (mvx rfl (za rfl (qr Tryz.underlying9 rfl (zv 36 (.int .i64 ((Lib.nDigits m : Nat) : Int)) rfl (by rw [ku, hdl]) (za rfl (kn (l := Lib.nDigits m) (h := 18) Tryz.underlying9 rfl ⟨_, rfl⟩ rfl hnd (Nat.le_refl _) (zv 37 (.string ⟨(List.replicate (18 - Lib.nDigits m) (48 : UInt8)).toArray⟩) rfl ((by rw [yux] : (.string ((⟨#[48, 48, 48, 48, 48, 48, 48, 48, 48, 48, 48, 48, 48, 48, 48, 48, 48, 48]⟩ : ByteArray).extract (Lib.nDigits m) 18) : Value) = _)) (mvx rfl (za rfl (zhq rfl rfl (by rw [ku, ku, List.length_replicate, hdl]; omega) (zv 39 (.string ⟨(List.replicate (18 - Lib.nDigits m) (48 : UInt8) ++ Lib.decDigits m).toArray⟩) rfl ((by rw [yrz] : (.string (⟨(List.replicate (18 - Lib.nDigits m) (48 : UInt8)).toArray⟩ ++ ⟨(Lib.decDigits m).toArray⟩) : Value) = _)) (anx rfl (zh (mvx rfl (mvx rfl (za rfl (zhq rfl rfl (by rw [ku, ku, List.length_append, List.length_replicate, hdl]; omega) (zv 42 (.string ⟨(jb i (k + 1)).toArray⟩) rfl ((by rw [yrz, hm, zsx hk0 (by omega)] : (.string (⟨(jb i k).toArray⟩ ++ ⟨(List.replicate (18 - Lib.nDigits m) (48 : UInt8) ++ Lib.decDigits m).toArray⟩) : Value) = _)) (avx rfl (yg (zl (zc (zh (mvx rfl (za rfl (yd rfl rfl (zp (by omega)) (avx rfl (yg (yw 4 (.int .i64 (((limbs i).length : Int) - 1 - ((k + 1 : Nat) : Int))) rfl ((by rw [show ((limbs i).length : Int) - 1 - (k : Int) - 1 = ((limbs i).length : Int) - 1 - ((k + 1 : Nat) : Int) by omega] : (.int .i64 ((((limbs i).length : Int) - 1 - (k : Int)) - 1) : Value) = _)) ?_)))))))))))))))))))))))))))))
   exact yt (k + 1) (by show (limbs i).length - (k + 1) < (limbs i).length - k; omega) ⟨rfl, rfl, rfl, trivial⟩ ⟨M4.step E XM4, (by omega : k + 1 ≤ (limbs i).length)⟩
  ·
   have h2 := of_decide_eq_false h2;have hk0 : k = 0 := by omega
   have hone : jb i k ++ Lib.decDigits m = jb i (k + 1) := by rw [hm, hk0]; exact ycq hpos
   refine zf (zc (zh (mvx rfl (mvx rfl (za rfl (zhq rfl rfl (by rw [ku, ku, hdl]; omega) (zv 42 (.string ⟨(jb i (k + 1)).toArray⟩) rfl ((by rw [yrz, hone] : (.string (⟨(jb i k).toArray⟩ ++ ⟨(Lib.decDigits m).toArray⟩) : Value) = _)) (avx rfl (yg (zl (zc (zh (mvx rfl (za rfl (yd rfl rfl (zp (by omega)) (avx rfl (yg (yw 4 (.int .i64 (((limbs i).length : Int) - 1 - ((k + 1 : Nat) : Int))) rfl ((by rw [show ((limbs i).length : Int) - 1 - (k : Int) - 1 = ((limbs i).length : Int) - 1 - ((k + 1 : Nat) : Int) by omega] : (.int .i64 ((((limbs i).length : Int) - 1 - (k : Int)) - 1) : Value) = _)) ?_))))))))))))))))))
   exact yt (k + 1) (by show (limbs i).length - (k + 1) < (limbs i).length - k; omega) ⟨rfl, rfl, rfl, trivial⟩ ⟨M4.step E XM4, (by omega : k + 1 ≤ (limbs i).length)⟩
 ·
  have q := of_decide_eq_false q;obtain rfl : k = (limbs i).length := by omega
  refine yr (zn (zn (ya (zc (srx (mvx rfl (anx rfl (zt (zr (rs := [.tmp 2]) (vs := [_]) rfl ⟨rfl, trivial⟩ ?_)))))))));exact ⟨by rw [texted_all hpos]; rfl, (LW.step E XLW).toBelow⟩
theorem textI : Calls Tryz.prog 55 #[.agg #[.bool (decide (i < 0)), .slice A (limbs i).length c]] w fun e w' => e = .returned (.string ⟨(Lib.itoa i).toArray⟩) ∧ Below w.heap.size w w' := by
 rcases Int.lt_trichotomy i 0 with h | h | h
 · exact text_neg i A c w hi hx ht h
 · exact text_zero i A c w hi hx ht h
 · exact text_pos i A c w hi hx ht h
end
end Go.Proofs.YtjdcjdohghkcgaaGreatDoor
namespace Go.Proofs.YtjdcjdohghkcgaaGreatDoor
open Go.RowKit
set_option maxRecDepth 100000
attribute [local irreducible] OW RS
section
variable (w : World) {bp op cp bf of cf bl ol cl : Nat}
theorem of_bad (n1 : Bool) (A : Option Addr) (c : Nat) (xs : List Nat) (hl : xs.length ≤ 9223372036854775807) (hx : Nums w A xs) (hg : va n1 xs = false) : Calls Tryz.prog 17 #[.agg #[.bool n1, .slice A xs.length c]] w fun e w' => e = .returned (.tuple #[.int .u64 0, .int .i64 3]) ∧ Below w.heap.size w w' := by
 refine zo Tryz.func17 rfl Tryz.ntmps17 rfl ?_;have HF : Per (No) w (fun _ => True) := Per.true_;have LW := erx (No) w;have XLW := grx (No) w;have E := erx (No) w;replace HF := HF.on E;replace LW := LW.step E XLW;replace E := erx (No) w;replace HF := HF.and (Per.nums0 hx);refine srx (za rfl (gl rfl ?_));intro gb1 w2 Bb1 Eb1 Gb1;have Gb1 : _ ≤ gb1 := Nat.le_trans E.size Gb1
 have GLb1 := Nat.le_trans LW.size Gb1;replace E := E.trans Eb1.no;replace HF := HF.cons (ye Gb1);replace E := E.cons (some gb1);replace XLW := Mut.grow XLW (fun k e => Or.inr (Nat.le_trans LW.size ((ye Gb1) k e)));replace HF := HF.on E;replace LW := LW.step E XLW;have SB : ∀ q9, No q9 → Mut [(some gb1)] q9 := (Mut.skip Mut.nil_);replace HF := HF.less SB
 replace XLW := fun k h => XLW k (SB k h);clear SB;replace E := erx (No) w2;replace HF := HF.and (Per.blkN Bb1 NotIn.nil);refine avx rfl (anx rfl (zb (srx (za rfl (qb Tryz.underlying42 rfl vh rfl (HF.on E).here.2 rfl (za rfl (zg en54 rfl ((vr _ c _ A xs hl (HF.on E).here.1.2).mono ?_))))))));rintro e w3 ⟨rfl, hb⟩;refine ⟨_, rfl, ?_⟩;replace E := blx E hb
 refine zv 7 (.bool false) rfl ((by rw [hg] : (.bool (va n1 xs) : Value) = _)) (za rfl (jj rfl (rnx (zz rfl (srx (avx rfl (anx rfl (zt (zq (zr (rs := [.tmp 2, .tmp 3]) (vs := [_, _]) rfl ⟨rfl, rfl, trivial⟩ ?_))))))))));exact ⟨rfl, (LW.step E XLW).toBelow⟩
theorem of_good (i : Int) (A : Option Addr) (c : Nat) (hi : i.natAbs < B18 ^ 30) (hx : Nums w A (limbs i)) (hD : ∀ b, Below w.heap.size w b → TabD b) (hT : Tabs bp op cp bf of cf bl ol cl w) (hE : ∃ te pe, w.cell? ⟨4, 0, none⟩ = some (.iface te pe)) : Calls Tryz.prog 17 #[.agg #[.bool (decide (i < 0)), .slice A (limbs i).length c]] w fun e w' => e = .returned (.tuple #[.int .u64 ((ofV i : Nat) : Int), .int .i64 (ofE i)]) ∧ Below w.heap.size w w' := by
 obtain ⟨te, pe, hE⟩ := hE;refine zo Tryz.func17 rfl Tryz.ntmps17 rfl ?_;have HF : Per (No) w (fun _ => True) := Per.true_;have LW := erx (No) w;have XLW := grx (No) w;have E := erx (No) w;replace HF := HF.on E;replace LW := LW.step E XLW;replace E := erx (No) w;replace HF := HF.and (Per.nums0 hx);replace HF := HF.on E;replace LW := LW.step E XLW;replace E := erx (No) w
 replace HF := HF.and (Per.tabs hT (fun _ h => h.elim));replace HF := HF.on E;replace LW := LW.step E XLW;replace E := erx (No) w;replace HF := HF.and (Per.cellA hE (fun _ h => h.elim));refine srx (za rfl (gl rfl ?_));intro gb1 w2 Bb1 Eb1 Gb1;have Gb1 : _ ≤ gb1 := Nat.le_trans E.size Gb1;have GLb1 := Nat.le_trans LW.size Gb1;replace E := E.trans Eb1.no;replace HF := HF.cons (ye Gb1)
 replace E := E.cons (some gb1);replace XLW := Mut.grow XLW (fun k e => Or.inr (Nat.le_trans LW.size ((ye Gb1) k e)));replace HF := HF.on E;replace LW := LW.step E XLW;have SB : ∀ q9, No q9 → Mut [(some gb1)] q9 := (Mut.skip Mut.nil_);replace HF := HF.less SB;replace XLW := fun k h => XLW k (SB k h);clear SB;replace E := erx (No) w2;replace HF := HF.and (Per.blkN Bb1 NotIn.nil)
 refine avx rfl (anx rfl (zb (srx (za rfl (qb Tryz.underlying42 rfl vh rfl (HF.on E).here.2 rfl (za rfl (zg en54 rfl ((zqk _ c _ hi (HF.on E).here.1.1.1.2).mono ?_))))))));rintro e w3 ⟨rfl, hb⟩;refine ⟨_, rfl, ?_⟩;replace E := blx E hb
 refine za rfl (jj rfl (rnx (zj rfl (zf (zc (srx (za rfl (qb Tryz.underlying42 rfl vh rfl (HF.on E).here.2 rfl (za rfl (zg en55 rfl ((textI i A c _ hi (HF.on E).here.1.1.1.2 (later hD (LW.step E XLW).toBelow)).mono ?_)))))))))));rintro e w4 ⟨rfl, hb⟩;refine ⟨_, rfl, ?_⟩;replace E := blx E hb
 refine za rfl (zg en42 rfl ((parsef_any _ (itS i) (itF i) (decide (i < 0)) (it_sgn i) (it_nm i) (it_size hi) (HF.on E).here.1.1.2 ⟨te, pe, (HF.on E).here.1.2⟩).mono ?_));rintro e w5 ⟨⟨er, rfl⟩, hb⟩;refine ⟨_, rfl, ?_⟩;replace E := blx E hb
 refine mvx rfl (za rfl (zm rfl rfl (za rfl (zm rfl rfl (avx rfl (anx rfl (zb (srx (mvx rfl (za rfl (zg zqv rfl ((jd _ (ofN i) (ofN_sgn i).lt).mono ?_))))))))))));rintro e w6 ⟨rfl, hb⟩;refine ⟨_, rfl, ?_⟩;replace E := blx E hb;refine rnx (yh rfl (fun h => ?_) (fun h => ?_))
 ·
  have h := of_decide_eq_true h;refine srx (avx rfl (anx rfl (zt (zq (zr (rs := [.tmp 2, .tmp 3]) (vs := [_, _]) rfl ⟨rfl, rfl, trivial⟩ ?_)))));exact ⟨by unfold ofV ofE; rw [if_pos h, if_pos h]; rfl, (LW.step E XLW).toBelow⟩
 ·
  have h := of_decide_eq_false h;refine zf (zc (srx (mvx rfl (za rfl (zg en44 rfl ((bare_any _ (ofN i)).mono ?_))))));rintro e w7 ⟨rfl, hb⟩;refine ⟨_, rfl, ?_⟩;replace E := blx E hb;refine avx rfl (anx rfl (zt (zr (rs := [.tmp 2, .tmp 3]) (vs := [_, _]) rfl ⟨rfl, rfl, trivial⟩ ?_)))
  exact ⟨by unfold ofV ofE; rw [if_neg h, if_neg h, ofN_bare]; rfl, (LW.step E XLW).toBelow⟩
noncomputable def wV (a : Nat) : Int := if isN a then 0 else if rg a = 9218868437227405312 then 0 else kb a
noncomputable def wE (a : Nat) : Int := if isN a then 1 else if rg a = 9218868437227405312 then 7 else 0
theorem wV_lt (a : Nat) : (wV a).natAbs < B18 ^ 30 := by
 have h0 : (0 : Int).natAbs < B18 ^ 30 := by show 0 < B18 ^ 30; exact Nat.pow_pos (by unfold B18; decide)
 unfold wV;split
 · exact h0
 · rename_i h
   split
   · exact h0
   · rename_i h2
     have h3 := of_decide_eq_false (Bool.eq_false_iff.2 h);exact ymx (by omega)
theorem zero_err {W w' : World} {f : Int} (hb : Below W.heap.size W w') : vo W 0 f (.returned (.tuple #[.agg #[.bool false, .slice none 0 0], .int .i64 f])) w' :=
 ⟨none, 0, by rw [je]; rfl, by rw [je]; exact Own.nil _ _, hb⟩
theorem whole_any (a : Nat) (ha : a < 18446744073709551616) : Calls Tryz.prog 19 #[.int .u64 ((a : Nat) : Int)] w (vo w (wV a) (wE a)) := by
 by_cases hn : isN a = true
 · unfold wV wE;rw [if_pos hn, if_pos hn];exact (whole_nan w a ha hn).mono (fun e w' ⟨he, hb⟩ => he ▸ zero_err hb)
 · unfold wV wE;rw [if_neg hn, if_neg hn];by_cases hi : rg a = 9218868437227405312
   · rw [if_pos hi, if_pos hi];exact (whole_inf w a ha hi).mono (fun e w' ⟨he, hb⟩ => he ▸ zero_err hb)
   · rw [if_neg hi, if_neg hi];have h3 := of_decide_eq_false (Bool.eq_false_iff.2 hn);exact whole_fin w a ha (by omega)
theorem ofx_any (n1 : Bool) (A : Option Addr) (c : Nat) (xs : List Nat) (hl : xs.length ≤ 9223372036854775807) (hx : Nums w A xs) (V : Nat) (F : Int) (hV : V = (if va n1 xs then ofV (num n1 xs) else 0)) (hF : F = (if va n1 xs then ofE (num n1 xs) else 3)) (hD : ∀ b, Below w.heap.size w b → TabD b) (hT : Tabs bp op cp bf of cf bl ol cl w) (hE : ∃ te pe, w.cell? ⟨4, 0, none⟩ = some (.iface te pe)) : Calls Tryz.prog 17 #[.agg #[.bool n1, .slice A xs.length c]] w fun e w' => e = .returned (.tuple #[.int .u64 ((V : Nat) : Int), .int .i64 F]) ∧ Below w.heap.size w w' := by
 subst hV; subst hF;cases hg : va n1 xs with
 | false => exact of_bad w n1 A c xs hl hx hg
 | true =>
  obtain ⟨i, rfl, rfl, hi⟩ := good_is hg;rw [if_pos rfl, if_pos rfl, oh];exact of_good w i A c hi hx hD hT hE
end
end Go.Proofs.YtjdcjdohghkcgaaGreatDoor
namespace Go.Proofs.YtjdcjdohghkcgaaGreatDoor
open Go.RowKit
set_option maxRecDepth 100000
section
variable {bp op cp bf of cf bl ol cl : Nat} (w : World)
theorem ofV_lt (i : Int) : ofV i < 18446744073709551616 := by unfold ofV; split <;> first | decide | exact (ofN_sgn i).lt
theorem agree_law (a b : Nat) (n1 : Bool) (A : Option Addr) (c : Nat) (xs : List Nat) (ha : a < 18446744073709551616) (hb0 : b < 18446744073709551616) (hx : Nums w A xs) (hl : xs.length ≤ 9223372036854775807) (hT : ∀ b, Below w.heap.size w b → Ten b) (hD : ∀ b, Below w.heap.size w b → TabD b) (hTab : Tabs bp op cp bf of cf bl ol cl w) (hE : ∃ te pe, w.cell? ⟨4, 0, none⟩ = some (.iface te pe)) : Calls Tryz.prog 8 #[.int .u64 ((a : Nat) : Int), .int .u64 ((b : Nat) : Int), .agg #[.bool n1, .slice A xs.length c]] w fun e w' => e = .returned (.bool true) ∧ Below w.heap.size w w' := by
 obtain ⟨te, pe, hE⟩ := hE;obtain ⟨V, hV⟩ : ∃ V, V = (if va n1 xs then ofV (num n1 xs) else 0) := ⟨_, rfl⟩;obtain ⟨F, hF⟩ : ∃ F, F = (if va n1 xs then ofE (num n1 xs) else 3) := ⟨_, rfl⟩;have hVl : V < 18446744073709551616 := by rw [hV]; split <;> first | exact ofV_lt _ | decide
 refine zo Tryz.func8 rfl Tryz.ntmps8 rfl ?_;have HF : Per (No) w (fun _ => True) := Per.true_;have LW := erx (No) w;have XLW := grx (No) w;have E := erx (No) w;replace HF := HF.on E;replace LW := LW.step E XLW;replace E := erx (No) w;replace HF := HF.and (Per.nums0 hx);replace HF := HF.on E;replace LW := LW.step E XLW;replace E := erx (No) w
 replace HF := HF.and (Per.tabs hTab (fun _ h => h.elim));replace HF := HF.on E;replace LW := LW.step E XLW;replace E := erx (No) w;replace HF := HF.and (Per.cellA hE (fun _ h => h.elim));refine srx (za rfl (gl rfl ?_));intro gb1 w2 Bb1 Eb1 Gb1;have Gb1 : _ ≤ gb1 := Nat.le_trans E.size Gb1;have GLb1 := Nat.le_trans LW.size Gb1;replace E := E.trans Eb1.no
 replace HF := HF.cons (ye Gb1);replace E := E.cons (some gb1);replace XLW := Mut.grow XLW (fun k e => Or.inr (Nat.le_trans LW.size ((ye Gb1) k e)));replace HF := HF.on E;replace LW := LW.step E XLW;have SB : ∀ q9, No q9 → Mut [(some gb1)] q9 := (Mut.skip Mut.nil_);replace HF := HF.less SB;replace XLW := fun k h => XLW k (SB k h);clear SB;replace E := erx (No) w2
 replace HF := HF.and (Per.blkN Bb1 NotIn.nil);refine anx rfl (zb (srx (za rfl (zg en14 rfl ((known_any _ (later hT (LW.step E XLW).toBelow) (later hD (LW.step E XLW).toBelow)).mono ?_)))));rintro e w3 ⟨rfl, hb⟩;refine ⟨_, rfl, ?_⟩;replace E := blx E hb
 refine za rfl (jj rfl (rnx (zj rfl (zf (zc (srx (za rfl (qb Tryz.underlying42 rfl vh rfl (HF.on E).here.2 rfl (za rfl (zg en17 rfl ((ofx_any _ n1 A c xs hl (HF.on E).here.1.1.1.2 V F hV hF (later hD (LW.step E XLW).toBelow) (HF.on E).here.1.1.2 ⟨te, pe, (HF.on E).here.1.2⟩).mono ?_)))))))))));rintro e w4 ⟨rfl, hb⟩;refine ⟨_, rfl, ?_⟩
 replace E := blx E hb;refine mvx rfl (za rfl (zm rfl rfl (za rfl (zm rfl rfl (avx rfl (anx rfl (zb (srx (mvx rfl (za rfl (zx rfl rfl (rnx ?_))))))))))));replace HF := HF.on E;replace LW := LW.step E XLW;replace E := erx (No) w4
 refine qk (ι := Unit) (fun _ => [(0, .int .u64 ((a : Nat) : Int)), (1, .int .u64 ((b : Nat) : Int)), (6, .bool false)]) (fun _ w' => Ext (No) w4 w' ∧ (True)) ?_ ?_
 ·
  have M5 := erx (No) w4;have XM5 := grx (No) w4;refine yh rfl (fun hF0 => ?_) (fun hF0 => ?_)
  ·
   refine srx (mvx rfl (za rfl (qb Tryz.underlying42 rfl vh rfl (HF.on E).here.2 rfl (za rfl (zg en22 rfl ((cmpbig_any _ V hVl n1 A c xs (HF.on E).here.1.1.1.2 hl).mono ?_))))));rintro e w7 ⟨rfl, hb⟩;refine ⟨_, rfl, ?_⟩;replace E := blx E hb;refine mvx rfl (za rfl (zm rfl rfl (za rfl (zm rfl rfl (avx rfl (anx rfl (zb ?_)))))))
   by_cases ho : zcz V n1 xs = true
   ·
    refine yc 10 (.bool true) rfl ((by rw [ho] : (.bool (zcz V n1 xs) : Value) = _)) ?_;by_cases hz : yaq V n1 xs = 0
    ·
     refine yc 9 (.int .i64 0) rfl ((by rw [hz] : (.int .i64 (yaq V n1 xs) : Value) = _)) ?_;have OY : ∀ q9, (Mut (gy [])) q9 → q9 < (World.drew w7).heap.size → (No) q9 := fun k h _ => (Mut.none_) k h;refine qo (No) Mut.none_ [] [] (kq [Fx.of (.bool true),
      Fx.of (.bool true),
      Fx.of (.int .i64 0),
      Fx.of (.bool true),
      Fx.of (.bool true),
      Fx.of (.bool true),
      Fx.of (.int .u64 ((V : Nat) : Int)),
      Fx.of (.int .i64 (kt V)),
      Fx.of (.agg #[.bool n1, .slice A xs.length c]),
      Fx.of (.int .i64 (zux n1 xs)),
      Fx.of (.bool false),
      Fx.of (.bool false)]) mixed rfl trivial (fun _ h => by cases h) ?_ ?_
     · refine ⟨?_, ?_, ?_, ?_, ?_, ?_, ?_, ?_, ?_, ?_, ?_, ?_, trivial⟩
       · intro vs X wq K;exact zi rfl ⟨Below.refl _ _, Left.of rfl⟩
       · intro vs X wq K;obtain ⟨_, e0, k0⟩ := K.dep 0 rfl rfl rfl;refine zd 31 (.bool true) rfl e0 ?_;exact zi rfl ⟨Below.refl _ _, Left.of rfl⟩
       · intro vs X wq K;obtain ⟨_, e1, k1⟩ := K.dep 1 rfl rfl rfl;refine zd 32 (.bool true) rfl e1 ?_;exact gh rfl (zi rfl ⟨Below.refl _ _, Left.of rfl⟩)
       · intro vs X wq K;obtain ⟨_, e2, k2⟩ := K.dep 2 rfl rfl rfl;refine zd 33 (.int .i64 0) rfl e2 ?_;obtain ⟨_, e1, k1⟩ := K.dep 1 rfl rfl rfl;refine zd 32 (.bool true) rfl e1 ?_;exact gh rfl (zx rfl rfl ⟨Below.refl _ _, Left.of ((by simp : (.bool true : Value) = _))⟩)
       · intro vs X wq K;obtain ⟨_, e1, k1⟩ := K.dep 1 rfl rfl rfl;refine zd 32 (.bool true) rfl e1 ?_;obtain ⟨_, e3, k3⟩ := K.dep 3 rfl rfl rfl;refine zd 34 (.bool true) rfl e3 ?_;exact yk rfl rfl ⟨Below.refl _ _, Left.of rfl⟩
       · intro vs X wq K;obtain ⟨_, e4, k4⟩ := K.dep 4 rfl rfl rfl;refine zd 35 (.bool true) rfl e4 ?_;exact zi rfl ⟨Below.refl _ _, Left.of rfl⟩
       · intro vs X wq K;obtain ⟨_, e5, k5⟩ := K.dep 5 rfl rfl rfl;refine zd 36 (.bool true) rfl e5 ?_;exact gh rfl (zi rfl ⟨Below.refl _ _, Left.of rfl⟩)
       · intro vs X wq K;obtain ⟨_, e6, k6⟩ := K.dep 6 rfl rfl rfl;refine zd 37 (.int .u64 ((V : Nat) : Int)) rfl e6 ?_;obtain ⟨_, e5, k5⟩ := K.dep 5 rfl rfl rfl;refine zd 36 (.bool true) rfl e5 (gh rfl (zg en28 rfl ((yiv _ V hVl).mono ?_)));rintro e w2 ⟨rfl, hb⟩;exact ⟨_, rfl, hb, Left.of rfl⟩
       · intro vs X wq K;have LE := K.1;obtain ⟨_, e5, k5⟩ := K.dep 5 rfl rfl rfl;refine zd 36 (.bool true) rfl e5 ?_;exact gh rfl (qb Tryz.underlying42 rfl vh rfl (HF.on (E.drew.trans (LE.mono OY))).here.2 rfl ⟨Below.refl _ _, Left.of rfl⟩)
       · intro vs X wq K;have LE := K.1;obtain ⟨_, e8, k8⟩ := K.dep 8 rfl rfl rfl;refine zd 39 (.agg #[.bool n1, .slice A xs.length c]) rfl e8 ?_;obtain ⟨_, e5, k5⟩ := K.dep 5 rfl rfl rfl;refine zd 36 (.bool true) rfl e5 (gh rfl (zg en29 rfl ((yuq n1 A c xs _ (HF.on (E.drew.trans (LE.mono OY))).here.1.1.1.2 hl).mono ?_)));rintro e w2 ⟨rfl, hb⟩
         exact ⟨_, rfl, hb, Left.of rfl⟩
       · intro vs X wq K;obtain ⟨_, e7, k7⟩ := K.dep 7 rfl rfl rfl;refine zd 38 (.int .i64 (kt V)) rfl e7 ?_;obtain ⟨_, e9, k9⟩ := K.dep 9 rfl rfl rfl;refine zd 40 (.int .i64 (zux n1 xs)) rfl e9 ?_;obtain ⟨_, e5, k5⟩ := K.dep 5 rfl rfl rfl;refine zd 36 (.bool true) rfl e5 ?_
         exact gh rfl (vw rfl rfl ⟨Below.refl _ _, Left.of ((by rw [agree_any ho hz]; simp : (.bool ((kt V) != (zux n1 xs)) : Value) = _))⟩)
       · intro vs X wq K;obtain ⟨_, e5, k5⟩ := K.dep 5 rfl rfl rfl;refine zd 36 (.bool true) rfl e5 ?_;obtain ⟨_, e10, k10⟩ := K.dep 10 rfl rfl rfl;refine zd 41 (.bool false) rfl e10 ?_;exact yk rfl rfl ⟨Below.refl _ _, Left.of rfl⟩
     intro vs w8 LE AO AL AF AA;replace E := E.drew.trans (LE.mono OY);obtain ⟨_, e11, k11⟩ := AL.2.2.2.2.2.2.2.2.2.2.2.1;refine vj (τ := [(0, _), (1, _), (6, _), (42, .bool false)]) ⟨rfl, rfl, rfl, congrArg some e11, trivial⟩ ?_;clear AL AF AA LE AO OY e11 k11;refine zc (zj rfl (zf ?_));exact yq () ⟨rfl, rfl, rfl, trivial⟩ ⟨M5.step E XM5, trivial⟩
    ·
     have OY : ∀ q9, (Mut (gy [])) q9 → q9 < (World.drew w7).heap.size → (No) q9 := fun k h _ => (Mut.none_) k h;refine qo (No) Mut.none_ [] [] (kq [Fx.of (.bool true),
      Fx.of (.bool true),
      Fx.of (.int .i64 (yaq V n1 xs)),
      Fx.of (.bool false),
      Fx.of (.bool false),
      Fx.of (.bool false),
      Fx.of undef,
      Fx.of undef,
      Fx.of undef,
      Fx.of undef,
      Fx.of undef,
      Fx.of (.bool false)]) mixed rfl trivial (fun _ h => by cases h) ?_ ?_
     · refine ⟨?_, ?_, ?_, ?_, ?_, ?_, ?_, ?_, ?_, ?_, ?_, ?_, trivial⟩
       · intro vs X wq K;exact zi rfl ⟨Below.refl _ _, Left.of rfl⟩
       · intro vs X wq K;obtain ⟨_, e0, k0⟩ := K.dep 0 rfl rfl rfl;refine zd 31 (.bool true) rfl e0 ?_;exact zi rfl ⟨Below.refl _ _, Left.of rfl⟩
       · intro vs X wq K;obtain ⟨_, e1, k1⟩ := K.dep 1 rfl rfl rfl;refine zd 32 (.bool true) rfl e1 ?_;exact gh rfl (zi rfl ⟨Below.refl _ _, Left.of rfl⟩)
       · intro vs X wq K;obtain ⟨_, e2, k2⟩ := K.dep 2 rfl rfl rfl;refine zd 33 (.int .i64 (yaq V n1 xs)) rfl e2 ?_;obtain ⟨_, e1, k1⟩ := K.dep 1 rfl rfl rfl;refine zd 32 (.bool true) rfl e1 ?_;exact gh rfl (zx rfl rfl ⟨Below.refl _ _, Left.of ((by simp [hz] : (.bool ((yaq V n1 xs) == 0) : Value) = _))⟩)
       · intro vs X wq K;obtain ⟨_, e1, k1⟩ := K.dep 1 rfl rfl rfl;refine zd 32 (.bool true) rfl e1 ?_;obtain ⟨_, e3, k3⟩ := K.dep 3 rfl rfl rfl;refine zd 34 (.bool false) rfl e3 ?_;exact yk rfl rfl ⟨Below.refl _ _, Left.of rfl⟩
       · intro vs X wq K;obtain ⟨_, e4, k4⟩ := K.dep 4 rfl rfl rfl;refine zd 35 (.bool false) rfl e4 ?_;exact zi rfl ⟨Below.refl _ _, Left.of rfl⟩
       · intro vs X wq K;obtain ⟨_, e5, k5⟩ := K.dep 5 rfl rfl rfl;refine zd 36 (.bool false) rfl e5 ?_;exact zu rfl ⟨Below.refl _ _, Left.of rfl⟩
       · intro vs X wq K;obtain ⟨_, e6, k6⟩ := K.dep 6 rfl rfl rfl;refine zd 37 (undef) rfl e6 ?_;obtain ⟨_, e5, k5⟩ := K.dep 5 rfl rfl rfl;refine zd 36 (.bool false) rfl e5 ?_;exact zu rfl ⟨Below.refl _ _, Left.of rfl⟩
       · intro vs X wq K;obtain ⟨_, e5, k5⟩ := K.dep 5 rfl rfl rfl;refine zd 36 (.bool false) rfl e5 ?_;exact zu rfl ⟨Below.refl _ _, Left.of rfl⟩
       · intro vs X wq K;obtain ⟨_, e8, k8⟩ := K.dep 8 rfl rfl rfl;refine zd 39 (undef) rfl e8 ?_;obtain ⟨_, e5, k5⟩ := K.dep 5 rfl rfl rfl;refine zd 36 (.bool false) rfl e5 ?_;exact zu rfl ⟨Below.refl _ _, Left.of rfl⟩
       · intro vs X wq K;obtain ⟨_, e7, k7⟩ := K.dep 7 rfl rfl rfl;refine zd 38 (undef) rfl e7 ?_;obtain ⟨_, e9, k9⟩ := K.dep 9 rfl rfl rfl;refine zd 40 (undef) rfl e9 ?_;obtain ⟨_, e5, k5⟩ := K.dep 5 rfl rfl rfl;refine zd 36 (.bool false) rfl e5 ?_;exact zu rfl ⟨Below.refl _ _, Left.of rfl⟩
       · intro vs X wq K;obtain ⟨_, e5, k5⟩ := K.dep 5 rfl rfl rfl;refine zd 36 (.bool false) rfl e5 ?_;obtain ⟨_, e10, k10⟩ := K.dep 10 rfl rfl rfl;refine zd 41 (undef) rfl e10 ?_;exact yi rfl rfl ⟨Below.refl _ _, Left.of rfl⟩
     intro vs w9 LE AO AL AF AA;replace E := E.drew.trans (LE.mono OY);obtain ⟨_, e11, k11⟩ := AL.2.2.2.2.2.2.2.2.2.2.2.1;refine vj (τ := [(0, _), (1, _), (6, _), (42, .bool false)]) ⟨rfl, rfl, rfl, congrArg some e11, trivial⟩ ?_;clear AL AF AA LE AO OY e11 k11;refine zc (zj rfl (zf ?_));exact yq () ⟨rfl, rfl, rfl, trivial⟩ ⟨M5.step E XM5, trivial⟩
   ·
    refine yc 10 (.bool false) rfl ((by rw [Bool.eq_false_iff.2 ho] : (.bool (zcz V n1 xs) : Value) = _)) ?_;have OY : ∀ q9, (Mut (gy [])) q9 → q9 < (World.drew w7).heap.size → (No) q9 := fun k h _ => (Mut.none_) k h;refine qo (No) Mut.none_ [] [] (kq [Fx.of (.bool false),
     Fx.of (.bool false),
     Fx.of undef,
     Fx.of undef,
     Fx.of (.bool false),
     Fx.of (.bool false),
     Fx.of undef,
     Fx.of undef,
     Fx.of undef,
     Fx.of undef,
     Fx.of undef,
     Fx.of (.bool false)]) mixed rfl trivial (fun _ h => by cases h) ?_ ?_
    · refine ⟨?_, ?_, ?_, ?_, ?_, ?_, ?_, ?_, ?_, ?_, ?_, ?_, trivial⟩
      · intro vs X wq K;exact zi rfl ⟨Below.refl _ _, Left.of rfl⟩
      · intro vs X wq K;obtain ⟨_, e0, k0⟩ := K.dep 0 rfl rfl rfl;refine zd 31 (.bool false) rfl e0 ?_;exact zi rfl ⟨Below.refl _ _, Left.of rfl⟩
      · intro vs X wq K;obtain ⟨_, e1, k1⟩ := K.dep 1 rfl rfl rfl;refine zd 32 (.bool false) rfl e1 ?_;exact zu rfl ⟨Below.refl _ _, Left.of rfl⟩
      · intro vs X wq K;obtain ⟨_, e2, k2⟩ := K.dep 2 rfl rfl rfl;refine zd 33 (undef) rfl e2 ?_;obtain ⟨_, e1, k1⟩ := K.dep 1 rfl rfl rfl;refine zd 32 (.bool false) rfl e1 ?_;exact zu rfl ⟨Below.refl _ _, Left.of rfl⟩
      · intro vs X wq K;obtain ⟨_, e1, k1⟩ := K.dep 1 rfl rfl rfl;refine zd 32 (.bool false) rfl e1 ?_;obtain ⟨_, e3, k3⟩ := K.dep 3 rfl rfl rfl;refine zd 34 (undef) rfl e3 ?_;exact yi rfl rfl ⟨Below.refl _ _, Left.of rfl⟩
      · intro vs X wq K;obtain ⟨_, e4, k4⟩ := K.dep 4 rfl rfl rfl;refine zd 35 (.bool false) rfl e4 ?_;exact zi rfl ⟨Below.refl _ _, Left.of rfl⟩
      · intro vs X wq K;obtain ⟨_, e5, k5⟩ := K.dep 5 rfl rfl rfl;refine zd 36 (.bool false) rfl e5 ?_;exact zu rfl ⟨Below.refl _ _, Left.of rfl⟩
      · intro vs X wq K;obtain ⟨_, e6, k6⟩ := K.dep 6 rfl rfl rfl;refine zd 37 (undef) rfl e6 ?_;obtain ⟨_, e5, k5⟩ := K.dep 5 rfl rfl rfl;refine zd 36 (.bool false) rfl e5 ?_;exact zu rfl ⟨Below.refl _ _, Left.of rfl⟩
      · intro vs X wq K;obtain ⟨_, e5, k5⟩ := K.dep 5 rfl rfl rfl;refine zd 36 (.bool false) rfl e5 ?_;exact zu rfl ⟨Below.refl _ _, Left.of rfl⟩
      · intro vs X wq K;obtain ⟨_, e8, k8⟩ := K.dep 8 rfl rfl rfl;refine zd 39 (undef) rfl e8 ?_;obtain ⟨_, e5, k5⟩ := K.dep 5 rfl rfl rfl;refine zd 36 (.bool false) rfl e5 ?_;exact zu rfl ⟨Below.refl _ _, Left.of rfl⟩
      · intro vs X wq K;obtain ⟨_, e7, k7⟩ := K.dep 7 rfl rfl rfl;refine zd 38 (undef) rfl e7 ?_;obtain ⟨_, e9, k9⟩ := K.dep 9 rfl rfl rfl;refine zd 40 (undef) rfl e9 ?_;obtain ⟨_, e5, k5⟩ := K.dep 5 rfl rfl rfl;refine zd 36 (.bool false) rfl e5 ?_;exact zu rfl ⟨Below.refl _ _, Left.of rfl⟩
      · intro vs X wq K;obtain ⟨_, e5, k5⟩ := K.dep 5 rfl rfl rfl;refine zd 36 (.bool false) rfl e5 ?_;obtain ⟨_, e10, k10⟩ := K.dep 10 rfl rfl rfl;refine zd 41 (undef) rfl e10 ?_;exact yi rfl rfl ⟨Below.refl _ _, Left.of rfl⟩
    intro vs w10 LE AO AL AF AA;replace E := E.drew.trans (LE.mono OY);obtain ⟨_, e11, k11⟩ := AL.2.2.2.2.2.2.2.2.2.2.2.1;refine vj (τ := [(0, _), (1, _), (6, _), (42, .bool false)]) ⟨rfl, rfl, rfl, congrArg some e11, trivial⟩ ?_;clear AL AF AA LE AO OY e11 k11;refine zc (zj rfl (zf ?_));exact yq () ⟨rfl, rfl, rfl, trivial⟩ ⟨M5.step E XM5, trivial⟩
  ·
   refine zf ?_;exact yq () ⟨rfl, rfl, rfl, trivial⟩ ⟨M5.step E XM5, trivial⟩
 ·
  rintro _ w6 ⟨M5, _⟩;replace E := E.trans M5;replace HF := HF.on E;replace LW := LW.step E XLW;replace E := erx (No) w6;refine srx (mvx rfl (za rfl (zg en19 rfl ((whole_any _ a ha).mono ?_))));rintro e w11 ⟨A2, c2, rfl, o2, hb⟩;refine ⟨_, rfl, ?_⟩;have XC : ∀ q9, (No) q9 → q9 < w6.heap.size := Mut.none_;replace E := blx E hb;replace HF := HF.on E;replace LW := LW.step E XLW
  replace E := erx (No) w11;replace HF := HF.and (Per.own o2 XC);have hll : (limbs (wV a)).length ≤ 9223372036854775807 := by have := gf (wV_lt a); omega
  refine mvx rfl (za rfl (zm rfl rfl (za rfl (zm rfl rfl (za rfl (qu zbk ?_))))));intro gb12 w13 Bb12 Eb12 Gb12;have Gb12 : _ ≤ gb12 := Nat.le_trans E.size Gb12;have GLb12 := Nat.le_trans LW.size Gb12;replace E := E.trans Eb12.no;replace HF := HF.cons (ye Gb12);replace E := E.cons (some gb12)
  replace XLW := Mut.grow XLW (fun k e => Or.inr (Nat.le_trans LW.size ((ye Gb12) k e)));refine qf (qj vh rfl rfl Bb12 rfl rfl (Nat.le_of_ble_eq_true rfl) ?_);intro w14 Bx Eb12;replace Bb12 := Bx;replace E := E.step1 Eb12 Mut.head;replace HF := HF.on E;replace LW := LW.step E XLW;have SB : ∀ q9, No q9 → Mut [(some gb12)] q9 := (Mut.skip Mut.nil_);replace HF := HF.less SB
  replace XLW := fun k h => XLW k (SB k h);clear SB;replace E := erx (No) w14;replace HF := HF.and (Per.blkN Bb12 NotIn.nil);refine anx rfl (zb (srx (mvx rfl (za rfl (zx rfl rfl (rnx ?_))))));replace HF := HF.on E;replace LW := LW.step E XLW;replace E := erx (No) w14
  refine qk (ι := Unit) (fun _ => [(0, .int .u64 ((a : Nat) : Int)), (1, .int .u64 ((b : Nat) : Int)), (6, .bool false)]) (fun _ w' => Ext (No) w14 w' ∧ (True)) ?_ ?_
  ·
   have M15 := erx (No) w14;have XM15 := grx (No) w14;refine yh rfl (fun hW0 => ?_) (fun hW0 => ?_)
   ·
    refine srx (mvx rfl (za rfl (qb Tryz.underlying42 rfl vh rfl (HF.on E).here.2 rfl (za rfl (zg en22 rfl ((cmpbig_any _ a ha (decide (wV a < 0)) A2 c2 (limbs (wV a)) (HF.on E).here.1.2 hll).mono ?_))))));rintro e w17 ⟨rfl, hb⟩;refine ⟨_, rfl, ?_⟩;replace E := blx E hb
    refine mvx rfl (za rfl (zm rfl rfl (za rfl (zm rfl rfl (avx rfl (anx rfl (zb ?_)))))));by_cases ho : zcz a (decide (wV a < 0)) (limbs (wV a)) = true
    ·
     refine yc 13 (.bool true) rfl ((by rw [ho] : (.bool (zcz a (decide (wV a < 0)) (limbs (wV a))) : Value) = _)) ?_;by_cases hz : yaq a (decide (wV a < 0)) (limbs (wV a)) = 0
     ·
      refine yc 12 (.int .i64 0) rfl ((by rw [hz] : (.int .i64 (yaq a (decide (wV a < 0)) (limbs (wV a))) : Value) = _)) ?_;have OY : ∀ q9, (Mut (gy [])) q9 → q9 < (World.drew w17).heap.size → (No) q9 := fun k h _ => (Mut.none_) k h;refine qo (No) Mut.none_ [] [] (kq [Fx.of (.bool true),
       Fx.of (.bool true),
       Fx.of (.int .i64 0),
       Fx.of (.bool true),
       Fx.of (.bool true),
       Fx.of (.bool true),
       Fx.of (.int .u64 ((a : Nat) : Int)),
       Fx.of (.int .i64 (kt a)),
       Fx.of (.agg #[.bool (decide (wV a < 0)), .slice A2 (limbs (wV a)).length c2]),
       Fx.of (.int .i64 (zux (decide (wV a < 0)) (limbs (wV a)))),
       Fx.of (.bool false),
       Fx.of (.bool false)]) mixed rfl trivial (fun _ h => by cases h) ?_ ?_
      · refine ⟨?_, ?_, ?_, ?_, ?_, ?_, ?_, ?_, ?_, ?_, ?_, ?_, trivial⟩
        · intro vs X wq K;exact zi rfl ⟨Below.refl _ _, Left.of rfl⟩
        · intro vs X wq K;obtain ⟨_, e0, k0⟩ := K.dep 0 rfl rfl rfl;refine zd 56 (.bool true) rfl e0 ?_;exact zi rfl ⟨Below.refl _ _, Left.of rfl⟩
        · intro vs X wq K;obtain ⟨_, e1, k1⟩ := K.dep 1 rfl rfl rfl;refine zd 57 (.bool true) rfl e1 ?_;exact gh rfl (zi rfl ⟨Below.refl _ _, Left.of rfl⟩)
        · intro vs X wq K;obtain ⟨_, e2, k2⟩ := K.dep 2 rfl rfl rfl;refine zd 58 (.int .i64 0) rfl e2 ?_;obtain ⟨_, e1, k1⟩ := K.dep 1 rfl rfl rfl;refine zd 57 (.bool true) rfl e1 ?_;exact gh rfl (zx rfl rfl ⟨Below.refl _ _, Left.of ((by simp : (.bool true : Value) = _))⟩)
        · intro vs X wq K;obtain ⟨_, e1, k1⟩ := K.dep 1 rfl rfl rfl;refine zd 57 (.bool true) rfl e1 ?_;obtain ⟨_, e3, k3⟩ := K.dep 3 rfl rfl rfl;refine zd 59 (.bool true) rfl e3 ?_;exact yk rfl rfl ⟨Below.refl _ _, Left.of rfl⟩
        · intro vs X wq K;obtain ⟨_, e4, k4⟩ := K.dep 4 rfl rfl rfl;refine zd 60 (.bool true) rfl e4 ?_;exact zi rfl ⟨Below.refl _ _, Left.of rfl⟩
        · intro vs X wq K;obtain ⟨_, e5, k5⟩ := K.dep 5 rfl rfl rfl;refine zd 61 (.bool true) rfl e5 ?_;exact gh rfl (zi rfl ⟨Below.refl _ _, Left.of rfl⟩)
        · intro vs X wq K;obtain ⟨_, e6, k6⟩ := K.dep 6 rfl rfl rfl;refine zd 62 (.int .u64 ((a : Nat) : Int)) rfl e6 ?_;obtain ⟨_, e5, k5⟩ := K.dep 5 rfl rfl rfl;refine zd 61 (.bool true) rfl e5 (gh rfl (zg en28 rfl ((yiv _ a ha).mono ?_)));rintro e w2 ⟨rfl, hb⟩;exact ⟨_, rfl, hb, Left.of rfl⟩
        · intro vs X wq K;have LE := K.1;obtain ⟨_, e5, k5⟩ := K.dep 5 rfl rfl rfl;refine zd 61 (.bool true) rfl e5 ?_;exact gh rfl (qb Tryz.underlying42 rfl vh rfl (HF.on (E.drew.trans (LE.mono OY))).here.2 rfl ⟨Below.refl _ _, Left.of rfl⟩)
        · intro vs X wq K;have LE := K.1;obtain ⟨_, e8, k8⟩ := K.dep 8 rfl rfl rfl;refine zd 64 (.agg #[.bool (decide (wV a < 0)), .slice A2 (limbs (wV a)).length c2]) rfl e8 ?_;obtain ⟨_, e5, k5⟩ := K.dep 5 rfl rfl rfl
          refine zd 61 (.bool true) rfl e5 (gh rfl (zg en29 rfl ((yuq (decide (wV a < 0)) A2 c2 (limbs (wV a)) _ (HF.on (E.drew.trans (LE.mono OY))).here.1.2 hll).mono ?_)));rintro e w2 ⟨rfl, hb⟩;exact ⟨_, rfl, hb, Left.of rfl⟩
        · intro vs X wq K;obtain ⟨_, e7, k7⟩ := K.dep 7 rfl rfl rfl;refine zd 63 (.int .i64 (kt a)) rfl e7 ?_;obtain ⟨_, e9, k9⟩ := K.dep 9 rfl rfl rfl;refine zd 65 (.int .i64 (zux (decide (wV a < 0)) (limbs (wV a)))) rfl e9 ?_;obtain ⟨_, e5, k5⟩ := K.dep 5 rfl rfl rfl;refine zd 61 (.bool true) rfl e5 ?_
          exact gh rfl (vw rfl rfl ⟨Below.refl _ _, Left.of ((by rw [agree_any ho hz]; simp : (.bool ((kt a) != (zux (decide (wV a < 0)) (limbs (wV a)))) : Value) = _))⟩)
        · intro vs X wq K;obtain ⟨_, e5, k5⟩ := K.dep 5 rfl rfl rfl;refine zd 61 (.bool true) rfl e5 ?_;obtain ⟨_, e10, k10⟩ := K.dep 10 rfl rfl rfl;refine zd 66 (.bool false) rfl e10 ?_;exact yk rfl rfl ⟨Below.refl _ _, Left.of rfl⟩
      intro vs w18 LE AO AL AF AA;replace E := E.drew.trans (LE.mono OY);obtain ⟨_, e11, k11⟩ := AL.2.2.2.2.2.2.2.2.2.2.2.1;refine vj (τ := [(0, _), (1, _), (6, _), (67, .bool false)]) ⟨rfl, rfl, rfl, congrArg some e11, trivial⟩ ?_;clear AL AF AA LE AO OY e11 k11;refine zc (zj rfl (zf ?_));exact yq () ⟨rfl, rfl, rfl, trivial⟩ ⟨M15.step E XM15, trivial⟩
     ·
      have OY : ∀ q9, (Mut (gy [])) q9 → q9 < (World.drew w17).heap.size → (No) q9 := fun k h _ => (Mut.none_) k h;refine qo (No) Mut.none_ [] [] (kq [Fx.of (.bool true),
       Fx.of (.bool true),
       Fx.of (.int .i64 (yaq a (decide (wV a < 0)) (limbs (wV a)))),
       Fx.of (.bool false),
       Fx.of (.bool false),
       Fx.of (.bool false),
       Fx.of undef,
       Fx.of undef,
       Fx.of undef,
       Fx.of undef,
       Fx.of undef,
       Fx.of (.bool false)]) mixed rfl trivial (fun _ h => by cases h) ?_ ?_
      · refine ⟨?_, ?_, ?_, ?_, ?_, ?_, ?_, ?_, ?_, ?_, ?_, ?_, trivial⟩
        · intro vs X wq K;exact zi rfl ⟨Below.refl _ _, Left.of rfl⟩
        · intro vs X wq K;obtain ⟨_, e0, k0⟩ := K.dep 0 rfl rfl rfl;refine zd 56 (.bool true) rfl e0 ?_;exact zi rfl ⟨Below.refl _ _, Left.of rfl⟩
        · intro vs X wq K;obtain ⟨_, e1, k1⟩ := K.dep 1 rfl rfl rfl;refine zd 57 (.bool true) rfl e1 ?_;exact gh rfl (zi rfl ⟨Below.refl _ _, Left.of rfl⟩)
        · intro vs X wq K;obtain ⟨_, e2, k2⟩ := K.dep 2 rfl rfl rfl;refine zd 58 (.int .i64 (yaq a (decide (wV a < 0)) (limbs (wV a)))) rfl e2 ?_;obtain ⟨_, e1, k1⟩ := K.dep 1 rfl rfl rfl;refine zd 57 (.bool true) rfl e1 ?_;exact gh rfl (zx rfl rfl ⟨Below.refl _ _, Left.of ((by simp [hz] : (.bool ((yaq a (decide (wV a < 0)) (limbs (wV a))) == 0) : Value) = _))⟩)
        · intro vs X wq K;obtain ⟨_, e1, k1⟩ := K.dep 1 rfl rfl rfl;refine zd 57 (.bool true) rfl e1 ?_;obtain ⟨_, e3, k3⟩ := K.dep 3 rfl rfl rfl;refine zd 59 (.bool false) rfl e3 ?_;exact yk rfl rfl ⟨Below.refl _ _, Left.of rfl⟩
        · intro vs X wq K;obtain ⟨_, e4, k4⟩ := K.dep 4 rfl rfl rfl;refine zd 60 (.bool false) rfl e4 ?_;exact zi rfl ⟨Below.refl _ _, Left.of rfl⟩
        · intro vs X wq K;obtain ⟨_, e5, k5⟩ := K.dep 5 rfl rfl rfl;refine zd 61 (.bool false) rfl e5 ?_;exact zu rfl ⟨Below.refl _ _, Left.of rfl⟩
        · intro vs X wq K;obtain ⟨_, e6, k6⟩ := K.dep 6 rfl rfl rfl;refine zd 62 (undef) rfl e6 ?_;obtain ⟨_, e5, k5⟩ := K.dep 5 rfl rfl rfl;refine zd 61 (.bool false) rfl e5 ?_;exact zu rfl ⟨Below.refl _ _, Left.of rfl⟩
        · intro vs X wq K;obtain ⟨_, e5, k5⟩ := K.dep 5 rfl rfl rfl;refine zd 61 (.bool false) rfl e5 ?_;exact zu rfl ⟨Below.refl _ _, Left.of rfl⟩
        · intro vs X wq K;obtain ⟨_, e8, k8⟩ := K.dep 8 rfl rfl rfl;refine zd 64 (undef) rfl e8 ?_;obtain ⟨_, e5, k5⟩ := K.dep 5 rfl rfl rfl;refine zd 61 (.bool false) rfl e5 ?_;exact zu rfl ⟨Below.refl _ _, Left.of rfl⟩
        · intro vs X wq K;obtain ⟨_, e7, k7⟩ := K.dep 7 rfl rfl rfl;refine zd 63 (undef) rfl e7 ?_;obtain ⟨_, e9, k9⟩ := K.dep 9 rfl rfl rfl;refine zd 65 (undef) rfl e9 ?_;obtain ⟨_, e5, k5⟩ := K.dep 5 rfl rfl rfl;refine zd 61 (.bool false) rfl e5 ?_;exact zu rfl ⟨Below.refl _ _, Left.of rfl⟩
        · intro vs X wq K;obtain ⟨_, e5, k5⟩ := K.dep 5 rfl rfl rfl;refine zd 61 (.bool false) rfl e5 ?_;obtain ⟨_, e10, k10⟩ := K.dep 10 rfl rfl rfl;refine zd 66 (undef) rfl e10 ?_;exact yi rfl rfl ⟨Below.refl _ _, Left.of rfl⟩
      intro vs w19 LE AO AL AF AA;replace E := E.drew.trans (LE.mono OY);obtain ⟨_, e11, k11⟩ := AL.2.2.2.2.2.2.2.2.2.2.2.1;refine vj (τ := [(0, _), (1, _), (6, _), (67, .bool false)]) ⟨rfl, rfl, rfl, congrArg some e11, trivial⟩ ?_;clear AL AF AA LE AO OY e11 k11;refine zc (zj rfl (zf ?_));exact yq () ⟨rfl, rfl, rfl, trivial⟩ ⟨M15.step E XM15, trivial⟩
    ·
     refine yc 13 (.bool false) rfl ((by rw [Bool.eq_false_iff.2 ho] : (.bool (zcz a (decide (wV a < 0)) (limbs (wV a))) : Value) = _)) ?_;have OY : ∀ q9, (Mut (gy [])) q9 → q9 < (World.drew w17).heap.size → (No) q9 := fun k h _ => (Mut.none_) k h;refine qo (No) Mut.none_ [] [] (kq [Fx.of (.bool false),
      Fx.of (.bool false),
      Fx.of undef,
      Fx.of undef,
      Fx.of (.bool false),
      Fx.of (.bool false),
      Fx.of undef,
      Fx.of undef,
      Fx.of undef,
      Fx.of undef,
      Fx.of undef,
      Fx.of (.bool false)]) mixed rfl trivial (fun _ h => by cases h) ?_ ?_
     · refine ⟨?_, ?_, ?_, ?_, ?_, ?_, ?_, ?_, ?_, ?_, ?_, ?_, trivial⟩
       · intro vs X wq K;exact zi rfl ⟨Below.refl _ _, Left.of rfl⟩
       · intro vs X wq K;obtain ⟨_, e0, k0⟩ := K.dep 0 rfl rfl rfl;refine zd 56 (.bool false) rfl e0 ?_;exact zi rfl ⟨Below.refl _ _, Left.of rfl⟩
       · intro vs X wq K;obtain ⟨_, e1, k1⟩ := K.dep 1 rfl rfl rfl;refine zd 57 (.bool false) rfl e1 ?_;exact zu rfl ⟨Below.refl _ _, Left.of rfl⟩
       · intro vs X wq K;obtain ⟨_, e2, k2⟩ := K.dep 2 rfl rfl rfl;refine zd 58 (undef) rfl e2 ?_;obtain ⟨_, e1, k1⟩ := K.dep 1 rfl rfl rfl;refine zd 57 (.bool false) rfl e1 ?_;exact zu rfl ⟨Below.refl _ _, Left.of rfl⟩
       · intro vs X wq K;obtain ⟨_, e1, k1⟩ := K.dep 1 rfl rfl rfl;refine zd 57 (.bool false) rfl e1 ?_;obtain ⟨_, e3, k3⟩ := K.dep 3 rfl rfl rfl;refine zd 59 (undef) rfl e3 ?_;exact yi rfl rfl ⟨Below.refl _ _, Left.of rfl⟩
       · intro vs X wq K;obtain ⟨_, e4, k4⟩ := K.dep 4 rfl rfl rfl;refine zd 60 (.bool false) rfl e4 ?_;exact zi rfl ⟨Below.refl _ _, Left.of rfl⟩
       · intro vs X wq K;obtain ⟨_, e5, k5⟩ := K.dep 5 rfl rfl rfl;refine zd 61 (.bool false) rfl e5 ?_;exact zu rfl ⟨Below.refl _ _, Left.of rfl⟩
       · intro vs X wq K;obtain ⟨_, e6, k6⟩ := K.dep 6 rfl rfl rfl;refine zd 62 (undef) rfl e6 ?_;obtain ⟨_, e5, k5⟩ := K.dep 5 rfl rfl rfl;refine zd 61 (.bool false) rfl e5 ?_;exact zu rfl ⟨Below.refl _ _, Left.of rfl⟩
       · intro vs X wq K;obtain ⟨_, e5, k5⟩ := K.dep 5 rfl rfl rfl;refine zd 61 (.bool false) rfl e5 ?_;exact zu rfl ⟨Below.refl _ _, Left.of rfl⟩
       · intro vs X wq K;obtain ⟨_, e8, k8⟩ := K.dep 8 rfl rfl rfl;refine zd 64 (undef) rfl e8 ?_;obtain ⟨_, e5, k5⟩ := K.dep 5 rfl rfl rfl;refine zd 61 (.bool false) rfl e5 ?_;exact zu rfl ⟨Below.refl _ _, Left.of rfl⟩
       · intro vs X wq K;obtain ⟨_, e7, k7⟩ := K.dep 7 rfl rfl rfl;refine zd 63 (undef) rfl e7 ?_;obtain ⟨_, e9, k9⟩ := K.dep 9 rfl rfl rfl;refine zd 65 (undef) rfl e9 ?_;obtain ⟨_, e5, k5⟩ := K.dep 5 rfl rfl rfl;refine zd 61 (.bool false) rfl e5 ?_;exact zu rfl ⟨Below.refl _ _, Left.of rfl⟩
       · intro vs X wq K;obtain ⟨_, e5, k5⟩ := K.dep 5 rfl rfl rfl;refine zd 61 (.bool false) rfl e5 ?_;obtain ⟨_, e10, k10⟩ := K.dep 10 rfl rfl rfl;refine zd 66 (undef) rfl e10 ?_;exact yi rfl rfl ⟨Below.refl _ _, Left.of rfl⟩
     intro vs w20 LE AO AL AF AA;replace E := E.drew.trans (LE.mono OY);obtain ⟨_, e11, k11⟩ := AL.2.2.2.2.2.2.2.2.2.2.2.1;refine vj (τ := [(0, _), (1, _), (6, _), (67, .bool false)]) ⟨rfl, rfl, rfl, congrArg some e11, trivial⟩ ?_;clear AL AF AA LE AO OY e11 k11;refine zc (zj rfl (zf ?_));exact yq () ⟨rfl, rfl, rfl, trivial⟩ ⟨M15.step E XM15, trivial⟩
   ·
    refine zf ?_;exact yq () ⟨rfl, rfl, rfl, trivial⟩ ⟨M15.step E XM15, trivial⟩
  ·
   rintro _ w16 ⟨M15, _⟩;replace E := E.trans M15;replace LW := LW.step E XLW;replace E := erx (No) w16;refine srx (mvx rfl (mvx rfl (za rfl (zg en30 rfl ((cmp_any_r _ a b).mono ?_)))));rintro e w21 ⟨rfl, hb⟩;refine ⟨_, rfl, ?_⟩;replace E := blx E hb
   refine mvx rfl (za rfl (zm rfl rfl (za rfl (zm rfl rfl (avx rfl (anx rfl (srx (mvx rfl (za rfl (jj rfl (mvx rfl ?_)))))))))));by_cases ho : gm a b = true
   ·
    refine zv 76 (.bool false) rfl ((by rw [ho]; rfl : (.bool (!(gm a b)) : Value) = _)) ?_;by_cases hz : cmpF a b = 0
    ·
     refine zv 14 (.int .i64 0) rfl ((by rw [hz] : (.int .i64 (cmpF a b) : Value) = _)) (onx rfl (zi rfl (onx rfl (vw rfl rfl (za rfl (yi rfl rfl (mvx rfl (onx rfl (zi rfl (onx rfl (zg en28 rfl ((yiv _ a ha).mono ?_))))))))))));rintro e w22 ⟨rfl, hb⟩;refine ⟨_, rfl, ?_⟩;replace E := blx E hb
     refine onx rfl (zi rfl (onx rfl (zg en28 rfl ((yiv _ b hb0).mono ?_))));rintro e w23 ⟨rfl, hb⟩;refine ⟨_, rfl, ?_⟩;replace E := blx E hb;refine onx rfl (zx rfl rfl (za rfl (yi rfl rfl (anx rfl (zt (zr (rs := [.tmp 6]) (vs := [_]) rfl ⟨rfl, trivial⟩ ?_))))));exact ⟨by rw [agree_cmp ho hz]; simp; rfl, (LW.step E XLW).toBelow⟩
    ·
     refine onx rfl (zi rfl (onx rfl (vw rfl rfl (za rfl (yi rfl rfl (mvx rfl (zv 80 (.bool true) rfl ((by simp [hz] : (.bool ((cmpF a b) != 0) : Value) = _)) (za rfl (zu rfl (za rfl (zu rfl (za rfl (zu rfl (za rfl (zu rfl (za rfl (zu rfl (za rfl (yk rfl rfl (anx rfl (zt (zr (rs := [.tmp 6]) (vs := [_]) rfl ⟨rfl, trivial⟩ ?_))))))))))))))))))))))
     exact ⟨rfl, (LW.step E XLW).toBelow⟩
   ·
    refine zv 76 (.bool true) rfl ((by rw [Bool.eq_false_iff.2 ho]; rfl : (.bool (!(gm a b)) : Value) = _)) (za rfl (zu rfl (za rfl (zu rfl (za rfl (yk rfl rfl (mvx rfl (za rfl (zu rfl (za rfl (zu rfl (za rfl (zu rfl (za rfl (zu rfl (za rfl (zu rfl (za rfl (yk rfl rfl (anx rfl (zt (zr (rs := [.tmp 6]) (vs := [_]) rfl ⟨rfl, trivial⟩ ?_))))))))))))))))))))))
    exact ⟨rfl, (LW.step E XLW).toBelow⟩
end
end Go.Proofs.YtjdcjdohghkcgaaGreatDoor
