/- Texts of this claim. -/
import Derived.Test.YtmjemknimipnjaaGreatDoorMk10
namespace Go.Proofs.YtmjemknimipnjaaGreatDoor
open Go.RowKit
set_option maxRecDepth 100000
structure Nm (s : ByteArray) (f p E q : Nat) : Prop where
 fp : f < p
 pE : p ≤ E
 hE : E ≤ s.size
 dig1 : ∀ i, f ≤ i → i < p → 48 ≤ bAt s i ∧ bAt s i ≤ 57
 dot : p < E → bAt s p = 46 ∧ p + 1 < E
 dig2 : ∀ i, p < i → i < E → 48 ≤ bAt s i ∧ bAt s i ≤ 57
 exp : E < s.size → bAt s E = 101 ∧ ((q = E + 1 ∧ bAt s (E + 1) ≠ 43 ∧ bAt s (E + 1) ≠ 45) ∨ (q = E + 2 ∧ (bAt s (E + 1) = 43 ∨ bAt s (E + 1) = 45))) ∧ q < s.size ∧ ∀ i, q ≤ i → i < s.size → 48 ≤ bAt s i ∧ bAt s i ≤ 57
theorem zqq {c : Nat} (h : 48 ≤ c ∧ c ≤ 57) : isDg c = true := decide_eq_true h
theorem Nm.at_ {s : ByteArray} {f p E q i : Nat} (h : Nm s f p E q) (h1 : f ≤ i) (h2 : i < E) : (i ≠ p ∧ 48 ≤ bAt s i ∧ bAt s i ≤ 57) ∨ (i = p ∧ bAt s i = 46) := by
 rcases Nat.lt_trichotomy i p with h3 | h3 | h3
 · exact .inl ⟨by omega, h.dig1 i h1 h3⟩
 · subst h3; exact .inr ⟨rfl, (h.dot h2).1⟩
 · exact .inl ⟨by omega, h.dig2 i h3 h2⟩
/-! ### the first loop -/
structure RdN (s : ByteArray) (f p E q : Nat) (t : RdS) : Prop extends RdI s t where
 fi : f ≤ t.i
 iE : t.i ≤ E
 dt : t.dot = true → p < t.i
 dg : f < t.i → t.dig = true
theorem rdN_cont {s : ByteArray} {f p E q : Nat} {t : RdS} (hs : Nm s f p E q) (h : RdN s f p E q t) (hi : t.i < E) : xi s t = false := by
 have hE := hs.hE;unfold xi;rw [Bool.or_eq_false_iff];refine ⟨decide_eq_false (by omega), ?_⟩;rcases hs.at_ h.fi hi with ⟨_, h1⟩ | ⟨h1, h2⟩
 · rw [if_neg (by omega), zqq h1]; rfl
 · rw [if_pos h2];cases hd : t.dot with
   | false => rfl
   | true => have := h.dt hd; omega
theorem rdN_keeps {s : ByteArray} {f p E q : Nat} {t : RdS} (hs : Nm s f p E q) (h : RdN s f p E q t) (hd : xi s t = false) : RdN s f p E q (jc s t) ∧ t.i < E := by
 have hi : t.i < E := by
  refine Nat.lt_of_not_le fun hge => ?_;have e : t.i = E := by have := h.iE; omega
  unfold xi at hd;rw [Bool.or_eq_false_iff] at hd;have h1 : ¬ s.size ≤ t.i := of_decide_eq_false hd.1;have h2 := (hs.exp (by omega)).1;rw [e, h2, if_neg (by decide)] at hd;exact absurd hd.2 (by decide)
 have hstep : (jc s t).i = t.i + 1 := by
  unfold jc;split
  · rfl
  · split
    · rfl
    · split <;> rfl
 have hk := rd_keeps h.toRdI hd;have hfi := h.fi;refine ⟨⟨hk, by rw [hstep]; omega, by rw [hstep]; omega, ?_, ?_⟩, hi⟩
 · rw [hstep];rcases hs.at_ h.fi hi with ⟨_, h1⟩ | ⟨h1, h2⟩
   · intro e;have hdt : (jc s t).dot = t.dot := by
      unfold jc;rw [if_neg (by omega)];split
      · rfl
      · split <;> rfl
     rw [hdt] at e;have := h.dt e; omega
   · intro _; omega
 · intro _;rcases hs.at_ h.fi hi with ⟨_, h1⟩ | ⟨h1, h2⟩
   · unfold jc;rw [if_neg (by omega)];split
     · rfl
     · split <;> rfl
   · have hp := hs.fp;unfold jc;rw [if_pos h2];exact h.dg (by omega)
theorem rdN_start {s : ByteArray} {f p E q : Nat} (hs : Nm s f p E q) : RdN s f p E q ⟨f, 0, 0, 0, 0, false, false, false⟩ := by
 have h1 := hs.fp;have h2 := hs.pE;have h3 := hs.hE;exact ⟨⟨by show f ≤ s.size; omega, by show 0 < 10 ^ 0; decide, Nat.zero_le _, Nat.zero_le _, by show -((f : Nat) : Int) ≤ 0 ∧ 0 ≤ ((f : Nat) : Int); omega⟩, Nat.le_refl _, by show f ≤ E; omega, fun e => (by cases e), fun e => absurd e (Nat.lt_irrefl _)⟩
noncomputable def rdA (s : ByteArray) (f : Nat) : RdS := va (xi s) (jc s) ⟨f, 0, 0, 0, 0, false, false, false⟩
theorem rd_out {s : ByteArray} {f p E q : Nat} {t : RdS} (hs : Nm s f p E q) (h : RdN s f p E q t) (hd : xi s t = true) : t.i = E := by
 rcases Nat.lt_or_ge t.i E with h1 | h1
 · rw [rdN_cont hs h h1] at hd; cases hd
 · have := h.iE; omega
theorem rdA_ends {s : ByteArray} {f p E q : Nat} (hs : Nm s f p E q) : RdN s f p E q (rdA s f) ∧ (rdA s f).i = E := by
 have h := vt (done := xi s) (step := jc s) (RdN s f p E q) (fun t => E - t.i) (fun t h hd => ?_) (rdN_start hs)
 · exact ⟨h.1, rd_out hs h.1 h.2⟩
 · obtain ⟨h1, h2⟩ := rdN_keeps hs h hd;refine ⟨h1, ?_⟩;have hstep : (jc s t).i = t.i + 1 := by
    unfold jc;split
    · rfl
    · split
      · rfl
      · split <;> rfl
   omega
/-! ### the exponent's loop -/
structure ExS where
 i : Nat
 e : Nat
def kv (s : ByteArray) (t : ExS) : Bool := decide (s.size ≤ t.i) || !isDg (bAt s t.i)
def om (s : ByteArray) (t : ExS) : ExS := ⟨t.i + 1, if t.e < 10000 then t.e * 10 + (bAt s t.i - 48) else t.e⟩
structure ExI (s : ByteArray) (q : Nat) (t : ExS) : Prop where
 hi : q ≤ t.i ∧ t.i ≤ s.size
 he : t.e < 100000
theorem ex_keeps {s : ByteArray} {q : Nat} {t : ExS} (h : ExI s q t) (hd : kv s t = false) : ExI s q (om s t) ∧ t.i < s.size ∧ isDg (bAt s t.i) = true := by
 unfold kv at hd;rw [Bool.or_eq_false_iff] at hd;have h1 : ¬ s.size ≤ t.i := of_decide_eq_false hd.1;have h2 : isDg (bAt s t.i) = true := by simpa using hd.2
 have h3 := of_decide_eq_true h2;have h4 := h.hi;have h5 := h.he;refine ⟨⟨by show q ≤ t.i + 1 ∧ t.i + 1 ≤ s.size; omega, ?_⟩, by omega, h2⟩;show (if t.e < 10000 then t.e * 10 + (bAt s t.i - 48) else t.e) < 100000
 split <;> omega
noncomputable def exA (s : ByteArray) (q : Nat) : ExS := va (kv s) (om s) ⟨q, 0⟩
theorem zmv {s : ByteArray} {q : Nat} (hq : q ≤ s.size) : ExI s q (exA s q) ∧ kv s (exA s q) = true :=
 vt (ExI s q) (fun t => s.size - t.i) (fun t h hd => by
  obtain ⟨h1, h2, _⟩ := ex_keeps h hd;exact ⟨h1, by show s.size - (t.i + 1) < s.size - t.i; omega⟩) ⟨⟨Nat.le_refl _, hq⟩, by show 0 < 100000; decide⟩
theorem ex_out {s : ByteArray} {q : Nat} {t : ExS} (hs : ∀ i, q ≤ i → i < s.size → 48 ≤ bAt s i ∧ bAt s i ≤ 57) (h : ExI s q t) (hd : kv s t = true) : t.i = s.size := by
 rcases Nat.lt_or_ge t.i s.size with h1 | h1
 · have h2 := hs t.i h.hi.1 h1;unfold kv at hd;rw [zqq h2, decide_eq_false (by omega)] at hd;cases hd
 · have := h.hi; omega
noncomputable def zbz (s : ByteArray) (E : Nat) : Int :=
 if s.size ≤ E then 0
 else if bAt s (E + 1) = 45 then -(((exA s (E + 2)).e : Nat) : Int)
 else if bAt s (E + 1) = 43 then (((exA s (E + 2)).e : Nat) : Int)
 else (((exA s (E + 1)).e : Nat) : Int)
theorem zzk {s : ByteArray} {f p E q : Nat} (hs : Nm s f p E q) : -100000 ≤ zbz s E ∧ zbz s E ≤ 100000 := by
 unfold zbz;split
 · omega
 · rename_i h
   obtain ⟨_, h2, h3, _⟩ := hs.exp (by omega);split
   · have := (zmv (s := s) (q := E + 2) (by omega)).1.he; omega
   · split
     · have := (zmv (s := s) (q := E + 2) (by omega)).1.he; omega
     · have := (zmv (s := s) (q := E + 1) (by omega)).1.he; omega
noncomputable def rdP (s : ByteArray) (f : Nat) : Int := (if (rdA s f).dot then (rdA s f).dp else (((rdA s f).nd : Nat) : Int)) + zbz s (rdA s f).i
noncomputable def rdX (s : ByteArray) (f : Nat) : Int := if (rdA s f).m ≠ 0 then rdP s f - (((rdA s f).nm : Nat) : Int) else 0
/-! ### the decimal's loop -/
structure StS where
 i : Nat
 dot : Bool
 dig : Bool
 t : Dec
def xv (s : ByteArray) (t : StS) : Bool := decide (s.size ≤ t.i) || (if bAt s t.i = 46 then t.dot else !isDg (bAt s t.i))
def gj (s : ByteArray) (a : StS) : StS :=
 if bAt s a.i = 46 then { a with i := a.i + 1, dot := true, t := { a.t with dp := ((a.t.nd : Nat) : Int) } }
 else if bAt s a.i = 48 ∧ a.t.nd = 0 then { a with i := a.i + 1, dig := true, t := { a.t with dp := a.t.dp - 1 } }
 else if a.t.nd < 800 then { a with i := a.i + 1, dig := true, t := { a.t with d := a.t.d.set a.t.nd (bAt s a.i), nd := a.t.nd + 1 } }
 else { a with i := a.i + 1, dig := true, t := { a.t with tr := if bAt s a.i ≠ 48 then true else a.t.tr } }
structure StN (s : ByteArray) (f p E q : Nat) (a : StS) : Prop where
 fi : f ≤ a.i
 iE : a.i ≤ E
 dt : a.dot = true → p < a.i
 dg : f < a.i → a.dig = true
 dec : DecI a.t
 hp : -((a.i : Nat) : Int) ≤ a.t.dp ∧ a.t.dp ≤ 800
theorem stN_cont {s : ByteArray} {f p E q : Nat} {t : StS} (hs : Nm s f p E q) (h : StN s f p E q t) (hi : t.i < E) : xv s t = false := by
 have hE := hs.hE;unfold xv;rw [Bool.or_eq_false_iff];refine ⟨decide_eq_false (by omega), ?_⟩;rcases hs.at_ h.fi hi with ⟨_, h1⟩ | ⟨h1, h2⟩
 · rw [if_neg (by omega), zqq h1]; rfl
 · rw [if_pos h2];cases hd : t.dot with
   | false => rfl
   | true => have := h.dt hd; omega
theorem st_i (s : ByteArray) (a : StS) : (gj s a).i = a.i + 1 := by
 unfold gj;split
 · rfl
 · split
   · rfl
   · split <;> rfl
theorem ycx {s : ByteArray} {f p E q : Nat} {a : StS} (hs : Nm s f p E q) (h : StN s f p E q a) (hd : xv s a = false) : StN s f p E q (gj s a) ∧ a.i < E := by
 have hi : a.i < E := by
  refine Nat.lt_of_not_le fun hge => ?_;have e : a.i = E := by have := h.iE; omega
  unfold xv at hd;rw [Bool.or_eq_false_iff] at hd;have h1 : ¬ s.size ≤ a.i := of_decide_eq_false hd.1;have h2 := (hs.exp (by omega)).1;rw [e, h2, if_neg (by decide)] at hd;exact absurd hd.2 (by decide)
 have hfi := h.fi;have hp := h.hp;have hdec := h.dec;have hn := hdec.hn;refine ⟨?_, hi⟩;rcases hs.at_ h.fi hi with ⟨hne, h1⟩ | ⟨h1, h2⟩
 · have hno : bAt s a.i ≠ 46 := by omega
   have hdt : a.dot = true → p < a.i + 1 := fun e => by have := h.dt e; omega
   unfold gj;rw [if_neg hno];split
   · exact ⟨by show f ≤ a.i + 1; omega, by show a.i + 1 ≤ E; omega, hdt, fun _ => rfl, ⟨hdec.len, hdec.hn, hdec.dig, hdec.lead⟩, by show -((a.i + 1 : Nat) : Int) ≤ a.t.dp - 1 ∧ a.t.dp - 1 ≤ 800; omega⟩
   · rename_i hz
     split
     · rename_i hlt
       refine ⟨by show f ≤ a.i + 1; omega, by show a.i + 1 ≤ E; omega, hdt, fun _ => rfl, ⟨?_, by show a.t.nd + 1 ≤ 800; omega, fun i hi => ?_, fun _ => ?_⟩, by show -((a.i + 1 : Nat) : Int) ≤ a.t.dp ∧ a.t.dp ≤ 800; omega⟩
       · show (a.t.d.set _ _).length = 800
         rw [List.length_set]; exact hdec.len
       · have hi : i < a.t.nd + 1 := hi;show 48 ≤ dg (a.t.d.set a.t.nd (bAt s a.i)) i ∧ dg (a.t.d.set a.t.nd (bAt s a.i)) i ≤ 57
         rw [znz (by rw [hdec.len]; exact hlt)];split
         · exact h1
         · exact hdec.dig i (by omega)
       · show 49 ≤ dg (a.t.d.set a.t.nd (bAt s a.i)) 0
         rw [znz (by rw [hdec.len]; exact hlt)];split
         · rename_i e
           have : bAt s a.i ≠ 48 := fun e2 => hz ⟨e2, e.symm⟩;omega
         · exact hdec.lead (by omega)
     · exact ⟨by show f ≤ a.i + 1; omega, by show a.i + 1 ≤ E; omega, hdt, fun _ => rfl, ⟨hdec.len, hdec.hn, hdec.dig, hdec.lead⟩, by show -((a.i + 1 : Nat) : Int) ≤ a.t.dp ∧ a.t.dp ≤ 800; omega⟩
 · have hpp := hs.fp;unfold gj;rw [if_pos h2];exact ⟨by show f ≤ a.i + 1; omega, by show a.i + 1 ≤ E; omega, fun _ => by show p < a.i + 1; omega, fun _ => h.dg (by omega), ⟨hdec.len, hdec.hn, hdec.dig, hdec.lead⟩, by show -((a.i + 1 : Nat) : Int) ≤ ((a.t.nd : Nat) : Int) ∧ ((a.t.nd : Nat) : Int) ≤ 800; omega⟩
def zjk (neg : Bool) : Dec := ⟨List.replicate 800 0, 0, 0, neg, false⟩
theorem dec0_ok (neg : Bool) : DecI (zjk neg) := ⟨List.length_replicate, Nat.zero_le _, fun _ hi => absurd hi (Nat.not_lt_zero _), fun hi => absurd hi (Nat.lt_irrefl _)⟩
theorem ybv {s : ByteArray} {f p E q : Nat} (neg : Bool) (hs : Nm s f p E q) : StN s f p E q ⟨f, false, false, zjk neg⟩ := by
 have h1 := hs.fp;have h2 := hs.pE;exact ⟨Nat.le_refl _, by show f ≤ E; omega, fun e => (by cases e), fun e => absurd e (Nat.lt_irrefl _), dec0_ok neg, by show -((f : Nat) : Int) ≤ 0 ∧ (0 : Int) ≤ 800; omega⟩
noncomputable def stA (s : ByteArray) (f : Nat) (neg : Bool) : StS := va (xv s) (gj s) ⟨f, false, false, zjk neg⟩
theorem st_out {s : ByteArray} {f p E q : Nat} {t : StS} (hs : Nm s f p E q) (h : StN s f p E q t) (hd : xv s t = true) : t.i = E := by
 rcases Nat.lt_or_ge t.i E with h1 | h1
 · rw [stN_cont hs h h1] at hd; cases hd
 · have := h.iE; omega
theorem stA_ends {s : ByteArray} {f p E q : Nat} (neg : Bool) (hs : Nm s f p E q) : StN s f p E q (stA s f neg) ∧ (stA s f neg).i = E := by
 have h := vt (done := xv s) (step := gj s) (StN s f p E q) (fun t => E - t.i) (fun t h hd => ?_) (ybv neg hs)
 · exact ⟨h.1, st_out hs h.1 h.2⟩
 · obtain ⟨h1, h2⟩ := ycx hs h hd;refine ⟨h1, ?_⟩;rw [st_i];omega
noncomputable def setD (s : ByteArray) (f : Nat) (neg : Bool) : Dec :=
 { (stA s f neg).t with dp := (if (stA s f neg).dot then (stA s f neg).t.dp else (((stA s f neg).t.nd : Nat) : Int)) + zbz s (stA s f neg).i }
theorem setD_ok {s : ByteArray} {f p E q : Nat} (neg : Bool) (hs : Nm s f p E q) : DecI (setD s f neg) :=
 let h := (stA_ends neg hs).1.dec
 ⟨h.len, h.hn, h.dig, h.lead⟩
def jg (s : ByteArray) (i : Nat) : Bool := decide (s.size ≤ i) || !isDg (bAt s i)
noncomputable def kj (s : ByteArray) (a : Nat) : Nat := va (jg s) (fun i => i + 1) a
theorem yhx {s : ByteArray} {i : Nat} (h : jg s i = false) : i < s.size ∧ 48 ≤ bAt s i ∧ bAt s i ≤ 57 := by
 unfold jg at h;rw [Bool.or_eq_false_iff] at h;have h1 : ¬ s.size ≤ i := of_decide_eq_false h.1;have h2 : isDg (bAt s i) = true := by simpa using h.2
 have h3 := of_decide_eq_true h2;exact ⟨by omega, h3⟩
theorem ru_on {s : ByteArray} {i : Nat} (h : i < s.size) (h1 : 48 ≤ bAt s i ∧ bAt s i ≤ 57) : jg s i = false := by
 unfold jg;rw [decide_eq_false (by omega), zqq h1]; rfl
structure RuI (s : ByteArray) (a i : Nat) : Prop where
 lo : a ≤ i
 hi : i ≤ s.size
 dig : ∀ j, a ≤ j → j < i → 48 ≤ bAt s j ∧ bAt s j ≤ 57
theorem ru_keeps {s : ByteArray} {a i : Nat} (h : RuI s a i) (hd : jg s i = false) : RuI s a (i + 1) := by
 obtain ⟨h1, h2⟩ := yhx hd;refine ⟨Nat.le_succ_of_le h.lo, h1, fun j hj hk => ?_⟩;rcases Nat.lt_or_ge j i with h3 | h3
 · exact h.dig j hj h3
 · obtain rfl : j = i := by omega
   exact h2
theorem gb {s : ByteArray} {a : Nat} (ha : a ≤ s.size) : RuI s a (kj s a) ∧ jg s (kj s a) = true :=
 vt (RuI s a) (fun i => s.size - i) (fun i h hd => ⟨ru_keeps h hd, by have := (yhx hd).1; show s.size - (i + 1) < s.size - i; omega⟩) ⟨Nat.le_refl _, ha, fun j h1 h2 => absurd h1 (Nat.not_le.2 h2)⟩
theorem runD_eq {s : ByteArray} {a r : Nat} (h : RuI s a r) (hd : jg s r = true) : kj s a = r := by
 obtain ⟨h1, h2⟩ := gb (Nat.le_trans h.lo h.hi);rcases Nat.lt_trichotomy (kj s a) r with h3 | h3 | h3
 · rw [ru_on (by have := h.hi; omega) (h.dig _ h1.lo h3)] at h2; cases h2
 · exact h3
 · rw [ru_on (by have := h1.hi; omega) (h1.dig _ h.lo h3)] at hd; cases hd
theorem zkx {s : ByteArray} {i : Nat} (h : s.size ≤ i) : bAt s i = 0 := by
 unfold bAt;have h1 : s.data[i]? = none := Array.getElem?_eq_none h;rw [h1]; rfl
theorem kx {s : ByteArray} {i : Nat} (h : bAt s i ≠ 0) : i < s.size := by
 rcases Nat.lt_or_ge i s.size with h1 | h1
 · exact h1
 · exact absurd (zkx h1) h
noncomputable def nB (s : ByteArray) (a : Nat) : Nat := if bAt s a = 46 then kj s (a + 1) else a
def nQ (s : ByteArray) (b : Nat) : Nat := if bAt s (b + 1) = 43 ∨ bAt s (b + 1) = 45 then b + 2 else b + 1
noncomputable def nC (s : ByteArray) (b : Nat) : Nat := if bAt s b = 101 then kj s (nQ s b) else b
def Num3 (s : ByteArray) (b : Nat) : Prop := nC s b = s.size ∧ (bAt s b = 101 → nQ s b < nC s b)
def Num2 (s : ByteArray) (a : Nat) : Prop := (bAt s a = 46 → a + 1 < nB s a) ∧ Num3 s (nB s a)
def NumP (s : ByteArray) (f : Nat) : Prop := f < kj s f ∧ Num2 s (kj s f)
noncomputable def og (s : ByteArray) (f : Nat) : Bool := @decide (NumP s f) (Classical.propDecidable _)
theorem ylx {s : ByteArray} {f : Nat} (h : NumP s f) : og s f = true := by unfold og; exact @decide_eq_true _ (Classical.propDecidable _) h
theorem ky {s : ByteArray} {f : Nat} (h : ¬ NumP s f) : og s f = false := by unfold og; exact @decide_eq_false _ (Classical.propDecidable _) h
theorem numB_is {s : ByteArray} {f : Nat} (h : og s f = true) : NumP s f := by unfold og at h; exact @of_decide_eq_true _ (Classical.propDecidable _) h
theorem nB_le {s : ByteArray} {a : Nat} (ha : a ≤ s.size) : a ≤ nB s a ∧ nB s a ≤ s.size := by
 unfold nB;split
 · rename_i h
   have h1 := (gb (s := s) (a := a + 1) (kx (by omega))).1;exact ⟨by have := h1.lo; omega, h1.hi⟩
 · exact ⟨Nat.le_refl _, ha⟩
theorem nQ_le {s : ByteArray} {b : Nat} (hb : b < s.size) : nQ s b ≤ s.size := by
 unfold nQ;split
 · rename_i h
   have := kx (s := s) (i := b + 1) (by omega);omega
 · omega
theorem num_nm {s : ByteArray} {f : Nat} (hf : f ≤ s.size) (h : NumP s f) : Nm s f (kj s f) (nB s (kj s f)) (nQ s (nB s (kj s f))) := by
 obtain ⟨h1, h2, h3, h4⟩ := h;obtain ⟨r1, _⟩ := gb (s := s) hf;generalize hp : kj s f = p at *
 have hE := nB_le (s := s) r1.hi;generalize hb : nB s p = E at *
 refine ⟨h1, hE.1, hE.2, r1.dig, fun hl => ?_, fun i hi hj => ?_, fun hl => ?_⟩
 · by_cases h5 : bAt s p = 46
   · exact ⟨h5, h2 h5⟩
   · have : nB s p = p := by unfold nB; rw [if_neg h5]
     omega
 · by_cases h5 : bAt s p = 46
   · have e : nB s p = kj s (p + 1) := by unfold nB; rw [if_pos h5]
     have h6 := (gb (s := s) (a := p + 1) (kx (by omega))).1;exact h6.dig i hi (by rw [← e, hb]; exact hj)
   · have : nB s p = p := by unfold nB; rw [if_neg h5]
     omega
 · by_cases h5 : bAt s E = 101
   · have h6 := h4 h5;have hq := nQ_le (s := s) (b := E) hl;have e : nC s E = kj s (nQ s E) := by unfold nC; rw [if_pos h5]
     rw [h3] at h6;refine ⟨h5, ?_, h6, fun i hi hj => ?_⟩
     · unfold nQ;split
       · rename_i h7; exact .inr ⟨rfl, h7⟩
       · rename_i h7; exact .inl ⟨rfl, fun e => h7 (.inl e), fun e => h7 (.inr e)⟩
     · have h8 := (gb (s := s) (a := nQ s E) hq).1;exact h8.dig i hi (by rw [← e, h3]; exact hj)
   · have : nC s E = E := by unfold nC; rw [if_neg h5]
     omega
section
variable {P : Program} {N : Nat} {Q : Exit → Act → World → Prop} {σ : Env} {w : World} {body : Code} {n : Nat}
theorem inScope_up : ∀ (n : Nat) (e : Exit) (a : Act) (w : World), gl P body Q 0 e a w → gl P body Q n e a w
 | 0, _, _, _, h => h
 | n + 1, e, _, _, h => by
  cases e <;> first | exact h | exact .inl h
theorem cw_tail {l : Nat} {rest : Code} {ι : Type} (s : ι → Env) (R : ι → World → Prop) (_ : findLabel body l = some rest)
 (hb : (∀ i w, R i w → CW P N rest (gl P body Q 0) (s i) w) → CW P N body (gl P body Q n) σ w) (ht : ∀ i w, R i w → CW P N rest (gl P body Q 0) (s i) w) : CW P N body (gl P body Q n) σ w := hb ht
theorem zdq {l k : Nat} {rest : Code} {ι : Type} {s : ι → Env} {R : ι → World → Prop} (hl : findLabel body l = some rest) (ht : ∀ i w, R i w → CW P N rest (gl P body Q 0) (s i) w) (i : ι) (hs : Sub σ (s i)) (hr : R i w) : EW N (gl P body Q (k + 1)) (.goto l) σ w :=
 ew_scope_goto hl (fun a ha => Code.wp_mono (fun e a w q => inScope_up k e a w q) (ht i w hr a (ha.weak (ydq hs))))
end
end Go.Proofs.YtmjemknimipnjaaGreatDoor
namespace Go.Proofs.YtmjemknimipnjaaGreatDoor
open Go.RowKit
set_option maxRecDepth 100000
attribute [local irreducible] OW RS
def flC : Array Value := #[.int .i64 0, .int .i64 1024, .int .i64 32770, .int .i64 2050, .int .i64 6, .int .i64 2, .int .i64 4098, .int .i64 4100, .int .i64 4096, .int .i64 2, .int .i64 6, .int .i64 12, .int .i64 4, .int .i64 8194, .int .i64 32782, .int .i64 32774, .int .i64 32782, .int .i64 6, .int .i64 16, .int .i64 20, .int .i64 20, .int .i64 38, .int .i64 4102, .int .i64 4108, .int .i64 14, .int .i64 140, .int .i64 12, .int .i64 262, .int .i64 34, .int .i64 34, .int .i64 34, .int .i64 66, .int .i64 12, .int .i64 12, .int .i64 4100, .int .i64 36, .int .i64 16898, .int .i64 4130, .int .i64 6, .int .i64 22, .int .i64 6, .int .i64 4, .int .i64 4, .int .i64 14, .int .i64 32770]
theorem flC_eq : flC = (flT.map (fun z => Value.int .i64 ((z : Nat) : Int))).toArray := rfl
theorem flC_at {j : Nat} (h : j < 45) : flC[j]? = some (.int .i64 ((flT.getD j 0 : Nat) : Int)) := by
 have key : ∀ i : Fin 45, flT[i.val]? = some (flT.getD i.val 0) := by decide +kernel
 rw [flC_eq, List.getElem?_toArray, List.getElem?_map, key ⟨j, h⟩];rfl
theorem fl_or {j : Nat} (h : j < 45) : IntKind.i64.wrap (BitVec.ofInt IntKind.i64.bits ((flT.getD j 0 : Nat) : Int) ||| BitVec.ofInt IntKind.i64.bits 1).toNat = ((flT.getD j 0 ||| 1 : Nat) : Int) := by
 have key : ∀ i : Fin 45, IntKind.i64.wrap (BitVec.ofInt IntKind.i64.bits ((flT.getD i.val 0 : Nat) : Int) ||| BitVec.ofInt IntKind.i64.bits 1).toNat = ((flT.getD i.val 0 ||| 1 : Nat) : Int) := by decide +kernel
 exact key ⟨j, h⟩
section
variable (w : World)
theorem flags_any (op : Int) : Calls Tryz.prog 16 #[.int .i64 op] w fun e w' => e = .returned (.int .i64 ((flN op : Nat) : Int)) ∧ Below w.heap.size w w' := by
 refine yn Tryz.func16 rfl Tryz.ntmps16 rfl ?_;have LW := erx (No) w;have XLW := grx (No) w;have E := erx (No) w;refine srx (anx rfl (zi (srx (mvx rfl (za rfl (yv rfl rfl (mvx rfl (yk 6 rfl (fun h1 => ?_) (fun h1 => ?_)))))))))
 ·
  have h1 := of_decide_eq_true h1;have e : flN op = 0 := by unfold flN; rw [if_pos (.inl h1)]
  refine za rfl (zc rfl (za rfl (zc rfl (za rfl (zq rfl rfl (rnx (yg rfl (srx (anx rfl (zo (zd (zm (rs := [.tmp 2]) (vs := [_]) rfl ⟨rfl, trivial⟩ ?_))))))))))));exact ⟨by rw [e]; rfl, (LW.step E XLW).toBelow⟩
 ·
  have h1 := of_decide_eq_false h1;refine onx rfl (zv rfl (onx rfl (qe rfl rfl (za rfl (zx rfl rfl (rnx (zt rfl (fun h2 => ?_) (fun h2 => ?_))))))))
  ·
   have h2 := of_decide_eq_true h2;have e : flN op = 0 := by unfold flN; rw [if_pos (.inr h2)]
   refine srx (anx rfl (zo (zd (zm (rs := [.tmp 2]) (vs := [_]) rfl ⟨rfl, trivial⟩ ?_))));exact ⟨by rw [e]; rfl, (LW.step E XLW).toBelow⟩
  ·
   have h2 := of_decide_eq_false h2;have e : flN op = flT.getD op.toNat 0 ||| 1 := by unfold flN; rw [if_neg (by omega)]
   refine zn (ze (srx (za rfl (ow_buildA (cs := flC) Tryz.underlying67 sz3 zr67 rfl (by kernel_rfl) (za rfl (qo zr67 ?_))))));intro gb1 w2 Bb1 Eb1 Gb1;have Gb1 : _ ≤ gb1 := Nat.le_trans E.size Gb1;have GLb1 := Nat.le_trans LW.size Gb1;replace E := E.trans Eb1.no;replace E := E.cons (some gb1)
   replace XLW := Mut.grow XLW (fun k e => Or.inr (Nat.le_trans LW.size ((yb Gb1) k e)));refine ya (zr sz67 rfl rfl Bb1 rfl rfl (Nat.le_of_ble_eq_true rfl) ?_);intro w3 Bx Eb1;replace Bb1 := Bx;replace E := E.step1 Eb1 Mut.head
   refine rnx (srx (mvx rfl (za rfl (qx (j := op.toNat) Tryz.underlying67 sz3 rfl rfl (by omega) (by omega) (za rfl (zh (cs := flC) Tryz.underlying3 rfl rfl Bb1 (flC_at (by omega)) (za rfl (xj rfl rfl (fl_or (by omega)) (anx rfl (zo (zm (rs := [.tmp 2]) (vs := [_]) rfl ⟨rfl, trivial⟩ ?_)))))))))));exact ⟨by rw [e]; rfl, (LW.step E XLW).toBelow⟩
end
end Go.Proofs.YtmjemknimipnjaaGreatDoor
namespace Go.Proofs.YtmjemknimipnjaaGreatDoor
open Go.RowKit
set_option maxRecDepth 100000
def jf (xs : List Int) : List Value := xs.map fun x => .int .i64 x
theorem zyq {xs : List Int} : ∀ u ∈ jf xs, u.oneCell' = true := fun u hu => by
 obtain ⟨x, _, rfl⟩ := List.mem_map.1 hu;rfl
abbrev OwnsI (w : World) (base : Nat) (A : Option Addr) (c : Nat) (xs : List Int) : Prop := w.ownsRow base 3 1 (.slice A xs.length c) xs.length (jf xs)
def RetInts (w : World) (xs : List Int) : Ending → World → Prop := fun e w' => ∃ A c, e = .returned (.slice A xs.length c) ∧ OwnsI w' w.heap.size A c xs ∧ Below w.heap.size w w'
theorem gn {w w' : World} {xs : List Int} {n c : Nat} {A : Option Addr} {vs : List Value} (hn : n = xs.length) (hv : vs = jf xs) (ho : w'.ownsRow w.heap.size 3 1 (.slice A n c) n vs) (hb : Below w.heap.size w w') : RetInts w xs (.returned (.slice A n c)) w' := by
 subst hn hv;exact ⟨A, c, rfl, ho, hb⟩
theorem OwnsI.ints {w : World} {base c : Nat} {A : Option Addr} {xs : List Int} (h : OwnsI w base A c xs) (hl : 8 * xs.length ≤ 140737488355000) (hi : ∀ x ∈ xs, I64 x) : IntsA w.heap.size w A xs := by
 refine ⟨hl, hi, fun h0 => ?_⟩;obtain ⟨g, rfl, _, hg, hc⟩ := owns_cells h (by cases xs with | nil => exact absurd rfl h0 | cons => simp);refine ⟨g, 0, rfl, hg, fun j x hj => ?_⟩;have := hc j (.int .i64 x) (by unfold jf; rw [List.getElem?_map, hj]; rfl);rwa [Nat.zero_add, Nat.mul_one]
theorem bv_nat (x : Nat) : BitVec.ofInt 64 (x : Int) = BitVec.ofNat 64 x := by
 apply BitVec.eq_of_toNat_eq
 rw [BitVec.toNat_ofInt, BitVec.toNat_ofNat];omega
theorem and_i64 {x y : Nat} (hx : x < 9223372036854775808) (hy : y < 9223372036854775808) : IntKind.i64.wrap (BitVec.ofInt IntKind.i64.bits (x : Int) &&& BitVec.ofInt IntKind.i64.bits (y : Int)).toNat = ((x &&& y : Nat) : Int) := by
 have e : (BitVec.ofInt IntKind.i64.bits (x : Int) &&& BitVec.ofInt IntKind.i64.bits (y : Int)).toNat = x &&& y := by
  show (BitVec.ofInt 64 (x : Int) &&& BitVec.ofInt 64 (y : Int)).toNat = x &&& y
  rw [bv_nat, bv_nat, BitVec.toNat_and, BitVec.toNat_ofNat, BitVec.toNat_ofNat, Nat.mod_eq_of_lt (by omega), Nat.mod_eq_of_lt (by omega)]
 rw [e];have : x &&& y ≤ x := Nat.and_le_left;exact zw (by omega)
theorem vn (op : Int) (y : Nat) (hy : y < 9223372036854775808) : IntKind.i64.wrap (BitVec.ofInt IntKind.i64.bits ((flN op : Nat) : Int) &&& BitVec.ofInt IntKind.i64.bits (y : Int)).toNat = ((flN op &&& y : Nat) : Int) :=
 and_i64 (by have := flN_lt op; omega) hy
theorem nat_ne (n : Nat) : (((n : Nat) : Int) != 0) = (n != 0) := by
 cases n with
 | zero => rfl
 | succ n =>
  have h1 : (((n + 1 : Nat) : Int) != 0) = true := by simp; omega
  rw [h1]; simp
theorem jo (n k : Nat) : ((((n &&& 2 ^ k : Nat)) : Int) != 0) = n.testBit k := by
 rw [nat_ne];cases h : n.testBit k
 · have : n &&& 2 ^ k = 0 := by
    apply Nat.eq_of_testBit_eq
    intro j;rw [Nat.testBit_and, Nat.testBit_two_pow, Nat.zero_testBit];by_cases hj : k = j
    · subst hj; rw [h]; rfl
    · simp [hj]
   rw [this]; rfl
 · have : n &&& 2 ^ k ≠ 0 := fun e => by
    have h1 : (n &&& 2 ^ k).testBit k = true := by rw [Nat.testBit_and, h, Nat.testBit_two_pow]; simp
    rw [e, Nat.zero_testBit] at h1;cases h1
   simp [this]
def LIns.v (i : LIns) (B : Option Addr) (c : Nat) : Value := .agg #[.int .i64 i.op, .int .i64 i.d, .int .i64 i.a, .int .i64 i.b, .int .i64 i.t, .int .i64 i.k, .slice B i.l.length c]
end Go.Proofs.YtmjemknimipnjaaGreatDoor
namespace Go.Proofs.YtmjemknimipnjaaGreatDoor
open Go.RowKit
set_option maxRecDepth 100000
attribute [local irreducible] OW RS
theorem ygq (op : Int) : uL op = (flN op &&& 992 != 0) := rfl
theorem bitD (op : Int) : (flN op).testBit 1 = uD op := rfl
theorem bitA (op : Int) : (flN op).testBit 2 = uA op := rfl
theorem bitB (op : Int) : (flN op).testBit 3 = uB op := rfl
attribute [local irreducible] flN uD uA uB uT uL rL rK rLo rHi
section
variable (w : World) (i : LIns) (B : Option Addr) (c : Nat) (n0 : Nat) (hl : IntsA n0 w B i.l)
theorem go {a b : Bool} {z : Bool} (h1 : uA i.op = a) (h2 : uB i.op = b) (h3 : (uL i.op && i.op != 35) = z) : zmx i = (if a = true then [i.a] else []) ++ ((if b = true then [i.b] else []) ++ (if z = true then i.l else [])) := by
 unfold zmx; rw [h1, h2, h3]
include hl
theorem reads_any (hn : n0 ≤ w.heap.size) : Calls Tryz.prog 14 #[.agg #[.int .i64 i.op, .int .i64 i.d, .int .i64 i.a, .int .i64 i.b, .int .i64 i.t, .int .i64 i.k, .slice B i.l.length c]] w (RetInts w (zmx i)) := by
 have hll := hl.len;refine yn Tryz.func14 rfl Tryz.ntmps14 rfl ?_;have HF : Per (No) w (fun _ => True) := Per.true_;have LW := erx (No) w;have XLW := grx (No) w;have E := erx (No) w;replace HF := HF.on E;replace LW := LW.step E XLW;replace E := erx (No) w;replace HF := HF.and (Per.ints hl (fun _ h => h.elim));refine srx (za rfl (vq rfl ?_));intro gb1 w2 Bb1 Eb1 Gb1
 have Gb1 : _ ≤ gb1 := Nat.le_trans E.size Gb1;have GLb1 := Nat.le_trans LW.size Gb1;replace E := E.trans Eb1.no;replace HF := HF.cons (yb Gb1);replace E := E.cons (some gb1);replace XLW := Mut.grow XLW (fun k e => Or.inr (Nat.le_trans LW.size ((yb Gb1) k e)));replace HF := HF.on E;replace LW := LW.step E XLW;have SB : ∀ q9, No q9 → Mut [(some gb1)] q9 := (Mut.skip Mut.nil_)
 replace HF := HF.less SB;replace XLW := fun k h => XLW k (SB k h);clear SB;replace E := erx (No) w2;replace HF := HF.and (Per.blkN Bb1 NotIn.nil);refine anx rfl (srx (za rfl (zb Tryz.underlying46 rfl sz3 (by decide) rfl (za rfl (zh Tryz.underlying3 rfl rfl (HF.on E).here.2 rfl (za rfl (yh en16 rfl ((flags_any _ i.op).mono ?_))))))));rintro e w3 ⟨rfl, hb⟩
 refine ⟨_, rfl, ?_⟩;replace E := blx E hb;have Ol : World.ownsRow w3 w.heap.size 3 1 (.slice none 0 0) 0 ([]) := oy;replace HF := HF.cons (jp);replace E := E.cons ((Value.slice none 0 0).ownBlock);replace XLW := Mut.grow XLW (fun k e => Or.inr (Nat.le_trans LW.size ((jp) k e)))
 refine anx rfl (srx (anx rfl (zi (srx (mvx rfl (za rfl (vg rfl rfl (vn i.op 4 (by decide)) (za rfl (qw rfl rfl (rnx (zp 10 (.bool (uA i.op)) rfl ((by rw [show (4 : Nat) = 2 ^ 2 from rfl, jo, bitA] : (.bool (((flN i.op &&& 4 : Nat) : Int) != 0) : Value) = _)) (zt rfl (fun hA => ?_) (fun hA => ?_)))))))))))))
 ·
  refine zg (mvx rfl (za rfl (zb Tryz.underlying46 rfl sz3 (by decide) rfl (za rfl (zh Tryz.underlying3 rfl rfl (HF.on E).here.2 rfl (za rfl (vb (cs := #[.int .i64 i.a]) Tryz.underlying44 sz3 zr3 (by decide) rfl (by rw [vz]; rfl) ?_)))))));intro gb4 w5 Bb4 Eb4 Gb4
  have Db4_l : Apart (some gb4) ((Value.slice none 0 0).ownBlock) := Apart.of_lt (gk Ol) Gb4;have Dl_b4 := Db4_l.symm;have Gb4 : _ ≤ gb4 := Nat.le_trans E.size Gb4;have GLb4 := Nat.le_trans LW.size Gb4;replace Ol := vi Ol Eb4 NotIn.nil;replace E := E.trans Eb4.no;replace HF := HF.cons (yb Gb4);replace E := E.cons (some gb4)
  replace XLW := Mut.grow XLW (fun k e => Or.inr (Nat.le_trans LW.size ((yb Gb4) k e)));replace HF := HF.on E;replace LW := LW.step E XLW;have SB : ∀ q9, Mut [((Value.slice none 0 0).ownBlock)] q9 → Mut [(some gb4), ((Value.slice none 0 0).ownBlock)] q9 := (Mut.skip (Mut.keep Mut.nil_));replace HF := HF.less SB;replace XLW := fun k h => XLW k (SB k h);clear SB
  replace E := erx (Mut [((Value.slice none 0 0).ownBlock)]) w5;replace HF := HF.and (Per.blkN Bb4 (NotIn.cons Db4_l NotIn.nil));refine za rfl (je (news := [.int .i64 i.a]) Tryz.underlying44 inf3 rfl (by decide) rfl Ol rfl (kl (HF.on E).here.2 ((HF.on E).here.2).lt rfl) (by simp [Value.oneCell']) (by unfold maxLen; omega) (by omega) (by exact Nat.le_trans LW.size E.size) ?_)
  intro v0 w7 On En KN;obtain ⟨Aq6, cq6, rfl⟩ := vy On;replace KN : ∀ q9, ((Value.slice Aq6 1 cq6).ownBlock) = some q9 → ((Value.slice none 0 0).ownBlock) = some q9 ∨ w5.heap.size ≤ q9 := KN
  have HY : Gro (Mut [((Value.slice Aq6 1 cq6).ownBlock)]) (Mut [((Value.slice none 0 0).ownBlock)]) w5 := (Mut.grow Mut.none_ (fun k e => (KN k e).elim (fun e => Or.inl (Mut.head k e)) (fun h => Or.inr (Nat.le_trans E.size h))));replace E := E.step1 En Mut.head;replace HF := HF.turn E HY
  have XT := fun q9 (h : (Mut [((Value.slice Aq6 1 cq6).ownBlock)]) q9) => (HY q9 h).elim (XLW q9) (fun h => Or.inr (Nat.le_trans LW.size h));replace LW := LW.step E XLW;replace XLW := XT;replace E := erx (Mut [((Value.slice Aq6 1 cq6).ownBlock)]) w7;clear HY;replace Ol : World.ownsRow w7 w.heap.size 3 1 (.slice Aq6 1 cq6) 1 ([.int .i64 i.a]) := by
   have e : (([]) : List Value) ++ ([.int .i64 i.a] : List Value) = [.int .i64 i.a] := rfl;rw [← e];exact On
  clear On KN En;refine anx rfl (zi (srx (mvx rfl (za rfl (vg rfl rfl (vn i.op 8 (by decide)) (za rfl (qw rfl rfl (rnx (zp 18 (.bool (uB i.op)) rfl ((by rw [show (8 : Nat) = 2 ^ 3 from rfl, jo, bitB] : (.bool (((flN i.op &&& 8 : Nat) : Int) != 0) : Value) = _)) (zt rfl (fun hB => ?_) (fun hB => ?_)))))))))))
  ·
   refine zg (mvx rfl (za rfl (zb Tryz.underlying46 rfl sz3 (by decide) rfl (za rfl (zh Tryz.underlying3 rfl rfl (HF.on E).here.1.2 rfl (za rfl (vb (cs := #[.int .i64 i.b]) Tryz.underlying44 sz3 zr3 (by decide) rfl (by rw [vz]; rfl) ?_)))))));intro gb8 w9 Bb8 Eb8 Gb8
   have Db8_l : Apart (some gb8) ((Value.slice Aq6 1 cq6).ownBlock) := Apart.of_lt (gk Ol) Gb8;have Dl_b8 := Db8_l.symm;have Gb8 : _ ≤ gb8 := Nat.le_trans E.size Gb8;have GLb8 := Nat.le_trans LW.size Gb8;replace Ol := vi Ol Eb8 NotIn.nil;replace E := E.trans Eb8.no;replace HF := HF.cons (yb Gb8);replace E := E.cons (some gb8)
   replace XLW := Mut.grow XLW (fun k e => Or.inr (Nat.le_trans LW.size ((yb Gb8) k e)));replace HF := HF.on E;replace LW := LW.step E XLW;have SB : ∀ q9, Mut [((Value.slice Aq6 1 cq6).ownBlock)] q9 → Mut [(some gb8), ((Value.slice Aq6 1 cq6).ownBlock)] q9 := (Mut.skip (Mut.keep Mut.nil_));replace HF := HF.less SB;replace XLW := fun k h => XLW k (SB k h);clear SB
   replace E := erx (Mut [((Value.slice Aq6 1 cq6).ownBlock)]) w9;replace HF := HF.and (Per.blkN Bb8 (NotIn.cons Db8_l NotIn.nil));refine za rfl (je (news := [.int .i64 i.b]) Tryz.underlying44 inf3 rfl (by decide) rfl Ol rfl (kl (HF.on E).here.2 ((HF.on E).here.2).lt rfl) (by simp [Value.oneCell']) (by unfold maxLen; omega) (by omega) (by exact Nat.le_trans LW.size E.size) ?_)
   intro v0 w11 On En KN;obtain ⟨Aq10, cq10, rfl⟩ := vy On;replace KN : ∀ q9, ((Value.slice Aq10 2 cq10).ownBlock) = some q9 → ((Value.slice Aq6 1 cq6).ownBlock) = some q9 ∨ w9.heap.size ≤ q9 := KN
   have HY : Gro (Mut [((Value.slice Aq10 2 cq10).ownBlock)]) (Mut [((Value.slice Aq6 1 cq6).ownBlock)]) w9 := (Mut.grow Mut.none_ (fun k e => (KN k e).elim (fun e => Or.inl (Mut.head k e)) (fun h => Or.inr (Nat.le_trans E.size h))));replace E := E.step1 En Mut.head;replace HF := HF.turn E HY
   have XT := fun q9 (h : (Mut [((Value.slice Aq10 2 cq10).ownBlock)]) q9) => (HY q9 h).elim (XLW q9) (fun h => Or.inr (Nat.le_trans LW.size h));replace LW := LW.step E XLW;replace XLW := XT;replace E := erx (Mut [((Value.slice Aq10 2 cq10).ownBlock)]) w11;clear HY;replace Ol : World.ownsRow w11 w.heap.size 3 1 (.slice Aq10 2 cq10) 2 ([.int .i64 i.a, .int .i64 i.b]) := by
    have e : (([.int .i64 i.a]) : List Value) ++ ([.int .i64 i.b] : List Value) = [.int .i64 i.a, .int .i64 i.b] := rfl;rw [← e];exact On
   clear On KN En;refine anx rfl (zi (srx (mvx rfl (za rfl (vg rfl rfl (vn i.op 992 (by decide)) (za rfl (qw rfl rfl (mvx rfl ?_))))))));by_cases hu : flN i.op &&& 992 = 0
   ·
    have hL : (uL i.op && i.op != 35) = false := by rw [ygq, hu]; rfl
    refine yi 27 (.bool false) rfl ((by rw [hu]; rfl : (.bool (((flN i.op &&& 992 : Nat) : Int) != 0) : Value) = _)) (za rfl (zc rfl (za rfl (zc rfl (za rfl (zc rfl (za rfl (zx rfl rfl (rnx (ye rfl (zn (ze (srx (mvx rfl (anx rfl (zo ?_))))))))))))))));have e := go i hA hB hL
    refine zm (rs := [.tmp 2]) (vs := [_]) rfl ⟨rfl, trivial⟩ ?_;exact gn (by rw [e]; simp) (by rw [e]; simp [jf]) Ol (LW.step E XLW).toBelow
   ·
    refine yi 27 (.bool true) rfl ((by rw [nat_ne]; simp [hu] : (.bool (((flN i.op &&& 992 : Nat) : Int) != 0) : Value) = _)) (onx rfl (zb Tryz.underlying46 rfl sz3 (by decide) rfl (onx rfl (zh Tryz.underlying3 rfl rfl (HF.on E).here.1.1.2 rfl (onx rfl (qw rfl rfl (za rfl (zq rfl rfl (rnx (zt rfl (fun h35 => ?_) (fun h35 => ?_)))))))))))
    ·
     have hL : (uL i.op && i.op != 35) = true := by rw [ygq, h35]; simp [hu]
     refine zg (mvx rfl (za rfl (zb Tryz.underlying46 rfl zsx (by decide) rfl (za rfl (zh Tryz.underlying44 rfl rfl (HF.on E).here.1.1.2 rfl (za rfl (je (news := jf i.l) Tryz.underlying44 inf3 rfl (by decide) rfl Ol rfl (((HF.on E).here.1.1.1.2).reads (Nat.le_trans hn (Nat.le_trans LW.size E.size))) (zyq) (by unfold maxLen; omega) (by omega) (by exact Nat.le_trans LW.size E.size) ?_)))))))
     intro v0 w12 On En KN;obtain ⟨A3, c3, rfl⟩ := vy On;replace KN : ∀ q9, ((Value.slice A3 (2 + i.l.length) c3).ownBlock) = some q9 → ((Value.slice Aq10 2 cq10).ownBlock) = some q9 ∨ w11.heap.size ≤ q9 := KN
     have HY : Gro (Mut [((Value.slice A3 (2 + i.l.length) c3).ownBlock)]) (Mut [((Value.slice Aq10 2 cq10).ownBlock)]) w11 := (Mut.grow Mut.none_ (fun k e => (KN k e).elim (fun e => Or.inl (Mut.head k e)) (fun h => Or.inr (Nat.le_trans E.size h))));replace E := E.step1 En Mut.head
     have XT := fun q9 (h : (Mut [((Value.slice A3 (2 + i.l.length) c3).ownBlock)]) q9) => (HY q9 h).elim (XLW q9) (fun h => Or.inr (Nat.le_trans LW.size h));replace LW := LW.step E XLW;replace XLW := XT;replace E := erx (Mut [((Value.slice A3 (2 + i.l.length) c3).ownBlock)]) w12;clear HY
     replace Ol : World.ownsRow w12 w.heap.size 3 1 (.slice A3 (2 + i.l.length) c3) (2 + i.l.length) ([.int .i64 i.a, .int .i64 i.b] ++ jf i.l) := by
      have e : (([.int .i64 i.a, .int .i64 i.b]) : List Value) ++ (jf i.l : List Value) = [.int .i64 i.a, .int .i64 i.b] ++ jf i.l := rfl;rw [← e];exact On
     clear On KN En;have e := go i hA hB hL;refine anx rfl (srx (mvx rfl (anx rfl (zo (zm (rs := [.tmp 2]) (vs := [_]) rfl ⟨rfl, trivial⟩ ?_)))));exact gn (by rw [e]; simp; try omega) (by rw [e]; simp [jf]) Ol (LW.step E XLW).toBelow
    ·
     have hL : (uL i.op && i.op != 35) = false := by rw [h35]; simp
     refine zn (ze (srx (mvx rfl (anx rfl (zo ?_)))));have e := go i hA hB hL;refine zm (rs := [.tmp 2]) (vs := [_]) rfl ⟨rfl, trivial⟩ ?_;exact gn (by rw [e]; simp) (by rw [e]; simp [jf]) Ol (LW.step E XLW).toBelow
  ·
   refine zn (ze (zi (srx (mvx rfl (za rfl (vg rfl rfl (vn i.op 992 (by decide)) (za rfl (qw rfl rfl (mvx rfl ?_)))))))));by_cases hu : flN i.op &&& 992 = 0
   ·
    have hL : (uL i.op && i.op != 35) = false := by rw [ygq, hu]; rfl
    refine yi 27 (.bool false) rfl ((by rw [hu]; rfl : (.bool (((flN i.op &&& 992 : Nat) : Int) != 0) : Value) = _)) (za rfl (zc rfl (za rfl (zc rfl (za rfl (zc rfl (za rfl (zx rfl rfl (rnx (ye rfl (zn (ze (srx (mvx rfl (anx rfl (zo ?_))))))))))))))));have e := go i hA hB hL
    refine zm (rs := [.tmp 2]) (vs := [_]) rfl ⟨rfl, trivial⟩ ?_;exact gn (by rw [e]; simp) (by rw [e]; simp [jf]) Ol (LW.step E XLW).toBelow
   ·
    refine yi 27 (.bool true) rfl ((by rw [nat_ne]; simp [hu] : (.bool (((flN i.op &&& 992 : Nat) : Int) != 0) : Value) = _)) (onx rfl (zb Tryz.underlying46 rfl sz3 (by decide) rfl (onx rfl (zh Tryz.underlying3 rfl rfl (HF.on E).here.1.2 rfl (onx rfl (qw rfl rfl (za rfl (zq rfl rfl (rnx (zt rfl (fun h35 => ?_) (fun h35 => ?_)))))))))))
    ·
     have hL : (uL i.op && i.op != 35) = true := by rw [ygq, h35]; simp [hu]
     refine zg (mvx rfl (za rfl (zb Tryz.underlying46 rfl zsx (by decide) rfl (za rfl (zh Tryz.underlying44 rfl rfl (HF.on E).here.1.2 rfl (za rfl (je (news := jf i.l) Tryz.underlying44 inf3 rfl (by decide) rfl Ol rfl (((HF.on E).here.1.1.2).reads (Nat.le_trans hn (Nat.le_trans LW.size E.size))) (zyq) (by unfold maxLen; omega) (by omega) (by exact Nat.le_trans LW.size E.size) ?_)))))))
     intro v0 w13 On En KN;obtain ⟨A3, c3, rfl⟩ := vy On;replace KN : ∀ q9, ((Value.slice A3 (1 + i.l.length) c3).ownBlock) = some q9 → ((Value.slice Aq6 1 cq6).ownBlock) = some q9 ∨ w7.heap.size ≤ q9 := KN
     have HY : Gro (Mut [((Value.slice A3 (1 + i.l.length) c3).ownBlock)]) (Mut [((Value.slice Aq6 1 cq6).ownBlock)]) w7 := (Mut.grow Mut.none_ (fun k e => (KN k e).elim (fun e => Or.inl (Mut.head k e)) (fun h => Or.inr (Nat.le_trans E.size h))));replace E := E.step1 En Mut.head
     have XT := fun q9 (h : (Mut [((Value.slice A3 (1 + i.l.length) c3).ownBlock)]) q9) => (HY q9 h).elim (XLW q9) (fun h => Or.inr (Nat.le_trans LW.size h));replace LW := LW.step E XLW;replace XLW := XT;replace E := erx (Mut [((Value.slice A3 (1 + i.l.length) c3).ownBlock)]) w13;clear HY
     replace Ol : World.ownsRow w13 w.heap.size 3 1 (.slice A3 (1 + i.l.length) c3) (1 + i.l.length) ([.int .i64 i.a] ++ jf i.l) := by
      have e : (([.int .i64 i.a]) : List Value) ++ (jf i.l : List Value) = [.int .i64 i.a] ++ jf i.l := rfl;rw [← e];exact On
     clear On KN En;have e := go i hA hB hL;refine anx rfl (srx (mvx rfl (anx rfl (zo (zm (rs := [.tmp 2]) (vs := [_]) rfl ⟨rfl, trivial⟩ ?_)))));exact gn (by rw [e]; simp; try omega) (by rw [e]; simp [jf]) Ol (LW.step E XLW).toBelow
    ·
     have hL : (uL i.op && i.op != 35) = false := by rw [h35]; simp
     refine zn (ze (srx (mvx rfl (anx rfl (zo ?_)))));have e := go i hA hB hL;refine zm (rs := [.tmp 2]) (vs := [_]) rfl ⟨rfl, trivial⟩ ?_;exact gn (by rw [e]; simp) (by rw [e]; simp [jf]) Ol (LW.step E XLW).toBelow
 ·
  refine zn (ze (zi (srx (mvx rfl (za rfl (vg rfl rfl (vn i.op 8 (by decide)) (za rfl (qw rfl rfl (rnx (zp 18 (.bool (uB i.op)) rfl ((by rw [show (8 : Nat) = 2 ^ 3 from rfl, jo, bitB] : (.bool (((flN i.op &&& 8 : Nat) : Int) != 0) : Value) = _)) (zt rfl (fun hB => ?_) (fun hB => ?_))))))))))))
  ·
   refine zg (mvx rfl (za rfl (zb Tryz.underlying46 rfl sz3 (by decide) rfl (za rfl (zh Tryz.underlying3 rfl rfl (HF.on E).here.2 rfl (za rfl (vb (cs := #[.int .i64 i.b]) Tryz.underlying44 sz3 zr3 (by decide) rfl (by rw [vz]; rfl) ?_)))))));intro gb14 w15 Bb14 Eb14 Gb14
   have Db14_l : Apart (some gb14) ((Value.slice none 0 0).ownBlock) := Apart.of_lt (gk Ol) Gb14;have Dl_b14 := Db14_l.symm;have Gb14 : _ ≤ gb14 := Nat.le_trans E.size Gb14;have GLb14 := Nat.le_trans LW.size Gb14;replace Ol := vi Ol Eb14 NotIn.nil;replace E := E.trans Eb14.no;replace HF := HF.cons (yb Gb14);replace E := E.cons (some gb14)
   replace XLW := Mut.grow XLW (fun k e => Or.inr (Nat.le_trans LW.size ((yb Gb14) k e)));replace HF := HF.on E;replace LW := LW.step E XLW;have SB : ∀ q9, Mut [((Value.slice none 0 0).ownBlock)] q9 → Mut [(some gb14), ((Value.slice none 0 0).ownBlock)] q9 := (Mut.skip (Mut.keep Mut.nil_));replace HF := HF.less SB;replace XLW := fun k h => XLW k (SB k h);clear SB
   replace E := erx (Mut [((Value.slice none 0 0).ownBlock)]) w15;replace HF := HF.and (Per.blkN Bb14 (NotIn.cons Db14_l NotIn.nil))
   refine za rfl (je (news := [.int .i64 i.b]) Tryz.underlying44 inf3 rfl (by decide) rfl Ol rfl (kl (HF.on E).here.2 ((HF.on E).here.2).lt rfl) (by simp [Value.oneCell']) (by unfold maxLen; omega) (by omega) (by exact Nat.le_trans LW.size E.size) ?_);intro v0 w17 On En KN;obtain ⟨Aq16, cq16, rfl⟩ := vy On
   replace KN : ∀ q9, ((Value.slice Aq16 1 cq16).ownBlock) = some q9 → ((Value.slice none 0 0).ownBlock) = some q9 ∨ w15.heap.size ≤ q9 := KN;have HY : Gro (Mut [((Value.slice Aq16 1 cq16).ownBlock)]) (Mut [((Value.slice none 0 0).ownBlock)]) w15 := (Mut.grow Mut.none_ (fun k e => (KN k e).elim (fun e => Or.inl (Mut.head k e)) (fun h => Or.inr (Nat.le_trans E.size h))))
   replace E := E.step1 En Mut.head;replace HF := HF.turn E HY;have XT := fun q9 (h : (Mut [((Value.slice Aq16 1 cq16).ownBlock)]) q9) => (HY q9 h).elim (XLW q9) (fun h => Or.inr (Nat.le_trans LW.size h));replace LW := LW.step E XLW;replace XLW := XT;replace E := erx (Mut [((Value.slice Aq16 1 cq16).ownBlock)]) w17;clear HY
   replace Ol : World.ownsRow w17 w.heap.size 3 1 (.slice Aq16 1 cq16) 1 ([.int .i64 i.b]) := by
    have e : (([]) : List Value) ++ ([.int .i64 i.b] : List Value) = [.int .i64 i.b] := rfl;rw [← e];exact On
   clear On KN En;refine anx rfl (zi (srx (mvx rfl (za rfl (vg rfl rfl (vn i.op 992 (by decide)) (za rfl (qw rfl rfl (mvx rfl ?_))))))));by_cases hu : flN i.op &&& 992 = 0
   ·
    have hL : (uL i.op && i.op != 35) = false := by rw [ygq, hu]; rfl
    refine yi 27 (.bool false) rfl ((by rw [hu]; rfl : (.bool (((flN i.op &&& 992 : Nat) : Int) != 0) : Value) = _)) (za rfl (zc rfl (za rfl (zc rfl (za rfl (zc rfl (za rfl (zx rfl rfl (rnx (ye rfl (zn (ze (srx (mvx rfl (anx rfl (zo ?_))))))))))))))));have e := go i hA hB hL
    refine zm (rs := [.tmp 2]) (vs := [_]) rfl ⟨rfl, trivial⟩ ?_;exact gn (by rw [e]; simp) (by rw [e]; simp [jf]) Ol (LW.step E XLW).toBelow
   ·
    refine yi 27 (.bool true) rfl ((by rw [nat_ne]; simp [hu] : (.bool (((flN i.op &&& 992 : Nat) : Int) != 0) : Value) = _)) (onx rfl (zb Tryz.underlying46 rfl sz3 (by decide) rfl (onx rfl (zh Tryz.underlying3 rfl rfl (HF.on E).here.1.2 rfl (onx rfl (qw rfl rfl (za rfl (zq rfl rfl (rnx (zt rfl (fun h35 => ?_) (fun h35 => ?_)))))))))))
    ·
     have hL : (uL i.op && i.op != 35) = true := by rw [ygq, h35]; simp [hu]
     refine zg (mvx rfl (za rfl (zb Tryz.underlying46 rfl zsx (by decide) rfl (za rfl (zh Tryz.underlying44 rfl rfl (HF.on E).here.1.2 rfl (za rfl (je (news := jf i.l) Tryz.underlying44 inf3 rfl (by decide) rfl Ol rfl (((HF.on E).here.1.1.2).reads (Nat.le_trans hn (Nat.le_trans LW.size E.size))) (zyq) (by unfold maxLen; omega) (by omega) (by exact Nat.le_trans LW.size E.size) ?_)))))))
     intro v0 w18 On En KN;obtain ⟨A3, c3, rfl⟩ := vy On;replace KN : ∀ q9, ((Value.slice A3 (1 + i.l.length) c3).ownBlock) = some q9 → ((Value.slice Aq16 1 cq16).ownBlock) = some q9 ∨ w17.heap.size ≤ q9 := KN
     have HY : Gro (Mut [((Value.slice A3 (1 + i.l.length) c3).ownBlock)]) (Mut [((Value.slice Aq16 1 cq16).ownBlock)]) w17 := (Mut.grow Mut.none_ (fun k e => (KN k e).elim (fun e => Or.inl (Mut.head k e)) (fun h => Or.inr (Nat.le_trans E.size h))));replace E := E.step1 En Mut.head
     have XT := fun q9 (h : (Mut [((Value.slice A3 (1 + i.l.length) c3).ownBlock)]) q9) => (HY q9 h).elim (XLW q9) (fun h => Or.inr (Nat.le_trans LW.size h));replace LW := LW.step E XLW;replace XLW := XT;replace E := erx (Mut [((Value.slice A3 (1 + i.l.length) c3).ownBlock)]) w18;clear HY
     replace Ol : World.ownsRow w18 w.heap.size 3 1 (.slice A3 (1 + i.l.length) c3) (1 + i.l.length) ([.int .i64 i.b] ++ jf i.l) := by
      have e : (([.int .i64 i.b]) : List Value) ++ (jf i.l : List Value) = [.int .i64 i.b] ++ jf i.l := rfl;rw [← e];exact On
     clear On KN En;have e := go i hA hB hL;refine anx rfl (srx (mvx rfl (anx rfl (zo (zm (rs := [.tmp 2]) (vs := [_]) rfl ⟨rfl, trivial⟩ ?_)))));exact gn (by rw [e]; simp; try omega) (by rw [e]; simp [jf]) Ol (LW.step E XLW).toBelow
    ·
     have hL : (uL i.op && i.op != 35) = false := by rw [h35]; simp
     refine zn (ze (srx (mvx rfl (anx rfl (zo ?_)))));have e := go i hA hB hL;refine zm (rs := [.tmp 2]) (vs := [_]) rfl ⟨rfl, trivial⟩ ?_;exact gn (by rw [e]; simp) (by rw [e]; simp [jf]) Ol (LW.step E XLW).toBelow
  ·
   refine zn (ze (zi (srx (mvx rfl (za rfl (vg rfl rfl (vn i.op 992 (by decide)) (za rfl (qw rfl rfl (mvx rfl ?_)))))))));by_cases hu : flN i.op &&& 992 = 0
   ·
    have hL : (uL i.op && i.op != 35) = false := by rw [ygq, hu]; rfl
    refine yi 27 (.bool false) rfl ((by rw [hu]; rfl : (.bool (((flN i.op &&& 992 : Nat) : Int) != 0) : Value) = _)) (za rfl (zc rfl (za rfl (zc rfl (za rfl (zc rfl (za rfl (zx rfl rfl (rnx (ye rfl (zn (ze (srx (mvx rfl (anx rfl (zo ?_))))))))))))))));have e := go i hA hB hL
    refine zm (rs := [.tmp 2]) (vs := [_]) rfl ⟨rfl, trivial⟩ ?_;exact gn (by rw [e]; simp) (by rw [e]; simp [jf]) Ol (LW.step E XLW).toBelow
   ·
    refine yi 27 (.bool true) rfl ((by rw [nat_ne]; simp [hu] : (.bool (((flN i.op &&& 992 : Nat) : Int) != 0) : Value) = _)) (onx rfl (zb Tryz.underlying46 rfl sz3 (by decide) rfl (onx rfl (zh Tryz.underlying3 rfl rfl (HF.on E).here.2 rfl (onx rfl (qw rfl rfl (za rfl (zq rfl rfl (rnx (zt rfl (fun h35 => ?_) (fun h35 => ?_)))))))))))
    ·
     have hL : (uL i.op && i.op != 35) = true := by rw [ygq, h35]; simp [hu]
     refine zg (mvx rfl (za rfl (zb Tryz.underlying46 rfl zsx (by decide) rfl (za rfl (zh Tryz.underlying44 rfl rfl (HF.on E).here.2 rfl (za rfl (je (news := jf i.l) Tryz.underlying44 inf3 rfl (by decide) rfl Ol rfl (((HF.on E).here.1.2).reads (Nat.le_trans hn (Nat.le_trans LW.size E.size))) (zyq) (by unfold maxLen; omega) (by omega) (by exact Nat.le_trans LW.size E.size) ?_)))))))
     intro v0 w19 On En KN;obtain ⟨A3, c3, rfl⟩ := vy On;replace KN : ∀ q9, ((Value.slice A3 (0 + i.l.length) c3).ownBlock) = some q9 → ((Value.slice none 0 0).ownBlock) = some q9 ∨ w3.heap.size ≤ q9 := KN
     have HY : Gro (Mut [((Value.slice A3 (0 + i.l.length) c3).ownBlock)]) (Mut [((Value.slice none 0 0).ownBlock)]) w2 := (Mut.grow Mut.none_ (fun k e => (KN k e).elim (fun e => Or.inl (Mut.head k e)) (fun h => Or.inr (Nat.le_trans E.size h))));replace E := E.step1 En Mut.head
     have XT := fun q9 (h : (Mut [((Value.slice A3 (0 + i.l.length) c3).ownBlock)]) q9) => (HY q9 h).elim (XLW q9) (fun h => Or.inr (Nat.le_trans LW.size h));replace LW := LW.step E XLW;replace XLW := XT;replace E := erx (Mut [((Value.slice A3 (0 + i.l.length) c3).ownBlock)]) w19;clear HY
     replace Ol : World.ownsRow w19 w.heap.size 3 1 (.slice A3 (0 + i.l.length) c3) (0 + i.l.length) ([] ++ jf i.l) := by
      have e : (([]) : List Value) ++ (jf i.l : List Value) = [] ++ jf i.l := rfl;rw [← e];exact On
     clear On KN En;have e := go i hA hB hL;refine anx rfl (srx (mvx rfl (anx rfl (zo (zm (rs := [.tmp 2]) (vs := [_]) rfl ⟨rfl, trivial⟩ ?_)))));exact gn (by rw [e]; simp; try omega) (by rw [e]; simp [jf]) Ol (LW.step E XLW).toBelow
    ·
     have hL : (uL i.op && i.op != 35) = false := by rw [h35]; simp
     refine zn (ze (srx (mvx rfl (anx rfl (zo ?_)))));have e := go i hA hB hL;refine zm (rs := [.tmp 2]) (vs := [_]) rfl ⟨rfl, trivial⟩ ?_;exact gn (by rw [e]; simp) (by rw [e]; simp [jf]) Ol (LW.step E XLW).toBelow
end
section
variable (w : World) (i : LIns) (B : Option Addr) (c : Nat) (p : Int) (hp : I64 p)
include hp
end
section
variable (w : World)
end
end Go.Proofs.YtmjemknimipnjaaGreatDoor
namespace Go.Proofs.YtmjemknimipnjaaGreatDoor
open Go.RowKit
set_option maxRecDepth 100000
instance decI64 (x : Int) : Decidable (I64 x) := by unfold I64; infer_instance
def insCs (is : List (LIns × Option Addr × Nat)) : List Value := is.flatMap fun x => insV x.1 x.2.1 x.2.2
theorem insCs_at : ∀ {is : List (LIns × Option Addr × Nat)} {j i : Nat} {x : LIns × Option Addr × Nat} {v : Value}, is[j]? = some x → (insV x.1 x.2.1 x.2.2)[i]? = some v → (insCs is)[j * 7 + i]? = some v
 | [], _, _, _, _, h, _ => by cases h
 | y :: is, 0, i, x, v, h, hv => by
  obtain rfl := Option.some.inj h;show (insV _ _ _ ++ insCs is)[_]? = _
  have hi : i < (insV y.1 y.2.1 y.2.2).length := (List.getElem?_eq_some_iff.1 hv).1;rw [List.getElem?_append_left (by omega), Nat.zero_mul, Nat.zero_add, hv]
 | y :: is, j + 1, i, x, v, h, hv => by
  show (insV _ _ _ ++ insCs is)[_]? = _
  have hl : (insV y.1 y.2.1 y.2.2).length = 7 := rfl;rw [List.getElem?_append_right (by omega), hl, show (j + 1) * 7 + i - 7 = j * 7 + i by omega];exact insCs_at (by simpa using h) hv
theorem insA_of {w : World} {n g : Nat} {is : List (LIns × Option Addr × Nat)} (hg : g < n) (hc : ∀ j v, (insCs is)[j]? = some v → w.cell? ⟨g, j, none⟩ = some v) (hl : 72 * is.length ≤ 140737488351232) (hi : ∀ x ∈ is, InsI x.1 ∧ 8 * x.1.l.length ≤ 140737488351232 ∧ IntsA n w x.2.1 x.1.l) : InsA n w (some ⟨g, 0, none⟩) (is.map (·.1)) := by
 refine ⟨by rw [List.length_map]; exact hl, fun _ => ⟨g, 0, rfl, hg, fun j x hx => ?_⟩⟩;rw [List.getElem?_map] at hx;cases hy : is[j]? with
 | none => rw [hy] at hx; cases hx
 | some y =>
  rw [hy] at hx;obtain rfl := Option.some.inj hx;obtain ⟨h1, h2, h3⟩ := hi y (List.mem_of_getElem? hy);refine ⟨h1, y.2.1, y.2.2, h2, h3, fun i v hv => ?_⟩;rw [Nat.zero_add];exact hc _ _ (insCs_at hy hv)
theorem IntsA.nil (n : Nat) (w : World) (A : Option Addr) : IntsA n w A [] := ⟨by decide, fun x h => (by cases h), fun h => absurd rfl h⟩
theorem RegsA.nil (n : Nat) (w : World) (A : Option Addr) : RegsA n w A [] := ⟨by decide, fun x h => (by cases h), fun h => absurd rfl h⟩
theorem StrsA.nil (n : Nat) (w : World) (A : Option Addr) : StrsA n w A [] := ⟨by decide, fun x h => (by cases h), fun h => absurd rfl h⟩
theorem ConsA.nil (n : Nat) (w : World) (A : Option Addr) : ConsA n w A [] := ⟨by decide, fun x h => (by cases h), fun h => absurd rfl h⟩
theorem InsA.nil (n : Nat) (w : World) (A : Option Addr) : InsA n w A [] := ⟨by decide, fun h => absurd rfl h⟩
theorem cons_one {w : World} {n g : Nat} {k : Int} {s : ByteArray} (hg : g < n) (h : Blk w g 50 #[.int .i64 k, .string s]) (hk : I64 k) (hs : s.size ≤ maxLen) : ConsA n w (some ⟨g, 0, none⟩) [(k, s)] := by
 refine ⟨by rw [List.length_singleton]; decide, fun x hx => ?_, fun _ => ⟨g, 0, rfl, hg, fun j x hx => ?_⟩⟩
 · rw [List.mem_singleton] at hx; subst hx; exact ⟨hk, hs⟩
 · match j, hx with
   | 0, hx =>
    obtain rfl := Option.some.inj hx;intro i v hv;show w.cell? ⟨g, 0 + 0 * 2 + i, none⟩ = _
    rw [show 0 + 0 * 2 + i = i by omega, h.cell, List.getElem?_toArray];exact hv
   | j + 1, hx => cases hx
def thrP (g3 g5 : Nat) : Pl := ⟨none, 0, some ⟨g3, 0, none⟩, 1, some ⟨g5, 0, none⟩, 4, none, 0⟩
def ThrB (w : World) (g3 g5 : Nat) : Prop := Blk w g3 50 #[.int .i64 1, .string ⟨#[49]⟩] ∧ Blk w g5 46 (insCs (thrF.ins.map fun i => (i, none, 0))).toArray
theorem Per.thrB {X : Nat → Prop} {w : World} {g3 g5 : Nat} (h : ThrB w g3 g5) (h3 : ¬ X g3) (h5 : ¬ X g5) : Per X w (fun z => ThrB z g3 g5) := (Per.blk h.1 h3).and (Per.blk h.2 h5)
theorem thr_mem {w : World} {g3 g5 : Nat} (h3 : Blk w g3 50 #[.int .i64 1, .string ⟨#[49]⟩]) (h5 : Blk w g5 46 (insCs (thrF.ins.map fun i => (i, none, 0))).toArray) : FnA w.heap.size w (thrP g3 g5) thrF := by
 refine ⟨by decide, by decide, by decide, by decide, by decide, StrsA.nil _ _ _, cons_one h3.lt h3 (by decide) (by decide), ?_, RegsA.nil _ _ _, Nat.le_refl _⟩;have h := insA_of (w := w) (n := w.heap.size) (g := g5) (is := thrF.ins.map fun i => (i, none, 0)) h5.lt (fun j v hv => by rw [h5.cell, List.getElem?_toArray]; exact hv) (by decide) (fun x hx => by
  simp only [thrF, List.map_cons, List.map_nil, List.mem_cons, List.not_mem_nil, or_false] at hx
  rcases hx with rfl | rfl | rfl | rfl <;> exact ⟨⟨by decide, by decide, by decide, by decide, by decide, by decide⟩, by decide, IntsA.nil _ _ _⟩)
 exact h
theorem ThrB.fn {w : World} {g3 g5 : Nat} (h : ThrB w g3 g5) : FnA w.heap.size w (thrP g3 g5) thrF := thr_mem h.1 h.2
end Go.Proofs.YtmjemknimipnjaaGreatDoor
