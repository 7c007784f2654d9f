/- Texts of this claim. -/
import Derived.Test.YtjdcjdohghkcgaaGreatDoorV10
namespace Go.Proofs.YtjdcjdohghkcgaaGreatDoor
open Go.RowKit
set_option maxRecDepth 100000
section
variable {P : Program} {N : Nat} {ops : Array Oper} {Q : Exit → Act → World → Prop} {σ : Env} {w : World} {ty : TypeId} {pos : String} {af : Array Edge} {dst : Option Nat} {Post : Value → World → Prop}
theorem ow_mkI {T : TypeId} {x : Operand} {v : Value} (hc : P.concrete T = true) (hx : ev σ x = some v) (k : Post (.iface T v) w) : OW P N ops Q ⟨dst, .makeInterface T x, ty, pos, af, none⟩ σ w Post :=
 yy (fun ρ ha => by
  have h := run_makeInterface (P := P) w T v hc;simp only [execOp, ha hx, Sem.run_bind, h, Result.andThen_ok, Sem.run_pure]) k
end
/-! ### loops -/
inductive Ends {α : Type} (done : α → Bool) (step : α → α) : α → α → Prop
 | stop {s : α} : done s = true → Ends done step s s
 | next {s t : α} : done s = false → Ends done step (step s) t → Ends done step s t
noncomputable def qz {α : Type} (done : α → Bool) (step : α → α) (s : α) : α := @Classical.epsilon α ⟨s⟩ (Ends done step s)
theorem vj {α : Type} {done : α → Bool} {step : α → α} {s : α} (h : done s = false) : qz done step s = qz done step (step s) := by
 have e : Ends done step s = Ends done step (step s) := funext fun t => propext ⟨fun h' => by
  cases h' with
  | stop h1 => rw [h] at h1; cases h1
  | next _ h1 => exact h1, fun h' => .next h h'⟩
 unfold qz;rw [e]
theorem qk {α : Type} {done : α → Bool} {step : α → α} {s : α} (h : done s = true) : qz done step s = s := by
 have h1 : Ends done step s (qz done step s) := @Classical.epsilon_spec _ (Ends done step s) ⟨s, .stop h⟩;generalize qz done step s = t at h1
 cases h1 with
 | stop _ => rfl
 | next h2 _ => rw [h] at h2; cases h2
section
variable (w : World)
/-! ### package real's -/
section
variable (a b : Nat) (ha : a < 18446744073709551616) (hb : b < 18446744073709551616) (hz : isZ b = false)
include ha hb hz
section
variable (hf : rg a < 9218868437227405312) (hn : isN b = false)
include hf hn
end
end
end
end Go.Proofs.YtjdcjdohghkcgaaGreatDoor
namespace Go.Proofs.YtjdcjdohghkcgaaGreatDoor
open Ieee
set_option maxRecDepth 100000
def wholeOr (z : Nat) : Prop := rg z = 9218868437227405312 ∨ (rg z < 9218868437227405312 ∧ isWh (rg z))
theorem num_or {d : Nat} (h : isN d = false) : rg d < 9218868437227405312 ∨ rg d = 9218868437227405312 := by have := of_decide_eq_false h; omega
section
variable {a b : Nat} (ha : a < 18446744073709551616) (hf : rg a < 9218868437227405312) (hb : b < 18446744073709551616) (hn : isN b = false) (h0 : rg b ≠ 0)
include ha hf hn h0
include hb
end
end Go.Proofs.YtjdcjdohghkcgaaGreatDoor
namespace Go.Proofs.YtjdcjdohghkcgaaGreatDoor
open Go.RowKit Ieee
set_option maxRecDepth 100000
structure Sgn (n : Bool) (b : Nat) : Prop where
 num : isN b = false
 sg : ng b = n
 lt : b < 18446744073709551616
theorem mul_sgn {a b : Nat} {n : Bool} (ha : Sgn n a) (hb : rg b < 9218868437227405312) (h0 : rg b ≠ 0) (hs : ng b = false) : ∃ z, fop .mul a b = some z ∧ Sgn n z := by
 have key : ∃ z, fop .mul a b = some z ∧ ng z = (ng a ^^ ng b) := by
  rcases num_or ha.num with hA | hA
  · simp only [fop, Format.mul, gf hA, gf hb, Datum.product]
    exact ⟨_, rfl, znk _ _ _⟩
  · simp only [fop, Format.mul, zaq hA, gf hb, Datum.product]
    rw [if_neg (mg_pos h0)];exact ⟨_, rfl, (gi _ _ (by rw [c3]; decide)).2.1⟩
 obtain ⟨z, h1, h2⟩ := key;exact ⟨z, h1, (qak h1).1, by rw [h2, ha.sg, hs, Bool.xor_false], (qak h1).2⟩
theorem quo_sgn {a b : Nat} {n : Bool} (ha : Sgn n a) (hb : rg b < 9218868437227405312) (h0 : rg b ≠ 0) (hs : ng b = false) : ∃ z, fop .quo a b = some z ∧ Sgn n z := by
 obtain ⟨z, h1, h2⟩ := quo_fin ha.num (yjk hb) h0 (.inr hb);exact ⟨z, h1, (qak h1).1, by rw [h2, ha.sg, hs, Bool.xor_false], (qak h1).2⟩
end Go.Proofs.YtjdcjdohghkcgaaGreatDoor
namespace Go.Proofs.YtjdcjdohghkcgaaGreatDoor
open Go.RowKit
set_option maxRecDepth 100000
section
variable {P : Program} {Q : Exit → Act → World → Prop} {a : Act} {w : World} {body : Code}
theorem step_scope {b : Frame} {k : List Item} {cs : List Frame} : step P (lone (b.at a (.code (.scope body) :: k)) cs w) = .next (lone (b.at a (.code body :: .inScope body :: k)) cs w) :=
 step_lone_go (by simp [stepG, stepG.exec, Frame.at])
theorem ygx {b : Frame} {k : List Item} {cs : List Frame} : step P (lone (b.at a (.inScope body :: k)) cs w) = .next (lone (b.at a k) cs w) :=
 step_lone_go (by simp [stepG, stepG.exec, Frame.at])
def ki (P : Program) (body : Code) (Q : Exit → Act → World → Prop) : Nat → Exit → Act → World → Prop
 | 0, .goto l, a, w => findLabel body l = none ∧ Q (.goto l) a w
 | n + 1, .goto l, a, w => (findLabel body l = none ∧ Q (.goto l) a w) ∨ ∃ rest, findLabel body l = some rest ∧ rest.wp P (ki P body Q n) a w
 | _, e, a, w => Q e a w
theorem scope_key : ∀ (n : Nat) (c : Code) (a : Act) (w : World), c.wp P (ki P body Q n) a w → ∀ b k cs, ∃ e a' w', Q e a' w' ∧ Arrives P (lone (b.at a (.code c :: .inScope body :: k)) cs w) b k cs e a' w' := by
 intro n;induction n with
 | zero =>
  intro c a w h b k cs;obtain ⟨e, a₁, w₁, hq, harr⟩ := h b (.inScope body :: k) cs;cases e with
  | normal => exact ⟨.normal, a₁, w₁, hq, Steps.trans harr (.one ygx)⟩
  | exit id => exact ⟨.exit id, a₁, w₁, hq, fun k' hk => harr k' (by simp [exitTo, hk])⟩
  | goto l => exact ⟨_, a₁, w₁, hq.2, fun k' hk => harr k' (by simp [gotoIn, hq.1, hk])⟩
  | ret => exact ⟨_, a₁, w₁, hq, harr⟩
  | panic ch => exact ⟨_, a₁, w₁, hq, harr⟩
  | outgrown => exact ⟨_, a₁, w₁, hq, harr⟩
 | succ n ih =>
  intro c a w h b k cs;obtain ⟨e, a₁, w₁, hq, harr⟩ := h b (.inScope body :: k) cs;cases e with
  | normal => exact ⟨.normal, a₁, w₁, hq, Steps.trans harr (.one ygx)⟩
  | exit id => exact ⟨.exit id, a₁, w₁, hq, fun k' hk => harr k' (by simp [exitTo, hk])⟩
  | goto l =>
   rcases hq with ⟨h1, hq⟩ | ⟨rest, h1, h2⟩
   · exact ⟨_, a₁, w₁, hq, fun k' hk => harr k' (by simp [gotoIn, h1, hk])⟩
   · obtain ⟨e2, a2, w2, hq2, harr2⟩ := ih rest a₁ w₁ h2 b k cs;exact ⟨e2, a2, w2, hq2, .of_steps (harr _ (by simp [gotoIn, h1])) harr2⟩
  | ret => exact ⟨_, a₁, w₁, hq, harr⟩
  | panic ch => exact ⟨_, a₁, w₁, hq, harr⟩
  | outgrown => exact ⟨_, a₁, w₁, hq, harr⟩
theorem wp_scope (n : Nat) (h : body.wp P (ki P body Q n) a w) : (Code.scope body).wp P Q a w := fun b k cs =>
 let ⟨e, a', w', q, r⟩ := scope_key n body a w h b k cs
 ⟨e, a', w', q, .of_steps (.one step_scope) r⟩
end
section
variable {P : Program} {N : Nat} {Q : Exit → Act → World → Prop} {σ : Env} {w : World} {body : Code} {n : Nat}
theorem cw_scope (n : Nat) (h : CW P N body (ki P body Q n) σ w) : CW P N (.scope body) Q σ w := fun a ha => wp_scope n (h a ha)
theorem gm (h : EW N Q .ret σ w) : EW N (ki P body Q n) .ret σ w := by cases n <;> exact h
theorem ew_scope_goto {l : Nat} {rest : Code} (hl : findLabel body l = some rest) (h : CW P N rest (ki P body Q n) σ w) : EW N (ki P body Q (n + 1)) (.goto l) σ w := fun a ha => .inr ⟨rest, hl, h a ha⟩
theorem ziz {l : Nat} (h : EW N Q (.goto l) σ w) : CW P N (.goto l) Q σ w := fun a ha => wp_goto (h a ha)
theorem cw_label {l : Nat} (h : EW N Q .normal σ w) : CW P N (.label l) Q σ w := fun a ha => wp_label (h a ha)
theorem gl {K : Act → World → Prop} {l : Nat} (h : EW N Q (.goto l) σ w) : EW N (Exit.then K Q) (.goto l) σ w := h
end
end Go.Proofs.YtjdcjdohghkcgaaGreatDoor
namespace Go.Proofs.YtjdcjdohghkcgaaGreatDoor
open Go.RowKit
set_option maxRecDepth 100000
theorem ja {α : Type} {done : α → Bool} {step : α → α} (I : α → Prop) (m : α → Nat) (hs : ∀ s, I s → done s = false → I (step s) ∧ m (step s) < m s) {s : α} (h : I s) :
 I (qz done step s) ∧ done (qz done step s) = true := by
 generalize hn : m s = n
 induction n using Nat.strongRecOn generalizing s with
 | _ n ih =>
  cases hd : done s with
  | true => rw [qk hd]; exact ⟨h, hd⟩
  | false =>
   rw [vj hd];obtain ⟨h1, h2⟩ := hs s h hd;exact ih (m (step s)) (by omega) h1 rfl
structure Dec where
 d : List Nat
 nd : Nat
 dp : Int
 neg : Bool
 tr : Bool
def dg (l : List Nat) (i : Nat) : Nat := l.getD i 48
theorem zvx {l : List Nat} {j b i : Nat} (hj : j < l.length) : dg (l.set j b) i = if i = j then b else dg l i := by
 unfold dg;rw [List.getD_eq_getElem?_getD, List.getD_eq_getElem?_getD, List.getElem?_set];split
 · rename_i h; subst h; rw [if_pos rfl]; simp [hj]
 · rename_i h; rw [if_neg (fun e => h e.symm)]
theorem dg_at {l : List Nat} {j : Nat} (hj : j < l.length) : l[j]? = some (dg l j) := by
 unfold dg;rw [List.getD_eq_getElem?_getD, List.getElem?_eq_getElem hj]; rfl
def decL (t : Dec) : List Value := t.d.map (fun b => (.int .u8 ((b : Nat) : Int) : Value)) ++ [.int .i64 ((t.nd : Nat) : Int), .int .i64 t.dp, .bool t.neg, .bool t.tr]
def qb (t : Dec) : Array Value := (decL t).toArray
section
variable {t : Dec} (h : t.d.length = 800)
include h
theorem dec_size : (qb t).size = 804 := by simp [qb, decL, h]
theorem decL_at {j : Nat} (hj : j < 800) : (decL t)[j]? = some (.int .u8 ((dg t.d j : Nat) : Int)) := by
 unfold decL;rw [List.getElem?_append_left (by simp [h]; exact hj), List.getElem?_map, dg_at (by rw [h]; exact hj)]; rfl
theorem dec_at {j : Nat} (hj : j < 800) : (qb t)[j]? = some (.int .u8 ((dg t.d j : Nat) : Int)) := by
 unfold qb;rw [List.getElem?_toArray];exact decL_at h hj
theorem zzq {j : Nat} : (decL t)[800 + j]? = ([.int .i64 ((t.nd : Nat) : Int), .int .i64 t.dp, .bool t.neg, .bool t.tr] : List Value)[j]? := by
 unfold decL;rw [List.getElem?_append_right (by simp [h])];simp [h]
theorem dec_nd : (qb t)[800]? = some (.int .i64 ((t.nd : Nat) : Int)) := by unfold qb; rw [List.getElem?_toArray]; exact zzq h (j := 0)
theorem dec_dp : (qb t)[801]? = some (.int .i64 t.dp) := by unfold qb; rw [List.getElem?_toArray]; exact zzq h (j := 1)
theorem dec_neg : (qb t)[802]? = some (.bool t.neg) := by unfold qb; rw [List.getElem?_toArray]; exact zzq h (j := 2)
theorem dec_tr : (qb t)[803]? = some (.bool t.tr) := by unfold qb; rw [List.getElem?_toArray]; exact zzq h (j := 3)
theorem set_d {j b : Nat} (hj : j < 800) : (qb t).setIfInBounds j (.int .u8 ((b : Nat) : Int)) = qb { t with d := t.d.set j b } := by
 unfold qb decL;rw [List.setIfInBounds_toArray, List.set_append_left _ _ (by simp [h]; exact hj), List.map_set]
theorem ygq {j : Nat} {v : Value} : (qb t).setIfInBounds (800 + j) v = (t.d.map (fun b => (.int .u8 ((b : Nat) : Int) : Value)) ++ ([.int .i64 ((t.nd : Nat) : Int), .int .i64 t.dp, .bool t.neg, .bool t.tr] : List Value).set j v).toArray := by
 unfold qb decL;rw [List.setIfInBounds_toArray, List.set_append_right _ _ (by simp [h])];simp [h]
theorem yok (n : Nat) : (qb t).setIfInBounds 800 (.int .i64 ((n : Nat) : Int)) = qb { t with nd := n } := ygq h (j := 0)
theorem ydz (p : Int) : (qb t).setIfInBounds 801 (.int .i64 p) = qb { t with dp := p } := ygq h (j := 1)
theorem set_neg (b : Bool) : (qb t).setIfInBounds 802 (.bool b) = qb { t with neg := b } := ygq h (j := 2)
theorem yoq (b : Bool) : (qb t).setIfInBounds 803 (.bool b) = qb { t with tr := b } := ygq h (j := 3)
end
attribute [irreducible] qb
structure DecI (t : Dec) : Prop where
 len : t.d.length = 800
 hn : t.nd ≤ 800
 dig : ∀ i, i < t.nd → 48 ≤ dg t.d i ∧ dg t.d i ≤ 57
 lead : 0 < t.nd → 49 ≤ dg t.d 0
/-! ### noughts behind -/
def gu (d : List Nat) : Nat → Nat
 | 0 => 0
 | n + 1 => if dg d n = 48 then gu d n else n + 1
theorem trimN_le (d : List Nat) : ∀ n, gu d n ≤ n
 | 0 => Nat.le_refl _
 | n + 1 => by
  unfold gu;split
  · exact Nat.le_trans (trimN_le d n) (Nat.le_succ n)
  · exact Nat.le_refl _
theorem trimN_pos {d : List Nat} (h : 49 ≤ dg d 0) : ∀ {n}, 0 < n → 0 < gu d n
 | 0, h0 => absurd h0 (Nat.lt_irrefl _)
 | n + 1, _ => by
  unfold gu;split
  · rename_i h1
    rcases Nat.eq_zero_or_pos n with h2 | h2
    · subst h2; omega
    · exact trimN_pos h h2
  · exact Nat.succ_pos _
def yfq (t : Dec) : Dec := { t with nd := gu t.d t.nd, dp := if gu t.d t.nd = 0 then 0 else t.dp }
theorem ytv {t : Dec} (h : DecI t) : DecI (yfq t) := by
 have h1 := trimN_le t.d t.nd;have h2 := h.hn;exact ⟨h.len, by show gu t.d t.nd ≤ 800; omega, fun i hi => h.dig i (Nat.lt_of_lt_of_le hi h1), fun h0 => h.lead (Nat.lt_of_lt_of_le h0 h1)⟩
theorem ynz {t : Dec} (h : DecI t) (h0 : 0 < t.nd) : 0 < (yfq t).nd := trimN_pos (h.lead h0) h0
theorem trimD_dp {t : Dec} (h : DecI t) (h0 : 0 < t.nd) : (yfq t).dp = t.dp := by
 have := ynz h h0;show (if gu t.d t.nd = 0 then 0 else t.dp) = t.dp
 rw [if_neg (by intro e; rw [show (yfq t).nd = gu t.d t.nd from rfl, e] at this; omega)]
/-! ### the shift to the right -/
structure RsS where
 r : Nat
 n : Nat
def zmq (t : Dec) (k : Nat) (s : RsS) : Bool := decide (s.n / 2 ^ k ≠ 0 ∨ t.nd ≤ s.r)
def yyv (t : Dec) (s : RsS) : RsS := ⟨s.r + 1, s.n * 10 + (dg t.d s.r - 48)⟩
def zgz (k : Nat) (s : RsS) : Bool := decide (s.n / 2 ^ k ≠ 0)
def ygk (s : RsS) : RsS := ⟨s.r + 1, s.n * 10⟩
noncomputable def rsA (t : Dec) (k : Nat) : RsS := qz (zmq t k) (yyv t) ⟨0, 0⟩
noncomputable def rsB (t : Dec) (k : Nat) : RsS := qz (zgz k) ygk (rsA t k)
structure RsC where
 d : List Nat
 r : Nat
 w : Nat
 n : Nat
def zwv (t : Dec) (s : RsC) : Bool := decide (t.nd ≤ s.r)
def yyk (k : Nat) (s : RsC) : RsC := ⟨s.d.set s.w (s.n / 2 ^ k + 48), s.r + 1, s.w + 1, s.n % 2 ^ k * 10 + (dg s.d s.r - 48)⟩
noncomputable def rsC (t : Dec) (k : Nat) : RsC := qz (zwv t) (yyk k) ⟨t.d, (rsB t k).r, 0, (rsB t k).n⟩
structure RsE where
 d : List Nat
 w : Nat
 n : Nat
 tr : Bool
def xv (s : RsE) : Bool := decide (s.n = 0)
def gq (k : Nat) (s : RsE) : RsE :=
 if s.w < 800 then ⟨s.d.set s.w (s.n / 2 ^ k + 48), s.w + 1, s.n % 2 ^ k * 10, s.tr⟩
 else ⟨s.d, s.w, s.n % 2 ^ k * 10, if 0 < s.n / 2 ^ k then true else s.tr⟩
noncomputable def rsE (t : Dec) (k : Nat) : RsE := qz xv (gq k) ⟨(rsC t k).d, (rsC t k).w, (rsC t k).n, t.tr⟩
noncomputable def jw (t : Dec) (k : Nat) : Dec := yfq { t with d := (rsE t k).d, nd := (rsE t k).w, dp := t.dp - (((rsB t k).r : Nat) - 1), tr := (rsE t k).tr }
structure RsAI (t : Dec) (k : Nat) (s : RsS) : Prop where
 hr : s.r ≤ t.nd
 hn : s.n < 10 * 2 ^ k
 zero : s.r = 0 → s.n = 0
 pos : 0 < s.r → 0 < s.n
 one : s.r = 1 → s.n = dg t.d 0 - 48
theorem rsA_keeps {t : Dec} {k : Nat} {s : RsS} (ht : DecI t) (h : RsAI t k s) (hd : zmq t k s = false) : RsAI t k (yyv t s) ∧ s.n < 2 ^ k ∧ s.r < t.nd := by
 have hd := of_decide_eq_false hd;have h1 : s.n / 2 ^ k = 0 := Classical.byContradiction fun e => hd (.inl e);have h2 : s.r < t.nd := Nat.lt_of_not_le fun e => hd (.inr e);have hp : 0 < 2 ^ k := Nat.two_pow_pos k;have h3 : s.n < 2 ^ k := (Nat.div_eq_zero_iff_lt hp).1 h1;have hg := ht.dig s.r h2;refine ⟨⟨h2, ?_, fun e => ?_, fun _ => ?_, fun e => ?_⟩, h3, h2⟩
 · show s.n * 10 + (dg t.d s.r - 48) < 10 * 2 ^ k; omega
 · exact absurd e (Nat.succ_ne_zero _)
 · show 0 < s.n * 10 + (dg t.d s.r - 48)
   rcases Nat.eq_zero_or_pos s.r with h4 | h4
   · rw [h4]; have := ht.lead (by omega); omega
   · have := h.pos h4; omega
 · have h4 : s.r = 0 := by have : s.r + 1 = 1 := e; omega
   show s.n * 10 + (dg t.d s.r - 48) = dg t.d 0 - 48
   rw [h.zero h4, h4]; omega
theorem rsA_start (t : Dec) (k : Nat) : RsAI t k ⟨0, 0⟩ := ⟨Nat.zero_le _, by have := Nat.two_pow_pos k; show 0 < 10 * 2 ^ k; omega, fun _ => rfl, fun h => absurd h (Nat.lt_irrefl _), fun h => absurd h (by decide)⟩
theorem rsA_ends {t : Dec} (k : Nat) (ht : DecI t) : RsAI t k (rsA t k) ∧ zmq t k (rsA t k) = true := by
 refine ja (RsAI t k) (fun s => t.nd - s.r) (fun s h hd => ?_) (rsA_start t k);obtain ⟨h1, _, h2⟩ := rsA_keeps ht h hd;exact ⟨h1, by show t.nd - (s.r + 1) < t.nd - s.r; omega⟩
theorem rsA_some {t : Dec} {k : Nat} (ht : DecI t) (h0 : 0 < t.nd) : 0 < (rsA t k).r := by
 obtain ⟨h1, h2⟩ := rsA_ends k ht;rcases Nat.eq_zero_or_pos (rsA t k).r with h | h
 · have h2 := of_decide_eq_true h2;rw [h1.zero h, h, Nat.zero_div] at h2;omega
 · exact h
structure RsBI (t : Dec) (k : Nat) (s : RsS) : Prop where
 hn : s.n < 10 * 2 ^ k
 pos : 0 < s.n
 hr : 0 < s.r
 one : s.r = 1 → s.n = dg t.d 0 - 48
 far : s.r ≤ t.nd ∨ 10 ^ (s.r - t.nd) ≤ s.n
theorem rsB_keeps {t : Dec} {k : Nat} {s : RsS} (h : RsBI t k s) (hd : zgz k s = false) (hx : t.nd ≤ s.r) : RsBI t k (ygk s) ∧ s.n < 2 ^ k := by
 have hd := of_decide_eq_false hd;have hp : 0 < 2 ^ k := Nat.two_pow_pos k;have h3 : s.n < 2 ^ k := (Nat.div_eq_zero_iff_lt hp).1 (Classical.byContradiction fun e => hd e);have := h.pos;have := h.hr;refine ⟨⟨by show s.n * 10 < 10 * 2 ^ k; omega, by show 0 < s.n * 10; omega, Nat.succ_pos _, fun e => ?_, .inr ?_⟩, h3⟩
 · have : s.r + 1 = 1 := e; omega
 · show 10 ^ (s.r + 1 - t.nd) ≤ s.n * 10
   have e : s.r + 1 - t.nd = (s.r - t.nd) + 1 := by omega
   rw [e, Nat.pow_succ];rcases h.far with h4 | h4
   · have : s.r - t.nd = 0 := by omega
     rw [this]; omega
   · exact Nat.mul_le_mul_right 10 h4
theorem rsB_start {t : Dec} {k : Nat} (ht : DecI t) (h0 : 0 < t.nd) : RsBI t k (rsA t k) := by
 have h1 := (rsA_ends k ht).1;have h2 := rsA_some (k := k) ht h0;exact ⟨h1.hn, h1.pos h2, h2, h1.one, .inl h1.hr⟩
def RsBJ (t : Dec) (k : Nat) (s : RsS) : Prop := RsBI t k s ∧ (s.n / 2 ^ k ≠ 0 ∨ t.nd ≤ s.r)
theorem rsBJ_keeps {t : Dec} {k : Nat} {s : RsS} (h : RsBJ t k s) (hd : zgz k s = false) : RsBJ t k (ygk s) ∧ s.n < 2 ^ k := by
 have hx : t.nd ≤ s.r := h.2.resolve_left (of_decide_eq_false hd);obtain ⟨h1, h2⟩ := rsB_keeps h.1 hd hx;exact ⟨⟨h1, .inr (Nat.le_succ_of_le hx)⟩, h2⟩
theorem rsBJ_start {t : Dec} {k : Nat} (ht : DecI t) (h0 : 0 < t.nd) : RsBJ t k (rsA t k) := ⟨rsB_start ht h0, of_decide_eq_true (rsA_ends k ht).2⟩
theorem zjv {t : Dec} (k : Nat) (ht : DecI t) (h0 : 0 < t.nd) : RsBJ t k (rsB t k) ∧ zgz k (rsB t k) = true := by
 refine ja (RsBJ t k) (fun s => 2 ^ k - s.n) (fun s h hd => ?_) (rsBJ_start ht h0);obtain ⟨h1, h2⟩ := rsBJ_keeps h hd;have := h.1.pos;exact ⟨h1, by show 2 ^ k - s.n * 10 < 2 ^ k - s.n; omega⟩
theorem rsB_big {t : Dec} (k : Nat) (ht : DecI t) (h0 : 0 < t.nd) : 2 ^ k ≤ (rsB t k).n := by
 have h := of_decide_eq_true (zjv k ht h0).2;rcases Nat.lt_or_ge (rsB t k).n (2 ^ k) with h1 | h1
 · exact absurd (Nat.div_eq_of_lt h1) h
 · exact h1
theorem rsB_r {t : Dec} (k : Nat) (ht : DecI t) (h0 : 0 < t.nd) : (rsB t k).r ≤ t.nd + k + 1 := by
 have h := (zjv k ht h0).1.1;rcases h.far with h1 | h1
 · omega
 · have h2 : 10 ^ ((rsB t k).r - t.nd) < 10 ^ (k + 1) := by
    have h3 : 2 ^ k ≤ 10 ^ k := Nat.pow_le_pow_left (by decide) k;have := h.hn;rw [Nat.pow_succ]; omega
   have := (Nat.pow_lt_pow_iff_right (a := 10) (by decide)).1 h2;omega
structure RsCI (t : Dec) (k r0 : Nat) (s : RsC) : Prop where
 len : s.d.length = 800
 hw : s.r = s.w + r0
 hr : s.w = 0 ∨ s.r ≤ t.nd
 old : ∀ i, s.w ≤ i → dg s.d i = dg t.d i
 dig : ∀ i, i < s.w → 48 ≤ dg s.d i ∧ dg s.d i ≤ 57
 lead : 0 < s.w → 49 ≤ dg s.d 0 ∧ (r0 = 1 → dg s.d 0 < dg t.d 0)
 hn : s.n < 10 * 2 ^ k
 first : s.w = 0 → 2 ^ k ≤ s.n ∧ (r0 = 1 → s.n = dg t.d 0 - 48)
theorem qbz {n k : Nat} (h : n < 10 * 2 ^ k) : n / 2 ^ k ≤ 9 := by
 have := (Nat.div_lt_iff_lt_mul (Nat.two_pow_pos k)).2 h;omega
theorem put_lead {t : Dec} {k n r0 : Nat} (hk : 1 ≤ k) (h : 2 ^ k ≤ n ∧ (r0 = 1 → n = dg t.d 0 - 48)) : 49 ≤ n / 2 ^ k + 48 ∧ (r0 = 1 → n / 2 ^ k + 48 < dg t.d 0) := by
 have h1 : 1 ≤ n / 2 ^ k := (Nat.le_div_iff_mul_le (Nat.two_pow_pos k)).2 (by omega);refine ⟨by omega, fun e => ?_⟩;have h2 := h.2 e;have h3 : n / 2 ^ k < n := Nat.div_lt_self (by have := Nat.two_pow_pos k; omega) (Nat.one_lt_two_pow (by omega));omega
theorem rsC_keeps {t : Dec} {k r0 : Nat} {s : RsC} (ht : DecI t) (hk : 1 ≤ k) (hr0 : 1 ≤ r0) (h : RsCI t k r0 s) (hd : zwv t s = false) : RsCI t k r0 (yyk k s) := by
 have hd : ¬ t.nd ≤ s.r := of_decide_eq_false hd;have h1 := h.hw;have hn := ht.hn;have hl := h.len;have hw : s.w < s.d.length := by omega
 have hg := ht.dig s.r (by omega);rw [← h.old s.r (by omega)] at hg;have hq := qbz h.hn;have hq0 := Nat.zero_le (s.n / 2 ^ k);have hm := Nat.mod_lt s.n (Nat.two_pow_pos k)
 refine ⟨by show (s.d.set s.w _).length = 800; rw [List.length_set]; exact hl, by show s.r + 1 = s.w + 1 + r0; omega, .inr (by show s.r + 1 ≤ t.nd; omega), fun i hi => ?_, fun i hi => ?_, fun _ => ?_, ?_, fun e => absurd e (Nat.succ_ne_zero _)⟩
 · show dg (s.d.set s.w _) i = _
   have hi : s.w + 1 ≤ i := hi;rw [zvx hw, if_neg (by omega)];exact h.old i (by omega)
 · show 48 ≤ dg (s.d.set s.w _) i ∧ dg (s.d.set s.w _) i ≤ 57
   have hi : i < s.w + 1 := hi;rw [zvx hw];split
   · omega
   · exact h.dig i (by omega)
 · show 49 ≤ dg (s.d.set s.w _) 0 ∧ (r0 = 1 → dg (s.d.set s.w _) 0 < dg t.d 0)
   rw [zvx hw];split
   · rename_i e; exact put_lead hk (h.first e.symm)
   · exact h.lead (by omega)
 · show s.n % 2 ^ k * 10 + (dg s.d s.r - 48) < 10 * 2 ^ k
   omega
theorem rsC_start {t : Dec} {k : Nat} (ht : DecI t) (h0 : 0 < t.nd) : RsCI t k (rsB t k).r ⟨t.d, (rsB t k).r, 0, (rsB t k).n⟩ := by
 have h := (zjv k ht h0).1.1;exact ⟨ht.len, (Nat.zero_add _).symm, .inl rfl, fun _ _ => rfl, fun _ hi => absurd hi (Nat.not_lt_zero _), fun hi => absurd hi (Nat.lt_irrefl _), h.hn, fun _ => ⟨rsB_big k ht h0, h.one⟩⟩
theorem rsC_ends {t : Dec} {k : Nat} (ht : DecI t) (hk : 1 ≤ k) (h0 : 0 < t.nd) : RsCI t k (rsB t k).r (rsC t k) ∧ zwv t (rsC t k) = true := by
 have hr := (zjv k ht h0).1.1.hr;refine ja (RsCI t k (rsB t k).r) (fun s => t.nd - s.r) (fun s h hd => ⟨rsC_keeps ht hk hr h hd, ?_⟩) (rsC_start ht h0);have hd : ¬ t.nd ≤ s.r := of_decide_eq_false hd;show t.nd - (s.r + 1) < t.nd - s.r; omega
structure RsEI (t : Dec) (k r0 : Nat) (s : RsE) : Prop where
 len : s.d.length = 800
 hw : s.w ≤ 800
 dig : ∀ i, i < s.w → 48 ≤ dg s.d i ∧ dg s.d i ≤ 57
 lead : 0 < s.w → 49 ≤ dg s.d 0 ∧ (r0 = 1 → dg s.d 0 < dg t.d 0)
 hn : s.n < 10 * 2 ^ k
 first : s.w = 0 → 2 ^ k ≤ s.n ∧ (r0 = 1 → s.n = dg t.d 0 - 48)
theorem rsE_keeps {t : Dec} {k r0 : Nat} {s : RsE} (hk : 1 ≤ k) (h : RsEI t k r0 s) : RsEI t k r0 (gq k s) := by
 have hl := h.len;have hq := qbz h.hn;have hq0 := Nat.zero_le (s.n / 2 ^ k);have hm := Nat.mod_lt s.n (Nat.two_pow_pos k);have hn : s.n % 2 ^ k * 10 < 10 * 2 ^ k := by omega
 unfold gq;split
 · rename_i hw
   have hw' : s.w < s.d.length := by omega
   refine ⟨by show (s.d.set s.w _).length = 800; rw [List.length_set]; exact hl, hw, fun i hi => ?_, fun _ => ?_, hn, fun e => absurd e (Nat.succ_ne_zero _)⟩
   · show 48 ≤ dg (s.d.set s.w _) i ∧ dg (s.d.set s.w _) i ≤ 57
     have hi : i < s.w + 1 := hi;rw [zvx hw'];split
     · omega
     · exact h.dig i (by omega)
   · show 49 ≤ dg (s.d.set s.w _) 0 ∧ (r0 = 1 → dg (s.d.set s.w _) 0 < dg t.d 0)
     rw [zvx hw'];split
     · rename_i e; exact put_lead hk (h.first e.symm)
     · exact h.lead (by omega)
 · rename_i hw
   exact ⟨hl, h.hw, h.dig, h.lead, hn, fun e => absurd (show s.w = 0 from e) (by omega)⟩
theorem rsE_start {t : Dec} {k : Nat} (ht : DecI t) (hk : 1 ≤ k) (h0 : 0 < t.nd) : RsEI t k (rsB t k).r ⟨(rsC t k).d, (rsC t k).w, (rsC t k).n, t.tr⟩ := by
 have h := (rsC_ends ht hk h0).1;have hn := ht.hn;have hw := h.hw;refine ⟨h.len, ?_, h.dig, h.lead, h.hn, h.first⟩;show (rsC t k).w ≤ 800
 rcases h.hr with h1 | h1 <;> omega
theorem rsE_twos {k j : Nat} {s : RsE} (h : 2 ^ j ∣ s.n ∧ j ≤ k + 1 ∧ (j = k + 1 → s.n = 0)) (hd : xv s = false) : j ≤ k ∧ (2 ^ (j + 1) ∣ (gq k s).n ∧ j + 1 ≤ k + 1 ∧ (j + 1 = k + 1 → (gq k s).n = 0)) := by
 have hd : s.n ≠ 0 := of_decide_eq_false hd;obtain ⟨h1, h2, h3⟩ := h;have hj : j ≤ k := by
  rcases Nat.lt_or_ge k j with h4 | h4
  · exact absurd (h3 (by omega)) hd
  · exact h4
 have e : (gq k s).n = s.n % 2 ^ k * 10 := by unfold gq; split <;> rfl
 refine ⟨hj, ?_, by omega, fun ej => ?_⟩
 · rw [e, Nat.pow_succ];have h5 : 2 ^ j ∣ s.n % 2 ^ k := (Nat.dvd_mod_iff (Nat.pow_dvd_pow 2 hj)).2 h1;exact Nat.mul_dvd_mul h5 (by decide)
 · have : j = k := by omega
   subst this;rw [e, Nat.mod_eq_zero_of_dvd h1]
theorem rsE_ends {t : Dec} {k : Nat} (ht : DecI t) (hk : 1 ≤ k) (h0 : 0 < t.nd) : RsEI t k (rsB t k).r (rsE t k) ∧ xv (rsE t k) = true := by
 have key : ∀ (m j : Nat) (s : RsE), k + 1 - j = m → RsEI t k (rsB t k).r s → (2 ^ j ∣ s.n ∧ j ≤ k + 1 ∧ (j = k + 1 → s.n = 0)) → RsEI t k (rsB t k).r (qz xv (gq k) s) ∧ xv (qz xv (gq k) s) = true := by
  intro m;induction m with
  | zero =>
   intro j s hm h hj;have hd : xv s = true := decide_eq_true (hj.2.2 (by omega));rw [qk hd]; exact ⟨h, hd⟩
  | succ m ih =>
   intro j s hm h hj;cases hd : xv s with
   | true => rw [qk hd]; exact ⟨h, hd⟩
   | false =>
    rw [vj hd];obtain ⟨h1, h2⟩ := rsE_twos hj hd;exact ih (j + 1) _ (by omega) (rsE_keeps hk h) h2
 exact key (k + 1) 0 _ rfl (rsE_start ht hk h0) ⟨Nat.one_dvd _, by omega, fun e => absurd e (by omega)⟩
theorem kz {t : Dec} {k : Nat} (ht : DecI t) (hk : 1 ≤ k) (h0 : 0 < t.nd) :
 DecI (jw t k) ∧ 0 < (jw t k).nd ∧ t.dp - 801 - k ≤ (jw t k).dp ∧ ((jw t k).dp < t.dp ∨ ((jw t k).dp = t.dp ∧ dg (jw t k).d 0 < dg t.d 0)) ∧ (jw t k).neg = t.neg := by
 obtain ⟨h1, h2⟩ := rsE_ends ht hk h0;have h2 : (rsE t k).n = 0 := of_decide_eq_true h2;have hw : 0 < (rsE t k).w := by
  rcases Nat.eq_zero_or_pos (rsE t k).w with h | h
  · have := (h1.first h).1; have := Nat.two_pow_pos k; omega
  · exact h
 have hI : DecI { t with d := (rsE t k).d, nd := (rsE t k).w, dp := t.dp - (((rsB t k).r : Nat) - 1), tr := (rsE t k).tr } := ⟨h1.len, h1.hw, h1.dig, fun _ => (h1.lead hw).1⟩;have hdp : (jw t k).dp = t.dp - (((rsB t k).r : Nat) - 1) := trimD_dp hI hw;have hr := rsB_r k ht h0;have hr0 := (zjv k ht h0).1.1.hr;have hn := ht.hn
 refine ⟨ytv hI, ynz hI hw, by rw [hdp]; omega, ?_, rfl⟩;rw [hdp];rcases Nat.lt_or_ge 1 (rsB t k).r with h | h
 · exact .inl (by omega)
 · exact .inr ⟨by omega, (h1.lead hw).2 (by omega)⟩
end Go.Proofs.YtjdcjdohghkcgaaGreatDoor
namespace Go.Proofs.YtjdcjdohghkcgaaGreatDoor
open Go.RowKit
set_option maxRecDepth 100000
/-! ### the beginning beside the table's digits -/
def jj : List Nat → List Nat → Bool
 | _, [] => false
 | [], _ :: _ => true
 | b :: bs, c :: cs => if b = c then jj bs cs else decide (b < c)
def zek : List Nat → Nat
 | [] => 0
 | c :: l => (c - 48) * 10 ^ l.length + zek l
def Digs (l : List Nat) : Prop := ∀ c ∈ l, 48 ≤ c ∧ c ≤ 57
theorem qbx : ∀ {l : List Nat}, Digs l → zek l < 10 ^ l.length
 | [], _ => by simp [zek]
 | c :: l, h => by
  have h1 := h c (List.mem_cons_self ..);have h2 := qbx (fun x hx => h x (List.mem_cons_of_mem _ hx));show (c - 48) * 10 ^ l.length + zek l < 10 ^ (l.length + 1)
  have h3 : (c - 48) * 10 ^ l.length ≤ 9 * 10 ^ l.length := Nat.mul_le_mul_right _ (by omega);rw [Nat.pow_succ]; omega
def Tail : List Nat → Prop
 | [] => True
 | [c] => 49 ≤ c
 | _ :: l => Tail l
theorem tail_next {c : Nat} {l : List Nat} (h : Tail (c :: l)) : Tail l := by
 cases l with
 | nil => trivial
 | cons x l => exact h
theorem tail_pos : ∀ {c : Nat} {l : List Nat}, Tail (c :: l) → 0 < zek (c :: l)
 | c, [], h => by
  have h : 49 ≤ c := h;show 0 < (c - 48) * 10 ^ 0 + 0
  omega
 | c, x :: l, h => by
  have := tail_pos (c := x) (l := l) h;show 0 < (c - 48) * 10 ^ (l.length + 1) + zek (x :: l)
  omega
theorem pre_step {a c p q u v : Nat} (h : a < c) (h1 : u < p) (hq : 0 < q) : (a * p + u) * (q * 10) < (c * q + v) * (p * 10) := by
 have h2 : a * p + u < (a + 1) * p := by rw [Nat.add_mul, Nat.one_mul]; omega
 have h3 : (a + 1) * p ≤ c * p := Nat.mul_le_mul_right p h;calc (a * p + u) * (q * 10) < (c * p) * (q * 10) := Nat.mul_lt_mul_of_pos_right (by omega) (by omega)
  _ = (c * q) * (p * 10) := by ac_rfl
  _ ≤ (c * q + v) * (p * 10) := Nat.mul_le_mul_right _ (Nat.le_add_right _ _)
theorem pre_both : ∀ {b s : List Nat}, Digs b → Digs s → Tail s →
 (jj b s = true → zek b * 10 ^ s.length < zek s * 10 ^ b.length) ∧ (jj b s = false → zek s * 10 ^ b.length ≤ zek b * 10 ^ s.length)
 | b, [], _, _, _ => by
  refine ⟨fun h => ?_, fun _ => ?_⟩
  · unfold jj at h; cases h
  · show 0 * _ ≤ _; rw [Nat.zero_mul]; exact Nat.zero_le _
 | [], c :: cs, _, _, ht => by
  refine ⟨fun _ => ?_, fun h => ?_⟩
  · have := tail_pos ht;show 0 * _ < zek (c :: cs) * 1
    omega
  · unfold jj at h; cases h
 | x :: bs, c :: cs, hb, hs, ht => by
  have hx := hb x (List.mem_cons_self ..);have hc := hs c (List.mem_cons_self ..);have hbs : Digs bs := fun y hy => hb y (List.mem_cons_of_mem _ hy);have hcs : Digs cs := fun y hy => hs y (List.mem_cons_of_mem _ hy);have lb := qbx hbs;have lc := qbx hcs;have p1 : 0 < 10 ^ bs.length := Nat.pow_pos (by decide);have p2 : 0 < 10 ^ cs.length := Nat.pow_pos (by decide)
  show (jj (x :: bs) (c :: cs) = true → ((x - 48) * 10 ^ bs.length + zek bs) * 10 ^ (cs.length + 1) < ((c - 48) * 10 ^ cs.length + zek cs) * 10 ^ (bs.length + 1)) ∧
   (jj (x :: bs) (c :: cs) = false → ((c - 48) * 10 ^ cs.length + zek cs) * 10 ^ (bs.length + 1) ≤ ((x - 48) * 10 ^ bs.length + zek bs) * 10 ^ (cs.length + 1))
  unfold jj;rw [Nat.pow_succ, Nat.pow_succ];generalize hP : 10 ^ bs.length = P at *
  generalize hR : 10 ^ cs.length = R at *
  split
  · rename_i e
    subst e;obtain ⟨h1, h2⟩ := pre_both (b := bs) (s := cs) hbs hcs (tail_next ht);rw [hP, hR] at h1 h2;have e : (x - 48) * P * (R * 10) = (x - 48) * R * (P * 10) := by ac_rfl
    rw [Nat.add_mul, Nat.add_mul, e, ← Nat.mul_assoc (zek bs), ← Nat.mul_assoc (zek cs)];exact ⟨fun h => by have := h1 h; omega, fun h => by have := h2 h; omega⟩
  · rename_i e
    refine ⟨fun h => ?_, fun h => ?_⟩
    · have h := of_decide_eq_true h;exact pre_step (by omega) lb p2
    · have h := of_decide_eq_false h;exact Nat.le_of_lt (pre_step (by omega) lc p1)
/-! ### values of the last digits -/
def zqq (d : List Nat) (nd : Nat) : Nat → Nat
 | 0 => 0
 | m + 1 => (dg d (nd - 1 - m) - 48) * 10 ^ m + zqq d nd m
theorem lastV_drop {d : List Nat} {nd : Nat} (hn : nd ≤ d.length) : ∀ {m : Nat}, m ≤ nd → zqq d nd m = zek ((d.take nd).drop (nd - m))
 | 0, _ => by
  rw [Nat.sub_zero, List.drop_eq_nil_of_le (by rw [List.length_take]; omega)]; rfl
 | m + 1, hm => by
  have hl : (d.take nd).length = nd := by rw [List.length_take]; omega
  have h1 : nd - (m + 1) < (d.take nd).length := by omega
  have e : nd - (m + 1) + 1 = nd - m := by omega
  rw [List.drop_eq_getElem_cons h1, e];have h2 : (d.take nd)[nd - (m + 1)] = dg d (nd - 1 - m) := by
   have : nd - (m + 1) = nd - 1 - m := by omega
   have h3 := dg_at (l := d) (j := nd - (m + 1)) (by omega);rw [← this];rw [List.getElem_take];exact Option.some.inj ((List.getElem?_eq_getElem (by omega)).symm.trans h3)
  show (dg d (nd - 1 - m) - 48) * 10 ^ m + zqq d nd m = (_ - 48) * 10 ^ ((d.take nd).drop (nd - m)).length + zek _
  rw [h2, lastV_drop hn (by omega), List.length_drop, hl];have : nd - (nd - m) = m := by omega
  rw [this]
theorem lastV_all {d : List Nat} {nd : Nat} (hn : nd ≤ d.length) : zqq d nd nd = zek (d.take nd) := by
 rw [lastV_drop hn (Nat.le_refl _), Nat.sub_self, List.drop_zero]
theorem digs_take {t : Dec} (ht : DecI t) : Digs (t.d.take t.nd) := by
 intro c hc;obtain ⟨i, hi, e⟩ := List.getElem_of_mem hc;rw [List.length_take] at hi;have h1 : i < t.nd := by omega
 rw [List.getElem_take] at e;have h2 := dg_at (l := t.d) (j := i) (by omega);rw [List.getElem?_eq_getElem (by omega), e] at h2;rw [Option.some.inj h2];exact ht.dig i h1
theorem lastV_lead {t : Dec} (ht : DecI t) (h0 : 0 < t.nd) : 10 ^ (t.nd - 1) ≤ zqq t.d t.nd t.nd := by
 obtain ⟨n, hn⟩ : ∃ n, t.nd = n + 1 := ⟨t.nd - 1, by omega⟩;rw [hn];show 10 ^ (n + 1 - 1) ≤ (dg t.d (n + 1 - 1 - n) - 48) * 10 ^ n + _
 have h1 := ht.lead h0;have e : n + 1 - 1 - n = 0 := by omega
 rw [e, Nat.add_sub_cancel];have : 1 * 10 ^ n ≤ (dg t.d 0 - 48) * 10 ^ n := Nat.mul_le_mul_right _ (by omega);omega
theorem lastV_lt {t : Dec} (ht : DecI t) : zqq t.d t.nd t.nd < 10 ^ t.nd := by
 have hn := ht.hn;have hl := ht.len;rw [lastV_all (by omega)];have h := qbx (digs_take ht);rwa [List.length_take, Nat.min_eq_left (by omega)] at h
def cy (t : Dec) (k m : Nat) : Nat := zqq t.d t.nd m * 2 ^ k / 10 ^ m
theorem cy_succ (t : Dec) (k m : Nat) : cy t k (m + 1) = (cy t k m + (dg t.d (t.nd - 1 - m) - 48) * 2 ^ k) / 10 := by
 unfold cy;show ((dg t.d (t.nd - 1 - m) - 48) * 10 ^ m + zqq t.d t.nd m) * 2 ^ k / 10 ^ (m + 1) = _
 generalize dg t.d (t.nd - 1 - m) - 48 = c
 generalize zqq t.d t.nd m = v
 have hp : 0 < 10 ^ m := Nat.pow_pos (by decide);rw [Nat.pow_succ, ← Nat.div_div_eq_div_mul];congr 1
 have e : (c * 10 ^ m + v) * 2 ^ k = v * 2 ^ k + c * 2 ^ k * 10 ^ m := by rw [Nat.add_mul, Nat.mul_right_comm]; omega
 rw [e, Nat.add_mul_div_right _ _ hp]
/-! ### the table -/
def lcD (k : Nat) : Nat := if k ≤ 3 then 1 else if k = 6 then 2 else if k = 9 then 3 else if k = 13 then 4 else if k = 16 then 5 else if k = 19 then 6 else if k = 23 then 7 else if k = 26 then 8 else if k = 27 then 9 else 16
def digB (n : Nat) : Nat → List Nat
 | 0 => []
 | m + 1 => (n / 10 ^ m % 10 + 48) :: digB n m
def lcL (k : Nat) : Nat := k + 1 - lcD k
def lcS (k : Nat) : List Nat := digB (5 ^ k) (lcL k)
def Shl (k : Nat) : Prop := k = 1 ∨ k = 3 ∨ k = 6 ∨ k = 9 ∨ k = 13 ∨ k = 16 ∨ k = 19 ∨ k = 23 ∨ k = 26 ∨ k = 27 ∨ k = 53
structure ShlI (k : Nat) : Prop where
 k1 : 1 ≤ k ∧ k ≤ 60
 d1 : 1 ≤ lcD k ∧ lcD k ≤ 16
 up : 2 ^ k ≤ 10 ^ lcD k
 lo : 10 ^ (lcD k - 1) ≤ 2 ^ k
 cut : 10 ^ (lcD k - 1) * 10 ^ (lcS k).length = zek (lcS k) * 2 ^ k
 digs : Digs (lcS k)
 tail : Tail (lcS k)
instance (l : List Nat) : Decidable (Digs l) := inferInstanceAs (Decidable (∀ c ∈ l, 48 ≤ c ∧ c ≤ 57))
theorem shl_ok {k : Nat} (h : Shl k) : ShlI k := by
 rcases h with rfl | rfl | rfl | rfl | rfl | rfl | rfl | rfl | rfl | rfl | rfl <;>
 exact ⟨by decide, by decide, by decide +kernel, by decide +kernel, by decide +kernel, by decide +kernel, by simp [lcS, lcL, lcD, digB, Tail]⟩
def qt (t : Dec) (k : Nat) : Nat := if jj (t.d.take t.nd) (lcS k) then lcD k - 1 else lcD k
theorem zbv (a b c : Nat) : a * b * c = a * c * b := Nat.mul_right_comm a b c
theorem ylx {t : Dec} {k : Nat} (ht : DecI t) (h0 : 0 < t.nd) (hk : Shl k) :
 qt t k ≤ 16 ∧ zqq t.d t.nd t.nd * 2 ^ k < 10 ^ (qt t k + t.nd) ∧ (0 < qt t k → 10 ^ (qt t k - 1 + t.nd) ≤ zqq t.d t.nd t.nd * 2 ^ k) := by
 have q := shl_ok hk;have hn := ht.hn;have hl := ht.len;have hlen : (t.d.take t.nd).length = t.nd := by rw [List.length_take]; omega
 have hp := pre_both (digs_take ht) q.digs q.tail;rw [hlen, ← lastV_all (by omega)] at hp;have h1 := lastV_lt ht;have h2 := lastV_lead ht h0;have hd1 := q.d1;have hP : 0 < 2 ^ k := Nat.two_pow_pos k;generalize hN : zqq t.d t.nd t.nd = n at *
 have hL : 0 < 10 ^ (lcS k).length := Nat.pow_pos (by decide);unfold qt;cases hb : jj (t.d.take t.nd) (lcS k) with
 | true =>
  have h3 := hp.1 hb;rw [if_pos rfl];refine ⟨by omega, ?_, fun hpos => ?_⟩
  · refine Nat.lt_of_mul_lt_mul_right (a := 10 ^ (lcS k).length) ?_;rw [Nat.pow_add, zbv n, zbv (10 ^ (lcD k - 1)), q.cut, zbv (zek (lcS k))];exact Nat.mul_lt_mul_of_pos_right h3 hP
  · have e : lcD k - 1 - 1 + t.nd = lcD k - 1 + (t.nd - 1) := by omega
    rw [e, Nat.pow_add, Nat.mul_comm];exact Nat.mul_le_mul h2 q.lo
 | false =>
  have h3 := hp.2 hb;rw [if_neg (by decide)];refine ⟨by omega, ?_, fun hpos => ?_⟩
  · rw [Nat.pow_add, Nat.mul_comm (10 ^ lcD k)];exact Nat.lt_of_lt_of_le (Nat.mul_lt_mul_of_pos_right h1 hP) (Nat.mul_le_mul_left _ q.up)
  · refine Nat.le_of_mul_le_mul_right (c := 10 ^ (lcS k).length) ?_ hL;rw [Nat.pow_add, zbv n, zbv (10 ^ (lcD k - 1)), q.cut, zbv (zek (lcS k))];exact Nat.mul_le_mul_right _ h3
theorem cy_ok {t : Dec} {k : Nat} (ht : DecI t) (h0 : 0 < t.nd) (hk : Shl k) :
 cy t k t.nd < 10 ^ qt t k ∧ (0 < qt t k → 10 ^ (qt t k - 1) ≤ cy t k t.nd) := by
 obtain ⟨_, h1, h2⟩ := ylx ht h0 hk;have hp : 0 < 10 ^ t.nd := Nat.pow_pos (by decide);unfold cy;refine ⟨(Nat.div_lt_iff_lt_mul hp).2 (by rwa [← Nat.pow_add]), fun h => (Nat.le_div_iff_mul_le hp).2 (by rw [← Nat.pow_add]; exact h2 h)⟩
/-! ### the loops -/
structure LsA where
 d : List Nat
 r : Nat
 w : Nat
 n : Nat
 tr : Bool
def xo (d : List Nat) (w x : Nat) : List Nat := if w < 800 then d.set w (x + 48) else d
def lsTr (tr : Bool) (w x : Nat) : Bool := if w < 800 then tr else if x ≠ 0 then true else tr
def lsN (k : Nat) (s : LsA) : Nat := s.n + (dg s.d (s.r - 1) - 48) * 2 ^ k
def zyv (s : LsA) : Bool := decide (s.r = 0)
def qax (k : Nat) (s : LsA) : LsA := ⟨xo s.d (s.w - 1) (lsN k s % 10), s.r - 1, s.w - 1, lsN k s / 10, lsTr s.tr (s.w - 1) (lsN k s % 10)⟩
def zyk (s : LsA) : Bool := decide (s.n = 0)
def yzv (s : LsA) : LsA := ⟨xo s.d (s.w - 1) (s.n % 10), s.r, s.w - 1, s.n / 10, lsTr s.tr (s.w - 1) (s.n % 10)⟩
noncomputable def lsA (t : Dec) (k : Nat) : LsA := qz zyv (qax k) ⟨t.d, t.nd, t.nd + qt t k, 0, t.tr⟩
noncomputable def lsB (t : Dec) (k : Nat) : LsA := qz zyk yzv (lsA t k)
noncomputable def vn (t : Dec) (k : Nat) : Dec := yfq { t with d := (lsB t k).d, nd := if 800 ≤ t.nd + qt t k then 800 else t.nd + qt t k, dp := t.dp + ((qt t k : Nat) : Int), tr := (lsB t k).tr }
theorem put_len {d : List Nat} {w x : Nat} (h : d.length = 800) : (xo d w x).length = 800 := by
 unfold xo; split
 · rw [List.length_set]; exact h
 · exact h
theorem put_at {d : List Nat} {w x i : Nat} (h : d.length = 800) (hi : i < 800) : dg (xo d w x) i = if i = w then x + 48 else dg d i := by
 unfold xo; split
 · rw [zvx (by omega)]
 · rw [if_neg (by omega)]
structure LsAI (t : Dec) (k : Nat) (s : LsA) : Prop where
 len : s.d.length = 800
 hw : s.w = s.r + qt t k
 hr : s.r ≤ t.nd
 old : ∀ i, i < s.r → dg s.d i = dg t.d i
 hn : s.n = cy t k (t.nd - s.r)
 small : s.n < 2 ^ k
 dig : ∀ i, s.w ≤ i → i < t.nd + qt t k → i < 800 → 48 ≤ dg s.d i ∧ dg s.d i ≤ 57
 last : s.r < t.nd → s.w < 800 → dg s.d s.w = (cy t k (t.nd - s.r - 1) + (dg t.d s.r - 48) * 2 ^ k) % 10 + 48
theorem lsA_keeps {t : Dec} {k : Nat} {s : LsA} (ht : DecI t) (h : LsAI t k s) (hd : zyv s = false) : LsAI t k (qax k s) ∧ 0 < s.r ∧ lsN k s < 10 * 2 ^ k := by
 have hd : s.r ≠ 0 := of_decide_eq_false hd;have hr := h.hr;have hn := ht.hn;have hw := h.hw;have ho := h.old (s.r - 1) (by omega);have hg := ht.dig (s.r - 1) (by omega);have hs := h.small;have e1 : t.nd - 1 - (t.nd - s.r) = s.r - 1 := by omega
 have e2 : t.nd - (s.r - 1) = t.nd - s.r + 1 := by omega
 have hN : lsN k s = cy t k (t.nd - s.r) + (dg t.d (t.nd - 1 - (t.nd - s.r)) - 48) * 2 ^ k := by
  unfold lsN; rw [h.hn, ho, e1]
 have hlt : lsN k s < 10 * 2 ^ k := by
  unfold lsN; rw [ho];have : (dg t.d (s.r - 1) - 48) * 2 ^ k ≤ 9 * 2 ^ k := Nat.mul_le_mul_right _ (by omega);omega
 refine ⟨⟨put_len h.len, by show s.w - 1 = s.r - 1 + _; omega, by show s.r - 1 ≤ _; omega, fun i hi => ?_, ?_, ?_, fun i hi h1 h2 => ?_, fun h1 h2 => ?_⟩, by omega, hlt⟩
 · have hi : i < s.r - 1 := hi;show dg (xo s.d (s.w - 1) _) i = _
   rw [put_at h.len (by omega), if_neg (by omega)];exact h.old i (by omega)
 · show lsN k s / 10 = cy t k (t.nd - (s.r - 1))
   rw [e2, cy_succ, hN]
 · show lsN k s / 10 < 2 ^ k
   exact (Nat.div_lt_iff_lt_mul (by decide)).2 (by omega)
 · have hi : s.w - 1 ≤ i := hi;show 48 ≤ dg (xo s.d (s.w - 1) _) i ∧ dg (xo s.d (s.w - 1) _) i ≤ 57
   rw [put_at h.len h2];split
   · have := Nat.mod_lt (lsN k s) (show 0 < 10 by decide); omega
   · exact h.dig i (by omega) h1 h2
 · have h2 : s.w - 1 < 800 := h2;show dg (xo s.d (s.w - 1) _) (s.w - 1) = (cy t k (t.nd - (s.r - 1) - 1) + (dg t.d (s.r - 1) - 48) * 2 ^ k) % 10 + 48
   rw [put_at h.len h2, if_pos rfl, hN, e1, e2, Nat.add_sub_cancel]
theorem lsA_start {t : Dec} {k : Nat} (ht : DecI t) : LsAI t k ⟨t.d, t.nd, t.nd + qt t k, 0, t.tr⟩ := by
 refine ⟨ht.len, rfl, Nat.le_refl _, fun _ _ => rfl, ?_, Nat.two_pow_pos k, fun i hi h1 => absurd h1 (Nat.not_lt.2 hi), fun h1 => absurd h1 (Nat.lt_irrefl _)⟩;show 0 = cy t k (t.nd - t.nd)
 rw [Nat.sub_self];show 0 = 0 * 2 ^ k / 10 ^ 0
 rw [Nat.zero_mul, Nat.zero_div]
theorem lsA_ends {t : Dec} (k : Nat) (ht : DecI t) : LsAI t k (lsA t k) ∧ zyv (lsA t k) = true := by
 refine ja (LsAI t k) (fun s => s.r) (fun s h hd => ?_) (lsA_start ht);obtain ⟨h1, h2, _⟩ := lsA_keeps ht h hd;exact ⟨h1, by show s.r - 1 < s.r; omega⟩
structure LsBI (t : Dec) (k : Nat) (s : LsA) : Prop where
 len : s.d.length = 800
 hw : s.w ≤ qt t k
 hn : (s.w = 0 ∧ s.n = 0) ∨ (0 < s.w ∧ 10 ^ (s.w - 1) ≤ s.n ∧ s.n < 10 ^ s.w)
 small : s.n < 2 ^ k
 dig : ∀ i, s.w ≤ i → i < t.nd + qt t k → i < 800 → 48 ≤ dg s.d i ∧ dg s.d i ≤ 57
 lead : s.w = 0 → 49 ≤ dg s.d 0 ∧ (qt t k = 0 → dg t.d 0 < dg s.d 0)
theorem lsB_start {t : Dec} {k : Nat} (ht : DecI t) (h0 : 0 < t.nd) (hk : Shl k) : LsBI t k (lsA t k) := by
 obtain ⟨h1, h2⟩ := lsA_ends k ht;have h2 : (lsA t k).r = 0 := of_decide_eq_true h2;obtain ⟨c1, c2⟩ := cy_ok ht h0 hk;have hw := h1.hw;rw [h2, Nat.zero_add] at hw;have hn := h1.hn;rw [h2, Nat.sub_zero] at hn;have q := shl_ok hk;refine ⟨h1.len, by omega, ?_, h1.small, h1.dig, fun e => ?_⟩
 · rw [hn, hw];rcases Nat.eq_zero_or_pos (qt t k) with e | e
   · rw [e] at c1;exact .inl ⟨e, by simpa using c1⟩
   · exact .inr ⟨e, c2 e, c1⟩
 · have ed : qt t k = 0 := by omega
   have hl := h1.last (by omega) (by omega);rw [h2, Nat.sub_zero, e] at hl;rw [ed] at c1;obtain ⟨n, hnd⟩ : ∃ n, t.nd = n + 1 := ⟨t.nd - 1, by omega⟩;have hc := cy_succ t k n;rw [← hnd, show t.nd - 1 - n = 0 by omega] at hc;rw [show t.nd - 1 = n by omega] at hl;have hz : cy t k t.nd = 0 := by simpa using c1
   rw [hz] at hc;generalize hX : cy t k n + (dg t.d 0 - 48) * 2 ^ k = X at *
   have hX10 : X < 10 := by
    rcases Nat.lt_or_ge X 10 with h | h
    · exact h
    · have : 1 ≤ X / 10 := (Nat.le_div_iff_mul_le (by decide)).2 (by omega);omega
   rw [Nat.mod_eq_of_lt hX10] at hl;have hlead := ht.lead h0;have h2k : 2 ≤ 2 ^ k := by
    have : 2 ^ 1 ≤ 2 ^ k := Nat.pow_le_pow_right (by decide) q.k1.1;simpa using this
   have hm : (dg t.d 0 - 48) * 2 ≤ (dg t.d 0 - 48) * 2 ^ k := Nat.mul_le_mul_left _ h2k;rw [hl];exact ⟨by omega, fun _ => by omega⟩
theorem lsB_keeps {t : Dec} {k : Nat} {s : LsA} (ht : DecI t) (hk : Shl k) (h0 : 0 < t.nd) (h : LsBI t k s) (hd : zyk s = false) : LsBI t k (yzv s) ∧ 0 < s.w ∧ s.w ≤ 16 := by
 have hd : s.n ≠ 0 := of_decide_eq_false hd;have hd16 := (ylx ht h0 hk).1;have hw := h.hw;obtain ⟨h1, h2, h3⟩ := h.hn.resolve_left (fun e => hd e.2);have hs := h.small;have hq : s.n / 10 ≤ s.n := Nat.div_le_self _ _;have hl := h.len;refine ⟨⟨put_len h.len, by show s.w - 1 ≤ _; omega, ?_, by show s.n / 10 < _; omega, fun i hi h4 h5 => ?_, fun e => ?_⟩, h1, by omega⟩
 · show (s.w - 1 = 0 ∧ s.n / 10 = 0) ∨ (0 < s.w - 1 ∧ 10 ^ (s.w - 1 - 1) ≤ s.n / 10 ∧ s.n / 10 < 10 ^ (s.w - 1))
   rcases Nat.eq_zero_or_pos (s.w - 1) with e | e
   · have : s.w = 1 := by omega
     rw [this] at h3;exact .inl ⟨e, by simpa using h3⟩
   · refine .inr ⟨e, (Nat.le_div_iff_mul_le (by decide)).2 ?_, (Nat.div_lt_iff_lt_mul (by decide)).2 ?_⟩
     · rw [← Nat.pow_succ, show (s.w - 1 - 1).succ = s.w - 1 by omega]; exact h2
     · rw [← Nat.pow_succ, show (s.w - 1).succ = s.w by omega]; exact h3
 · have hi : s.w - 1 ≤ i := hi;show 48 ≤ dg (xo s.d (s.w - 1) _) i ∧ dg (xo s.d (s.w - 1) _) i ≤ 57
   rw [put_at hl h5];split
   · have := Nat.mod_lt s.n (show 0 < 10 by decide); omega
   · exact h.dig i (by omega) h4 h5
 · have e : s.w - 1 = 0 := e;have e1 : s.w = 1 := by omega
   rw [e1] at h2 h3;show 49 ≤ dg (xo s.d (s.w - 1) _) 0 ∧ (_ → dg t.d 0 < dg (xo s.d (s.w - 1) _) 0)
   rw [e, put_at hl (by decide), if_pos rfl, Nat.mod_eq_of_lt (by simpa using h3)];have : 1 ≤ s.n := by simpa using h2
   exact ⟨by omega, fun e2 => by omega⟩
theorem lsB_ends {t : Dec} {k : Nat} (ht : DecI t) (h0 : 0 < t.nd) (hk : Shl k) : LsBI t k (lsB t k) ∧ zyk (lsB t k) = true := by
 refine ja (LsBI t k) (fun s => s.w) (fun s h hd => ?_) (lsB_start ht h0 hk);obtain ⟨h1, h2, _⟩ := lsB_keeps ht hk h0 h hd;exact ⟨h1, by show s.w - 1 < s.w; omega⟩
theorem znv {t : Dec} {k : Nat} (ht : DecI t) (h0 : 0 < t.nd) (hk : Shl k) :
 DecI (vn t k) ∧ 0 < (vn t k).nd ∧ t.dp ≤ (vn t k).dp ∧ (vn t k).dp ≤ t.dp + 16 ∧ (t.dp < (vn t k).dp ∨ ((vn t k).dp = t.dp ∧ dg t.d 0 < dg (vn t k).d 0)) ∧ (vn t k).neg = t.neg := by
 obtain ⟨h1, h2⟩ := lsB_ends ht h0 hk;have h2 : (lsB t k).n = 0 := of_decide_eq_true h2;have hd16 := (ylx ht h0 hk).1;have hw : (lsB t k).w = 0 := by
  rcases h1.hn with h | h
  · exact h.1
  · have : 0 < 10 ^ ((lsB t k).w - 1) := Nat.pow_pos (by decide);omega
 have hl := h1.lead hw;have hI : DecI { t with d := (lsB t k).d, nd := if 800 ≤ t.nd + qt t k then 800 else t.nd + qt t k, dp := t.dp + ((qt t k : Nat) : Int), tr := (lsB t k).tr } := by
  refine ⟨h1.len, ?_, fun i hi => ?_, fun _ => hl.1⟩
  · show (if 800 ≤ t.nd + qt t k then 800 else t.nd + qt t k) ≤ 800
    by_cases e : 800 ≤ t.nd + qt t k
    · rw [if_pos e]; exact Nat.le_refl _
    · rw [if_neg e]; omega
  · have hi : i < (if 800 ≤ t.nd + qt t k then 800 else t.nd + qt t k) := hi;refine h1.dig i (by omega) ?_ ?_
    · split at hi <;> omega
    · split at hi <;> omega
 have hpos : 0 < (if 800 ≤ t.nd + qt t k then 800 else t.nd + qt t k) := by split <;> omega
 have hdp : (vn t k).dp = t.dp + ((qt t k : Nat) : Int) := trimD_dp hI hpos;refine ⟨ytv hI, ynz hI hpos, by rw [hdp]; omega, by rw [hdp]; omega, ?_, rfl⟩;rw [hdp];rcases Nat.eq_zero_or_pos (qt t k) with e | e
 · exact .inr ⟨by omega, hl.2 e⟩
 · exact .inl (by omega)
def bAt (s : ByteArray) (i : Nat) : Nat := ((s.data[i]?).map (·.toNat)).getD 0
theorem qe {s : ByteArray} {i : Nat} (h : i < s.size) : (s.data[i]?).map (·.toNat) = some (bAt s i) := by
 have h1 : s.data[i]? = some s.data[i] := Array.getElem?_eq_getElem h;unfold bAt;rw [h1]; rfl
theorem bAt_lt (s : ByteArray) (i : Nat) : bAt s i < 256 := by
 unfold bAt;cases h : s.data[i]? with
 | none => decide
 | some c => exact c.toNat_lt
structure RdS where
 i : Nat
 m : Nat
 nd : Nat
 nm : Nat
 dp : Int
 dot : Bool
 dig : Bool
 tr : Bool
def isDg (c : Nat) : Bool := decide (48 ≤ c ∧ c ≤ 57)
def xw (s : ByteArray) (t : RdS) : Bool :=
 decide (s.size ≤ t.i) || (if bAt s t.i = 46 then t.dot else !isDg (bAt s t.i))
def jp (s : ByteArray) (t : RdS) : RdS :=
 if bAt s t.i = 46 then { t with i := t.i + 1, dot := true, dp := t.nd }
 else if bAt s t.i = 48 ∧ t.nd = 0 then { t with i := t.i + 1, dig := true, dp := t.dp - 1 }
 else if t.nm < 19 then { t with i := t.i + 1, dig := true, nd := t.nd + 1, nm := t.nm + 1, m := t.m * 10 + (bAt s t.i - 48) }
 else { t with i := t.i + 1, dig := true, nd := t.nd + 1, tr := t.tr || decide (bAt s t.i ≠ 48) }
structure RdI (s : ByteArray) (t : RdS) : Prop where
 hi : t.i ≤ s.size
 hm : t.m < 10 ^ t.nm
 hn : t.nm ≤ 19
 hd : t.nd ≤ t.i
 hp : -((t.i : Nat) : Int) ≤ t.dp ∧ t.dp ≤ ((t.i : Nat) : Int)
theorem rd_keeps {s : ByteArray} {t : RdS} (h : RdI s t) (hd : xw s t = false) : RdI s (jp s t) := by
 obtain ⟨h1, h2, h3, h4, h5⟩ := h;unfold xw at hd;rw [Bool.or_eq_false_iff] at hd;have hi := of_decide_eq_false hd.1;have hd2 := hd.2;unfold jp;split
 · exact ⟨by show t.i + 1 ≤ s.size; omega, h2, h3, by show t.nd ≤ t.i + 1; omega, by show -((t.i + 1 : Nat) : Int) ≤ ((t.nd : Nat) : Int) ∧ ((t.nd : Nat) : Int) ≤ ((t.i + 1 : Nat) : Int); omega⟩
 · rename_i hc
   rw [if_neg hc] at hd2;have hg : isDg (bAt s t.i) = true := by simpa using hd2
   have hg := of_decide_eq_true hg;split
   · exact ⟨by show t.i + 1 ≤ s.size; omega, h2, h3, by show t.nd ≤ t.i + 1; omega, by show -((t.i + 1 : Nat) : Int) ≤ t.dp - 1 ∧ t.dp - 1 ≤ ((t.i + 1 : Nat) : Int); omega⟩
   · split
     · refine ⟨by show t.i + 1 ≤ s.size; omega, ?_, by show t.nm + 1 ≤ 19; omega, by show t.nd + 1 ≤ t.i + 1; omega, by show -((t.i + 1 : Nat) : Int) ≤ t.dp ∧ t.dp ≤ ((t.i + 1 : Nat) : Int); omega⟩;show t.m * 10 + (bAt s t.i - 48) < 10 ^ (t.nm + 1)
       rw [Nat.pow_succ];omega
     · exact ⟨by show t.i + 1 ≤ s.size; omega, h2, h3, by show t.nd + 1 ≤ t.i + 1; omega, by show -((t.i + 1 : Nat) : Int) ≤ t.dp ∧ t.dp ≤ ((t.i + 1 : Nat) : Int); omega⟩
/-! ### how far to shift -/
def pt (i : Nat) : Nat := if i ≥ 9 then 27 else ([1, 3, 6, 9, 13, 16, 19, 23, 26] : List Nat).getD i 0
theorem pt_shl (i : Nat) : Shl (pt i) := by
 unfold pt;split
 · exact .inr (.inr (.inr (.inr (.inr (.inr (.inr (.inr (.inr (.inl rfl)))))))))
 · rename_i h
   have hi : i < 9 := by omega
   have key : ∀ j : Fin 9, Shl (([1, 3, 6, 9, 13, 16, 19, 23, 26] : List Nat).getD j.val 0) := by
    intro j;match j with
    | ⟨0, _⟩ => exact .inl rfl
    | ⟨1, _⟩ => exact .inr (.inl rfl)
    | ⟨2, _⟩ => exact .inr (.inr (.inl rfl))
    | ⟨3, _⟩ => exact .inr (.inr (.inr (.inl rfl)))
    | ⟨4, _⟩ => exact .inr (.inr (.inr (.inr (.inl rfl))))
    | ⟨5, _⟩ => exact .inr (.inr (.inr (.inr (.inr (.inl rfl)))))
    | ⟨6, _⟩ => exact .inr (.inr (.inr (.inr (.inr (.inr (.inl rfl))))))
    | ⟨7, _⟩ => exact .inr (.inr (.inr (.inr (.inr (.inr (.inr (.inl rfl)))))))
    | ⟨8, _⟩ => exact .inr (.inr (.inr (.inr (.inr (.inr (.inr (.inr (.inl rfl))))))))
   exact key ⟨i, hi⟩
theorem pt_le (i : Nat) : 1 ≤ pt i ∧ pt i ≤ 27 := by
 unfold pt;split
 · exact ⟨by decide, by decide⟩
 · rename_i h
   have key : ∀ j : Fin 9, 1 ≤ ([1, 3, 6, 9, 13, 16, 19, 23, 26] : List Nat).getD j.val 0 ∧ ([1, 3, 6, 9, 13, 16, 19, 23, 26] : List Nat).getD j.val 0 ≤ 27 := by decide
   exact key ⟨i, by omega⟩
structure FbS where
 t : Dec
 e : Int
def zhv (s : FbS) : Bool := decide (s.t.dp ≤ 0)
noncomputable def zhq (s : FbS) : FbS := ⟨jw s.t (pt s.t.dp.toNat), s.e + ((pt s.t.dp.toNat : Nat) : Int)⟩
def zpx (s : FbS) : Bool := decide (¬ (s.t.dp < 0 ∨ (s.t.dp = 0 ∧ dg s.t.d 0 < 53)))
noncomputable def zhk (s : FbS) : FbS := ⟨vn s.t (pt (-s.t.dp).toNat), s.e - ((pt (-s.t.dp).toNat : Nat) : Int)⟩
structure FbI (s : FbS) : Prop where
 dec : DecI s.t
 pos : 0 < s.t.nd
def msR (t : Dec) : Nat := 10 * t.dp.toNat + (dg t.d 0 - 48)
structure FbRI (s : FbS) : Prop extends FbI s where
 dp : -830 ≤ s.t.dp ∧ s.t.dp ≤ 310
 e : 0 ≤ s.e ∧ s.e + 27 * ((msR s.t : Nat) : Int) ≤ 84000
theorem yrq {s : FbS} (h : FbRI s) (hd : zhv s = false) : FbRI (zhq s) ∧ msR (zhq s).t < msR s.t := by
 have hd : ¬ s.t.dp ≤ 0 := of_decide_eq_false hd;have hp := pt_le s.t.dp.toNat;obtain ⟨h1, h2, h3, h4, h5⟩ := kz (k := pt s.t.dp.toNat) h.dec hp.1 h.pos;have h6 := h.dp;have h7 := h.e;have h8 := (h1.dig 0 h2);have h9 := (h.dec.dig 0 h.pos);have ha := h.dec.lead h.pos;have hb := h1.lead h2;have hm : msR (zhq s).t < msR s.t := by
  show 10 * (jw s.t (pt s.t.dp.toNat)).dp.toNat + (dg (jw s.t (pt s.t.dp.toNat)).d 0 - 48) < 10 * s.t.dp.toNat + (dg s.t.d 0 - 48)
  rcases h4 with h4 | ⟨h4, h4'⟩ <;> omega
 refine ⟨⟨⟨h1, h2⟩, ?_, ?_⟩, hm⟩
 · show -830 ≤ (jw s.t (pt s.t.dp.toNat)).dp ∧ (jw s.t (pt s.t.dp.toNat)).dp ≤ 310
   omega
 · show 0 ≤ s.e + ((pt s.t.dp.toNat : Nat) : Int) ∧ s.e + ((pt s.t.dp.toNat : Nat) : Int) + 27 * ((msR (zhq s).t : Nat) : Int) ≤ 84000
   omega
theorem yrz {t : Dec} (h : DecI t) (h0 : 0 < t.nd) (hd : -330 ≤ t.dp ∧ t.dp ≤ 310) : FbRI ⟨t, 0⟩ := by
 have h9 := (h.dig 0 h0);refine ⟨⟨h, h0⟩, by show -830 ≤ t.dp ∧ t.dp ≤ 310; omega, Int.le_refl 0, ?_⟩;show (0 : Int) + 27 * ((msR t : Nat) : Int) ≤ 84000
 unfold msR; omega
noncomputable def fbR (t : Dec) : FbS := qz zhv zhq ⟨t, 0⟩
theorem fbR_ends {t : Dec} (h : DecI t) (h0 : 0 < t.nd) (hd : -330 ≤ t.dp ∧ t.dp ≤ 310) : FbRI (fbR t) ∧ zhv (fbR t) = true :=
 ja FbRI (fun s => msR s.t) (fun _ h hd => yrq h hd) (yrz h h0 hd)
def msL (t : Dec) : Nat := 10 * (1 - t.dp).toNat + (57 - dg t.d 0)
structure FbLI (s : FbS) : Prop extends FbI s where
 dp : -830 ≤ s.t.dp ∧ s.t.dp ≤ 16
 e : s.e ≤ 84000 ∧ 27 * ((msL s.t : Nat) : Int) - 225000 ≤ s.e
theorem yrv {s : FbS} (h : FbLI s) (hd : zpx s = false) : FbLI (zhk s) ∧ msL (zhk s).t < msL s.t := by
 have hd : s.t.dp < 0 ∨ (s.t.dp = 0 ∧ dg s.t.d 0 < 53) := Classical.byContradiction fun e => (of_decide_eq_false hd) e;have hp := pt_le (-s.t.dp).toNat;obtain ⟨h1, h2, h3, h3', h4, h5⟩ := znv (k := pt (-s.t.dp).toNat) h.dec h.pos (pt_shl _);have h6 := h.dp;have h7 := h.e;have h8 := (h1.dig 0 h2);have h9 := (h.dec.dig 0 h.pos);have ha := h.dec.lead h.pos;have hb := h1.lead h2
 have hm : msL (zhk s).t < msL s.t := by
  show 10 * (1 - (vn s.t (pt (-s.t.dp).toNat)).dp).toNat + (57 - dg (vn s.t (pt (-s.t.dp).toNat)).d 0) < 10 * (1 - s.t.dp).toNat + (57 - dg s.t.d 0)
  rcases h4 with h4 | ⟨h4, h4'⟩ <;> omega
 refine ⟨⟨⟨h1, h2⟩, ?_, ?_⟩, hm⟩
 · show -830 ≤ (vn s.t (pt (-s.t.dp).toNat)).dp ∧ (vn s.t (pt (-s.t.dp).toNat)).dp ≤ 16
   omega
 · show s.e - ((pt (-s.t.dp).toNat : Nat) : Int) ≤ 84000 ∧ 27 * ((msL (zhk s).t : Nat) : Int) - 225000 ≤ s.e - ((pt (-s.t.dp).toNat : Nat) : Int)
   omega
theorem yrk {s : FbS} (h : FbRI s) (hd : zhv s = true) : FbLI s := by
 have hd : s.t.dp ≤ 0 := of_decide_eq_true hd;have h1 := h.dp;have h2 := h.e;have h3 := h.dec.dig 0 h.pos;refine ⟨h.toFbI, by omega, by omega, ?_⟩;unfold msL; omega
noncomputable def fbL (t : Dec) : FbS := qz zpx zhk (fbR t)
theorem fbL_ends {t : Dec} (h : DecI t) (h0 : 0 < t.nd) (hd : -330 ≤ t.dp ∧ t.dp ≤ 310) : FbLI (fbL t) ∧ zpx (fbL t) = true := by
 obtain ⟨h1, h2⟩ := fbR_ends h h0 hd;exact ja FbLI (fun s => msL s.t) (fun _ h hd => yrv h hd) (yrk h1 h2)
/-! ### many places to the right -/
structure ShS where
 t : Dec
 k : Nat
def zsq (s : ShS) : Bool := decide (s.k ≤ 60)
noncomputable def ydx (s : ShS) : ShS := ⟨jw s.t 60, s.k - 60⟩
noncomputable def shA (t : Dec) (k : Nat) : ShS := qz zsq ydx ⟨t, k⟩
noncomputable def shrD (t : Dec) (k : Nat) : Dec := jw (shA t k).t (shA t k).k
structure ShI (s : ShS) : Prop where
 dec : DecI s.t
 pos : 0 < s.t.nd
 k1 : 1 ≤ s.k ∧ s.k ≤ 300000
 dp : -10000000 + 15 * ((s.k : Nat) : Int) ≤ s.t.dp ∧ s.t.dp ≤ 1000000
theorem sh_keeps {s : ShS} (h : ShI s) (hd : zsq s = false) : ShI (ydx s) ∧ (ydx s).k < s.k := by
 have hd : ¬ s.k ≤ 60 := of_decide_eq_false hd;obtain ⟨h1, h2, h3, h4, h5⟩ := kz (k := 60) h.dec (by decide) h.pos;have h6 := h.dp;have h7 := h.k1;refine ⟨⟨h1, h2, by show 1 ≤ s.k - 60 ∧ s.k - 60 ≤ 300000; omega, ?_⟩, by show s.k - 60 < s.k; omega⟩;show -10000000 + 15 * ((s.k - 60 : Nat) : Int) ≤ (jw s.t 60).dp ∧ (jw s.t 60).dp ≤ 1000000
 omega
theorem sh_ends {t : Dec} {k : Nat} (h : ShI ⟨t, k⟩) : ShI (shA t k) ∧ zsq (shA t k) = true :=
 ja ShI (fun s => s.k) (fun _ h hd => sh_keeps h hd) h
theorem shrD_keeps {t : Dec} {k : Nat} (h : ShI ⟨t, k⟩) : DecI (shrD t k) ∧ 0 < (shrD t k).nd ∧ -11000000 ≤ (shrD t k).dp ∧ (shrD t k).dp ≤ 1000000 := by
 obtain ⟨h1, h2⟩ := sh_ends h;have h2 : (shA t k).k ≤ 60 := of_decide_eq_true h2;obtain ⟨h3, h4, h5, h6, _⟩ := kz (k := (shA t k).k) h1.dec h1.k1.1 h1.pos;have h7 := h1.dp;refine ⟨h3, h4, ?_, ?_⟩ <;> unfold shrD <;> omega
/-! ### the whole part -/
def rup (t : Dec) (p : Int) : Bool :=
 if p < 0 ∨ ((t.nd : Nat) : Int) ≤ p then false
 else if dg t.d p.toNat = 53 ∧ p + 1 = ((t.nd : Nat) : Int) then (if t.tr then true else if 0 < p then decide ((dg t.d (p.toNat - 1) - 48) % 2 ≠ 0) else false)
 else decide (53 ≤ dg t.d p.toNat)
def zxx (t : Dec) (s : RsS) : Bool := decide (¬ (((s.r : Nat) : Int) < t.dp ∧ s.r < t.nd))
def yhx (t : Dec) (s : RsS) : RsS := ⟨s.r + 1, (s.n * 10 % 18446744073709551616 + (dg t.d s.r - 48)) % 18446744073709551616⟩
def yhz (t : Dec) (s : RsS) : Bool := decide (¬ ((s.r : Nat) : Int) < t.dp)
def ygv (s : RsS) : RsS := ⟨s.r + 1, s.n * 10 % 18446744073709551616⟩
noncomputable def riA (t : Dec) : RsS := qz (zxx t) (yhx t) ⟨0, 0⟩
noncomputable def riB (t : Dec) : RsS := qz (yhz t) ygv (riA t)
noncomputable def xg (t : Dec) : Nat := if 20 < t.dp then 18446744073709551615 else if rup t t.dp then ((riB t).n + 1) % 18446744073709551616 else (riB t).n
structure RiI (s : RsS) : Prop where
 hr : s.r ≤ 20
 hn : s.n < 18446744073709551616
theorem ypq {t : Dec} {s : RsS} (hp : t.dp ≤ 20) (_ : RiI s) (hd : zxx t s = false) : RiI (yhx t s) := by
 have hd : ((s.r : Nat) : Int) < t.dp ∧ s.r < t.nd := Classical.byContradiction fun e => (of_decide_eq_false hd) e;exact ⟨by show s.r + 1 ≤ 20; omega, Nat.mod_lt _ (by decide)⟩
theorem ypz {t : Dec} {s : RsS} (hp : t.dp ≤ 20) (_ : RiI s) (hd : yhz t s = false) : RiI (ygv s) := by
 have hd : ((s.r : Nat) : Int) < t.dp := Classical.byContradiction fun e => (of_decide_eq_false hd) e;exact ⟨by show s.r + 1 ≤ 20; omega, Nat.mod_lt _ (by decide)⟩
theorem riA_ends {t : Dec} (hp : t.dp ≤ 20) : RiI (riA t) := by
 refine (ja RiI (fun s => 20 - s.r) (fun s h hd => ⟨ypq hp h hd, ?_⟩) ⟨Nat.zero_le _, by decide⟩).1;have := (ypq hp h hd).hr;have e : (yhx t s).r = s.r + 1 := rfl;omega
theorem riB_ends {t : Dec} (hp : t.dp ≤ 20) : RiI (riB t) := by
 refine (ja RiI (fun s => 20 - s.r) (fun s h hd => ⟨ypz hp h hd, ?_⟩) (riA_ends hp)).1;have := (ypz hp h hd).hr;have e : (ygv s).r = s.r + 1 := rfl;omega
theorem roundD_lt (t : Dec) : xg t < 18446744073709551616 := by
 unfold xg;split
 · decide
 · rename_i h
   split
   · exact Nat.mod_lt _ (by decide)
   · exact (riB_ends (by omega)).hn
/-! ### the float -/
def slowB (m e : Nat) (neg : Bool) : Nat := if neg then ((m &&& 4503599627370495) ||| (e * 4503599627370496)) ||| 9223372036854775808 else (m &&& 4503599627370495) ||| (e * 4503599627370496)
noncomputable def yxq (t : Dec) (e : Int) : Nat × Nat × Bool :=
 if xg t = 9007199254740992 then (if 1023 ≤ e then (0, 2047, true) else (4503599627370496, (e + 1 + 1023).toNat, false))
 else (xg t, if xg t &&& 4503599627370496 = 0 then 0 else (e + 1023).toNat, false)
noncomputable def fbMid (t : Dec) (e : Int) : Nat × Nat × Bool :=
 if e < -1022 then yxq (vn (shrD t (-1022 - e).toNat) 53) (-1022)
 else if 1024 ≤ e then (0, 2047, true)
 else yxq (vn t 53) e
noncomputable def oa (t : Dec) : Nat × Nat × Bool :=
 if t.nd = 0 then (0, 0, false)
 else if 310 < t.dp then (0, 2047, true)
 else if t.dp < -330 then (0, 0, false)
 else fbMid (fbL t).t ((fbL t).e - 1)
noncomputable def zgx (t : Dec) : Nat := slowB (oa t).1 (oa t).2.1 t.neg
structure Nm (s : ByteArray) (f p E q : Nat) : Prop where
 fp : f < p
 pE : p ≤ E
 hE : E ≤ s.size
 dig1 : ∀ i, f ≤ i → i < p → 48 ≤ bAt s i ∧ bAt s i ≤ 57
 dot : p < E → bAt s p = 46 ∧ p + 1 < E
 dig2 : ∀ i, p < i → i < E → 48 ≤ bAt s i ∧ bAt s i ≤ 57
 exp : E < s.size → bAt s E = 101 ∧ ((q = E + 1 ∧ bAt s (E + 1) ≠ 43 ∧ bAt s (E + 1) ≠ 45) ∨ (q = E + 2 ∧ (bAt s (E + 1) = 43 ∨ bAt s (E + 1) = 45))) ∧ q < s.size ∧ ∀ i, q ≤ i → i < s.size → 48 ≤ bAt s i ∧ bAt s i ≤ 57
theorem yjx {c : Nat} (h : 48 ≤ c ∧ c ≤ 57) : isDg c = true := decide_eq_true h
theorem Nm.at_ {s : ByteArray} {f p E q i : Nat} (h : Nm s f p E q) (h1 : f ≤ i) (h2 : i < E) : (i ≠ p ∧ 48 ≤ bAt s i ∧ bAt s i ≤ 57) ∨ (i = p ∧ bAt s i = 46) := by
 rcases Nat.lt_trichotomy i p with h3 | h3 | h3
 · exact .inl ⟨by omega, h.dig1 i h1 h3⟩
 · subst h3; exact .inr ⟨rfl, (h.dot h2).1⟩
 · exact .inl ⟨by omega, h.dig2 i h3 h2⟩
/-! ### the first loop -/
structure RdN (s : ByteArray) (f p E q : Nat) (t : RdS) : Prop extends RdI s t where
 fi : f ≤ t.i
 iE : t.i ≤ E
 dt : t.dot = true → p < t.i
 dg : f < t.i → t.dig = true
theorem rdN_cont {s : ByteArray} {f p E q : Nat} {t : RdS} (hs : Nm s f p E q) (h : RdN s f p E q t) (hi : t.i < E) : xw s t = false := by
 have hE := hs.hE;unfold xw;rw [Bool.or_eq_false_iff];refine ⟨decide_eq_false (by omega), ?_⟩;rcases hs.at_ h.fi hi with ⟨_, h1⟩ | ⟨h1, h2⟩
 · rw [if_neg (by omega), yjx h1]; rfl
 · rw [if_pos h2];cases hd : t.dot with
   | false => rfl
   | true => have := h.dt hd; omega
theorem rdN_keeps {s : ByteArray} {f p E q : Nat} {t : RdS} (hs : Nm s f p E q) (h : RdN s f p E q t) (hd : xw s t = false) : RdN s f p E q (jp s t) ∧ t.i < E := by
 have hi : t.i < E := by
  refine Nat.lt_of_not_le fun hge => ?_;have e : t.i = E := by have := h.iE; omega
  unfold xw at hd;rw [Bool.or_eq_false_iff] at hd;have h1 : ¬ s.size ≤ t.i := of_decide_eq_false hd.1;have h2 := (hs.exp (by omega)).1;rw [e, h2, if_neg (by decide)] at hd;exact absurd hd.2 (by decide)
 have hstep : (jp s t).i = t.i + 1 := by
  unfold jp;split
  · rfl
  · split
    · rfl
    · split <;> rfl
 have hk := rd_keeps h.toRdI hd;have hfi := h.fi;refine ⟨⟨hk, by rw [hstep]; omega, by rw [hstep]; omega, ?_, ?_⟩, hi⟩
 · rw [hstep];rcases hs.at_ h.fi hi with ⟨_, h1⟩ | ⟨h1, h2⟩
   · intro e;have hdt : (jp s t).dot = t.dot := by
      unfold jp;rw [if_neg (by omega)];split
      · rfl
      · split <;> rfl
     rw [hdt] at e;have := h.dt e; omega
   · intro _; omega
 · intro _;rcases hs.at_ h.fi hi with ⟨_, h1⟩ | ⟨h1, h2⟩
   · unfold jp;rw [if_neg (by omega)];split
     · rfl
     · split <;> rfl
   · have hp := hs.fp;unfold jp;rw [if_pos h2];exact h.dg (by omega)
theorem rdN_start {s : ByteArray} {f p E q : Nat} (hs : Nm s f p E q) : RdN s f p E q ⟨f, 0, 0, 0, 0, false, false, false⟩ := by
 have h1 := hs.fp;have h2 := hs.pE;have h3 := hs.hE;exact ⟨⟨by show f ≤ s.size; omega, by show 0 < 10 ^ 0; decide, Nat.zero_le _, Nat.zero_le _, by show -((f : Nat) : Int) ≤ 0 ∧ 0 ≤ ((f : Nat) : Int); omega⟩, Nat.le_refl _, by show f ≤ E; omega, fun e => (by cases e), fun e => absurd e (Nat.lt_irrefl _)⟩
noncomputable def rdA (s : ByteArray) (f : Nat) : RdS := qz (xw s) (jp s) ⟨f, 0, 0, 0, 0, false, false, false⟩
theorem rd_out {s : ByteArray} {f p E q : Nat} {t : RdS} (hs : Nm s f p E q) (h : RdN s f p E q t) (hd : xw s t = true) : t.i = E := by
 rcases Nat.lt_or_ge t.i E with h1 | h1
 · rw [rdN_cont hs h h1] at hd; cases hd
 · have := h.iE; omega
theorem rdA_ends {s : ByteArray} {f p E q : Nat} (hs : Nm s f p E q) : RdN s f p E q (rdA s f) ∧ (rdA s f).i = E := by
 have h := ja (done := xw s) (step := jp s) (RdN s f p E q) (fun t => E - t.i) (fun t h hd => ?_) (rdN_start hs)
 · exact ⟨h.1, rd_out hs h.1 h.2⟩
 · obtain ⟨h1, h2⟩ := rdN_keeps hs h hd;refine ⟨h1, ?_⟩;have hstep : (jp s t).i = t.i + 1 := by
    unfold jp;split
    · rfl
    · split
      · rfl
      · split <;> rfl
   omega
/-! ### the exponent's loop -/
structure ExS where
 i : Nat
 e : Nat
def xe (s : ByteArray) (t : ExS) : Bool := decide (s.size ≤ t.i) || !isDg (bAt s t.i)
def zbz (s : ByteArray) (t : ExS) : ExS := ⟨t.i + 1, if t.e < 10000 then t.e * 10 + (bAt s t.i - 48) else t.e⟩
structure ExI (s : ByteArray) (q : Nat) (t : ExS) : Prop where
 hi : q ≤ t.i ∧ t.i ≤ s.size
 he : t.e < 100000
theorem ex_keeps {s : ByteArray} {q : Nat} {t : ExS} (h : ExI s q t) (hd : xe s t = false) : ExI s q (zbz s t) ∧ t.i < s.size ∧ isDg (bAt s t.i) = true := by
 unfold xe at hd;rw [Bool.or_eq_false_iff] at hd;have h1 : ¬ s.size ≤ t.i := of_decide_eq_false hd.1;have h2 : isDg (bAt s t.i) = true := by simpa using hd.2
 have h3 := of_decide_eq_true h2;have h4 := h.hi;have h5 := h.he;refine ⟨⟨by show q ≤ t.i + 1 ∧ t.i + 1 ≤ s.size; omega, ?_⟩, by omega, h2⟩;show (if t.e < 10000 then t.e * 10 + (bAt s t.i - 48) else t.e) < 100000
 split <;> omega
noncomputable def exA (s : ByteArray) (q : Nat) : ExS := qz (xe s) (zbz s) ⟨q, 0⟩
theorem zuz {s : ByteArray} {q : Nat} (hq : q ≤ s.size) : ExI s q (exA s q) ∧ xe s (exA s q) = true :=
 ja (ExI s q) (fun t => s.size - t.i) (fun t h hd => by
  obtain ⟨h1, h2, _⟩ := ex_keeps h hd;exact ⟨h1, by show s.size - (t.i + 1) < s.size - t.i; omega⟩) ⟨⟨Nat.le_refl _, hq⟩, by show 0 < 100000; decide⟩
theorem ex_out {s : ByteArray} {q : Nat} {t : ExS} (hs : ∀ i, q ≤ i → i < s.size → 48 ≤ bAt s i ∧ bAt s i ≤ 57) (h : ExI s q t) (hd : xe s t = true) : t.i = s.size := by
 rcases Nat.lt_or_ge t.i s.size with h1 | h1
 · have h2 := hs t.i h.hi.1 h1;unfold xe at hd;rw [yjx h2, decide_eq_false (by omega)] at hd;cases hd
 · have := h.hi; omega
noncomputable def zfz (s : ByteArray) (E : Nat) : Int :=
 if s.size ≤ E then 0
 else if bAt s (E + 1) = 45 then -(((exA s (E + 2)).e : Nat) : Int)
 else if bAt s (E + 1) = 43 then (((exA s (E + 2)).e : Nat) : Int)
 else (((exA s (E + 1)).e : Nat) : Int)
theorem ykz {s : ByteArray} {f p E q : Nat} (hs : Nm s f p E q) : -100000 ≤ zfz s E ∧ zfz s E ≤ 100000 := by
 unfold zfz;split
 · omega
 · rename_i h
   obtain ⟨_, h2, h3, _⟩ := hs.exp (by omega);split
   · have := (zuz (s := s) (q := E + 2) (by omega)).1.he; omega
   · split
     · have := (zuz (s := s) (q := E + 2) (by omega)).1.he; omega
     · have := (zuz (s := s) (q := E + 1) (by omega)).1.he; omega
noncomputable def rdP (s : ByteArray) (f : Nat) : Int := (if (rdA s f).dot then (rdA s f).dp else (((rdA s f).nd : Nat) : Int)) + zfz s (rdA s f).i
noncomputable def rdX (s : ByteArray) (f : Nat) : Int := if (rdA s f).m ≠ 0 then rdP s f - (((rdA s f).nm : Nat) : Int) else 0
/-! ### the decimal's loop -/
structure StS where
 i : Nat
 dot : Bool
 dig : Bool
 t : Dec
def oi (s : ByteArray) (t : StS) : Bool := decide (s.size ≤ t.i) || (if bAt s t.i = 46 then t.dot else !isDg (bAt s t.i))
def kc (s : ByteArray) (a : StS) : StS :=
 if bAt s a.i = 46 then { a with i := a.i + 1, dot := true, t := { a.t with dp := ((a.t.nd : Nat) : Int) } }
 else if bAt s a.i = 48 ∧ a.t.nd = 0 then { a with i := a.i + 1, dig := true, t := { a.t with dp := a.t.dp - 1 } }
 else if a.t.nd < 800 then { a with i := a.i + 1, dig := true, t := { a.t with d := a.t.d.set a.t.nd (bAt s a.i), nd := a.t.nd + 1 } }
 else { a with i := a.i + 1, dig := true, t := { a.t with tr := if bAt s a.i ≠ 48 then true else a.t.tr } }
structure StN (s : ByteArray) (f p E q : Nat) (a : StS) : Prop where
 fi : f ≤ a.i
 iE : a.i ≤ E
 dt : a.dot = true → p < a.i
 dg : f < a.i → a.dig = true
 dec : DecI a.t
 hp : -((a.i : Nat) : Int) ≤ a.t.dp ∧ a.t.dp ≤ 800
theorem stN_cont {s : ByteArray} {f p E q : Nat} {t : StS} (hs : Nm s f p E q) (h : StN s f p E q t) (hi : t.i < E) : oi s t = false := by
 have hE := hs.hE;unfold oi;rw [Bool.or_eq_false_iff];refine ⟨decide_eq_false (by omega), ?_⟩;rcases hs.at_ h.fi hi with ⟨_, h1⟩ | ⟨h1, h2⟩
 · rw [if_neg (by omega), yjx h1]; rfl
 · rw [if_pos h2];cases hd : t.dot with
   | false => rfl
   | true => have := h.dt hd; omega
theorem st_i (s : ByteArray) (a : StS) : (kc s a).i = a.i + 1 := by
 unfold kc;split
 · rfl
 · split
   · rfl
   · split <;> rfl
theorem yox {s : ByteArray} {f p E q : Nat} {a : StS} (hs : Nm s f p E q) (h : StN s f p E q a) (hd : oi s a = false) : StN s f p E q (kc s a) ∧ a.i < E := by
 have hi : a.i < E := by
  refine Nat.lt_of_not_le fun hge => ?_;have e : a.i = E := by have := h.iE; omega
  unfold oi at hd;rw [Bool.or_eq_false_iff] at hd;have h1 : ¬ s.size ≤ a.i := of_decide_eq_false hd.1;have h2 := (hs.exp (by omega)).1;rw [e, h2, if_neg (by decide)] at hd;exact absurd hd.2 (by decide)
 have hfi := h.fi;have hp := h.hp;have hdec := h.dec;have hn := hdec.hn;refine ⟨?_, hi⟩;rcases hs.at_ h.fi hi with ⟨hne, h1⟩ | ⟨h1, h2⟩
 · have hno : bAt s a.i ≠ 46 := by omega
   have hdt : a.dot = true → p < a.i + 1 := fun e => by have := h.dt e; omega
   unfold kc;rw [if_neg hno];split
   · exact ⟨by show f ≤ a.i + 1; omega, by show a.i + 1 ≤ E; omega, hdt, fun _ => rfl, ⟨hdec.len, hdec.hn, hdec.dig, hdec.lead⟩, by show -((a.i + 1 : Nat) : Int) ≤ a.t.dp - 1 ∧ a.t.dp - 1 ≤ 800; omega⟩
   · rename_i hz
     split
     · rename_i hlt
       refine ⟨by show f ≤ a.i + 1; omega, by show a.i + 1 ≤ E; omega, hdt, fun _ => rfl, ⟨?_, by show a.t.nd + 1 ≤ 800; omega, fun i hi => ?_, fun _ => ?_⟩, by show -((a.i + 1 : Nat) : Int) ≤ a.t.dp ∧ a.t.dp ≤ 800; omega⟩
       · show (a.t.d.set _ _).length = 800
         rw [List.length_set]; exact hdec.len
       · have hi : i < a.t.nd + 1 := hi;show 48 ≤ dg (a.t.d.set a.t.nd (bAt s a.i)) i ∧ dg (a.t.d.set a.t.nd (bAt s a.i)) i ≤ 57
         rw [zvx (by rw [hdec.len]; exact hlt)];split
         · exact h1
         · exact hdec.dig i (by omega)
       · show 49 ≤ dg (a.t.d.set a.t.nd (bAt s a.i)) 0
         rw [zvx (by rw [hdec.len]; exact hlt)];split
         · rename_i e
           have : bAt s a.i ≠ 48 := fun e2 => hz ⟨e2, e.symm⟩;omega
         · exact hdec.lead (by omega)
     · exact ⟨by show f ≤ a.i + 1; omega, by show a.i + 1 ≤ E; omega, hdt, fun _ => rfl, ⟨hdec.len, hdec.hn, hdec.dig, hdec.lead⟩, by show -((a.i + 1 : Nat) : Int) ≤ a.t.dp ∧ a.t.dp ≤ 800; omega⟩
 · have hpp := hs.fp;unfold kc;rw [if_pos h2];exact ⟨by show f ≤ a.i + 1; omega, by show a.i + 1 ≤ E; omega, fun _ => by show p < a.i + 1; omega, fun _ => h.dg (by omega), ⟨hdec.len, hdec.hn, hdec.dig, hdec.lead⟩, by show -((a.i + 1 : Nat) : Int) ≤ ((a.t.nd : Nat) : Int) ∧ ((a.t.nd : Nat) : Int) ≤ 800; omega⟩
def zpq (neg : Bool) : Dec := ⟨List.replicate 800 0, 0, 0, neg, false⟩
theorem dec0_ok (neg : Bool) : DecI (zpq neg) := ⟨List.length_replicate, Nat.zero_le _, fun _ hi => absurd hi (Nat.not_lt_zero _), fun hi => absurd hi (Nat.lt_irrefl _)⟩
theorem ynv {s : ByteArray} {f p E q : Nat} (neg : Bool) (hs : Nm s f p E q) : StN s f p E q ⟨f, false, false, zpq neg⟩ := by
 have h1 := hs.fp;have h2 := hs.pE;exact ⟨Nat.le_refl _, by show f ≤ E; omega, fun e => (by cases e), fun e => absurd e (Nat.lt_irrefl _), dec0_ok neg, by show -((f : Nat) : Int) ≤ 0 ∧ (0 : Int) ≤ 800; omega⟩
noncomputable def stA (s : ByteArray) (f : Nat) (neg : Bool) : StS := qz (oi s) (kc s) ⟨f, false, false, zpq neg⟩
theorem st_out {s : ByteArray} {f p E q : Nat} {t : StS} (hs : Nm s f p E q) (h : StN s f p E q t) (hd : oi s t = true) : t.i = E := by
 rcases Nat.lt_or_ge t.i E with h1 | h1
 · rw [stN_cont hs h h1] at hd; cases hd
 · have := h.iE; omega
theorem stA_ends {s : ByteArray} {f p E q : Nat} (neg : Bool) (hs : Nm s f p E q) : StN s f p E q (stA s f neg) ∧ (stA s f neg).i = E := by
 have h := ja (done := oi s) (step := kc s) (StN s f p E q) (fun t => E - t.i) (fun t h hd => ?_) (ynv neg hs)
 · exact ⟨h.1, st_out hs h.1 h.2⟩
 · obtain ⟨h1, h2⟩ := yox hs h hd;refine ⟨h1, ?_⟩;rw [st_i];omega
noncomputable def setD (s : ByteArray) (f : Nat) (neg : Bool) : Dec :=
 { (stA s f neg).t with dp := (if (stA s f neg).dot then (stA s f neg).t.dp else (((stA s f neg).t.nd : Nat) : Int)) + zfz s (stA s f neg).i }
theorem setD_ok {s : ByteArray} {f p E q : Nat} (neg : Bool) (hs : Nm s f p E q) : DecI (setD s f neg) :=
 let h := (stA_ends neg hs).1.dec
 ⟨h.len, h.hn, h.dig, h.lead⟩
def ruDone (s : ByteArray) (i : Nat) : Bool := decide (s.size ≤ i) || !isDg (bAt s i)
noncomputable def runD (s : ByteArray) (a : Nat) : Nat := qz (ruDone s) (fun i => i + 1) a
structure RuI (s : ByteArray) (a i : Nat) : Prop where
 lo : a ≤ i
 hi : i ≤ s.size
 dig : ∀ j, a ≤ j → j < i → 48 ≤ bAt s j ∧ bAt s j ≤ 57
theorem bAt_end {s : ByteArray} {i : Nat} (h : s.size ≤ i) : bAt s i = 0 := by
 unfold bAt;have h1 : s.data[i]? = none := Array.getElem?_eq_none h;rw [h1]; rfl
theorem bAt_in {s : ByteArray} {i : Nat} (h : bAt s i ≠ 0) : i < s.size := by
 rcases Nat.lt_or_ge i s.size with h1 | h1
 · exact h1
 · exact absurd (bAt_end h1) h
noncomputable def nB (s : ByteArray) (a : Nat) : Nat := if bAt s a = 46 then runD s (a + 1) else a
def nQ (s : ByteArray) (b : Nat) : Nat := if bAt s (b + 1) = 43 ∨ bAt s (b + 1) = 45 then b + 2 else b + 1
noncomputable def nC (s : ByteArray) (b : Nat) : Nat := if bAt s b = 101 then runD s (nQ s b) else b
def Num3 (s : ByteArray) (b : Nat) : Prop := nC s b = s.size ∧ (bAt s b = 101 → nQ s b < nC s b)
def Num2 (s : ByteArray) (a : Nat) : Prop := (bAt s a = 46 → a + 1 < nB s a) ∧ Num3 s (nB s a)
def NumP (s : ByteArray) (f : Nat) : Prop := f < runD s f ∧ Num2 s (runD s f)
noncomputable def numB (s : ByteArray) (f : Nat) : Bool := @decide (NumP s f) (Classical.propDecidable _)
section
variable {P : Program} {N : Nat} {ops : Array Oper} {Q : Exit → Act → World → Prop} {σ : Env} {w : World} {ty : TypeId} {pos : String} {af : Array Edge} {dst : Option Nat} {Post : Value → World → Prop}
theorem qo {T T' : TypeId} {x y : Operand} {g o : Nat} {cs cs' : Array Value} {v : Value} (hs : vc P T 1) (hx : ev σ x = some (.pointer (some ⟨g, o, none⟩))) (hy : ev σ y = some v) (hb : Blk w g T' cs) (hv : v.cells = #[v]) (h1 : zak [v] = true) (hle : o < cs.size) (he : cs.setIfInBounds o v = cs')
 (k : ∀ w', Blk w' g T' cs' → Ext (Mut [some g]) w w' → Post undef w') : OW P N ops Q ⟨dst, .store T x y, ty, pos, af, none⟩ σ w Post := by
 refine ym hs hx hy hb (by rw [hv]; rfl) (by rw [hv]; exact h1) (by omega) (fun w' hb' he' => k w' ?_ he');rw [hv] at hb';rw [← he];exact hb'
end
section
variable {P : Program} {N : Nat} {ops : Array Oper} {Q : Exit → Act → World → Prop} {σ : Env} {w : World} {ty : TypeId} {pos : String} {af : Array Edge} {dst : Option Nat} {Post : Value → World → Prop}
theorem qu {x i : Operand} {T e : TypeId} {g n : Nat} {q : IntKind} {m : Int} {j : Nat} (hd : P.underlying T = some (.array n e)) (hs : vc P e 1) (hx : ev σ x = some (.pointer (some ⟨g, 0, none⟩))) (hi : ev σ i = some (.int q m)) (hm : m = (j : Int)) (hj : j < n)
 (k : Post (.pointer (some ⟨g, j, none⟩)) w) : OW P N ops Q ⟨dst, .indexAddr T x i, ty, pos, af, none⟩ σ w Post :=
 kl hd hs hx hi hm hj (by rw [Nat.mul_one, Nat.zero_add]; exact k)
theorem ybz {x i : Operand} {T e : TypeId} {g n c : Nat} {q : IntKind} {m : Int} {j : Nat} (hd : P.underlying T = some (.slice e)) (hs : vc P e 1) (hx : ev σ x = some (.slice (some ⟨g, 0, none⟩) n c)) (hi : ev σ i = some (.int q m)) (hm : m = (j : Int)) (hj : j < n)
 (k : Post (.pointer (some ⟨g, j, none⟩)) w) : OW P N ops Q ⟨dst, .indexAddr T x i, ty, pos, af, none⟩ σ w Post :=
 jz hd hs hx hi hm hj (by rw [Nat.mul_one, Nat.zero_add]; exact k)
theorem ow_sliceA0 {T e : TypeId} {x y z : Operand} {g n s h : Nat} {q q' : IntKind} {m : Int} (hd : P.underlying T = some (.array n e)) (hs : vc P e s) (hx : ev σ x = some (.pointer (some ⟨g, 0, none⟩))) (hz : ev σ z = some (.int q' ((0 : Nat) : Int))) (hy : ev σ y = some (.int q m)) (hm : m = (h : Int)) (hn : h ≤ n)
 (k : Post (.slice (some ⟨g, 0, none⟩) h n) w) : OW P N ops Q ⟨dst, .slice T x (some z) (some y) none, ty, pos, af, none⟩ σ w Post := by
 subst hm;exact yy (fun ρ ha => by
  simp only [execOp, Instr.sliceAt, Option.map_none, Option.map_some, ha hx, Sem.run_bind, run_underlying hd, Result.andThen_ok, Instr.sureAddr, Instr.sliceBounds, Sem.run_pure, jy hs, Option.isSome_none, Bool.false_eq_true, if_false, ot ha y q h n _ hy hn, ot ha z q' 0 h _ hz (Nat.zero_le _)]
  simp [Addr.add]) k
end
section
variable {P : Program} {N : Nat} {Q : Exit → Act → World → Prop} {σ : Env} {w : World} {body : Code} {n : Nat}
theorem inScope_up : ∀ (n : Nat) (e : Exit) (a : Act) (w : World), ki P body Q 0 e a w → ki P body Q n e a w
 | 0, _, _, _, h => h
 | n + 1, e, _, _, h => by
  cases e <;> first | exact h | exact .inl h
theorem cw_tail {l : Nat} {rest : Code} {ι : Type} (s : ι → Env) (R : ι → World → Prop) (_ : findLabel body l = some rest)
 (hb : (∀ i w, R i w → CW P N rest (ki P body Q 0) (s i) w) → CW P N body (ki P body Q n) σ w) (ht : ∀ i w, R i w → CW P N rest (ki P body Q 0) (s i) w) : CW P N body (ki P body Q n) σ w := hb ht
theorem zix {l k : Nat} {rest : Code} {ι : Type} {s : ι → Env} {R : ι → World → Prop} (hl : findLabel body l = some rest) (ht : ∀ i w, R i w → CW P N rest (ki P body Q 0) (s i) w) (i : ι) (hs : Sub σ (s i)) (hr : R i w) : EW N (ki P body Q (k + 1)) (.goto l) σ w :=
 ew_scope_goto hl (fun a ha => Code.wp_mono (fun e a w q => inScope_up k e a w q) (ht i w hr a (ha.weak (yqv hs))))
end
theorem cr69_6 : Gives 69 #[.float .f64 13840687554816376832] (.float .f64 4617315517961601024) := by
 intro w;refine zp Tryz.func69 rfl Tryz.ntmps69 rfl ?_;have LW := erx (No) w;have XLW := grx (No) w;have E := erx (No) w
 refine srx (anx rfl rfl (srx (mvx rfl rfl (za rfl (ke ex46 rfl (za rfl (xb (z := 4617315517961601024) rfl rfl (by kernel_rfl) (za rfl (qh (b := 4617315517961601024) yax rfl (anx rfl rfl (zu (zt (rs := [.tmp 2]) (vs := [.float .f64 4617315517961601024]) rfl ⟨rfl, trivial⟩ ?_))))))))))));exact ⟨rfl, (LW.step E XLW).toBelow⟩
theorem cr49_6 : Gives 49 #[.float .f64 13840687554816376832, .int .i64 0] (.bool false) := by
 intro w;refine zp Tryz.func49 rfl Tryz.ntmps49 rfl ?_;have LW := erx (No) w;have XLW := grx (No) w;have E := erx (No) w;refine srx (anx rfl rfl (zb (srx (mvx rfl rfl (za rfl (zw rfl rfl (rnx (yb rfl (ze (mvx rfl rfl (za rfl (zg en69 rfl ((cr69_6 _).mono ?_)))))))))))));rintro e w1 ⟨rfl, hb⟩;refine ⟨_, rfl, ?_⟩;have Ec := Ext.of_below hb No
 replace E := E.trans Ec.no;refine anx rfl rfl (srx (mvx rfl rfl (za rfl (zmk rfl rfl (zz 14 (.bool false) rfl (by kernel_rfl : (.bool (vv 4617315517961601024 9218868437227405311 == some .gt) : Value) = _) (anx rfl rfl (zu (zt (rs := [.tmp 4]) (vs := [.bool false]) rfl ⟨rfl, trivial⟩ ?_))))))));exact ⟨rfl, (LW.step E XLW).toBelow⟩
theorem cr129_7 : Gives 129 #[.float .f64 13840687554816376832] (.bool false) := by
 intro w;refine zp Tryz.func129 rfl Tryz.ntmps129 rfl ?_;have LW := erx (No) w;have XLW := grx (No) w;have E := erx (No) w
 refine srx (anx rfl rfl (srx (mvx rfl rfl (mvx rfl rfl (za rfl (xf rfl rfl (zz 5 (.bool false) rfl (by kernel_rfl : (.bool (vv 13840687554816376832 13840687554816376832 != some .eq) : Value) = _) (anx rfl rfl (zu (zt (rs := [.tmp 2]) (vs := [.bool false]) rfl ⟨rfl, trivial⟩ ?_))))))))));exact ⟨rfl, (LW.step E XLW).toBelow⟩
theorem cr129_8 : Gives 129 #[.float .f64 9218868437227405312] (.bool false) := by
 intro w;refine zp Tryz.func129 rfl Tryz.ntmps129 rfl ?_;have LW := erx (No) w;have XLW := grx (No) w;have E := erx (No) w
 refine srx (anx rfl rfl (srx (mvx rfl rfl (mvx rfl rfl (za rfl (xf rfl rfl (zz 5 (.bool false) rfl (by kernel_rfl : (.bool (vv 9218868437227405312 9218868437227405312 != some .eq) : Value) = _) (anx rfl rfl (zu (zt (rs := [.tmp 2]) (vs := [.bool false]) rfl ⟨rfl, trivial⟩ ?_))))))))));exact ⟨rfl, (LW.step E XLW).toBelow⟩
theorem cr69_9 : Gives 69 #[.float .f64 9218868437227405312] (.float .f64 9218868437227405312) := by
 intro w;refine zp Tryz.func69 rfl Tryz.ntmps69 rfl ?_;have LW := erx (No) w;have XLW := grx (No) w;have E := erx (No) w
 refine srx (anx rfl rfl (srx (mvx rfl rfl (za rfl (ke ex46 rfl (za rfl (xb (z := 9218868437227405312) rfl rfl (by kernel_rfl) (za rfl (qh (b := 9218868437227405312) yax rfl (anx rfl rfl (zu (zt (rs := [.tmp 2]) (vs := [.float .f64 9218868437227405312]) rfl ⟨rfl, trivial⟩ ?_))))))))))));exact ⟨rfl, (LW.step E XLW).toBelow⟩
theorem cr49_12 : Gives 49 #[.float .f64 9218868437227405312, .int .i64 0] (.bool true) := by
 intro w;refine zp Tryz.func49 rfl Tryz.ntmps49 rfl ?_;have LW := erx (No) w;have XLW := grx (No) w;have E := erx (No) w;refine srx (anx rfl rfl (zb (srx (mvx rfl rfl (za rfl (zw rfl rfl (rnx (yb rfl (ze (mvx rfl rfl (za rfl (zg en69 rfl ((cr69_9 _).mono ?_)))))))))))));rintro e w1 ⟨rfl, hb⟩;refine ⟨_, rfl, ?_⟩;have Ec := Ext.of_below hb No
 replace E := E.trans Ec.no;refine anx rfl rfl (srx (mvx rfl rfl (za rfl (zmk rfl rfl (zz 14 (.bool true) rfl (by kernel_rfl : (.bool (vv 9218868437227405312 9218868437227405311 == some .gt) : Value) = _) (anx rfl rfl (zu (zt (rs := [.tmp 4]) (vs := [.bool true]) rfl ⟨rfl, trivial⟩ ?_))))))));exact ⟨rfl, (LW.step E XLW).toBelow⟩
theorem cr96_12 : Gives 96 #[.float .f64 9218868437227405312] (.tuple #[.float .f64 9218868437227405312, .int .i64 0]) := by
 intro w;refine zp Tryz.func96 rfl Tryz.ntmps96 rfl ?_;have LW := erx (No) w;have XLW := grx (No) w;have E := erx (No) w
 refine srx (avx rfl rfl (anx rfl rfl (zb (zr (srx (mvx rfl rfl (za rfl (ow rfl rfl (zz 7 (.bool false) rfl (by kernel_rfl : (.bool (vv 9218868437227405312 0 == some .eq) : Value) = _) (anx rfl rfl (zl rfl (srx (mvx rfl rfl (za rfl (zg en49 rfl ((cr49_12 _).mono ?_))))))))))))))));rintro e w1 ⟨rfl, hb⟩;refine ⟨_, rfl, ?_⟩;have Ec := Ext.of_below hb No
 replace E := E.trans Ec.no;refine mvx rfl rfl (za rfl (zv rfl (za rfl (zv rfl (za rfl (yk rfl rfl (anx rfl rfl (yb rfl (srx (mvx rfl rfl (avx rfl rfl (anx rfl rfl (zu (qa (zq (zt (rs := [.tmp 2, .tmp 3]) (vs := [.float .f64 9218868437227405312, .int .i64 0]) rfl ⟨rfl, rfl, trivial⟩ ?_))))))))))))))));exact ⟨rfl, (LW.step E XLW).toBelow⟩
theorem cr59_12 : Gives 59 #[.float .f64 9218868437227405312] (.tuple #[.float .f64 9218868437227405312, .int .i64 0]) := by
 intro w;refine zp Tryz.func59 rfl Tryz.ntmps59 rfl ?_;have LW := erx (No) w;have XLW := grx (No) w;have E := erx (No) w;refine srx (avx rfl rfl (anx rfl rfl (zb (zl rfl (zf (zd (srx (mvx rfl rfl (za rfl (zg en96 rfl ((cr96_12 _).mono ?_)))))))))));rintro e w1 ⟨rfl, hb⟩;refine ⟨_, rfl, ?_⟩;have Ec := Ext.of_below hb No;replace E := E.trans Ec.no
 refine za rfl (zn rfl rfl (za rfl (zn rfl rfl (avx rfl rfl (anx rfl rfl (zu (zt (rs := [.tmp 2, .tmp 3]) (vs := [.float .f64 9218868437227405312, .int .i64 0]) rfl ⟨rfl, rfl, trivial⟩ ?_)))))));exact ⟨rfl, (LW.step E XLW).toBelow⟩
theorem cr147_12 : Gives 147 #[.float .f64 13840687554816376832, .float .f64 9218868437227405312] (.float .f64 13840687554816376832) := by
 intro w;refine zp Tryz.func147 rfl Tryz.ntmps147 rfl ?_;have LW := erx (No) w;have XLW := grx (No) w;have E := erx (No) w
 refine srx (anx rfl rfl (zb (srx (mvx rfl rfl (za rfl (ow rfl rfl (zz 11 (.bool false) rfl (by kernel_rfl : (.bool (vv 9218868437227405312 0 == some .eq) : Value) = _) (mvx rfl rfl (onx rfl rfl (zk rfl (onx rfl rfl (zg en49 rfl ((cr49_6 _).mono ?_)))))))))))));rintro e w1 ⟨rfl, hb⟩;refine ⟨_, rfl, ?_⟩;have Ec := Ext.of_below hb No;replace E := E.trans Ec.no
 refine za rfl (yi rfl rfl (mvx rfl rfl (onx rfl rfl (zk rfl (onx rfl rfl (zg en129 rfl ((cr129_7 _).mono ?_)))))));rintro e w2 ⟨rfl, hb⟩;refine ⟨_, rfl, ?_⟩;have Ec := Ext.of_below hb No;replace E := E.trans Ec.no;refine za rfl (yi rfl rfl (mvx rfl rfl (onx rfl rfl (zk rfl (onx rfl rfl (zg en129 rfl ((cr129_8 _).mono ?_)))))));rintro e w3 ⟨rfl, hb⟩
 refine ⟨_, rfl, ?_⟩;have Ec := Ext.of_below hb No;replace E := E.trans Ec.no;refine za rfl (yi rfl rfl (rnx (zl rfl (zf (zd (srx (mvx rfl rfl (za rfl (zg en69 rfl ((cr69_9 _).mono ?_))))))))));rintro e w4 ⟨rfl, hb⟩;refine ⟨_, rfl, ?_⟩;have Ec := Ext.of_below hb No;replace E := E.trans Ec.no
 refine anx rfl rfl (srx (mvx rfl rfl (za rfl (zg en59 rfl ((cr59_12 _).mono ?_)))));rintro e w5 ⟨rfl, hb⟩;refine ⟨_, rfl, ?_⟩;have Ec := Ext.of_below hb No;replace E := E.trans Ec.no
 refine mvx rfl rfl (za rfl (zn rfl rfl (za rfl (zn rfl rfl (avx rfl rfl (anx rfl rfl (srx (mvx rfl rfl (anx rfl rfl (zb (srx (mvx rfl rfl (za rfl (zxk rfl rfl (zz 34 (.bool true) rfl (by kernel_rfl : (.bool (vv 13840687554816376832 0 == some .lt) : Value) = _) (rnx (yb rfl (ze (mvx rfl rfl (za rfl (ow_fneg rfl (zz 36 (.float .f64 4617315517961601024) rfl (by kernel_rfl : (.float .f64 (13840687554816376832 ^^^ 9223372036854775808) : Value) = _) (anx rfl rfl (zb (zr (ka (zb (srx (mvx rfl rfl (mvx rfl rfl (za rfl (ow_fgeq rfl rfl (zz 39 (.bool false) rfl (by kernel_rfl : (.bool (vv 4617315517961601024 9218868437227405312 == some .gt || vv 4617315517961601024 9218868437227405312 == some .eq) : Value) = _) (yg ?_))))))))))))))))))))))))))))))))))
 refine zd (zl rfl (yr (zm (zm (zy (zd (zb (srx (mvx rfl rfl (za rfl (zxk rfl rfl (zz 58 (.bool true) rfl (by kernel_rfl : (.bool (vv 13840687554816376832 0 == some .lt) : Value) = _) (rnx (yb rfl (ze (mvx rfl rfl (za rfl (ow_fneg rfl (zz 60 (.float .f64 13840687554816376832) rfl (by kernel_rfl : (.float .f64 (4617315517961601024 ^^^ 9223372036854775808) : Value) = _) (anx rfl rfl (srx (mvx rfl rfl (anx rfl rfl (zu (zt (rs := [.tmp 4]) (vs := [.float .f64 13840687554816376832]) rfl ⟨rfl, trivial⟩ ?_)))))))))))))))))))))))))
 exact ⟨rfl, (LW.step E XLW).toBelow⟩
theorem cr121_12 : Gives 121 #[.float .f64 13840687554816376832, .float .f64 9218868437227405312] (.float .f64 13840687554816376832) := by
 intro w;refine zp Tryz.func121 rfl Tryz.ntmps121 rfl ?_;have LW := erx (No) w;have XLW := grx (No) w;have E := erx (No) w;refine srx (anx rfl rfl (zb (zl rfl (zf (zd (srx (mvx rfl rfl (mvx rfl rfl (za rfl (zg en147 rfl ((cr147_12 _).mono ?_)))))))))));rintro e w1 ⟨rfl, hb⟩;refine ⟨_, rfl, ?_⟩;have Ec := Ext.of_below hb No;replace E := E.trans Ec.no
 refine anx rfl rfl (zu (zt (rs := [.tmp 4]) (vs := [.float .f64 13840687554816376832]) rfl ⟨rfl, trivial⟩ ?_));exact ⟨rfl, (LW.step E XLW).toBelow⟩
theorem cr122_13 : Gives 122 #[.float .f64 13830554455654793216] (.float .f64 13830554455654793216) := by
 intro w;refine zp Tryz.func122 rfl Tryz.ntmps122 rfl ?_;have LW := erx (No) w;have XLW := grx (No) w;have E := erx (No) w
 refine srx (anx rfl rfl (zb (yb rfl (srx (mvx rfl rfl (za rfl (ow_round ex148 rfl (by kernel_rfl) (zz 4 (.float .f64 13830554455654793216) rfl (by kernel_rfl : (.float .f64 (zeq .down 13830554455654793216) : Value) = _) (anx rfl rfl (zu (zq (zt (rs := [.tmp 2]) (vs := [.float .f64 13830554455654793216]) rfl ⟨rfl, trivial⟩ ?_))))))))))))
 exact ⟨rfl, (LW.step E XLW).toBelow⟩
theorem cr88_13 : Gives 88 #[.float .f64 13840687554816376832, .float .f64 9218868437227405312] (.tuple #[.float .f64 13830554455654793216, .float .f64 9218868437227405312]) := by
 intro w;refine zp Tryz.func88 rfl Tryz.ntmps88 rfl ?_;have LW := erx (No) w;have XLW := grx (No) w;have E := erx (No) w;refine srx (avx rfl rfl (anx rfl rfl (srx (mvx rfl rfl (mvx rfl rfl (za rfl (zg en121 rfl ((cr121_12 _).mono ?_))))))));rintro e w1 ⟨rfl, hb⟩;refine ⟨_, rfl, ?_⟩;have Ec := Ext.of_below hb No;replace E := E.trans Ec.no
 refine anx rfl rfl (srx (mvx rfl rfl (mvx rfl rfl (za rfl (yvq (z := 0) (.inr (.inl rfl)) rfl rfl (by kernel_rfl) (mvx rfl rfl (za rfl (yvq (z := 0) (.inr (.inr (.inr rfl))) rfl rfl (by kernel_rfl) (anx rfl rfl (zb (srx (mvx rfl rfl (za rfl (xf rfl rfl (zz 18 (.bool true) rfl (by kernel_rfl : (.bool (vv 13840687554816376832 0 != some .eq) : Value) = _) (rnx (yb rfl (srx (mvx rfl rfl (za rfl (zxk rfl rfl (zz 20 (.bool true) rfl (by kernel_rfl : (.bool (vv 13840687554816376832 0 == some .lt) : Value) = _) (mvx rfl rfl (za rfl (zxk rfl rfl (zz 22 (.bool false) rfl (by kernel_rfl : (.bool (vv 9218868437227405312 0 == some .lt) : Value) = _) (za rfl (ow_neqB Tryz.underlying4 rfl rfl (rnx (yb rfl (srx (mvx rfl rfl (mvx rfl rfl (za rfl (yvq (z := 9218868437227405312) (.inl rfl) rfl rfl (by kernel_rfl) (avx rfl rfl ?_))))))))))))))))))))))))))))))))))))
 refine rnx (ze (mvx rfl rfl (za rfl (yvq (z := 13830554455654793216) (.inr (.inl rfl)) rfl rfl (by kernel_rfl) (anx rfl rfl (zb (srx (mvx rfl rfl (za rfl (ow rfl rfl (zz 32 (.bool false) rfl (by kernel_rfl : (.bool (vv 13830554455654793216 0 == some .eq) : Value) = _) (rnx (zl rfl (zf (zd (srx (mvx rfl rfl (za rfl (zg en122 rfl ((cr122_13 _).mono ?_))))))))))))))))))))
 rintro e w2 ⟨rfl, hb⟩;refine ⟨_, rfl, ?_⟩;have Ec := Ext.of_below hb No;replace E := E.trans Ec.no
 refine anx rfl rfl (zb (srx (mvx rfl rfl (mvx rfl rfl (za rfl (yvq (z := 0) (.inr (.inl rfl)) rfl rfl (by kernel_rfl) (za rfl (zmk rfl rfl (zz 43 (.bool false) rfl (by kernel_rfl : (.bool (vv 0 4602678819172646912 == some .gt) : Value) = _) (rnx (zl rfl (zf (zd (srx (mvx rfl rfl (mvx rfl rfl (avx rfl rfl (anx rfl rfl (zu (zt (rs := [.tmp 4, .tmp 5]) (vs := [.float .f64 13830554455654793216, .float .f64 9218868437227405312]) rfl ⟨rfl, rfl, trivial⟩ ?_))))))))))))))))))))
 exact ⟨rfl, (LW.step E XLW).toBelow⟩
theorem cr44_14 : Gives 44 #[.float .f64 9218868437227405312] (.int .u64 9218868437227405312) := by
 intro w;refine zp Tryz.func44 rfl Tryz.ntmps44 rfl ?_;have LW := erx (No) w;have XLW := grx (No) w;have E := erx (No) w
 refine srx (anx rfl rfl (zb (srx (mvx rfl rfl (mvx rfl rfl (za rfl (xf rfl rfl (zz 5 (.bool false) rfl (by kernel_rfl : (.bool (vv 9218868437227405312 9218868437227405312 != some .eq) : Value) = _) (rnx (zl rfl (zf (zd (srx (mvx rfl rfl (za rfl (ke ex46 rfl (anx rfl rfl (zu (zt (rs := [.tmp 2]) (vs := [.int .u64 9218868437227405312]) rfl ⟨rfl, trivial⟩ ?_)))))))))))))))))))
 exact ⟨rfl, (LW.step E XLW).toBelow⟩
theorem cr47_14 : Gives 47 #[.int .u64 13840687554816376832, .int .u64 9218868437227405312] (.tuple #[.int .u64 9218868437227405312, .int .i64 0]) := by
 intro w;refine zp Tryz.func47 rfl Tryz.ntmps47 rfl ?_;have LW := erx (No) w;have XLW := grx (No) w;have E := erx (No) w
 refine srx (avx rfl rfl (anx rfl rfl (srx (mvx rfl rfl (za rfl (qh (b := 9218868437227405312) yax rfl (anx rfl rfl (zb (srx (mvx rfl rfl (za rfl (ow rfl rfl (zz 12 (.bool false) rfl (by kernel_rfl : (.bool (vv 9218868437227405312 0 == some .eq) : Value) = _) (rnx (zl rfl (zf (zd (srx (mvx rfl rfl (za rfl (qh (b := 13840687554816376832) yax rfl (mvx rfl rfl (za rfl (zg en88 rfl ((cr88_13 _).mono ?_)))))))))))))))))))))))))
 rintro e w1 ⟨rfl, hb⟩;refine ⟨_, rfl, ?_⟩;have Ec := Ext.of_below hb No;replace E := E.trans Ec.no;refine mvx rfl rfl (za rfl (zn rfl rfl (za rfl (zn rfl rfl (avx rfl rfl (anx rfl rfl (srx (mvx rfl rfl (za rfl (zg en44 rfl ((cr44_14 _).mono ?_)))))))))));rintro e w2 ⟨rfl, hb⟩;refine ⟨_, rfl, ?_⟩;have Ec := Ext.of_below hb No;replace E := E.trans Ec.no
 refine avx rfl rfl (anx rfl rfl (zu (zt (rs := [.tmp 4, .tmp 5]) (vs := [.int .u64 9218868437227405312, .int .i64 0]) rfl ⟨rfl, rfl, trivial⟩ ?_)));exact ⟨rfl, (LW.step E XLW).toBelow⟩
theorem cr115_18 : Gives 115 #[.string ⟨#[45, 110, 97, 110]⟩, .string ⟨#[45]⟩] (.bool true) := by
 intro w;refine zp Tryz.func115 rfl Tryz.ntmps115 rfl ?_;have LW := erx (No) w;have XLW := grx (No) w;have E := erx (No) w
 refine srx (anx rfl rfl (srx (mvx rfl rfl (za rfl (qq Tryz.underlying9 rfl (mvx rfl rfl (za rfl (qq Tryz.underlying9 rfl (za rfl (va rfl rfl (mvx rfl rfl (onx rfl rfl (zk rfl (onx rfl rfl (zk rfl (onx rfl rfl (qq Tryz.underlying9 rfl (onx rfl rfl (kk (l := 0) (h := 1) Tryz.underlying9 rfl rfl ⟨_, rfl⟩ (by decide) (by decide) (zz 14 (.string ⟨#[45]⟩) rfl (by kernel_rfl : (.string ((⟨#[45, 110, 97, 110]⟩ : ByteArray).extract 0 1) : Value) = _) (onx rfl rfl (zk rfl (onx rfl rfl (zmv rfl rfl (zz 16 (.bool true) rfl (by simp only [xl]; rfl : (.bool ((⟨#[45]⟩ : ByteArray).toList == (⟨#[45]⟩ : ByteArray).toList) : Value) = _) (za rfl (yk rfl rfl (anx rfl rfl (zu (zt (rs := [.tmp 4]) (vs := [.bool true]) rfl ⟨rfl, trivial⟩ ?_))))))))))))))))))))))))))))))
 exact ⟨rfl, (LW.step E XLW).toBelow⟩
theorem cr82_18 : Gives 82 #[.string ⟨#[45, 110, 97, 110]⟩, .string ⟨#[45]⟩] (.tuple #[.string ⟨#[110, 97, 110]⟩, .bool true]) := by
 intro w;refine zp Tryz.func82 rfl Tryz.ntmps82 rfl ?_;have LW := erx (No) w;have XLW := grx (No) w;have E := erx (No) w;refine srx (avx rfl rfl (anx rfl rfl (zb (srx (mvx rfl rfl (mvx rfl rfl (za rfl (zg en115 rfl ((cr115_18 _).mono ?_)))))))));rintro e w1 ⟨rfl, hb⟩;refine ⟨_, rfl, ?_⟩;have Ec := Ext.of_below hb No;replace E := E.trans Ec.no
 refine za rfl (gg rfl (rnx (zl rfl (zf (zd (srx (mvx rfl rfl (mvx rfl rfl (za rfl (qq Tryz.underlying9 rfl (za rfl (kk (l := 1) (h := 4) Tryz.underlying9 rfl ⟨_, rfl⟩ rfl (by decide) (by decide) (zz 14 (.string ⟨#[110, 97, 110]⟩) rfl (by kernel_rfl : (.string ((⟨#[45, 110, 97, 110]⟩ : ByteArray).extract 1 4) : Value) = _) (avx rfl rfl (anx rfl rfl (zu (zt (rs := [.tmp 4, .tmp 5]) (vs := [.string ⟨#[110, 97, 110]⟩, .bool true]) rfl ⟨rfl, rfl, trivial⟩ ?_)))))))))))))))))
 exact ⟨rfl, (LW.step E XLW).toBelow⟩
theorem cr39_18 : Gives 39 #[.string ⟨#[45, 110, 97, 110]⟩, .string ⟨#[45]⟩] (.tuple #[.string ⟨#[110, 97, 110]⟩, .bool true]) := by
 intro w;refine zp Tryz.func39 rfl Tryz.ntmps39 rfl ?_;have LW := erx (No) w;have XLW := grx (No) w;have E := erx (No) w;refine srx (avx rfl rfl (anx rfl rfl (srx (mvx rfl rfl (mvx rfl rfl (za rfl (zg en82 rfl ((cr82_18 _).mono ?_))))))));rintro e w1 ⟨rfl, hb⟩;refine ⟨_, rfl, ?_⟩;have Ec := Ext.of_below hb No;replace E := E.trans Ec.no
 refine za rfl (zn rfl rfl (za rfl (zn rfl rfl (avx rfl rfl (anx rfl rfl (zu (zt (rs := [.tmp 4, .tmp 5]) (vs := [.string ⟨#[110, 97, 110]⟩, .bool true]) rfl ⟨rfl, rfl, trivial⟩ ?_)))))));exact ⟨rfl, (LW.step E XLW).toBelow⟩
theorem cr12_18 : Gives 12 #[.string ⟨#[45, 110, 97, 110]⟩] (.tuple #[.int .u64 9221120237041090560, .int .i64 0]) := by
 intro w;refine zp Tryz.func12 rfl Tryz.ntmps12 rfl ?_;have LW := erx (No) w;have XLW := grx (No) w;have E := erx (No) w;refine srx (avx rfl rfl (anx rfl rfl (zb (srx (mvx rfl rfl (za rfl (qq Tryz.underlying9 rfl (za rfl (qd rfl rfl (rnx (zl rfl (zf (zd (srx (mvx rfl rfl (za rfl (zg en39 rfl ((cr39_18 _).mono ?_))))))))))))))))))
 rintro e w1 ⟨rfl, hb⟩;refine ⟨_, rfl, ?_⟩;have Ec := Ext.of_below hb No;replace E := E.trans Ec.no
 refine mvx rfl rfl (za rfl (zn rfl rfl (za rfl (zn rfl rfl (avx rfl rfl (anx rfl rfl (srx (anx rfl rfl (zb (zr (srx (mvx rfl rfl (za rfl (zmv rfl rfl (zz 17 (.bool false) rfl (by simp only [xl]; rfl : (.bool ((⟨#[110, 97, 110]⟩ : ByteArray).toList == (⟨#[105, 110, 102]⟩ : ByteArray).toList) : Value) = _) (anx rfl rfl (zl rfl (srx (mvx rfl rfl (za rfl (zmv rfl rfl (zz 21 (.bool true) rfl (by simp only [xl]; rfl : (.bool ((⟨#[110, 97, 110]⟩ : ByteArray).toList == (⟨#[110, 97, 110]⟩ : ByteArray).toList) : Value) = _) (anx rfl rfl (yb rfl (srx (avx rfl rfl (anx rfl rfl (zu (qa ?_)))))))))))))))))))))))))))))
 refine zq (zt (rs := [.tmp 2, .tmp 3]) (vs := [.int .u64 9221120237041090560, .int .i64 0]) rfl ⟨rfl, rfl, trivial⟩ ?_);exact ⟨rfl, (LW.step E XLW).toBelow⟩
theorem known_any (w : World) (hT : ∀ b, Below w.heap.size w b → Ten b) (hD : ∀ b, Below w.heap.size w b → TabD b) : Calls Tryz.prog 14 #[] w fun e w' => e = .returned (.bool true) ∧ Below w.heap.size w w' := by
 refine zp Tryz.func14 rfl Tryz.ntmps14 rfl ?_;have LW := erx (No) w;have XLW := grx (No) w;have E := erx (No) w;refine srx (anx rfl rfl (srx (za rfl (zg en47 rfl ((cr47_14 _).mono ?_)))));rintro e w1 ⟨rfl, hb⟩;refine ⟨_, rfl, ?_⟩;have Ec := Ext.of_below hb No;replace E := E.trans Ec.no
 refine mvx rfl rfl (za rfl (zn rfl rfl (za rfl (zn rfl rfl (avx rfl rfl (anx rfl rfl (srx (za rfl (zg en12 rfl ((cr12_18 _).mono ?_))))))))));rintro e w2 ⟨rfl, hb⟩;refine ⟨_, rfl, ?_⟩;have Ec := Ext.of_below hb No;replace E := E.trans Ec.no
 refine mvx rfl rfl (za rfl (zn rfl rfl (za rfl (zn rfl rfl (avx rfl rfl (anx rfl rfl (srx (mvx rfl rfl (za rfl (zw rfl rfl (mvx rfl rfl (onx rfl rfl (zk rfl (onx rfl rfl (zw rfl rfl (za rfl (yk rfl rfl (mvx rfl rfl (onx rfl rfl (zk rfl (onx rfl rfl (zw rfl rfl (za rfl (yk rfl rfl (mvx rfl rfl (onx rfl rfl (zk rfl (onx rfl rfl (zw rfl rfl (za rfl (yk rfl rfl (mvx rfl rfl (onx rfl rfl (zg en15 rfl ((text_z _).mono ?_)))))))))))))))))))))))))))))))))))
 rintro e w3 ⟨rfl, hb⟩;refine ⟨_, rfl, ?_⟩;have Ec := Ext.of_below hb No;replace E := E.trans Ec.no
 refine onx rfl rfl (zmv rfl rfl (zz 29 (.bool true) rfl (by simp only [xl]; rfl : (.bool ((⟨#[45, 48, 46, 48]⟩ : ByteArray).toList == (⟨#[45, 48, 46, 48]⟩ : ByteArray).toList) : Value) = _) (za rfl (yk rfl rfl (mvx rfl rfl (onx rfl rfl (zg en15 rfl ((text_o _ (later hT (LW.step E XLW).toBelow) (later hD (LW.step E XLW).toBelow)).mono ?_))))))))
 rintro e w4 ⟨rfl, hb⟩;refine ⟨_, rfl, ?_⟩;have Ec := Ext.of_below hb No;replace E := E.trans Ec.no
 refine onx rfl rfl (zmv rfl rfl (zz 33 (.bool true) rfl (by simp only [xl]; rfl : (.bool ((⟨#[49, 46, 48]⟩ : ByteArray).toList == (⟨#[49, 46, 48]⟩ : ByteArray).toList) : Value) = _) (za rfl (yk rfl rfl (anx rfl rfl (zu (zt (rs := [.tmp 0]) (vs := [_]) rfl ⟨rfl, trivial⟩ ?_)))))));exact ⟨rfl, (LW.step E XLW).toBelow⟩
end Go.Proofs.YtjdcjdohghkcgaaGreatDoor
