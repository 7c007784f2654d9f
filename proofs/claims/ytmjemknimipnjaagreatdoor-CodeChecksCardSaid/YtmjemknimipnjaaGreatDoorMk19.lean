/- Texts of this claim. -/
import Derived.Test.YtmjemknimipnjaaGreatDoorMk18
namespace Go.Proofs.YtmjemknimipnjaaGreatDoor
open Go.RowKit
set_option maxRecDepth 100000
theorem Apart.re {A : Option Addr} {n c m d : Nat} {r : Option Nat} (h : Apart (Value.slice A n c).ownBlock r) : Apart (Value.slice A m d).ownBlock r := by cases A <;> exact h
def qp (b : UInt8) : Bool := decide (48 ≤ b.toNat) && decide (b.toNat ≤ 57)
def dv (b : UInt8) : Nat := b.toNat - 48
def qa (r : List UInt8) : Nat := val 10 (r.reverse.map dv)
def vx (neg : Bool) (r : List UInt8) : Int := if r ≠ [] ∧ r.all qp = true ∧ qa r < B18 ^ 30 then sgn neg (qa r) else 0
def vw (r : List UInt8) : Int := if r ≠ [] ∧ r.all qp = true then (if qa r < B18 ^ 30 then 0 else 2) else 4
def textN (bs : List UInt8) : Bool := decide (bs.head? = some 45)
def zev (bs : List UInt8) : List UInt8 := if bs.head? = some 45 then bs.tail else bs
theorem zzv {r : List UInt8} (h : r.all qp = true) : small 10 (r.map dv) := by
 intro x hx;obtain ⟨b, hb, rfl⟩ := List.mem_map.1 hx;have h1 := List.all_eq_true.1 h b hb;unfold qp at h1;unfold dv;simp at h1
 omega
theorem ba_get (s : ByteArray) (j : Nat) : s[j]? = s.data.toList[j]? := by
 show (if h : j < s.size then some s[j] else none) = _
 by_cases h : j < s.size
 · rw [dif_pos h, List.getElem?_eq_getElem (by simpa using h)]; rfl
 · rw [dif_neg h, List.getElem?_eq_none (by simpa using h)]
theorem text_at {s : ByteArray} {pre r : List UInt8} (h : s.data.toList = pre ++ r) {k : Nat} (hk : k < r.length) : s[s.size - 1 - k]? = some (r.reverse.getD k 0) := by
 have hsz : s.size = pre.length + r.length := by have := congrArg List.length h; simpa using this
 rw [ba_get, h, List.getElem?_append_right (by omega), List.getD_eq_getElem?_getD, List.getElem?_reverse hk, show s.size - 1 - k - pre.length = r.length - 1 - k by omega, List.getElem?_eq_getElem (by omega)];rfl
def zak (l : List UInt8) : List Value := l.map fun b => .int .u8 ((b.toNat : Int) - 48)
theorem dvals_succ {l : List UInt8} {k : Nat} (hk : k < l.length) : zak (l.take k) ++ [.int .u8 (((l.getD k 0).toNat : Int) - 48)] = zak (l.take (k + 1)) := by
 rw [List.take_add_one, zak, zak, List.map_append, List.getElem?_eq_getElem hk, List.getD_eq_getElem?_getD, List.getElem?_eq_getElem hk];rfl
theorem dig_of {b : UInt8} (h1 : 48 ≤ b.toNat) (h2 : b.toNat ≤ 57) : qp b = true := by unfold qp; simp [h1, h2]
theorem ynz {r : List UInt8} {k : Nat} (hk : k < r.length) (h : qp (r.reverse.getD k 0) = false) : r.all qp = false := by
 rw [Bool.eq_false_iff];intro ha;have hm : r.reverse.getD k 0 ∈ r := by
  rw [List.getD_eq_getElem?_getD, List.getElem?_eq_getElem (by simpa using hk)];exact List.mem_reverse.1 (List.getElem_mem _)
 rw [List.all_eq_true.1 ha _ hm] at h;cases h
theorem dvals_own {w : World} {base n c : Nat} {A : Option Addr} {r : List UInt8} (h : w.ownsRow base 5 1 (.slice A n c) n (zak r.reverse)) (hr : r.all qp = true) (hn : n = r.length) : Own8 w base A c (r.reverse.map dv) := by
 subst hn;have hall : (r.reverse).all qp = true := by rw [List.all_reverse]; exact hr
 have e : zak r.reverse = (r.reverse.map dv).map fun x : Nat => Value.int .u8 (x : Int) := by
  rw [zak, List.map_map];apply List.map_congr_left
  intro b hb;have h1 := List.all_eq_true.1 hall b hb;unfold qp at h1;simp at h1
  simp only [Function.comp_apply, dv]
  congr 1
  omega
 refine ⟨?_, fun x hx => Nat.lt_trans (zzv hall x hx) (by decide)⟩;rw [← e];simpa using h
def zrk (W : World) (v f : Int) (e : Ending) (w' : World) : Prop := ∃ A c, e = .returned (.tuple #[.agg #[.bool (decide (v < 0)), .slice A (tens v).length c], .int .i64 f]) ∧ Own8 w' W.heap.size A c (tens v) ∧ Below W.heap.size W w'
theorem own8_nil (w : World) (base : Nat) : Own8 w base none 0 [] := ⟨⟨by simp, Or.inl ⟨rfl, rfl⟩⟩, fun x hx => by cases hx⟩
theorem ju {W w' : World} {f : Int} (hb : Below W.heap.size W w') : zrk W 0 f (.returned (.tuple #[.agg #[.bool false, .slice none 0 0], .int .i64 f])) w' :=
 ⟨none, 0, by rw [znk]; rfl, by rw [znk]; exact own8_nil _ _, hb⟩
theorem oc {neg : Bool} {r : List UInt8} (h : r.all qp = false) : vx neg r = 0 ∧ vw r = 4 := by
 unfold vx vw;simp [h]
theorem all_take {p : UInt8 → Bool} {l : List UInt8} {k : Nat} (hk : k < l.length) (h : (l.take k).all p = true) (hp : p (l.getD k 0) = true) : (l.take (k + 1)).all p = true := by
 rw [List.take_add_one, List.all_append, h, List.getElem?_eq_getElem hk];rw [List.getD_eq_getElem?_getD, List.getElem?_eq_getElem hk] at hp;simpa using hp
section
variable (s : ByteArray) (r : List UInt8) (w : World)
theorem read_neg (hr : r ≠ []) (hbs : s.data.toList = [45] ++ r) (hs : s.size ≤ 140737488355328) : Calls Tryz.prog 27 #[.string s] w (zrk w (vx true r) (vw r)) := by
 have hat0 : s[0]? = some 45 := by rw [ba_get, hbs]; rfl
 have hpos : (0 : Int) < (s.size : Int) := by have := congrArg List.length hbs; simp at this; omega
 refine yn Tryz.func27 rfl Tryz.ntmps27 rfl ?_;have HF : Per (No) w (fun _ => True) := Per.true_;have LW := erx (No) w;have XLW := grx (No) w;have E := erx (No) w;refine srx (za rfl (qo zr72 ?_));intro gb1 w2 Bb1 Eb1 Gb1;have Gb1 : _ ≤ gb1 := Nat.le_trans E.size Gb1;have GLb1 := Nat.le_trans LW.size Gb1;replace E := E.trans Eb1.no;replace HF := HF.cons (yb Gb1)
 replace E := E.cons (some gb1);replace XLW := Mut.grow XLW (fun k e => Or.inr (Nat.le_trans LW.size ((yb Gb1) k e)))
 refine anx rfl (srx (anx rfl (srx (anx rfl (zi (srx (mvx rfl (za rfl (yz Tryz.underlying9 rfl (za rfl (qe rfl rfl (mvx rfl (yi 11 (.bool true) rfl (by rw [decide_eq_true hpos]) (onx rfl (zv rfl (onx rfl (vj (j := 0) Tryz.underlying9 rfl rfl rfl hat0 (onx rfl (zz rfl rfl (za rfl (zq rfl rfl (rnx (yg rfl (srx (anx rfl (zg (anx rfl (zi (srx ?_)))))))))))))))))))))))))))))
 refine mvx rfl (mvx rfl (za rfl (yz Tryz.underlying9 rfl (za rfl (zz rfl rfl (rnx ?_))))));have hsz : s.size = 1 + r.length := by have := congrArg List.length hbs; simpa [Nat.add_comm] using this
 have hrl : 0 < r.length := List.length_pos_iff.2 hr;refine zp 19 (.bool false) rfl (by rw [beq_eq_false_iff_ne.2 (by omega)]) (ye rfl (zn (ze (srx (anx rfl (zi (srx (mvx rfl (za rfl (yz Tryz.underlying9 rfl (za rfl (qc rfl rfl (zw (by omega)) (anx rfl (yc ?_))))))))))))))
 have Od : World.ownsRow w2 w.heap.size 5 1 (.slice none 0 0) 0 ([]) := oy;have Dd_b1 : Apart ((Value.slice none 0 0).ownBlock) (some gb1) := fun _ e => by cases e
 have Db1_d := Dd_b1.symm;replace HF := HF.cons (jp);replace E := E.cons ((Value.slice none 0 0).ownBlock);replace XLW := Mut.grow XLW (fun k e => Or.inr (Nat.le_trans LW.size ((jp) k e)));refine zp 7 (.int .i64 ((s.size : Int) - 1 - ((0 : Nat) : Int))) rfl (by simp) ?_;replace HF := HF.on E;replace LW := LW.step E XLW
 replace E := erx (Mut [((Value.slice none 0 0).ownBlock), (some gb1)]) w2
 refine qm (ι := Nat × Option Addr × Nat) (fun (k, A1, c1) => [(0, .string s), (2, .pointer (some ⟨gb1, 0, none⟩)), (4, .bool true), (5, .int .i64 1), (6, .slice A1 k c1), (7, .int .i64 ((s.size : Int) - 1 - (k : Int)))]) (fun (k, A1, c1) w' => Ext (Mut [((Value.slice none 0 0).ownBlock), (some gb1)]) w2 w' ∧ World.ownsRow w' w.heap.size 5 1 (.slice A1 k c1) k (zak (r.reverse.take k)) ∧ Blk w' gb1 72 (#[.bool false, .slice none 0 0]) ∧ (∀ q9, ((Value.slice A1 k c1).ownBlock) = some q9 → ((Value.slice none 0 0).ownBlock) = some q9 ∨ w2.heap.size ≤ q9) ∧ (k ≤ r.length ∧ (r.reverse.take k).all qp = true)) (fun (k, A1, c1) => r.length - k) (0, none, 0) ⟨rfl, rfl, rfl, rfl, rfl, rfl, trivial⟩ ⟨Ext.refl _ _, (by exact Od), (by exact Bb1), (fun _ e => Or.inl e), ⟨Nat.zero_le _, rfl⟩⟩ ?_
 have LTd := (gk Od);have LTb1 := (yo Bb1.lt);clear Od;rintro ⟨k, A1, c1⟩ w4 ⟨M3, Od, Bb1, KdM3, ⟨hk, hall⟩⟩;replace Dd_b1 : Apart ((Value.slice A1 k c1).ownBlock) (some gb1) := Dd_b1.turn KdM3 LTb1;replace Db1_d := Dd_b1.symm
 have XM3 : Gro (Mut [((Value.slice A1 k c1).ownBlock), (some gb1)]) (Mut [((Value.slice none 0 0).ownBlock), (some gb1)]) w2 := (Mut.grow (Mut.grow Mut.none_ (fun k e => Or.inl ((Mut.tail Mut.head) k e))) (fun k e => (KdM3 k e).elim (fun e => Or.inl (Mut.head k e)) Or.inr));replace E := E.trans M3;replace HF := HF.turn E XM3;have ZLW := LW.size
 have XT := fun q9 (h : (Mut [((Value.slice A1 k c1).ownBlock), (some gb1)]) q9) => (XM3 q9 h).elim (XLW q9) (fun h => Or.inr (Nat.le_trans LW.size h));replace LW := LW.step E XLW;replace XLW := XT;clear ZLW;replace E := erx (Mut [((Value.slice A1 k c1).ownBlock), (some gb1)]) w4;clear LTd;clear LTb1
 refine zi (srx (mvx rfl (mvx rfl (za rfl (qz rfl rfl (rnx (zt rfl (fun q => ?_) (fun q => ?_))))))))
 ·
  have q := of_decide_eq_true q;have hk1 : k < r.length := by omega
  have hat := text_at hbs hk1;obtain ⟨b, hb9⟩ : ∃ b, b = r.reverse.getD k 0 := ⟨_, rfl⟩;rw [← hb9] at hat;refine zn (ze (zi (yc (zi (srx (mvx rfl (mvx rfl (za rfl (vj (j := s.size - 1 - k) Tryz.underlying9 rfl rfl (by omega) hat (za rfl (yv rfl rfl (mvx rfl (yk 33 rfl (fun h => ?_) (fun h => ?_))))))))))))))
  ·
   have h := of_decide_eq_true h;obtain ⟨e1, e2⟩ := oc (neg := true) (ynz hk1 (by rw [← hb9]; unfold qp; simp; omega))
   refine za rfl (zc rfl (za rfl (zc rfl (za rfl (zc rfl (za rfl (zc rfl (za rfl (zq rfl rfl (rnx (yg rfl (srx (za rfl (qt (cs := #[.bool false, .slice none 0 0]) pl72 zr72 rfl rfl (ya (zr zdv rfl rfl Bb1 rfl rfl (Nat.le_of_ble_eq_true rfl) ?_))))))))))))))));intro w5 Bx Eb1;replace Bb1 := Bx
   replace Od := vi Od Eb1 (NotIn.cons Dd_b1 NotIn.nil);replace E := E.step1 Eb1 (Mut.tail Mut.head);refine anx rfl (zo (zd (zj (zd (zd (zj (zd (zm (rs := [.cell 2 72, .tmp 3]) (vs := [_, _]) rfl ⟨⟨_, rfl, yy Tryz.underlying72 rfl zdv Bb1 rfl⟩, rfl, trivial⟩ ?_))))))))
   exact by rw [e1, e2]; exact ju (LW.step E XLW).toBelow
  ·
   have h := of_decide_eq_false h;refine onx rfl (zv rfl (onx rfl (zv rfl (onx rfl (vj (j := s.size - 1 - k) Tryz.underlying9 rfl rfl (by omega) hat (onx rfl (qe rfl rfl (za rfl (zx rfl rfl (rnx (zt rfl (fun h2 => ?_) (fun h2 => ?_))))))))))))
   ·
    have h2 := of_decide_eq_true h2;obtain ⟨e1, e2⟩ := oc (neg := true) (ynz hk1 (by rw [← hb9]; unfold qp; simp; omega));refine srx (za rfl (qt (cs := #[.bool false, .slice none 0 0]) pl72 zr72 rfl rfl (ya (zr zdv rfl rfl Bb1 rfl rfl (Nat.le_of_ble_eq_true rfl) ?_))));intro w6 Bx Eb1;replace Bb1 := Bx
    replace Od := vi Od Eb1 (NotIn.cons Dd_b1 NotIn.nil);replace E := E.step1 Eb1 (Mut.tail Mut.head);refine anx rfl (zo (zd (zj (zd (zd (zj (zd (zm (rs := [.cell 2 72, .tmp 3]) (vs := [_, _]) rfl ⟨⟨_, rfl, yy Tryz.underlying72 rfl zdv Bb1 rfl⟩, rfl, trivial⟩ ?_))))))))
    exact by rw [e1, e2]; exact ju (LW.step E XLW).toBelow
   ·
    have h2 := of_decide_eq_false h2;refine zn (ze (zg (mvx rfl (mvx rfl (mvx rfl (za rfl (vj (j := s.size - 1 - k) Tryz.underlying9 rfl rfl (by omega) hat ?_)))))));have hdig : qp (r.reverse.getD k 0) = true := by rw [← hb9]; exact dig_of (by omega) (by omega)
    refine za rfl (qc rfl rfl (xf (by omega)) (za rfl (vb (cs := #[.int .u8 (((b.toNat : Nat) : Int) - 48)]) Tryz.underlying70 sz5 zr5 (by decide) rfl (by rw [vz]; rfl) ?_)));intro gb7 w8 Bb7 Eb7 Gb7;have Db7_d : Apart (some gb7) ((Value.slice A1 k c1).ownBlock) := Apart.of_lt (gk Od) Gb7;have Dd_b7 := Db7_d.symm
    have Db7_b1 : Apart (some gb7) (some gb1) := Apart.of_lt (yo Bb1.lt) Gb7;have Db1_b7 := Db7_b1.symm;have Gb7 : _ ≤ gb7 := Nat.le_trans E.size Gb7;have GLb7 := Nat.le_trans LW.size Gb7;replace Od := vi Od Eb7 NotIn.nil;replace Bb1 := Bb1.extN Eb7 NotIn.nil;replace E := E.trans Eb7.no;replace HF := HF.cons (yb Gb7);replace E := E.cons (some gb7)
    replace XLW := Mut.grow XLW (fun k e => Or.inr (Nat.le_trans LW.size ((yb Gb7) k e)));replace XM3 := Mut.grow XM3 (fun k e => Or.inr (Nat.le_trans M3.size ((yb Gb7) k e)));replace HF := HF.on E;replace LW := LW.step E XLW;replace M3 := M3.step E XM3
    have SB : ∀ q9, Mut [((Value.slice A1 k c1).ownBlock), (some gb1)] q9 → Mut [(some gb7), ((Value.slice A1 k c1).ownBlock), (some gb1)] q9 := (Mut.skip (Mut.keep (Mut.keep Mut.nil_)));replace HF := HF.less SB;replace XLW := fun k h => XLW k (SB k h);replace XM3 := fun k h => XM3 k (SB k h);clear SB;replace E := erx (Mut [((Value.slice A1 k c1).ownBlock), (some gb1)]) w8
    replace HF := HF.and (Per.blkN Bb7 (NotIn.cons Db7_d (NotIn.cons Db7_b1 NotIn.nil)));refine za rfl (je (news := [.int .u8 (((b.toNat : Nat) : Int) - 48)]) Tryz.underlying70 inf5 rfl (by decide) rfl Od rfl (kl (HF.on E).here.2 ((HF.on E).here.2).lt rfl) (by simp [Value.oneCell']) (by unfold maxLen; omega) (by omega) (by exact Nat.le_trans LW.size E.size) ?_)
    intro v0 w9 On En KN;obtain ⟨A2, c2, rfl⟩ := vy On;replace KN : ∀ q9, ((Value.slice A2 (k + 1) c2).ownBlock) = some q9 → ((Value.slice A1 k c1).ownBlock) = some q9 ∨ w8.heap.size ≤ q9 := KN;have LTb1 := (yo Bb1.lt);replace Bb1 := Bb1.extN En (NotIn.cons Db1_d NotIn.nil);replace Dd_b1 : Apart ((Value.slice A2 (k + 1) c2).ownBlock) (some gb1) := Dd_b1.turn KN LTb1
    replace Db1_d := Dd_b1.symm;clear LTb1;have HY : Gro (Mut [((Value.slice A2 (k + 1) c2).ownBlock), (some gb1)]) (Mut [((Value.slice A1 k c1).ownBlock), (some gb1)]) w8 := (Mut.grow (Mut.grow Mut.none_ (fun k e => Or.inl ((Mut.tail Mut.head) k e))) (fun k e => (KN k e).elim (fun e => Or.inl (Mut.head k e)) (fun h => Or.inr (Nat.le_trans E.size h))))
    replace KdM3 : ∀ q9, ((Value.slice A2 (k + 1) c2).ownBlock) = some q9 → ((Value.slice none 0 0).ownBlock) = some q9 ∨ w2.heap.size ≤ q9 := fun k e => (KN k e).elim (KdM3 k) (fun h => Or.inr (Nat.le_trans M3.size (Nat.le_trans E.size h)));replace E := E.step1 En Mut.head
    have XT := fun q9 (h : (Mut [((Value.slice A2 (k + 1) c2).ownBlock), (some gb1)]) q9) => (HY q9 h).elim (XLW q9) (fun h => Or.inr (Nat.le_trans LW.size h));have XT := fun q9 (h : (Mut [((Value.slice A2 (k + 1) c2).ownBlock), (some gb1)]) q9) => (HY q9 h).elim (XM3 q9) (fun h => Or.inr (Nat.le_trans M3.size h));replace M3 := M3.step E XM3;replace XM3 := XT
    replace E := erx (Mut [((Value.slice A2 (k + 1) c2).ownBlock), (some gb1)]) w9;clear HY;replace Od : World.ownsRow w9 w.heap.size 5 1 (.slice A2 (k + 1) c2) (k + 1) (zak (r.reverse.take (k + 1))) := by
     have e : ((zak (r.reverse.take k)) : List Value) ++ ([.int .u8 (((b.toNat : Nat) : Int) - 48)] : List Value) = zak (r.reverse.take (k + 1)) := by rw [hb9]; exact dvals_succ (by simpa using hk1)
     rw [← e];exact On
    clear On KN En
    refine avx rfl (yd (zf (ze (zg (mvx rfl (za rfl (qc rfl rfl (zw (by omega)) (avx rfl (yd (yt 7 (.int .i64 ((s.size : Int) - 1 - ((k + 1 : Nat) : Int))) rfl ((by rw [show (s.size : Int) - 1 - (k : Int) - 1 = (s.size : Int) - 1 - ((k + 1 : Nat) : Int) by omega] : (.int .i64 (((s.size : Int) - 1 - (k : Int)) - 1) : Value) = _)) ?_))))))))))
    exact yr (k + 1, A2, c2) (by show r.length - (k + 1) < r.length - k; omega) ⟨rfl, rfl, rfl, rfl, rfl, rfl, trivial⟩ ⟨M3.step E XM3, (by exact Od), (by exact Bb1), KdM3, by omega, all_take (by simpa using hk1) hall hdig⟩
 ·
  have q := of_decide_eq_false q;have hkr : k = r.length := by omega
  have hxs : r.reverse.take k = r.reverse := by rw [hkr, ← List.length_reverse, List.take_length]
  rw [hxs] at hall;rw [List.all_reverse] at hall;have Od9 := Od;rw [hxs] at Od9;have o8 := dvals_own Od9 hall hkr;have hsv : val 10 (r.reverse.map dv) = (sgn true (qa r)).natAbs := by rw [xa]; rfl
  have hsm : small 10 (r.reverse.map dv) := zzv (by rw [List.all_reverse]; exact hall);have hlen : (r.reverse.map dv).length = r.length := by simp
  have hcut : ∀ w', Own8 w' w.heap.size A1 c1 (r.reverse.map dv) → Calls Tryz.prog 37 #[.slice A1 k c1] w' fun e w2 => e = .returned (.slice A1 (tens (sgn true (qa r))).length c1) ∧ Own8 w' w.heap.size A1 c1 (tens (sgn true (qa r))) ∧ w' = w2 := fun w' h => by
   have h9 := rcut_long w.heap.size A1 c1 _ _ w' h hsm hsv (by rw [hlen]; omega);rwa [hlen, ← hkr] at h9
  refine yw (zl (zl (zy (ze (srx (mvx rfl (za rfl (yh en37 rfl ((hcut _ o8).mono ?_)))))))));rintro e w10 ⟨rfl, o9, rfl⟩;refine ⟨_, rfl, ?_⟩;have o9s := o9.2;replace HF := HF.on E;replace LW := LW.step E XLW;have SB : ∀ q9, Mut [(some gb1)] q9 → Mut [((Value.slice A1 k c1).ownBlock), (some gb1)] q9 := (Mut.skip (Mut.keep Mut.nil_))
  replace HF := HF.less SB;replace XLW := fun k h => XLW k (SB k h);clear SB;replace E := erx (Mut [(some gb1)]) w4;replace HF := HF.and (Per.ownsN Od (NotIn.cons Dd_b1 NotIn.nil));clear Od;replace HF := HF.on E;replace LW := LW.step E XLW;replace E := erx (Mut [(some gb1)]) w4;replace HF := HF.and (Per.ownsN o9.1 (NotIn.cons Dd_b1.re NotIn.nil))
  have hnum : qa r < B18 ^ 30 ↔ (tens (sgn true (qa r))).length ≤ 540 := by rw [tens_540, xa]
  refine anx rfl (zi (srx (mvx rfl (za rfl (qr Tryz.underlying70 rfl (za rfl (qe rfl rfl (rnx (zt rfl (fun h3 => ?_) (fun h3 => ?_))))))))))
  ·
   have h3 := of_decide_eq_true h3;have e1 : vw r = 2 := by unfold vw; rw [if_pos ⟨hr, hall⟩, if_neg (by omega)]
   have e2 : vx true r = 0 := by unfold vx; rw [if_neg (by rintro ⟨_, _, h⟩; omega)]
   refine srx (za rfl (qt (cs := #[.bool false, .slice none 0 0]) pl72 zr72 rfl rfl (ya (zr zdv rfl rfl Bb1 rfl rfl (Nat.le_of_ble_eq_true rfl) ?_))));intro w11 Bx Eb1;replace Bb1 := Bx;replace E := E.step1 Eb1 Mut.head
   refine anx rfl (zo (zd (zm (rs := [.cell 2 72, .tmp 3]) (vs := [_, _]) rfl ⟨⟨_, rfl, yy Tryz.underlying72 rfl zdv Bb1 rfl⟩, rfl, trivial⟩ ?_)));exact by rw [e1, e2]; exact ju (LW.step E XLW).toBelow
  ·
   have h3 := of_decide_eq_false h3;have e1 : vw r = 0 := by unfold vw; rw [if_pos ⟨hr, hall⟩, if_pos (by omega)]
   have e2 : vx true r = sgn true (qa r) := by unfold vx; rw [if_pos ⟨hr, hall, by omega⟩]
   refine zn (ze (srx (mvx rfl (mvx rfl (onx rfl (zv rfl (onx rfl (qr Tryz.underlying70 rfl (onx rfl (qe rfl rfl (za rfl (zq rfl rfl (mvx rfl (za rfl (qt (cs := #[.bool (decide (0 < ((((tens (sgn true (qa r))).length : Nat)) : Int))), .slice A1 (tens (sgn true (qa r))).length c1]) pl72 zr72 rfl rfl (ya (zr zdv rfl rfl Bb1 rfl rfl (Nat.le_of_ble_eq_true rfl) ?_)))))))))))))))))
   intro w12 Bx Eb1;replace Bb1 := Bx;replace E := E.step1 Eb1 Mut.head;replace HF := HF.on E;replace LW := LW.step E XLW;have SB : ∀ q9, No q9 → Mut [(some gb1)] q9 := (Mut.skip Mut.nil_);replace HF := HF.less SB;replace XLW := fun k h => XLW k (SB k h);clear SB;replace E := erx (No) w12;replace HF := HF.and (Per.blkN Bb1 NotIn.nil);refine anx rfl (zo ?_)
   have hlv : decide ((0 : Int) < ((tens (sgn true (qa r))).length : Int)) = decide (qa r ≠ 0) := by
    rcases Nat.eq_zero_or_pos (qa r) with h | h
    · rw [h]; cases hq : true <;> simp [sgn, znk]
    · have := ten_pos (j := sgn true (qa r)) (by intro e; have := xa true (qa r); rw [e] at this; simp at this; omega);rw [decide_eq_true (by omega), decide_eq_true (by omega)]
   refine zm (rs := [.cell 2 72, .tmp 3]) (vs := [_, _]) rfl ⟨⟨_, rfl, yy Tryz.underlying72 rfl zdv (HF.on E).here.2 rfl⟩, rfl, trivial⟩ ?_;exact by rw [e1, e2]; exact ⟨A1, c1, by rw [sgn_neg, Bool.true_and, ← hlv]; rfl, ⟨(HF.on E).here.1.2, o9s⟩, (LW.step E XLW).toBelow⟩
theorem read_pos (hr : r ≠ []) (hbs : s.data.toList = [] ++ r) (h45 : r.head? ≠ some 45) (hs : s.size ≤ 140737488355328) : Calls Tryz.prog 27 #[.string s] w (zrk w (vx false r) (vw r)) := by
 obtain ⟨b0, hb0⟩ : ∃ b, r.head? = some b := by cases r with | nil => exact absurd rfl hr | cons b _ => exact ⟨b, rfl⟩
 have hat0 : s[0]? = some b0 := by rw [ba_get, hbs, List.nil_append]; cases r with | nil => cases hb0 | cons b _ => simpa using hb0
 have hne : b0.toNat ≠ 45 := fun e => h45 (by rw [hb0, show b0 = 45 from UInt8.toNat_inj.1 e]);have hpos : (0 : Int) < (s.size : Int) := by have h1 := congrArg List.length hbs; have h2 := List.length_pos_iff.2 hr; simp at h1; omega
 refine yn Tryz.func27 rfl Tryz.ntmps27 rfl ?_;have HF : Per (No) w (fun _ => True) := Per.true_;have LW := erx (No) w;have XLW := grx (No) w;have E := erx (No) w;refine srx (za rfl (qo zr72 ?_));intro gb1 w2 Bb1 Eb1 Gb1;have Gb1 : _ ≤ gb1 := Nat.le_trans E.size Gb1;have GLb1 := Nat.le_trans LW.size Gb1;replace E := E.trans Eb1.no;replace HF := HF.cons (yb Gb1)
 replace E := E.cons (some gb1);replace XLW := Mut.grow XLW (fun k e => Or.inr (Nat.le_trans LW.size ((yb Gb1) k e)))
 refine anx rfl (srx (anx rfl (srx (anx rfl (zi (srx (mvx rfl (za rfl (yz Tryz.underlying9 rfl (za rfl (qe rfl rfl (mvx rfl (yi 11 (.bool true) rfl (by rw [decide_eq_true hpos]) (onx rfl (zv rfl (onx rfl (vj (j := 0) Tryz.underlying9 rfl rfl rfl hat0 (onx rfl (zz rfl rfl (za rfl (zq rfl rfl (rnx (zp 15 (.bool false) rfl ((by rw [beq_eq_false_iff_ne.2 (by omega)] : (.bool (((b0.toNat : Nat) : Int) == 45) : Value) = _)) (ye rfl (zn (ze (zi (srx (mvx rfl (mvx rfl (za rfl (yz Tryz.underlying9 rfl (za rfl (zz rfl rfl (rnx ?_)))))))))))))))))))))))))))))))))))
 have hsz : s.size = 0 + r.length := by have := congrArg List.length hbs; simpa [Nat.add_comm] using this
 have hrl : 0 < r.length := List.length_pos_iff.2 hr;refine zp 19 (.bool false) rfl (by rw [beq_eq_false_iff_ne.2 (by omega)]) (ye rfl (zn (ze (srx (anx rfl (zi (srx (mvx rfl (za rfl (yz Tryz.underlying9 rfl (za rfl (qc rfl rfl (zw (by omega)) (anx rfl (yc ?_))))))))))))))
 have Od : World.ownsRow w2 w.heap.size 5 1 (.slice none 0 0) 0 ([]) := oy;have Dd_b1 : Apart ((Value.slice none 0 0).ownBlock) (some gb1) := fun _ e => by cases e
 have Db1_d := Dd_b1.symm;replace HF := HF.cons (jp);replace E := E.cons ((Value.slice none 0 0).ownBlock);replace XLW := Mut.grow XLW (fun k e => Or.inr (Nat.le_trans LW.size ((jp) k e)));refine zp 7 (.int .i64 ((s.size : Int) - 1 - ((0 : Nat) : Int))) rfl (by simp) ?_;replace HF := HF.on E;replace LW := LW.step E XLW
 replace E := erx (Mut [((Value.slice none 0 0).ownBlock), (some gb1)]) w2
 refine qm (ι := Nat × Option Addr × Nat) (fun (k, A1, c1) => [(0, .string s), (2, .pointer (some ⟨gb1, 0, none⟩)), (4, .bool false), (5, .int .i64 0), (6, .slice A1 k c1), (7, .int .i64 ((s.size : Int) - 1 - (k : Int)))]) (fun (k, A1, c1) w' => Ext (Mut [((Value.slice none 0 0).ownBlock), (some gb1)]) w2 w' ∧ World.ownsRow w' w.heap.size 5 1 (.slice A1 k c1) k (zak (r.reverse.take k)) ∧ Blk w' gb1 72 (#[.bool false, .slice none 0 0]) ∧ (∀ q9, ((Value.slice A1 k c1).ownBlock) = some q9 → ((Value.slice none 0 0).ownBlock) = some q9 ∨ w2.heap.size ≤ q9) ∧ (k ≤ r.length ∧ (r.reverse.take k).all qp = true)) (fun (k, A1, c1) => r.length - k) (0, none, 0) ⟨rfl, rfl, rfl, rfl, rfl, rfl, trivial⟩ ⟨Ext.refl _ _, (by exact Od), (by exact Bb1), (fun _ e => Or.inl e), ⟨Nat.zero_le _, rfl⟩⟩ ?_
 have LTd := (gk Od);have LTb1 := (yo Bb1.lt);clear Od;rintro ⟨k, A1, c1⟩ w4 ⟨M3, Od, Bb1, KdM3, ⟨hk, hall⟩⟩;replace Dd_b1 : Apart ((Value.slice A1 k c1).ownBlock) (some gb1) := Dd_b1.turn KdM3 LTb1;replace Db1_d := Dd_b1.symm
 have XM3 : Gro (Mut [((Value.slice A1 k c1).ownBlock), (some gb1)]) (Mut [((Value.slice none 0 0).ownBlock), (some gb1)]) w2 := (Mut.grow (Mut.grow Mut.none_ (fun k e => Or.inl ((Mut.tail Mut.head) k e))) (fun k e => (KdM3 k e).elim (fun e => Or.inl (Mut.head k e)) Or.inr));replace E := E.trans M3;replace HF := HF.turn E XM3;have ZLW := LW.size
 have XT := fun q9 (h : (Mut [((Value.slice A1 k c1).ownBlock), (some gb1)]) q9) => (XM3 q9 h).elim (XLW q9) (fun h => Or.inr (Nat.le_trans LW.size h));replace LW := LW.step E XLW;replace XLW := XT;clear ZLW;replace E := erx (Mut [((Value.slice A1 k c1).ownBlock), (some gb1)]) w4;clear LTd;clear LTb1
 refine zi (srx (mvx rfl (mvx rfl (za rfl (qz rfl rfl (rnx (zt rfl (fun q => ?_) (fun q => ?_))))))))
 ·
  have q := of_decide_eq_true q;have hk1 : k < r.length := by omega
  have hat := text_at hbs hk1;obtain ⟨b, hb9⟩ : ∃ b, b = r.reverse.getD k 0 := ⟨_, rfl⟩;rw [← hb9] at hat;refine zn (ze (zi (yc (zi (srx (mvx rfl (mvx rfl (za rfl (vj (j := s.size - 1 - k) Tryz.underlying9 rfl rfl (by omega) hat (za rfl (yv rfl rfl (mvx rfl (yk 33 rfl (fun h => ?_) (fun h => ?_))))))))))))))
  ·
   have h := of_decide_eq_true h;obtain ⟨e1, e2⟩ := oc (neg := false) (ynz hk1 (by rw [← hb9]; unfold qp; simp; omega))
   refine za rfl (zc rfl (za rfl (zc rfl (za rfl (zc rfl (za rfl (zc rfl (za rfl (zq rfl rfl (rnx (yg rfl (srx (za rfl (qt (cs := #[.bool false, .slice none 0 0]) pl72 zr72 rfl rfl (ya (zr zdv rfl rfl Bb1 rfl rfl (Nat.le_of_ble_eq_true rfl) ?_))))))))))))))));intro w5 Bx Eb1;replace Bb1 := Bx
   replace Od := vi Od Eb1 (NotIn.cons Dd_b1 NotIn.nil);replace E := E.step1 Eb1 (Mut.tail Mut.head);refine anx rfl (zo (zd (zj (zd (zd (zj (zd (zm (rs := [.cell 2 72, .tmp 3]) (vs := [_, _]) rfl ⟨⟨_, rfl, yy Tryz.underlying72 rfl zdv Bb1 rfl⟩, rfl, trivial⟩ ?_))))))))
   exact by rw [e1, e2]; exact ju (LW.step E XLW).toBelow
  ·
   have h := of_decide_eq_false h;refine onx rfl (zv rfl (onx rfl (zv rfl (onx rfl (vj (j := s.size - 1 - k) Tryz.underlying9 rfl rfl (by omega) hat (onx rfl (qe rfl rfl (za rfl (zx rfl rfl (rnx (zt rfl (fun h2 => ?_) (fun h2 => ?_))))))))))))
   ·
    have h2 := of_decide_eq_true h2;obtain ⟨e1, e2⟩ := oc (neg := false) (ynz hk1 (by rw [← hb9]; unfold qp; simp; omega));refine srx (za rfl (qt (cs := #[.bool false, .slice none 0 0]) pl72 zr72 rfl rfl (ya (zr zdv rfl rfl Bb1 rfl rfl (Nat.le_of_ble_eq_true rfl) ?_))));intro w6 Bx Eb1;replace Bb1 := Bx
    replace Od := vi Od Eb1 (NotIn.cons Dd_b1 NotIn.nil);replace E := E.step1 Eb1 (Mut.tail Mut.head);refine anx rfl (zo (zd (zj (zd (zd (zj (zd (zm (rs := [.cell 2 72, .tmp 3]) (vs := [_, _]) rfl ⟨⟨_, rfl, yy Tryz.underlying72 rfl zdv Bb1 rfl⟩, rfl, trivial⟩ ?_))))))))
    exact by rw [e1, e2]; exact ju (LW.step E XLW).toBelow
   ·
    have h2 := of_decide_eq_false h2;refine zn (ze (zg (mvx rfl (mvx rfl (mvx rfl (za rfl (vj (j := s.size - 1 - k) Tryz.underlying9 rfl rfl (by omega) hat ?_)))))));have hdig : qp (r.reverse.getD k 0) = true := by rw [← hb9]; exact dig_of (by omega) (by omega)
    refine za rfl (qc rfl rfl (xf (by omega)) (za rfl (vb (cs := #[.int .u8 (((b.toNat : Nat) : Int) - 48)]) Tryz.underlying70 sz5 zr5 (by decide) rfl (by rw [vz]; rfl) ?_)));intro gb7 w8 Bb7 Eb7 Gb7;have Db7_d : Apart (some gb7) ((Value.slice A1 k c1).ownBlock) := Apart.of_lt (gk Od) Gb7;have Dd_b7 := Db7_d.symm
    have Db7_b1 : Apart (some gb7) (some gb1) := Apart.of_lt (yo Bb1.lt) Gb7;have Db1_b7 := Db7_b1.symm;have Gb7 : _ ≤ gb7 := Nat.le_trans E.size Gb7;have GLb7 := Nat.le_trans LW.size Gb7;replace Od := vi Od Eb7 NotIn.nil;replace Bb1 := Bb1.extN Eb7 NotIn.nil;replace E := E.trans Eb7.no;replace HF := HF.cons (yb Gb7);replace E := E.cons (some gb7)
    replace XLW := Mut.grow XLW (fun k e => Or.inr (Nat.le_trans LW.size ((yb Gb7) k e)));replace XM3 := Mut.grow XM3 (fun k e => Or.inr (Nat.le_trans M3.size ((yb Gb7) k e)));replace HF := HF.on E;replace LW := LW.step E XLW;replace M3 := M3.step E XM3
    have SB : ∀ q9, Mut [((Value.slice A1 k c1).ownBlock), (some gb1)] q9 → Mut [(some gb7), ((Value.slice A1 k c1).ownBlock), (some gb1)] q9 := (Mut.skip (Mut.keep (Mut.keep Mut.nil_)));replace HF := HF.less SB;replace XLW := fun k h => XLW k (SB k h);replace XM3 := fun k h => XM3 k (SB k h);clear SB;replace E := erx (Mut [((Value.slice A1 k c1).ownBlock), (some gb1)]) w8
    replace HF := HF.and (Per.blkN Bb7 (NotIn.cons Db7_d (NotIn.cons Db7_b1 NotIn.nil)));refine za rfl (je (news := [.int .u8 (((b.toNat : Nat) : Int) - 48)]) Tryz.underlying70 inf5 rfl (by decide) rfl Od rfl (kl (HF.on E).here.2 ((HF.on E).here.2).lt rfl) (by simp [Value.oneCell']) (by unfold maxLen; omega) (by omega) (by exact Nat.le_trans LW.size E.size) ?_)
    intro v0 w9 On En KN;obtain ⟨A2, c2, rfl⟩ := vy On;replace KN : ∀ q9, ((Value.slice A2 (k + 1) c2).ownBlock) = some q9 → ((Value.slice A1 k c1).ownBlock) = some q9 ∨ w8.heap.size ≤ q9 := KN;have LTb1 := (yo Bb1.lt);replace Bb1 := Bb1.extN En (NotIn.cons Db1_d NotIn.nil);replace Dd_b1 : Apart ((Value.slice A2 (k + 1) c2).ownBlock) (some gb1) := Dd_b1.turn KN LTb1
    replace Db1_d := Dd_b1.symm;clear LTb1;have HY : Gro (Mut [((Value.slice A2 (k + 1) c2).ownBlock), (some gb1)]) (Mut [((Value.slice A1 k c1).ownBlock), (some gb1)]) w8 := (Mut.grow (Mut.grow Mut.none_ (fun k e => Or.inl ((Mut.tail Mut.head) k e))) (fun k e => (KN k e).elim (fun e => Or.inl (Mut.head k e)) (fun h => Or.inr (Nat.le_trans E.size h))))
    replace KdM3 : ∀ q9, ((Value.slice A2 (k + 1) c2).ownBlock) = some q9 → ((Value.slice none 0 0).ownBlock) = some q9 ∨ w2.heap.size ≤ q9 := fun k e => (KN k e).elim (KdM3 k) (fun h => Or.inr (Nat.le_trans M3.size (Nat.le_trans E.size h)));replace E := E.step1 En Mut.head
    have XT := fun q9 (h : (Mut [((Value.slice A2 (k + 1) c2).ownBlock), (some gb1)]) q9) => (HY q9 h).elim (XLW q9) (fun h => Or.inr (Nat.le_trans LW.size h));have XT := fun q9 (h : (Mut [((Value.slice A2 (k + 1) c2).ownBlock), (some gb1)]) q9) => (HY q9 h).elim (XM3 q9) (fun h => Or.inr (Nat.le_trans M3.size h));replace M3 := M3.step E XM3;replace XM3 := XT
    replace E := erx (Mut [((Value.slice A2 (k + 1) c2).ownBlock), (some gb1)]) w9;clear HY;replace Od : World.ownsRow w9 w.heap.size 5 1 (.slice A2 (k + 1) c2) (k + 1) (zak (r.reverse.take (k + 1))) := by
     have e : ((zak (r.reverse.take k)) : List Value) ++ ([.int .u8 (((b.toNat : Nat) : Int) - 48)] : List Value) = zak (r.reverse.take (k + 1)) := by rw [hb9]; exact dvals_succ (by simpa using hk1)
     rw [← e];exact On
    clear On KN En
    refine avx rfl (yd (zf (ze (zg (mvx rfl (za rfl (qc rfl rfl (zw (by omega)) (avx rfl (yd (yt 7 (.int .i64 ((s.size : Int) - 1 - ((k + 1 : Nat) : Int))) rfl ((by rw [show (s.size : Int) - 1 - (k : Int) - 1 = (s.size : Int) - 1 - ((k + 1 : Nat) : Int) by omega] : (.int .i64 (((s.size : Int) - 1 - (k : Int)) - 1) : Value) = _)) ?_))))))))))
    exact yr (k + 1, A2, c2) (by show r.length - (k + 1) < r.length - k; omega) ⟨rfl, rfl, rfl, rfl, rfl, rfl, trivial⟩ ⟨M3.step E XM3, (by exact Od), (by exact Bb1), KdM3, by omega, all_take (by simpa using hk1) hall hdig⟩
 ·
  have q := of_decide_eq_false q;have hkr : k = r.length := by omega
  have hxs : r.reverse.take k = r.reverse := by rw [hkr, ← List.length_reverse, List.take_length]
  rw [hxs] at hall;rw [List.all_reverse] at hall;have Od9 := Od;rw [hxs] at Od9;have o8 := dvals_own Od9 hall hkr;have hsv : val 10 (r.reverse.map dv) = (sgn false (qa r)).natAbs := by rw [xa]; rfl
  have hsm : small 10 (r.reverse.map dv) := zzv (by rw [List.all_reverse]; exact hall);have hlen : (r.reverse.map dv).length = r.length := by simp
  have hcut : ∀ w', Own8 w' w.heap.size A1 c1 (r.reverse.map dv) → Calls Tryz.prog 37 #[.slice A1 k c1] w' fun e w2 => e = .returned (.slice A1 (tens (sgn false (qa r))).length c1) ∧ Own8 w' w.heap.size A1 c1 (tens (sgn false (qa r))) ∧ w' = w2 := fun w' h => by
   have h9 := rcut_long w.heap.size A1 c1 _ _ w' h hsm hsv (by rw [hlen]; omega);rwa [hlen, ← hkr] at h9
  refine yw (zl (zl (zy (ze (srx (mvx rfl (za rfl (yh en37 rfl ((hcut _ o8).mono ?_)))))))));rintro e w10 ⟨rfl, o9, rfl⟩;refine ⟨_, rfl, ?_⟩;have o9s := o9.2;replace HF := HF.on E;replace LW := LW.step E XLW;have SB : ∀ q9, Mut [(some gb1)] q9 → Mut [((Value.slice A1 k c1).ownBlock), (some gb1)] q9 := (Mut.skip (Mut.keep Mut.nil_))
  replace HF := HF.less SB;replace XLW := fun k h => XLW k (SB k h);clear SB;replace E := erx (Mut [(some gb1)]) w4;replace HF := HF.and (Per.ownsN Od (NotIn.cons Dd_b1 NotIn.nil));clear Od;replace HF := HF.on E;replace LW := LW.step E XLW;replace E := erx (Mut [(some gb1)]) w4;replace HF := HF.and (Per.ownsN o9.1 (NotIn.cons Dd_b1.re NotIn.nil))
  have hnum : qa r < B18 ^ 30 ↔ (tens (sgn false (qa r))).length ≤ 540 := by rw [tens_540, xa]
  refine anx rfl (zi (srx (mvx rfl (za rfl (qr Tryz.underlying70 rfl (za rfl (qe rfl rfl (rnx (zt rfl (fun h3 => ?_) (fun h3 => ?_))))))))))
  ·
   have h3 := of_decide_eq_true h3;have e1 : vw r = 2 := by unfold vw; rw [if_pos ⟨hr, hall⟩, if_neg (by omega)]
   have e2 : vx false r = 0 := by unfold vx; rw [if_neg (by rintro ⟨_, _, h⟩; omega)]
   refine srx (za rfl (qt (cs := #[.bool false, .slice none 0 0]) pl72 zr72 rfl rfl (ya (zr zdv rfl rfl Bb1 rfl rfl (Nat.le_of_ble_eq_true rfl) ?_))));intro w11 Bx Eb1;replace Bb1 := Bx;replace E := E.step1 Eb1 Mut.head
   refine anx rfl (zo (zd (zm (rs := [.cell 2 72, .tmp 3]) (vs := [_, _]) rfl ⟨⟨_, rfl, yy Tryz.underlying72 rfl zdv Bb1 rfl⟩, rfl, trivial⟩ ?_)));exact by rw [e1, e2]; exact ju (LW.step E XLW).toBelow
  ·
   have h3 := of_decide_eq_false h3;have e1 : vw r = 0 := by unfold vw; rw [if_pos ⟨hr, hall⟩, if_pos (by omega)]
   have e2 : vx false r = sgn false (qa r) := by unfold vx; rw [if_pos ⟨hr, hall, by omega⟩]
   refine zn (ze (srx (mvx rfl (mvx rfl (za rfl (zc rfl (za rfl (zc rfl (za rfl (zc rfl (za rfl (zx rfl rfl (mvx rfl (za rfl (qt (cs := #[.bool false, .slice A1 (tens (sgn false (qa r))).length c1]) pl72 zr72 rfl rfl (ya (zr zdv rfl rfl Bb1 rfl rfl (Nat.le_of_ble_eq_true rfl) ?_)))))))))))))))));intro w12 Bx Eb1;replace Bb1 := Bx
   replace E := E.step1 Eb1 Mut.head;replace HF := HF.on E;replace LW := LW.step E XLW;have SB : ∀ q9, No q9 → Mut [(some gb1)] q9 := (Mut.skip Mut.nil_);replace HF := HF.less SB;replace XLW := fun k h => XLW k (SB k h);clear SB;replace E := erx (No) w12;replace HF := HF.and (Per.blkN Bb1 NotIn.nil);refine anx rfl (zo ?_)
   have hlv : decide ((0 : Int) < ((tens (sgn false (qa r))).length : Int)) = decide (qa r ≠ 0) := by
    rcases Nat.eq_zero_or_pos (qa r) with h | h
    · rw [h]; cases hq : false <;> simp [sgn, znk]
    · have := ten_pos (j := sgn false (qa r)) (by intro e; have := xa false (qa r); rw [e] at this; simp at this; omega);rw [decide_eq_true (by omega), decide_eq_true (by omega)]
   refine zm (rs := [.cell 2 72, .tmp 3]) (vs := [_, _]) rfl ⟨⟨_, rfl, yy Tryz.underlying72 rfl zdv (HF.on E).here.2 rfl⟩, rfl, trivial⟩ ?_;exact by rw [e1, e2]; exact ⟨A1, c1, by rw [sgn_neg, Bool.false_and]; rfl, ⟨(HF.on E).here.1.2, o9s⟩, (LW.step E XLW).toBelow⟩
end
section
variable (s : ByteArray) (w : World)
theorem read_empty (neg : Bool) (hbs : s.data.toList = (if neg then [45] else [])) (hs : s.size ≤ 140737488355328) : Calls Tryz.prog 27 #[.string s] w (zrk w 0 4) := by
 have _ := hs;cases neg
 · have hz : (s.size : Int) = 0 := by have h9 : s.data.toList.length = s.size := Array.length_toList; rw [hbs] at h9; rw [← h9]; rfl
   refine yn Tryz.func27 rfl Tryz.ntmps27 rfl ?_;have LW := erx (No) w;have XLW := grx (No) w;have E := erx (No) w;refine srx (za rfl (qo zr72 ?_));intro gb1 w2 Bb1 Eb1 Gb1;have Gb1 : _ ≤ gb1 := Nat.le_trans E.size Gb1;have GLb1 := Nat.le_trans LW.size Gb1;replace E := E.trans Eb1.no;replace E := E.cons (some gb1)
   replace XLW := Mut.grow XLW (fun k e => Or.inr (Nat.le_trans LW.size ((yb Gb1) k e)))
   refine anx rfl (srx (anx rfl (srx (anx rfl (zi (srx (mvx rfl (za rfl (yz Tryz.underlying9 rfl (za rfl (qe rfl rfl (mvx rfl (yi 11 (.bool false) rfl (by rw [hz]; rfl) (za rfl (zc rfl (za rfl (zc rfl (za rfl (zc rfl (za rfl (zx rfl rfl (rnx (ye rfl (zn (ze (zi (srx (mvx rfl (mvx rfl (za rfl (yz Tryz.underlying9 rfl (za rfl (zz rfl rfl (rnx (zp 19 (.bool true) rfl (by rw [hz]; rfl) ?_)))))))))))))))))))))))))))))))))))
   refine yg rfl (srx (za rfl (qt (cs := #[.bool false, .slice none 0 0]) pl72 zr72 rfl rfl (ya (zr zdv rfl rfl Bb1 rfl rfl (Nat.le_of_ble_eq_true rfl) ?_)))));intro w3 Bx Eb1;replace Bb1 := Bx;replace E := E.step1 Eb1 Mut.head
   refine anx rfl (zo (zd (zm (rs := [.cell 2 72, .tmp 3]) (vs := [_, _]) rfl ⟨⟨_, rfl, yy Tryz.underlying72 rfl zdv Bb1 rfl⟩, rfl, trivial⟩ ?_)));exact ju (LW.step E XLW).toBelow
 · have hz : (s.size : Int) = 1 := by have h9 : s.data.toList.length = s.size := Array.length_toList; rw [hbs] at h9; rw [← h9]; rfl
   have hat0 : s[0]? = some 45 := by rw [ba_get, hbs]; rfl
   refine yn Tryz.func27 rfl Tryz.ntmps27 rfl ?_;have LW := erx (No) w;have XLW := grx (No) w;have E := erx (No) w;refine srx (za rfl (qo zr72 ?_));intro gb1 w2 Bb1 Eb1 Gb1;have Gb1 : _ ≤ gb1 := Nat.le_trans E.size Gb1;have GLb1 := Nat.le_trans LW.size Gb1;replace E := E.trans Eb1.no;replace E := E.cons (some gb1)
   replace XLW := Mut.grow XLW (fun k e => Or.inr (Nat.le_trans LW.size ((yb Gb1) k e)))
   refine anx rfl (srx (anx rfl (srx (anx rfl (zi (srx (mvx rfl (za rfl (yz Tryz.underlying9 rfl (za rfl (qe rfl rfl (mvx rfl (yi 11 (.bool true) rfl (by rw [hz]; rfl) (onx rfl (zv rfl (onx rfl (vj (j := 0) Tryz.underlying9 rfl rfl rfl hat0 (onx rfl (zz rfl rfl (za rfl (zq rfl rfl (rnx (yg rfl (srx (anx rfl (zg (anx rfl (zi (srx ?_)))))))))))))))))))))))))))))
   refine mvx rfl (mvx rfl (za rfl (yz Tryz.underlying9 rfl (za rfl (zz rfl rfl (rnx (zp 19 (.bool true) rfl (by rw [hz]; rfl) (yg rfl (srx (za rfl (qt (cs := #[.bool false, .slice none 0 0]) pl72 zr72 rfl rfl (ya (zr zdv rfl rfl Bb1 rfl rfl (Nat.le_of_ble_eq_true rfl) ?_)))))))))))));intro w3 Bx Eb1;replace Bb1 := Bx
   replace E := E.step1 Eb1 Mut.head;refine anx rfl (zo (zd (zm (rs := [.cell 2 72, .tmp 3]) (vs := [_, _]) rfl ⟨⟨_, rfl, yy Tryz.underlying72 rfl zdv Bb1 rfl⟩, rfl, trivial⟩ ?_)));exact ju (LW.step E XLW).toBelow
theorem zhq {neg : Bool} : vx neg [] = 0 ∧ vw [] = 4 := by unfold vx vw; simp
theorem read_any (hs : s.size ≤ 140737488355328) : Calls Tryz.prog 27 #[.string s] w (zrk w (vx (textN s.data.toList) (zev s.data.toList)) (vw (zev s.data.toList))) := by
 generalize hbs : s.data.toList = bs
 unfold textN zev;by_cases h : bs.head? = some 45
 · rw [decide_eq_true h, if_pos h];obtain ⟨r, rfl⟩ : ∃ r, bs = 45 :: r := by cases bs with | nil => cases h | cons b r => exact ⟨r, by rw [Option.some.inj h]⟩
   by_cases hr : r = []
   · subst hr;obtain ⟨e1, e2⟩ := zhq (neg := true);show Calls _ _ _ _ (zrk w (vx true []) (vw []))
     rw [e1, e2];exact read_empty s w true hbs hs
   · exact read_neg s r w hr hbs hs
 · rw [decide_eq_false h, if_neg h];by_cases hr : bs = []
   · subst hr;obtain ⟨e1, e2⟩ := zhq (neg := false);rw [e1, e2];exact read_empty s w false hbs hs
   · exact read_pos s bs w hr hbs h hs
end
end Go.Proofs.YtmjemknimipnjaaGreatDoor
namespace Go.Proofs.YtmjemknimipnjaaGreatDoor
set_option maxRecDepth 100000
def inI (v n : Int) : Bool := decide (0 ≤ v) && decide (v < n)
def yq (set : Bool) (v n : Int) : Bool := if set then inI v n else decide (v = 0)
def kOK (nf : Nat) (f : LFn) (i : LIns) : Bool :=
 if rK i.op = 1 then decide (0 ≤ i.k)
 else if rK i.op = 2 then inI i.k f.consts.length
 else if rK i.op = 3 then inI i.k f.names.length
 else if rK i.op = 4 then inI i.k f.frees
 else if rK i.op = 5 then decide (0 < i.k) && decide (i.k < (nf : Int))
 else if rK i.op = 10 then decide (rLo i.op ≤ i.k) && decide (i.k ≤ rHi i.op)
 else decide (i.k = 0)
def fsAt (fs : List LFn) (k : Int) : Int := ((fs[k.toNat]?).map (·.frees)).getD 0
def lOK (fs : List LFn) (f : LFn) (i : LIns) : Bool := i.l.all (fun r => inI r f.regs) &&
 (if rL i.op = -2 then true else if rL i.op = -3 then decide (i.l.length % 2 = 0) else if rL i.op = -4 then decide ((i.l.length : Int) = fsAt fs i.k) else if rL i.op = -1 then decide (i.l.length = 0) else decide ((i.l.length : Int) = rL i.op))
def jq (fs : List LFn) (f : LFn) (at_ : Nat) (i : LIns) : Bool := (flN i.op != 0) && (yq (uD i.op) i.d f.regs && (yq (uA i.op) i.a f.regs && (yq (uB i.op) i.b f.regs && (yq (uT i.op) i.t f.ins.length && (kOK fs.length f i && (lOK fs f i && ((!(decide (i.op = 40)) || f.gen) && ((decide (at_ + 1 < f.ins.length) || (decide (i.op = 18) || (decide (i.op = 41) || decide (i.op = 42))))))))))))
noncomputable def kf (c : Int × ByteArray) : Bool :=
 if c.1 = 3 then decide (c.2.size ≤ 20000)
 else if c.2.data.toList.head?.all (fun b => !qp b) = true then false
 else if c.1 = 1 then decide (vw c.2.data.toList = 0)
 else if c.1 = 2 then decide (prE c.2 = 0) else false
noncomputable def gg (f : LFn) (n : Nat) : Bool := decide (0 ≤ f.regs) && (decide (f.regs ≤ 65536) && (decide (0 ≤ f.params) && (decide (f.params ≤ f.regs) && (decide (0 ≤ f.frees) && (decide (0 ≤ f.bound) && (decide (f.ins.length ≠ 0) && (decide (f.name.size ≤ 20000) && (f.names.all (fun s => decide (s.size ≤ 20000)) && (f.consts.all kf && ((decide (0 < n) || (decide (f.params = 0) && (decide (f.frees = 0) && !f.gen)))))))))))))
def rgC (f : LFn) (r : LReg) : Bool := decide (0 ≤ r.fr) && (decide (r.fr ≤ r.to) && (decide (r.to ≤ (f.ins.length : Int)) && (inI r.tg f.ins.length && inI r.d f.regs)))
def xo (fs : List LFn) (f : LFn) : Nat → List LIns → Option Nat
 | _, [] => none
 | at_, i :: l => if jq fs f at_ i then xo fs f (at_ + 1) l else some at_
noncomputable def goF (fs : List LFn) : Nat → List LFn → Int × Int × Int
 | _, [] => (0, 0, 0)
 | n, f :: l => if gg f n then (match xo fs f 0 f.ins with
  | some at_ => ((n : Int), (at_ : Int), 3)
  | none => if f.rgs.all (rgC f) then goF fs (n + 1) l else ((n : Int), -2, 3)) else ((n : Int), -1, 3)
noncomputable def kw (fs : List LFn) : Int × Int × Int := if fs.length < 1 ∨ 4000 < fs.length then (-1, -1, 3) else goF fs 0 fs
end Go.Proofs.YtmjemknimipnjaaGreatDoor
namespace Go.Proofs.YtmjemknimipnjaaGreatDoor
open Go.RowKit
set_option maxRecDepth 100000
attribute [local irreducible] OW RS
theorem bitL (op : Int) : (flN op).testBit 4 = uT op := rfl
theorem range_op {op : Int} (h : (flN op).testBit 15 = true) : op = 2 ∨ op = 14 ∨ op = 15 ∨ op = 16 ∨ op = 44 := by
 by_cases h0 : op < 0 ∨ 44 < op
 · have e : flN op = 0 := by unfold flN; rw [if_pos h0]
   rw [e] at h; simp at h
 · have key : ∀ k : Fin 45, (flN (k.val : Int)).testBit 15 = true → k.val = 2 ∨ k.val = 14 ∨ k.val = 15 ∨ k.val = 16 ∨ k.val = 44 := by decide +kernel
   have e : op = ((op.toNat : Nat) : Int) := by omega
   rw [e] at h;have := key ⟨op.toNat, by omega⟩ h;simp only at this
   omega
def spLo (op : Int) : Int := if op = 2 then 0 else if op = 14 then 1 else if op = 15 then 1 else if op = 16 then 1 else 0
def spHi (op : Int) : Int := if op = 2 then 2 else if op = 14 then 7 else if op = 15 then 2 else if op = 16 then 10 else 34
theorem span_row {op : Int} (h : (flN op).testBit 15 = true) : spLo op = rLo op ∧ spHi op = rHi op := by
 rcases range_op h with rfl | rfl | rfl | rfl | rfl <;> decide
theorem zex (nf : Nat) (f : LFn) (i : LIns) : kOK nf f i = if (flN i.op).testBit 10 = true then decide (0 ≤ i.k) else if (flN i.op).testBit 11 = true then inI i.k f.consts.length else if (flN i.op).testBit 12 = true then inI i.k f.names.length else if (flN i.op).testBit 13 = true then inI i.k f.frees
 else if (flN i.op).testBit 14 = true then decide (0 < i.k) && decide (i.k < (nf : Int)) else if (flN i.op).testBit 15 = true then decide (rLo i.op ≤ i.k) && decide (i.k ≤ rHi i.op) else decide (i.k = 0) := by
 unfold kOK rK;generalize (flN i.op).testBit 10 = b1
 generalize (flN i.op).testBit 11 = b2
 generalize (flN i.op).testBit 12 = b3
 generalize (flN i.op).testBit 13 = b4
 generalize (flN i.op).testBit 14 = b5
 generalize (flN i.op).testBit 15 = b6
 cases b1 <;> cases b2 <;> cases b3 <;> cases b4 <;> cases b5 <;> cases b6 <;> rfl
theorem rK_some (op : Int) : rK op = 0 ∨ rK op = 1 ∨ rK op = 2 ∨ rK op = 3 ∨ rK op = 4 ∨ rK op = 5 ∨ rK op = 10 := by
 unfold rK;split
 · exact Or.inr (Or.inl rfl)
 · split
   · exact Or.inr (Or.inr (Or.inl rfl))
   · split
     · exact Or.inr (Or.inr (Or.inr (Or.inl rfl)))
     · split
       · exact Or.inr (Or.inr (Or.inr (Or.inr (Or.inl rfl))))
       · split
         · exact Or.inr (Or.inr (Or.inr (Or.inr (Or.inr (Or.inl rfl)))))
         · split
           · exact Or.inr (Or.inr (Or.inr (Or.inr (Or.inr (Or.inr rfl)))))
           · exact Or.inl rfl
def fnC (p : Pl) (f : LFn) : List Value := [.string f.name, .int .i64 f.params, .int .i64 f.regs, .int .i64 f.frees, .bool f.gen, .int .i64 f.bound, .slice p.an f.names.length p.cn, .slice p.ac f.consts.length p.cc, .slice p.ai f.ins.length p.ci, .slice p.ar f.rgs.length p.cr]
attribute [local irreducible] flN uD uA uB uT uL rL rK rLo rHi
section
variable (w : World)
theorem zez (b : Bool) (v n : Int) : Calls Tryz.prog 9 #[.bool b, .int .i64 v, .int .i64 n] w fun e w' => e = .returned (.bool (yq b v n)) ∧ Below w.heap.size w w' := by
 refine yn Tryz.func9 rfl Tryz.ntmps9 rfl ?_;have LW := erx (No) w;have XLW := grx (No) w;have E := erx (No) w;refine srx (anx rfl (srx (mvx rfl (mvx rfl (yk 8 rfl (fun h1 => ?_) (fun h1 => ?_))))))
 ·
  refine onx rfl (zv rfl (onx rfl (qz rfl rfl (za rfl (zq rfl rfl (mvx rfl (yk 12 rfl (fun h2 => ?_) (fun h2 => ?_))))))))
  ·
   replace h2 := of_decide_eq_true h2;refine onx rfl (zv rfl (onx rfl (zv rfl (onx rfl (yv rfl rfl (za rfl (zq rfl rfl (mvx rfl (yk 17 rfl (fun h3 => ?_) (fun h3 => ?_))))))))))
   ·
    replace h3 := of_decide_eq_true h3;refine za rfl (zc rfl (za rfl (zc rfl (za rfl (zc rfl (za rfl (qj rfl rfl (za rfl (qj rfl rfl (za rfl (zc rfl (za rfl (zq rfl rfl (anx rfl (zo (zm (rs := [.tmp 6]) (vs := [_]) rfl ⟨rfl, trivial⟩ ?_))))))))))))))))
    exact ⟨by refine congrArg (fun z => Ending.returned (.bool z)) ?_; first | rfl | (simp_all [yq, inI]; done) | (simp_all [yq, inI]; omega) | (simp_all [yq, inI]; intros; omega) | (simp_all [yq, inI]; rfl), (LW.step E XLW).toBelow⟩
   ·
    replace h3 := of_decide_eq_false h3;refine onx rfl (zv rfl (onx rfl (vd rfl (onx rfl (zv rfl (yk 20 rfl (fun h4 => ?_) (fun h4 => ?_)))))))
    ·
     refine onx rfl (zv rfl (onx rfl (zz rfl rfl (onx rfl (zq rfl rfl (za rfl (zx rfl rfl (anx rfl (zo (zm (rs := [.tmp 6]) (vs := [_]) rfl ⟨rfl, trivial⟩ ?_))))))))))
     exact ⟨by refine congrArg (fun z => Ending.returned (.bool z)) ?_; first | rfl | (simp_all [yq, inI]; done) | (simp_all [yq, inI]; omega) | (simp_all [yq, inI]; intros; omega) | (simp_all [yq, inI]; rfl), (LW.step E XLW).toBelow⟩
    ·
     refine za rfl (zc rfl (za rfl (zc rfl (onx rfl (zx rfl rfl (za rfl (zx rfl rfl (anx rfl (zo (zm (rs := [.tmp 6]) (vs := [_]) rfl ⟨rfl, trivial⟩ ?_))))))))))
     exact ⟨by refine congrArg (fun z => Ending.returned (.bool z)) ?_; first | rfl | (simp_all [yq, inI]; done) | (simp_all [yq, inI]; omega) | (simp_all [yq, inI]; intros; omega) | (simp_all [yq, inI]; rfl), (LW.step E XLW).toBelow⟩
  ·
   replace h2 := of_decide_eq_false h2;refine za rfl (zc rfl (za rfl (zc rfl (za rfl (zc rfl (za rfl (zx rfl rfl (mvx rfl (onx rfl (zv rfl (onx rfl (vd rfl (onx rfl (zv rfl (yk 20 rfl (fun h5 => ?_) (fun h5 => ?_))))))))))))))))
   ·
    refine onx rfl (zv rfl (onx rfl (zz rfl rfl (onx rfl (zq rfl rfl (za rfl (zx rfl rfl (anx rfl (zo (zm (rs := [.tmp 6]) (vs := [_]) rfl ⟨rfl, trivial⟩ ?_))))))))))
    exact ⟨by refine congrArg (fun z => Ending.returned (.bool z)) ?_; first | rfl | (simp_all [yq, inI]; done) | (simp_all [yq, inI]; omega) | (simp_all [yq, inI]; intros; omega) | (simp_all [yq, inI]; rfl), (LW.step E XLW).toBelow⟩
   ·
    refine za rfl (zc rfl (za rfl (zc rfl (onx rfl (zx rfl rfl (za rfl (zx rfl rfl (anx rfl (zo (zm (rs := [.tmp 6]) (vs := [_]) rfl ⟨rfl, trivial⟩ ?_))))))))))
    exact ⟨by refine congrArg (fun z => Ending.returned (.bool z)) ?_; first | rfl | (simp_all [yq, inI]; done) | (simp_all [yq, inI]; omega) | (simp_all [yq, inI]; intros; omega) | (simp_all [yq, inI]; rfl), (LW.step E XLW).toBelow⟩
 ·
  refine za rfl (zc rfl (za rfl (zc rfl (za rfl (zx rfl rfl (mvx rfl (za rfl (zc rfl (za rfl (zc rfl (za rfl (zc rfl (za rfl (zx rfl rfl (mvx rfl (onx rfl (zv rfl (onx rfl (vd rfl (onx rfl (zv rfl (yk 20 rfl (fun h6 => ?_) (fun h6 => ?_)))))))))))))))))))))))
  ·
   refine onx rfl (zv rfl (onx rfl (zz rfl rfl (onx rfl (zq rfl rfl (za rfl (zx rfl rfl (anx rfl (zo (zm (rs := [.tmp 6]) (vs := [_]) rfl ⟨rfl, trivial⟩ ?_))))))))))
   exact ⟨by refine congrArg (fun z => Ending.returned (.bool z)) ?_; first | rfl | (simp_all [yq, inI]; done) | (simp_all [yq, inI]; omega) | (simp_all [yq, inI]; intros; omega) | (simp_all [yq, inI]; rfl), (LW.step E XLW).toBelow⟩
  ·
   refine za rfl (zc rfl (za rfl (zc rfl (onx rfl (zx rfl rfl (za rfl (zx rfl rfl (anx rfl (zo (zm (rs := [.tmp 6]) (vs := [_]) rfl ⟨rfl, trivial⟩ ?_))))))))))
   exact ⟨by refine congrArg (fun z => Ending.returned (.bool z)) ?_; first | rfl | (simp_all [yq, inI]; done) | (simp_all [yq, inI]; omega) | (simp_all [yq, inI]; intros; omega) | (simp_all [yq, inI]; rfl), (LW.step E XLW).toBelow⟩
theorem zix (b : Bool) (v n : Int) : Calls Tryz.prog 21 #[.bool b, .int .i64 v, .int .i64 n] w fun e w' => e = .returned (.bool (yq b v n)) ∧ Below w.heap.size w w' := by
 refine yn Tryz.func21 rfl Tryz.ntmps21 rfl ?_;have LW := erx (No) w;have XLW := grx (No) w;have E := erx (No) w;refine srx (anx rfl (zi (srx (mvx rfl (rnx (zt rfl (fun h1 => ?_) (fun h1 => ?_)))))))
 ·
  refine zp 7 (.bool true) rfl (congrArg Value.bool h1) (srx (mvx rfl (za rfl (qz rfl rfl (mvx rfl (yk 10 rfl (fun h2 => ?_) (fun h2 => ?_)))))))
  ·
   replace h2 := of_decide_eq_true h2;refine onx rfl (zv rfl (onx rfl (zv rfl (onx rfl (yv rfl rfl (za rfl (zq rfl rfl (anx rfl (zo (zd (zm (rs := [.tmp 6]) (vs := [_]) rfl ⟨rfl, trivial⟩ ?_)))))))))))
   exact ⟨by refine congrArg (fun z => Ending.returned (.bool z)) ?_; first | rfl | (simp_all [yq, inI]; done) | (simp_all [yq, inI]; omega) | (simp_all [yq, inI]; intros; omega) | (simp_all [yq, inI]; rfl), (LW.step E XLW).toBelow⟩
  ·
   replace h2 := of_decide_eq_false h2;refine za rfl (zc rfl (za rfl (zc rfl (za rfl (zc rfl (za rfl (zx rfl rfl (anx rfl (zo (zd (zm (rs := [.tmp 6]) (vs := [_]) rfl ⟨rfl, trivial⟩ ?_)))))))))))
   exact ⟨by refine congrArg (fun z => Ending.returned (.bool z)) ?_; first | rfl | (simp_all [yq, inI]; done) | (simp_all [yq, inI]; omega) | (simp_all [yq, inI]; intros; omega) | (simp_all [yq, inI]; rfl), (LW.step E XLW).toBelow⟩
 ·
  refine zp 7 (.bool false) rfl (congrArg Value.bool h1) (zn (ze (srx (mvx rfl (za rfl (zz rfl rfl (anx rfl (zo (zm (rs := [.tmp 6]) (vs := [_]) rfl ⟨rfl, trivial⟩ ?_)))))))))
  exact ⟨by refine congrArg (fun z => Ending.returned (.bool z)) ?_; first | rfl | (simp_all [yq, inI]; done) | (simp_all [yq, inI]; omega) | (simp_all [yq, inI]; intros; omega) | (simp_all [yq, inI]; rfl), (LW.step E XLW).toBelow⟩
theorem span_any (op : Int) : Calls Tryz.prog 26 #[.int .i64 op] w fun e w' => e = .returned (.tuple #[.int .i64 (spLo op), .int .i64 (spHi op)]) ∧ Below w.heap.size w w' := by
 refine yn Tryz.func26 rfl Tryz.ntmps26 rfl ?_;have LW := erx (No) w;have XLW := grx (No) w;have E := erx (No) w;refine srx (avx rfl (anx rfl (zi (srx (mvx rfl (rnx (yc (srx (za rfl (zz rfl rfl (anx rfl (zt rfl (fun h1 => ?_) (fun h1 => ?_)))))))))))))
 ·
  refine zp 5 (.bool true) rfl (congrArg Value.bool h1) ?_;replace h1 := eq_of_beq h1;subst h1;refine srx (avx rfl (anx rfl (zo (zj (zd (zm (rs := [.tmp 2, .tmp 3]) (vs := [_, _]) rfl ⟨rfl, rfl, trivial⟩ ?_))))));exact ⟨by first | rfl | (simp_all [spLo, spHi]; done) | (simp_all [spLo, spHi]; rfl), (LW.step E XLW).toBelow⟩
 ·
  refine zp 5 (.bool false) rfl (congrArg Value.bool h1) ?_;replace h1 := beq_eq_false_iff_ne.1 h1;refine srx (za rfl (zz rfl rfl (anx rfl (zt rfl (fun h2 => ?_) (fun h2 => ?_)))))
  ·
   refine zp 7 (.bool true) rfl (congrArg Value.bool h2) ?_;replace h2 := eq_of_beq h2;subst h2;refine srx (avx rfl (anx rfl (zo (zj (zd (zm (rs := [.tmp 2, .tmp 3]) (vs := [_, _]) rfl ⟨rfl, rfl, trivial⟩ ?_))))));exact ⟨by first | rfl | (simp_all [spLo, spHi]; done) | (simp_all [spLo, spHi]; rfl), (LW.step E XLW).toBelow⟩
  ·
   refine zp 7 (.bool false) rfl (congrArg Value.bool h2) ?_;replace h2 := beq_eq_false_iff_ne.1 h2;refine srx (za rfl (zz rfl rfl (anx rfl (zt rfl (fun h3 => ?_) (fun h3 => ?_)))))
   ·
    refine zp 9 (.bool true) rfl (congrArg Value.bool h3) ?_;replace h3 := eq_of_beq h3;subst h3;refine srx (avx rfl (anx rfl (zo (zj (zd (zm (rs := [.tmp 2, .tmp 3]) (vs := [_, _]) rfl ⟨rfl, rfl, trivial⟩ ?_))))));exact ⟨by first | rfl | (simp_all [spLo, spHi]; done) | (simp_all [spLo, spHi]; rfl), (LW.step E XLW).toBelow⟩
   ·
    refine zp 9 (.bool false) rfl (congrArg Value.bool h3) ?_;replace h3 := beq_eq_false_iff_ne.1 h3;refine srx (za rfl (zz rfl rfl (anx rfl (zt rfl (fun h4 => ?_) (fun h4 => ?_)))))
    ·
     refine zp 11 (.bool true) rfl (congrArg Value.bool h4) ?_;replace h4 := eq_of_beq h4;subst h4;refine srx (avx rfl (anx rfl (zo (zj (zd (zm (rs := [.tmp 2, .tmp 3]) (vs := [_, _]) rfl ⟨rfl, rfl, trivial⟩ ?_))))));exact ⟨by first | rfl | (simp_all [spLo, spHi]; done) | (simp_all [spLo, spHi]; rfl), (LW.step E XLW).toBelow⟩
    ·
     refine zp 11 (.bool false) rfl (congrArg Value.bool h4) ?_;replace h4 := beq_eq_false_iff_ne.1 h4;refine zn (zf (ze (srx (avx rfl (anx rfl (zo (zm (rs := [.tmp 2, .tmp 3]) (vs := [_, _]) rfl ⟨rfl, rfl, trivial⟩ ?_)))))));exact ⟨by first | rfl | (simp_all [spLo, spHi]; done) | (simp_all [spLo, spHi]; rfl), (LW.step E XLW).toBelow⟩
end
section
variable (w : World) (A : Option Addr) (nf cp : Nat) (p : Pl) (f : LFn) (i : LIns) (B : Option Addr) (c : Nat)
theorem rightK_any : Calls Tryz.prog 17 #[.agg #[.slice A nf cp], fnV p f, .agg #[.int .i64 i.op, .int .i64 i.d, .int .i64 i.a, .int .i64 i.b, .int .i64 i.t, .int .i64 i.k, .slice B i.l.length c], .int .i64 ((flN i.op : Nat) : Int)] w fun e w' => e = .returned (.bool (kOK nf f i)) ∧ Below w.heap.size w w' := by
 refine yn Tryz.func17 rfl Tryz.ntmps17 rfl ?_;have HF : Per (No) w (fun _ => True) := Per.true_;have LW := erx (No) w;have XLW := grx (No) w;have E := erx (No) w;refine srx (za rfl (vq rfl ?_));intro gb1 w2 Bb1 Eb1 Gb1;have Gb1 : _ ≤ gb1 := Nat.le_trans E.size Gb1;have GLb1 := Nat.le_trans LW.size Gb1;replace E := E.trans Eb1.no;replace HF := HF.cons (yb Gb1)
 replace E := E.cons (some gb1);replace XLW := Mut.grow XLW (fun k e => Or.inr (Nat.le_trans LW.size ((yb Gb1) k e)));replace HF := HF.on E;replace LW := LW.step E XLW;have SB : ∀ q9, No q9 → Mut [(some gb1)] q9 := (Mut.skip Mut.nil_);replace HF := HF.less SB;replace XLW := fun k h => XLW k (SB k h);clear SB;replace E := erx (No) w2;replace HF := HF.and (Per.blkN Bb1 NotIn.nil)
 refine za rfl (vq rfl ?_);intro gb3 w4 Bb3 Eb3 Gb3;have Gb3 : _ ≤ gb3 := Nat.le_trans E.size Gb3;have GLb3 := Nat.le_trans LW.size Gb3;replace E := E.trans Eb3.no;replace HF := HF.cons (yb Gb3);replace E := E.cons (some gb3);replace XLW := Mut.grow XLW (fun k e => Or.inr (Nat.le_trans LW.size ((yb Gb3) k e)));replace HF := HF.on E;replace LW := LW.step E XLW
 have SB : ∀ q9, No q9 → Mut [(some gb3)] q9 := (Mut.skip Mut.nil_);replace HF := HF.less SB;replace XLW := fun k h => XLW k (SB k h);clear SB;replace E := erx (No) w4;replace HF := HF.and (Per.blkN Bb3 NotIn.nil);refine za rfl (vq rfl ?_);intro gb5 w6 Bb5 Eb5 Gb5;have Gb5 : _ ≤ gb5 := Nat.le_trans E.size Gb5;have GLb5 := Nat.le_trans LW.size Gb5;replace E := E.trans Eb5.no
 replace HF := HF.cons (yb Gb5);replace E := E.cons (some gb5);replace XLW := Mut.grow XLW (fun k e => Or.inr (Nat.le_trans LW.size ((yb Gb5) k e)));replace HF := HF.on E;replace LW := LW.step E XLW;have SB : ∀ q9, No q9 → Mut [(some gb5)] q9 := (Mut.skip Mut.nil_);replace HF := HF.less SB;replace XLW := fun k h => XLW k (SB k h);clear SB;replace E := erx (No) w6
 replace HF := HF.and (Per.blkN Bb5 NotIn.nil)
 refine anx rfl (zi (yc (srx (mvx rfl (za rfl (vg rfl rfl (vn i.op 1024 (by decide)) (za rfl (qw rfl rfl (anx rfl (zp 11 (.bool ((flN i.op).testBit 10)) rfl ((by rw [show (1024 : Nat) = 2 ^ 10 from rfl, jo] : (.bool (((flN i.op &&& 1024 : Nat) : Int) != 0) : Value) = _)) (zt rfl (fun q10 => ?_) (fun q10 => ?_))))))))))))
 ·
  refine srx (za rfl (zb Tryz.underlying46 rfl sz3 (by decide) rfl (za rfl (zh Tryz.underlying3 rfl rfl (HF.on E).here.2 rfl (za rfl (qz rfl rfl (anx rfl (zo (zj (zd (zm (rs := [.tmp 8]) (vs := [_]) rfl ⟨rfl, trivial⟩ ?_)))))))))));exact ⟨by rw [zex, if_pos q10]; rfl, (LW.step E XLW).toBelow⟩
 ·
  refine srx (mvx rfl (za rfl (vg rfl rfl (vn i.op 2048 (by decide)) (za rfl (qw rfl rfl (anx rfl (zp 18 (.bool ((flN i.op).testBit 11)) rfl ((by rw [show (2048 : Nat) = 2 ^ 11 from rfl, jo] : (.bool (((flN i.op &&& 2048 : Nat) : Int) != 0) : Value) = _)) (zt rfl (fun q11 => ?_) (fun q11 => ?_)))))))))
  ·
   refine srx (za rfl (zb Tryz.underlying46 rfl sz3 (by decide) rfl (za rfl (zh Tryz.underlying3 rfl rfl (HF.on E).here.2 rfl (za rfl (zb Tryz.underlying37 rfl sz33 (by decide) rfl (za rfl (zh Tryz.underlying33 rfl rfl (HF.on E).here.1.2 rfl (za rfl (qr Tryz.underlying33 rfl (za rfl (yh en9 rfl ((zez _ true i.k f.consts.length).mono ?_)))))))))))))
   rintro e w7 ⟨rfl, hb⟩;refine ⟨_, rfl, ?_⟩;replace E := blx E hb;refine anx rfl (zo (zj (zd (zm (rs := [.tmp 8]) (vs := [_]) rfl ⟨rfl, trivial⟩ ?_))));exact ⟨by rw [zex, if_neg (by rw [q10]; decide), if_pos q11]; rfl, (LW.step E XLW).toBelow⟩
  ·
   refine srx (mvx rfl (za rfl (vg rfl rfl (vn i.op 4096 (by decide)) (za rfl (qw rfl rfl (anx rfl (zp 28 (.bool ((flN i.op).testBit 12)) rfl ((by rw [show (4096 : Nat) = 2 ^ 12 from rfl, jo] : (.bool (((flN i.op &&& 4096 : Nat) : Int) != 0) : Value) = _)) (zt rfl (fun q12 => ?_) (fun q12 => ?_)))))))))
   ·
    refine srx (za rfl (zb Tryz.underlying46 rfl sz3 (by decide) rfl (za rfl (zh Tryz.underlying3 rfl rfl (HF.on E).here.2 rfl (za rfl (zb Tryz.underlying37 rfl sz32 (by decide) rfl (za rfl (zh Tryz.underlying32 rfl rfl (HF.on E).here.1.2 rfl (za rfl (qr Tryz.underlying32 rfl (za rfl (yh en9 rfl ((zez _ true i.k f.names.length).mono ?_)))))))))))))
    rintro e w8 ⟨rfl, hb⟩;refine ⟨_, rfl, ?_⟩;replace E := blx E hb;refine anx rfl (zo (zj (zd (zm (rs := [.tmp 8]) (vs := [_]) rfl ⟨rfl, trivial⟩ ?_))));exact ⟨by rw [zex, if_neg (by rw [q10]; decide), if_neg (by rw [q11]; decide), if_pos q12]; rfl, (LW.step E XLW).toBelow⟩
   ·
    refine srx (mvx rfl (za rfl (vg rfl rfl (vn i.op 8192 (by decide)) (za rfl (qw rfl rfl (anx rfl (zp 38 (.bool ((flN i.op).testBit 13)) rfl ((by rw [show (8192 : Nat) = 2 ^ 13 from rfl, jo] : (.bool (((flN i.op &&& 8192 : Nat) : Int) != 0) : Value) = _)) (zt rfl (fun q13 => ?_) (fun q13 => ?_)))))))))
    ·
     refine srx (za rfl (zb Tryz.underlying46 rfl sz3 (by decide) rfl (za rfl (zh Tryz.underlying3 rfl rfl (HF.on E).here.2 rfl (za rfl (zb Tryz.underlying37 rfl sz3 (by decide) rfl (za rfl (zh Tryz.underlying3 rfl rfl (HF.on E).here.1.2 rfl (za rfl (yh en9 rfl ((zez _ true i.k f.frees).mono ?_)))))))))));rintro e w9 ⟨rfl, hb⟩
     refine ⟨_, rfl, ?_⟩;replace E := blx E hb;refine anx rfl (zo (zj (zd (zm (rs := [.tmp 8]) (vs := [_]) rfl ⟨rfl, trivial⟩ ?_))));exact ⟨by rw [zex, if_neg (by rw [q10]; decide), if_neg (by rw [q11]; decide), if_neg (by rw [q12]; decide), if_pos q13]; rfl, (LW.step E XLW).toBelow⟩
    ·
     refine srx (mvx rfl (za rfl (vg rfl rfl (vn i.op 16384 (by decide)) (za rfl (qw rfl rfl (anx rfl (zp 47 (.bool ((flN i.op).testBit 14)) rfl ((by rw [show (16384 : Nat) = 2 ^ 14 from rfl, jo] : (.bool (((flN i.op &&& 16384 : Nat) : Int) != 0) : Value) = _)) (zt rfl (fun q14 => ?_) (fun q14 => ?_)))))))))
     ·
      refine srx (za rfl (zb Tryz.underlying46 rfl sz3 (by decide) rfl (za rfl (zh Tryz.underlying3 rfl rfl (HF.on E).here.2 rfl (za rfl (qe rfl rfl (mvx rfl (yk 54 rfl (fun t1 => ?_) (fun t1 => ?_)))))))))
      ·
       replace t1 := of_decide_eq_true t1
       refine onx rfl (zb Tryz.underlying46 rfl sz3 (by decide) rfl (onx rfl (zh Tryz.underlying3 rfl rfl (HF.on E).here.2 rfl (onx rfl (zb Tryz.underlying24 rfl sz22 (by decide) rfl (onx rfl (zh Tryz.underlying22 rfl rfl (HF.on E).here.1.1.2 rfl (onx rfl (qr Tryz.underlying22 rfl (onx rfl (yv rfl rfl (za rfl (zq rfl rfl (anx rfl (zo (zj (zd (zm (rs := [.tmp 8]) (vs := [_]) rfl ⟨rfl, trivial⟩ ?_))))))))))))))))))
       exact ⟨by rw [zex, if_neg (by rw [q10]; decide), if_neg (by rw [q11]; decide), if_neg (by rw [q12]; decide), if_neg (by rw [q13]; decide), if_pos q14]; refine congrArg (fun z => Ending.returned (.bool z)) ?_; first | rfl | (simp_all; done) | (simp_all; omega) | (simp_all; intros; omega) | (simp_all; rfl), (LW.step E XLW).toBelow⟩
      ·
       replace t1 := of_decide_eq_false t1;refine za rfl (zc rfl (za rfl (zc rfl (za rfl (zc rfl (za rfl (zc rfl (za rfl (zc rfl (za rfl (zc rfl (za rfl (zx rfl rfl (anx rfl (zo (zj (zd (zm (rs := [.tmp 8]) (vs := [_]) rfl ⟨rfl, trivial⟩ ?_))))))))))))))))))
       exact ⟨by rw [zex, if_neg (by rw [q10]; decide), if_neg (by rw [q11]; decide), if_neg (by rw [q12]; decide), if_neg (by rw [q13]; decide), if_pos q14]; refine congrArg (fun z => Ending.returned (.bool z)) ?_; first | rfl | (simp_all; done) | (simp_all; omega) | (simp_all; intros; omega) | (simp_all; rfl), (LW.step E XLW).toBelow⟩
     ·
      refine srx (mvx rfl (za rfl (vg rfl rfl (vn i.op 32768 (by decide)) (za rfl (qw rfl rfl (anx rfl (zp 62 (.bool ((flN i.op).testBit 15)) rfl ((by rw [show (32768 : Nat) = 2 ^ 15 from rfl, jo] : (.bool (((flN i.op &&& 32768 : Nat) : Int) != 0) : Value) = _)) (zt rfl (fun q15 => ?_) (fun q15 => ?_)))))))))
      ·
       refine srx (za rfl (zb Tryz.underlying46 rfl sz3 (by decide) rfl (za rfl (zh Tryz.underlying3 rfl rfl (HF.on E).here.2 rfl (za rfl (yh en26 rfl ((span_any _ i.op).mono ?_)))))));rintro e w10 ⟨rfl, hb⟩;refine ⟨_, rfl, ?_⟩;replace E := blx E hb;obtain ⟨eL, eH⟩ := span_row q15
       refine mvx rfl (za rfl (yj rfl rfl (za rfl (yj rfl rfl (avx rfl (anx rfl (srx (za rfl (zb Tryz.underlying46 rfl sz3 (by decide) rfl (za rfl (zh Tryz.underlying3 rfl rfl (HF.on E).here.2 rfl (mvx rfl (za rfl (qz rfl rfl (mvx rfl (yk 76 rfl (fun t1 => ?_) (fun t1 => ?_)))))))))))))))))
       ·
        replace t1 := of_decide_eq_true t1;refine onx rfl (zb Tryz.underlying46 rfl sz3 (by decide) rfl (onx rfl (zh Tryz.underlying3 rfl rfl (HF.on E).here.2 rfl (onx rfl (zv rfl (onx rfl (gf rfl rfl (za rfl (zq rfl rfl (anx rfl (zo (zj (zd (zm (rs := [.tmp 8]) (vs := [_]) rfl ⟨rfl, trivial⟩ ?_))))))))))))))
        exact ⟨by rw [zex, if_neg (by rw [q10]; decide), if_neg (by rw [q11]; decide), if_neg (by rw [q12]; decide), if_neg (by rw [q13]; decide), if_neg (by rw [q14]; decide), if_pos q15, ← eL, ← eH]; refine congrArg (fun z => Ending.returned (.bool z)) ?_; first | rfl | (simp_all; done) | (simp_all; omega) | (simp_all; intros; omega) | (simp_all; rfl), (LW.step E XLW).toBelow⟩
       ·
        replace t1 := of_decide_eq_false t1;refine za rfl (zc rfl (za rfl (zc rfl (za rfl (zc rfl (za rfl (zc rfl (za rfl (zx rfl rfl (anx rfl (zo (zj (zd (zm (rs := [.tmp 8]) (vs := [_]) rfl ⟨rfl, trivial⟩ ?_))))))))))))))
        exact ⟨by rw [zex, if_neg (by rw [q10]; decide), if_neg (by rw [q11]; decide), if_neg (by rw [q12]; decide), if_neg (by rw [q13]; decide), if_neg (by rw [q14]; decide), if_pos q15, ← eL, ← eH]; refine congrArg (fun z => Ending.returned (.bool z)) ?_; first | rfl | (simp_all; done) | (simp_all; omega) | (simp_all; intros; omega) | (simp_all; rfl), (LW.step E XLW).toBelow⟩
      ·
       refine zn (zf (ze (srx (za rfl (zb Tryz.underlying46 rfl sz3 (by decide) rfl (za rfl (zh Tryz.underlying3 rfl rfl (HF.on E).here.2 rfl (za rfl (zz rfl rfl (anx rfl (zo (zm (rs := [.tmp 8]) (vs := [_]) rfl ⟨rfl, trivial⟩ ?_))))))))))))
       exact ⟨by rw [zex, if_neg (by rw [q10]; decide), if_neg (by rw [q11]; decide), if_neg (by rw [q12]; decide), if_neg (by rw [q13]; decide), if_neg (by rw [q14]; decide), if_neg (by rw [q15]; decide)]; refine congrArg (fun z => Ending.returned (.bool z)) ?_; first | rfl | (simp_all; done) | (simp_all; omega) | (simp_all; intros; omega) | (simp_all; rfl), (LW.step E XLW).toBelow⟩
theorem rrightK_any : Calls Tryz.prog 22 #[.agg #[.slice A nf cp], fnV p f, .agg #[.bool (flN i.op != 0), .bool (uD i.op), .bool (uA i.op), .bool (uB i.op), .bool (uT i.op), .int .i64 (rL i.op), .int .i64 (rK i.op), .int .i64 (rLo i.op), .int .i64 (rHi i.op)], .int .i64 i.k] w fun e w' => e = .returned (.bool (kOK nf f i)) ∧ Below w.heap.size w w' := by
 have hK : rK i.op = 0 ∨ rK i.op = 1 ∨ rK i.op = 2 ∨ rK i.op = 3 ∨ rK i.op = 4 ∨ rK i.op = 5 ∨ rK i.op = 10 := rK_some i.op;refine yn Tryz.func22 rfl Tryz.ntmps22 rfl ?_;have HF : Per (No) w (fun _ => True) := Per.true_;have LW := erx (No) w;have XLW := grx (No) w;have E := erx (No) w;refine srx (za rfl (vq rfl ?_));intro gb1 w2 Bb1 Eb1 Gb1
 have Gb1 : _ ≤ gb1 := Nat.le_trans E.size Gb1;have GLb1 := Nat.le_trans LW.size Gb1;replace E := E.trans Eb1.no;replace HF := HF.cons (yb Gb1);replace E := E.cons (some gb1);replace XLW := Mut.grow XLW (fun k e => Or.inr (Nat.le_trans LW.size ((yb Gb1) k e)));replace HF := HF.on E;replace LW := LW.step E XLW;have SB : ∀ q9, No q9 → Mut [(some gb1)] q9 := (Mut.skip Mut.nil_)
 replace HF := HF.less SB;replace XLW := fun k h => XLW k (SB k h);clear SB;replace E := erx (No) w2;replace HF := HF.and (Per.blkN Bb1 NotIn.nil);refine za rfl (vq rfl ?_);intro gb3 w4 Bb3 Eb3 Gb3;have Gb3 : _ ≤ gb3 := Nat.le_trans E.size Gb3;have GLb3 := Nat.le_trans LW.size Gb3;replace E := E.trans Eb3.no;replace HF := HF.cons (yb Gb3);replace E := E.cons (some gb3)
 replace XLW := Mut.grow XLW (fun k e => Or.inr (Nat.le_trans LW.size ((yb Gb3) k e)));replace HF := HF.on E;replace LW := LW.step E XLW;have SB : ∀ q9, No q9 → Mut [(some gb3)] q9 := (Mut.skip Mut.nil_);replace HF := HF.less SB;replace XLW := fun k h => XLW k (SB k h);clear SB;replace E := erx (No) w4;replace HF := HF.and (Per.blkN Bb3 NotIn.nil);refine za rfl (vq rfl ?_)
 intro gb5 w6 Bb5 Eb5 Gb5;have Gb5 : _ ≤ gb5 := Nat.le_trans E.size Gb5;have GLb5 := Nat.le_trans LW.size Gb5;replace E := E.trans Eb5.no;replace HF := HF.cons (yb Gb5);replace E := E.cons (some gb5);replace XLW := Mut.grow XLW (fun k e => Or.inr (Nat.le_trans LW.size ((yb Gb5) k e)));replace HF := HF.on E;replace LW := LW.step E XLW
 have SB : ∀ q9, No q9 → Mut [(some gb5)] q9 := (Mut.skip Mut.nil_);replace HF := HF.less SB;replace XLW := fun k h => XLW k (SB k h);clear SB;replace E := erx (No) w6;replace HF := HF.and (Per.blkN Bb5 NotIn.nil)
 refine anx rfl (zi (srx (za rfl (zb Tryz.underlying55 rfl sz3 (by decide) rfl (za rfl (zh Tryz.underlying3 rfl rfl (HF.on E).here.2 rfl (rnx (yc (srx (za rfl (zz rfl rfl (anx rfl (zt rfl (fun h1 => ?_) (fun h1 => ?_))))))))))))))
 ·
  refine zp 11 (.bool true) rfl (congrArg Value.bool h1) ?_;replace h1 := eq_of_beq h1;refine srx (mvx rfl (za rfl (zz rfl rfl (anx rfl (zo (zj (zd (zm (rs := [.tmp 8]) (vs := [_]) rfl ⟨rfl, trivial⟩ ?_))))))))
  exact ⟨by refine congrArg (fun z => Ending.returned (.bool z)) ?_; first | rfl | (simp_all [kOK, inI]; done) | (simp_all [kOK, inI]; omega) | (simp_all [kOK, inI]; intros; omega) | (simp_all [kOK, inI]; rfl), (LW.step E XLW).toBelow⟩
 ·
  refine zp 11 (.bool false) rfl (congrArg Value.bool h1) ?_;replace h1 := beq_eq_false_iff_ne.1 h1;refine srx (za rfl (zz rfl rfl (anx rfl (zt rfl (fun h2 => ?_) (fun h2 => ?_)))))
  ·
   refine zp 15 (.bool true) rfl (congrArg Value.bool h2) ?_;replace h2 := eq_of_beq h2;refine srx (mvx rfl (za rfl (qz rfl rfl (anx rfl (zo (zj (zd (zm (rs := [.tmp 8]) (vs := [_]) rfl ⟨rfl, trivial⟩ ?_))))))))
   exact ⟨by refine congrArg (fun z => Ending.returned (.bool z)) ?_; first | rfl | (simp_all [kOK, inI]; done) | (simp_all [kOK, inI]; omega) | (simp_all [kOK, inI]; intros; omega) | (simp_all [kOK, inI]; rfl), (LW.step E XLW).toBelow⟩
  ·
   refine zp 15 (.bool false) rfl (congrArg Value.bool h2) ?_;replace h2 := beq_eq_false_iff_ne.1 h2;refine srx (za rfl (zz rfl rfl (anx rfl (zt rfl (fun h3 => ?_) (fun h3 => ?_)))))
   ·
    refine zp 19 (.bool true) rfl (congrArg Value.bool h3) ?_;replace h3 := eq_of_beq h3;refine srx (mvx rfl (za rfl (qz rfl rfl (mvx rfl (yk 23 rfl (fun h4 => ?_) (fun h4 => ?_))))))
    ·
     replace h4 := of_decide_eq_true h4
     refine onx rfl (zv rfl (onx rfl (zb Tryz.underlying37 rfl sz33 (by decide) rfl (onx rfl (zh Tryz.underlying33 rfl rfl (HF.on E).here.1.2 rfl (onx rfl (qr Tryz.underlying33 rfl (onx rfl (yv rfl rfl (za rfl (zq rfl rfl (anx rfl (zo (zj (zd (zm (rs := [.tmp 8]) (vs := [_]) rfl ⟨rfl, trivial⟩ ?_))))))))))))))))
     exact ⟨by refine congrArg (fun z => Ending.returned (.bool z)) ?_; first | rfl | (simp_all [kOK, inI]; done) | (simp_all [kOK, inI]; omega) | (simp_all [kOK, inI]; intros; omega) | (simp_all [kOK, inI]; rfl), (LW.step E XLW).toBelow⟩
    ·
     replace h4 := of_decide_eq_false h4;refine za rfl (zc rfl (za rfl (zc rfl (za rfl (zc rfl (za rfl (zc rfl (za rfl (zc rfl (za rfl (zx rfl rfl (anx rfl (zo (zj (zd (zm (rs := [.tmp 8]) (vs := [_]) rfl ⟨rfl, trivial⟩ ?_))))))))))))))))
     exact ⟨by refine congrArg (fun z => Ending.returned (.bool z)) ?_; first | rfl | (simp_all [kOK, inI]; done) | (simp_all [kOK, inI]; omega) | (simp_all [kOK, inI]; intros; omega) | (simp_all [kOK, inI]; rfl), (LW.step E XLW).toBelow⟩
   ·
    refine zp 19 (.bool false) rfl (congrArg Value.bool h3) ?_;replace h3 := beq_eq_false_iff_ne.1 h3;refine srx (za rfl (zz rfl rfl (anx rfl (zt rfl (fun h5 => ?_) (fun h5 => ?_)))))
    ·
     refine zp 30 (.bool true) rfl (congrArg Value.bool h5) ?_;replace h5 := eq_of_beq h5;refine srx (mvx rfl (za rfl (qz rfl rfl (mvx rfl (yk 34 rfl (fun h6 => ?_) (fun h6 => ?_))))))
     ·
      replace h6 := of_decide_eq_true h6
      refine onx rfl (zv rfl (onx rfl (zb Tryz.underlying37 rfl sz32 (by decide) rfl (onx rfl (zh Tryz.underlying32 rfl rfl (HF.on E).here.1.2 rfl (onx rfl (qr Tryz.underlying32 rfl (onx rfl (yv rfl rfl (za rfl (zq rfl rfl (anx rfl (zo (zj (zd (zm (rs := [.tmp 8]) (vs := [_]) rfl ⟨rfl, trivial⟩ ?_))))))))))))))))
      exact ⟨by refine congrArg (fun z => Ending.returned (.bool z)) ?_; first | rfl | (simp_all [kOK, inI]; done) | (simp_all [kOK, inI]; omega) | (simp_all [kOK, inI]; intros; omega) | (simp_all [kOK, inI]; rfl), (LW.step E XLW).toBelow⟩
     ·
      replace h6 := of_decide_eq_false h6;refine za rfl (zc rfl (za rfl (zc rfl (za rfl (zc rfl (za rfl (zc rfl (za rfl (zc rfl (za rfl (zx rfl rfl (anx rfl (zo (zj (zd (zm (rs := [.tmp 8]) (vs := [_]) rfl ⟨rfl, trivial⟩ ?_))))))))))))))))
      exact ⟨by refine congrArg (fun z => Ending.returned (.bool z)) ?_; first | rfl | (simp_all [kOK, inI]; done) | (simp_all [kOK, inI]; omega) | (simp_all [kOK, inI]; intros; omega) | (simp_all [kOK, inI]; rfl), (LW.step E XLW).toBelow⟩
    ·
     refine zp 30 (.bool false) rfl (congrArg Value.bool h5) ?_;replace h5 := beq_eq_false_iff_ne.1 h5;refine srx (za rfl (zz rfl rfl (anx rfl (zt rfl (fun h7 => ?_) (fun h7 => ?_)))))
     ·
      refine zp 41 (.bool true) rfl (congrArg Value.bool h7) ?_;replace h7 := eq_of_beq h7;refine srx (mvx rfl (za rfl (qz rfl rfl (mvx rfl (yk 45 rfl (fun h8 => ?_) (fun h8 => ?_))))))
      ·
       replace h8 := of_decide_eq_true h8;refine onx rfl (zv rfl (onx rfl (zb Tryz.underlying37 rfl sz3 (by decide) rfl (onx rfl (zh Tryz.underlying3 rfl rfl (HF.on E).here.1.2 rfl (onx rfl (yv rfl rfl (za rfl (zq rfl rfl (anx rfl (zo (zj (zd (zm (rs := [.tmp 8]) (vs := [_]) rfl ⟨rfl, trivial⟩ ?_))))))))))))))
       exact ⟨by refine congrArg (fun z => Ending.returned (.bool z)) ?_; first | rfl | (simp_all [kOK, inI]; done) | (simp_all [kOK, inI]; omega) | (simp_all [kOK, inI]; intros; omega) | (simp_all [kOK, inI]; rfl), (LW.step E XLW).toBelow⟩
      ·
       replace h8 := of_decide_eq_false h8;refine za rfl (zc rfl (za rfl (zc rfl (za rfl (zc rfl (za rfl (zc rfl (za rfl (zx rfl rfl (anx rfl (zo (zj (zd (zm (rs := [.tmp 8]) (vs := [_]) rfl ⟨rfl, trivial⟩ ?_))))))))))))))
       exact ⟨by refine congrArg (fun z => Ending.returned (.bool z)) ?_; first | rfl | (simp_all [kOK, inI]; done) | (simp_all [kOK, inI]; omega) | (simp_all [kOK, inI]; intros; omega) | (simp_all [kOK, inI]; rfl), (LW.step E XLW).toBelow⟩
     ·
      refine zp 41 (.bool false) rfl (congrArg Value.bool h7) ?_;replace h7 := beq_eq_false_iff_ne.1 h7;refine srx (za rfl (zz rfl rfl (anx rfl (zt rfl (fun h9 => ?_) (fun h9 => ?_)))))
      ·
       refine zp 51 (.bool true) rfl (congrArg Value.bool h9) ?_;replace h9 := eq_of_beq h9;refine srx (mvx rfl (za rfl (qe rfl rfl (mvx rfl (yk 55 rfl (fun h10 => ?_) (fun h10 => ?_))))))
       ·
        replace h10 := of_decide_eq_true h10
        refine onx rfl (zv rfl (onx rfl (zb Tryz.underlying24 rfl sz22 (by decide) rfl (onx rfl (zh Tryz.underlying22 rfl rfl (HF.on E).here.1.1.2 rfl (onx rfl (qr Tryz.underlying22 rfl (onx rfl (yv rfl rfl (za rfl (zq rfl rfl (anx rfl (zo (zj (zd (zm (rs := [.tmp 8]) (vs := [_]) rfl ⟨rfl, trivial⟩ ?_))))))))))))))))
        exact ⟨by refine congrArg (fun z => Ending.returned (.bool z)) ?_; first | rfl | (simp_all [kOK, inI]; done) | (simp_all [kOK, inI]; omega) | (simp_all [kOK, inI]; intros; omega) | (simp_all [kOK, inI]; rfl), (LW.step E XLW).toBelow⟩
       ·
        replace h10 := of_decide_eq_false h10;refine za rfl (zc rfl (za rfl (zc rfl (za rfl (zc rfl (za rfl (zc rfl (za rfl (zc rfl (za rfl (zx rfl rfl (anx rfl (zo (zj (zd (zm (rs := [.tmp 8]) (vs := [_]) rfl ⟨rfl, trivial⟩ ?_))))))))))))))))
        exact ⟨by refine congrArg (fun z => Ending.returned (.bool z)) ?_; first | rfl | (simp_all [kOK, inI]; done) | (simp_all [kOK, inI]; omega) | (simp_all [kOK, inI]; intros; omega) | (simp_all [kOK, inI]; rfl), (LW.step E XLW).toBelow⟩
      ·
       refine zp 51 (.bool false) rfl (congrArg Value.bool h9) ?_;replace h9 := beq_eq_false_iff_ne.1 h9
       refine zn (zf (ze (srx (mvx rfl (za rfl (zb Tryz.underlying55 rfl sz3 (by decide) rfl (za rfl (zh Tryz.underlying3 rfl rfl (HF.on E).here.2 rfl (za rfl (qz rfl rfl (mvx rfl (yk 66 rfl (fun h11 => ?_) (fun h11 => ?_)))))))))))))
       ·
        replace h11 := of_decide_eq_true h11;refine onx rfl (zv rfl (onx rfl (zb Tryz.underlying55 rfl sz3 (by decide) rfl (onx rfl (zh Tryz.underlying3 rfl rfl (HF.on E).here.2 rfl (onx rfl (gf rfl rfl (za rfl (zq rfl rfl (anx rfl (zo (zm (rs := [.tmp 8]) (vs := [_]) rfl ⟨rfl, trivial⟩ ?_))))))))))))
        exact ⟨by refine congrArg (fun z => Ending.returned (.bool z)) ?_; first | rfl | (simp_all [kOK, inI]; done) | (simp_all [kOK, inI]; omega) | (simp_all [kOK, inI]; intros; omega) | (simp_all [kOK, inI]; rfl), (LW.step E XLW).toBelow⟩
       ·
        replace h11 := of_decide_eq_false h11;refine za rfl (zc rfl (za rfl (zc rfl (za rfl (zc rfl (za rfl (zc rfl (za rfl (zx rfl rfl (anx rfl (zo (zm (rs := [.tmp 8]) (vs := [_]) rfl ⟨rfl, trivial⟩ ?_))))))))))))
        exact ⟨by refine congrArg (fun z => Ending.returned (.bool z)) ?_; first | rfl | (simp_all [kOK, inI]; done) | (simp_all [kOK, inI]; omega) | (simp_all [kOK, inI]; intros; omega) | (simp_all [kOK, inI]; rfl), (LW.step E XLW).toBelow⟩
end
end Go.Proofs.YtmjemknimipnjaaGreatDoor
namespace Go.Proofs.YtmjemknimipnjaaGreatDoor
open Go.RowKit
set_option maxRecDepth 100000
theorem gh {α : Type} {l : List α} {P : α → Bool} {k : Nat} {y : α} (hy : l[k]? = some y) (h : (l.take k).all P = true) (hp : P y = true) : (l.take (k + 1)).all P = true := by
 rw [List.take_add_one, hy, List.all_append, h];simp [hp]
theorem vf {α : Type} {l : List α} {P : α → Bool} {k : Nat} {y : α} (hy : l[k]? = some y) (hp : P y = false) : l.all P = false := by
 rw [List.all_eq_false];exact ⟨y, List.mem_of_getElem? hy, by rw [hp]; decide⟩
theorem kh {α : Type} {l : List α} {P : α → Bool} {k : Nat} (h : (l.take k).all P = true) (hk : ¬ k < l.length) : l.all P = true := by rwa [List.take_of_length_le (by omega)] at h
structure FsA (n : Nat) (w : World) (A : Option Addr) (fs : List LFn) : Prop where
 len : fs.length ≤ 140737488351232
 row : RowS n w 10 (fun w g o f => ∃ p, FnA n w p f ∧ oo w g o (fnC p f)) A fs
 strs : ∀ f ∈ fs, ∀ c ∈ f.consts, c.2.size ≤ 140737488355328
theorem FsA.low {n : Nat} {X : Nat → Prop} {w w' : World} {A : Option Addr} {fs : List LFn} (h : FsA n w A fs) (k : Low n X w w') : FsA n w' A fs :=
 ⟨h.len, h.row.low fun g o f hg ⟨p, h1, h2⟩ => ⟨p, h1.low k, k.cells hg h2⟩, h.strs⟩
theorem FsA.no {n : Nat} {w w' : World} {A : Option Addr} {fs : List LFn} (h : FsA n w A fs) (k : Ext No w w') : FsA n w' A fs := h.low (X := No) ⟨k, fun _ h => h.elim⟩
theorem Per.fsA {n : Nat} {X : Nat → Prop} {w : World} {A : Option Addr} {fs : List LFn} (h : FsA n w A fs) (hX : ∀ k, X k → n ≤ k) : Per X w (fun z => FsA n z A fs) := fun _ hb => h.low ⟨hb, hX⟩
theorem FsA.at {n : Nat} {w : World} {A : Option Addr} {fs : List LFn} (h : FsA n w A fs) {j : Nat} {f : LFn} (hj : fs[j]? = some f) : ∃ g o p, A = some ⟨g, o, none⟩ ∧ g < n ∧ FnA n w p f ∧ oo w g (o + j * 10) (fnC p f) := by
 obtain ⟨g, o, e, hg, p, h1, h2⟩ := h.row.at hj;exact ⟨g, o, p, e, hg, h1, h2⟩
theorem fsAt_of {fs : List LFn} {k : Nat} {f : LFn} (h : fs[k]? = some f) : fsAt fs ((k : Nat) : Int) = f.frees := by
 unfold fsAt;rw [show ((k : Nat) : Int).toNat = k from rfl, h]; rfl
theorem yix (v n : Int) : yq true v n = inI v n := rfl
theorem op_36 {op : Int} (h : (flN op).testBit 9 = true) : (flN op).testBit 10 = false ∧ (flN op).testBit 11 = false ∧ (flN op).testBit 12 = false ∧ (flN op).testBit 13 = false ∧ (flN op).testBit 14 = true := by
 by_cases h0 : op < 0 ∨ 44 < op
 · have e : flN op = 0 := by unfold flN; rw [if_pos h0]
   rw [e] at h; simp at h
 · have key : ∀ k : Fin 45, (flN (k.val : Int)).testBit 9 = true → (flN (k.val : Int)).testBit 10 = false ∧ (flN (k.val : Int)).testBit 11 = false ∧ (flN (k.val : Int)).testBit 12 = false ∧ (flN (k.val : Int)).testBit 13 = false ∧ (flN (k.val : Int)).testBit 14 = true := by decide +kernel
   have e : op = ((op.toNat : Nat) : Int) := by omega
   rw [e] at h ⊢;exact key ⟨op.toNat, by omega⟩ h
theorem kOK_36 {nf : Nat} {f : LFn} {i : LIns} (h : kOK nf f i = true) (h9 : (flN i.op).testBit 9 = true) : 0 < i.k ∧ i.k < (nf : Int) := by
 obtain ⟨h10, h11, h12, h13, h14⟩ := op_36 h9;rw [zex, h10, h11, h12, h13, h14] at h;simp at h
 omega
theorem zux (fs : List LFn) (f : LFn) (i : LIns) : lOK fs f i = (i.l.all (fun r => inI r f.regs) && (if (flN i.op).testBit 5 = true then true else if (flN i.op).testBit 6 = true then decide (i.l.length % 2 = 0) else if (flN i.op).testBit 7 = true then decide ((i.l.length : Int) = 1) else if (flN i.op).testBit 8 = true then decide ((i.l.length : Int) = 2) else if (flN i.op).testBit 9 = true then decide ((i.l.length : Int) = fsAt fs i.k) else decide (i.l.length = 0))) := by
 unfold lOK rL;generalize (flN i.op).testBit 5 = b1
 generalize (flN i.op).testBit 6 = b2
 generalize (flN i.op).testBit 7 = b3
 generalize (flN i.op).testBit 8 = b4
 generalize (flN i.op).testBit 9 = b5
 cases b1 <;> cases b2 <;> cases b3 <;> cases b4 <;> cases b5 <;> rfl
theorem rL_some (op : Int) : rL op = -1 ∨ rL op = -2 ∨ rL op = -3 ∨ rL op = -4 ∨ rL op = 1 ∨ rL op = 2 := by
 unfold rL;split
 · exact Or.inr (Or.inl rfl)
 · split
   · exact Or.inr (Or.inr (Or.inl rfl))
   · split
     · exact Or.inr (Or.inr (Or.inr (Or.inr (Or.inl rfl))))
     · split
       · exact Or.inr (Or.inr (Or.inr (Or.inr (Or.inr rfl))))
       · split
         · exact Or.inr (Or.inr (Or.inr (Or.inl rfl)))
         · exact Or.inl rfl
theorem rL_36 {op : Int} (h : rL op = -4) : (flN op).testBit 9 = true := by
 unfold rL at h;split at h
 · cases h
 · split at h
   · cases h
   · split at h
     · cases h
     · split at h
       · cases h
       · split at h
         · assumption
         · cases h
theorem IntsA.cellA {n : Nat} {w : World} {A : Option Addr} {xs : List Int} (h : IntsA n w A xs) {j g o : Nat} {x : Int} (hj : xs[j]? = some x) (hA : A = some ⟨g, o, none⟩) : w.cell? ⟨g, o + j, none⟩ = some (.int .i64 x) := by
 obtain ⟨g', o', e, _, hc⟩ := h.cell hj;rw [hA] at e;cases e
 exact hc
theorem FsA.cellA {n : Nat} {w : World} {A : Option Addr} {fs : List LFn} (h : FsA n w A fs) {j g o : Nat} {f : LFn} (hj : fs[j]? = some f) (hA : A = some ⟨g, o, none⟩) : w.cell? ⟨g, o + j * 10 + 3, none⟩ = some (.int .i64 f.frees) := by
 obtain ⟨g', o', p, e, _, _, hc⟩ := h.at hj;rw [hA] at e;cases e
 exact hc 3 _ rfl
theorem InsA.at {n : Nat} {w : World} {A : Option Addr} {xs : List LIns} (h : InsA n w A xs) {j : Nat} {x : LIns} (hj : xs[j]? = some x) : ∃ g o B c, A = some ⟨g, o, none⟩ ∧ g < n ∧ 8 * x.l.length ≤ 140737488351232 ∧ IntsA n w B x.l ∧ oo w g (o + j * 7) (insV x B c) := by
 obtain ⟨g, o, e, hg, _, B, c, h1, h2, h3⟩ := h.row.at hj;exact ⟨g, o, B, c, e, hg, h1, h2, h3⟩
end Go.Proofs.YtmjemknimipnjaaGreatDoor
namespace Go.Proofs.YtmjemknimipnjaaGreatDoor
open Go.RowKit
set_option maxRecDepth 100000
attribute [local irreducible] OW RS flN uD uA uB uT uL rL rK rLo rHi
section
variable (w : World) (A : Option Addr) (n cp : Nat) (fs : List LFn) (hfs : FsA n w A fs) (p : Pl) (f : LFn) (i : LIns) (B : Option Addr) (c : Nat) (hl : IntsA n w B i.l)
include hfs hl
theorem rightL_any (hk : (flN i.op).testBit 9 = true → 0 ≤ i.k ∧ i.k < (fs.length : Int)) : Calls Tryz.prog 18 #[.agg #[.slice A fs.length cp], fnV p f, .agg #[.int .i64 i.op, .int .i64 i.d, .int .i64 i.a, .int .i64 i.b, .int .i64 i.t, .int .i64 i.k, .slice B i.l.length c], .int .i64 ((flN i.op : Nat) : Int)] w fun e w' => e = .returned (.bool (lOK fs f i)) ∧ Below w.heap.size w w' := by
 have hll := hl.len;have hlf := hfs.len;refine yn Tryz.func18 rfl Tryz.ntmps18 rfl ?_;have HF : Per (No) w (fun _ => True) := Per.true_;have LW := erx (No) w;have XLW := grx (No) w;have E := erx (No) w;replace HF := HF.on E;replace LW := LW.step E XLW;replace E := erx (No) w;replace HF := HF.and (Per.ints hl (fun _ h => h.elim));replace HF := HF.on E;replace LW := LW.step E XLW
 replace E := erx (No) w;replace HF := HF.and (Per.fsA hfs (fun _ h => h.elim));refine srx (za rfl (vq rfl ?_));intro gb1 w2 Bb1 Eb1 Gb1;have Gb1 : _ ≤ gb1 := Nat.le_trans E.size Gb1;have GLb1 := Nat.le_trans LW.size Gb1;replace E := E.trans Eb1.no;replace HF := HF.cons (yb Gb1);replace E := E.cons (some gb1)
 replace XLW := Mut.grow XLW (fun k e => Or.inr (Nat.le_trans LW.size ((yb Gb1) k e)));replace HF := HF.on E;replace LW := LW.step E XLW;have SB : ∀ q9, No q9 → Mut [(some gb1)] q9 := (Mut.skip Mut.nil_);replace HF := HF.less SB;replace XLW := fun k h => XLW k (SB k h);clear SB;replace E := erx (No) w2;replace HF := HF.and (Per.blkN Bb1 NotIn.nil);refine za rfl (vq rfl ?_)
 intro gb3 w4 Bb3 Eb3 Gb3;have Gb3 : _ ≤ gb3 := Nat.le_trans E.size Gb3;have GLb3 := Nat.le_trans LW.size Gb3;replace E := E.trans Eb3.no;replace HF := HF.cons (yb Gb3);replace E := E.cons (some gb3);replace XLW := Mut.grow XLW (fun k e => Or.inr (Nat.le_trans LW.size ((yb Gb3) k e)));replace HF := HF.on E;replace LW := LW.step E XLW
 have SB : ∀ q9, No q9 → Mut [(some gb3)] q9 := (Mut.skip Mut.nil_);replace HF := HF.less SB;replace XLW := fun k h => XLW k (SB k h);clear SB;replace E := erx (No) w4;replace HF := HF.and (Per.blkN Bb3 NotIn.nil);refine za rfl (vq rfl ?_);intro gb5 w6 Bb5 Eb5 Gb5;have Gb5 : _ ≤ gb5 := Nat.le_trans E.size Gb5;have GLb5 := Nat.le_trans LW.size Gb5;replace E := E.trans Eb5.no
 replace HF := HF.cons (yb Gb5);replace E := E.cons (some gb5);replace XLW := Mut.grow XLW (fun k e => Or.inr (Nat.le_trans LW.size ((yb Gb5) k e)));replace HF := HF.on E;replace LW := LW.step E XLW;have SB : ∀ q9, No q9 → Mut [(some gb5)] q9 := (Mut.skip Mut.nil_);replace HF := HF.less SB;replace XLW := fun k h => XLW k (SB k h);clear SB;replace E := erx (No) w6
 replace HF := HF.and (Per.blkN Bb5 NotIn.nil);refine anx rfl (zi (srx (za rfl (zb Tryz.underlying46 rfl zsx (by decide) rfl (za rfl (zh Tryz.underlying44 rfl rfl (HF.on E).here.2 rfl (za rfl (qr Tryz.underlying44 rfl (mvx rfl (rnx (yc ?_)))))))))));replace HF := HF.on E;replace LW := LW.step E XLW;replace E := erx (No) w6
 refine qm (ι := Nat) (fun k => [(3, .int .i64 ((flN i.op : Nat) : Int)), (4, .pointer (some ⟨gb1, 0, none⟩)), (5, .pointer (some ⟨gb3, 0, none⟩)), (6, .pointer (some ⟨gb5, 0, none⟩)), (13, .slice B i.l.length c), (14, .int .i64 ((i.l.length : Nat) : Int)), (15, .int .i64 ((k : Nat) : Int))]) (fun k w' => Ext (No) w6 w' ∧ (k ≤ i.l.length ∧ (i.l.take k).all (fun r => inI r f.regs) = true)) (fun k => i.l.length - k) 0 ⟨rfl, rfl, rfl, rfl, rfl, rfl, rfl, trivial⟩ ⟨Ext.refl _ _, ⟨Nat.zero_le _, by rw [List.take_zero]; rfl⟩⟩ ?_
 rintro k w8 ⟨M7, ⟨hk0, hall⟩⟩;have XM7 := grx (No) w6;replace E := E.trans M7;replace HF := HF.on E;replace LW := LW.step E XLW;replace E := erx (No) w8;refine srx (za rfl (yv rfl rfl (rnx (zi (zt rfl (fun q => ?_) (fun q => ?_))))))
 ·
  have q := of_decide_eq_true q;have hlt : k < i.l.length := by omega
  obtain ⟨y, hy⟩ : ∃ y, i.l[k]? = some y := ⟨_, List.getElem?_eq_getElem hlt⟩;obtain ⟨g, o, hB, hg, hc⟩ := ((HF.on E).here.1.1.1.1.2).cell hy
  refine zn (ze (zi (yc (srx (za rfl (vu (j := k) Tryz.underlying44 sz3 (congrArg (fun z ↦ some (Value.slice z i.l.length c)) hB) rfl rfl hlt (za rfl (yx Tryz.underlying3 rfl rfl hc (anx rfl (srx (mvx rfl (za rfl (zb Tryz.underlying37 rfl sz3 (by decide) rfl (za rfl (zh Tryz.underlying3 rfl rfl (HF.on E).here.1.2 rfl (za rfl (yh en9 rfl ((zez _ true y f.regs).mono ?_))))))))))))))))))
  rintro e w9 ⟨rfl, hb⟩;refine ⟨_, rfl, ?_⟩;replace E := blx E hb;refine za rfl (vd rfl (rnx ?_));by_cases hin : inI y f.regs = true
  ·
   refine zp 23 (.bool false) rfl ((by rw [yix, hin]; rfl : (.bool (!(yq true y f.regs)) : Value) = _)) (ye rfl (zn (zf (ze (zg (za rfl (yp rfl rfl (zw (by omega)) (mvx rfl (yd ?_)))))))))
   exact yr (k + 1) (by show i.l.length - (k + 1) < i.l.length - k; omega) ⟨rfl, rfl, rfl, rfl, rfl, rfl, rfl, trivial⟩ ⟨M7.step E XM7, ⟨hlt, gh hy hall hin⟩⟩
  ·
   refine zp 23 (.bool true) rfl ((by rw [yix, Bool.eq_false_iff.2 hin]; rfl : (.bool (!(yq true y f.regs)) : Value) = _)) (yg rfl (srx (anx rfl (zo (zj (zd (zd (zj (zd (zm (rs := [.tmp 8]) (vs := [_]) rfl ⟨rfl, trivial⟩ ?_))))))))))
   exact ⟨by rw [zux, vf hy (Bool.eq_false_iff.2 hin)]; rfl, (LW.step E XLW).toBelow⟩
 ·
  have q := of_decide_eq_false q;have hall2 := kh hall (by omega)
  refine yw (zl (zl (zy (ze (srx (za rfl (zb Tryz.underlying46 rfl zsx (by decide) rfl (za rfl (zh Tryz.underlying44 rfl rfl (HF.on E).here.2 rfl (za rfl (qr Tryz.underlying44 rfl (anx rfl (zi (yc (srx (mvx rfl (za rfl (vg rfl rfl (vn i.op 32 (by decide)) (za rfl (qw rfl rfl (anx rfl (zp 28 (.bool ((flN i.op).testBit 5)) rfl ((by rw [show (32 : Nat) = 2 ^ 5 from rfl, jo] : (.bool (((flN i.op &&& 32 : Nat) : Int) != 0) : Value) = _)) (zt rfl (fun q5 => ?_) (fun q5 => ?_))))))))))))))))))))))))
  ·
   refine srx (anx rfl (zo (zj (zd (zm (rs := [.tmp 8]) (vs := [_]) rfl ⟨rfl, trivial⟩ ?_)))));exact ⟨by rw [zux, hall2, if_pos q5]; rfl, (LW.step E XLW).toBelow⟩
  ·
   refine srx (mvx rfl (za rfl (vg rfl rfl (vn i.op 64 (by decide)) (za rfl (qw rfl rfl (anx rfl (zp 32 (.bool ((flN i.op).testBit 6)) rfl ((by rw [show (64 : Nat) = 2 ^ 6 from rfl, jo] : (.bool (((flN i.op &&& 64 : Nat) : Int) != 0) : Value) = _)) (zt rfl (fun q6 => ?_) (fun q6 => ?_)))))))))
   ·
    refine srx (mvx rfl (za rfl (ow_rem rfl rfl (by decide) (show (((i.l.length : Nat) : Int).tmod 2) = ((i.l.length % 2 : Nat) : Int) from by rw [Int.tmod_eq_emod_of_nonneg (by omega)]; rfl) (za rfl (zz rfl rfl (anx rfl (zo (zj (zd (zm (rs := [.tmp 8]) (vs := [_]) rfl ⟨rfl, trivial⟩ ?_))))))))))
    exact ⟨by rw [zux, hall2, if_neg (by rw [q5]; decide), if_pos q6]; refine congrArg (fun z => Ending.returned (.bool z)) ?_; first | rfl | (simp; done) | (simp; omega) | (rw [Bool.true_and, Bool.eq_iff_iff]; simp; omega), (LW.step E XLW).toBelow⟩
   ·
    refine srx (mvx rfl (za rfl (vg rfl rfl (vn i.op 128 (by decide)) (za rfl (qw rfl rfl (anx rfl (zp 39 (.bool ((flN i.op).testBit 7)) rfl ((by rw [show (128 : Nat) = 2 ^ 7 from rfl, jo] : (.bool (((flN i.op &&& 128 : Nat) : Int) != 0) : Value) = _)) (zt rfl (fun q7 => ?_) (fun q7 => ?_)))))))))
    ·
     refine srx (mvx rfl (za rfl (zz rfl rfl (anx rfl (zo (zj (zd (zm (rs := [.tmp 8]) (vs := [_]) rfl ⟨rfl, trivial⟩ ?_))))))));exact ⟨by rw [zux, hall2, if_neg (by rw [q5]; decide), if_neg (by rw [q6]; decide), if_pos q7]; rfl, (LW.step E XLW).toBelow⟩
    ·
     refine srx (mvx rfl (za rfl (vg rfl rfl (vn i.op 256 (by decide)) (za rfl (qw rfl rfl (anx rfl (zp 45 (.bool ((flN i.op).testBit 8)) rfl ((by rw [show (256 : Nat) = 2 ^ 8 from rfl, jo] : (.bool (((flN i.op &&& 256 : Nat) : Int) != 0) : Value) = _)) (zt rfl (fun q8 => ?_) (fun q8 => ?_)))))))))
     ·
      refine srx (mvx rfl (za rfl (zz rfl rfl (anx rfl (zo (zj (zd (zm (rs := [.tmp 8]) (vs := [_]) rfl ⟨rfl, trivial⟩ ?_))))))));exact ⟨by rw [zux, hall2, if_neg (by rw [q5]; decide), if_neg (by rw [q6]; decide), if_neg (by rw [q7]; decide), if_pos q8]; rfl, (LW.step E XLW).toBelow⟩
     ·
      refine srx (mvx rfl (za rfl (vg rfl rfl (vn i.op 512 (by decide)) (za rfl (qw rfl rfl (anx rfl (zp 51 (.bool ((flN i.op).testBit 9)) rfl ((by rw [show (512 : Nat) = 2 ^ 9 from rfl, jo] : (.bool (((flN i.op &&& 512 : Nat) : Int) != 0) : Value) = _)) (zt rfl (fun q9 => ?_) (fun q9 => ?_)))))))))
      ·
       obtain ⟨hk1, hk2⟩ := hk q9;obtain ⟨kn, hkn⟩ : ∃ kn : Nat, i.k = ((kn : Nat) : Int) := ⟨i.k.toNat, by omega⟩;have hknl : kn < fs.length := by omega
       obtain ⟨f2, hf2⟩ : ∃ f2, fs[kn]? = some f2 := ⟨_, List.getElem?_eq_getElem hknl⟩;obtain ⟨g, o, p2, hA, hg, _, hc⟩ := ((HF.on E).here.1.1.1.2).at hf2
       refine srx (mvx rfl (za rfl (zb Tryz.underlying24 rfl sz22 (by decide) rfl (za rfl (zh Tryz.underlying22 rfl rfl (HF.on E).here.1.1.2 rfl (za rfl (zb Tryz.underlying46 rfl sz3 (by decide) rfl (za rfl (zh Tryz.underlying3 rfl rfl (HF.on E).here.2 rfl (za rfl (qq (j := kn) Tryz.underlying22 zkv (congrArg (fun z ↦ some (Value.slice z fs.length cp)) hA) rfl hkn hknl (za rfl (zb Tryz.underlying37 rfl sz3 (by decide) rfl (za rfl (yx Tryz.underlying3 rfl rfl (hc 3 _ rfl) (za rfl (zz rfl rfl (anx rfl (zo (zj (zd (zm (rs := [.tmp 8]) (vs := [_]) rfl ⟨rfl, trivial⟩ ?_))))))))))))))))))))))
       exact ⟨by rw [zux, hall2, if_neg (by rw [q5]; decide), if_neg (by rw [q6]; decide), if_neg (by rw [q7]; decide), if_neg (by rw [q8]; decide), if_pos q9, hkn, fsAt_of hf2]; rfl, (LW.step E XLW).toBelow⟩
      ·
       refine zn (zf (ze (srx (mvx rfl (za rfl (zz rfl rfl (anx rfl (zo (zm (rs := [.tmp 8]) (vs := [_]) rfl ⟨rfl, trivial⟩ ?_)))))))))
       exact ⟨by rw [zux, hall2, if_neg (by rw [q5]; decide), if_neg (by rw [q6]; decide), if_neg (by rw [q7]; decide), if_neg (by rw [q8]; decide), if_neg (by rw [q9]; decide)]; refine congrArg (fun z => Ending.returned (.bool z)) ?_; first | rfl | (simp; done) | (rw [Bool.true_and, Bool.eq_iff_iff]; simp), (LW.step E XLW).toBelow⟩
theorem rrightL_any (hk : (flN i.op).testBit 9 = true → 0 < i.k ∧ i.k < (fs.length : Int)) : Calls Tryz.prog 23 #[.agg #[.slice A fs.length cp], fnV p f, .agg #[.bool (flN i.op != 0), .bool (uD i.op), .bool (uA i.op), .bool (uB i.op), .bool (uT i.op), .int .i64 (rL i.op), .int .i64 (rK i.op), .int .i64 (rLo i.op), .int .i64 (rHi i.op)], .agg #[.int .i64 i.op, .int .i64 i.d, .int .i64 i.a, .int .i64 i.b, .int .i64 i.t, .int .i64 i.k, .slice B i.l.length c]] w fun e w' => e = .returned (.bool (lOK fs f i)) ∧ Below w.heap.size w w' := by
 have hll := hl.len;have hlf := hfs.len;have hrs := rL_some i.op;refine yn Tryz.func23 rfl Tryz.ntmps23 rfl ?_;have HF : Per (No) w (fun _ => True) := Per.true_;have LW := erx (No) w;have XLW := grx (No) w;have E := erx (No) w;replace HF := HF.on E;replace LW := LW.step E XLW;replace E := erx (No) w;replace HF := HF.and (Per.ints hl (fun _ h => h.elim));replace HF := HF.on E
 replace LW := LW.step E XLW;replace E := erx (No) w;replace HF := HF.and (Per.fsA hfs (fun _ h => h.elim));refine srx (za rfl (vq rfl ?_));intro gb1 w2 Bb1 Eb1 Gb1;have Gb1 : _ ≤ gb1 := Nat.le_trans E.size Gb1;have GLb1 := Nat.le_trans LW.size Gb1;replace E := E.trans Eb1.no;replace HF := HF.cons (yb Gb1);replace E := E.cons (some gb1)
 replace XLW := Mut.grow XLW (fun k e => Or.inr (Nat.le_trans LW.size ((yb Gb1) k e)));replace HF := HF.on E;replace LW := LW.step E XLW;have SB : ∀ q9, No q9 → Mut [(some gb1)] q9 := (Mut.skip Mut.nil_);replace HF := HF.less SB;replace XLW := fun k h => XLW k (SB k h);clear SB;replace E := erx (No) w2;replace HF := HF.and (Per.blkN Bb1 NotIn.nil);refine za rfl (vq rfl ?_)
 intro gb3 w4 Bb3 Eb3 Gb3;have Gb3 : _ ≤ gb3 := Nat.le_trans E.size Gb3;have GLb3 := Nat.le_trans LW.size Gb3;replace E := E.trans Eb3.no;replace HF := HF.cons (yb Gb3);replace E := E.cons (some gb3);replace XLW := Mut.grow XLW (fun k e => Or.inr (Nat.le_trans LW.size ((yb Gb3) k e)));replace HF := HF.on E;replace LW := LW.step E XLW
 have SB : ∀ q9, No q9 → Mut [(some gb3)] q9 := (Mut.skip Mut.nil_);replace HF := HF.less SB;replace XLW := fun k h => XLW k (SB k h);clear SB;replace E := erx (No) w4;replace HF := HF.and (Per.blkN Bb3 NotIn.nil);refine za rfl (vq rfl ?_);intro gb5 w6 Bb5 Eb5 Gb5;have Gb5 : _ ≤ gb5 := Nat.le_trans E.size Gb5;have GLb5 := Nat.le_trans LW.size Gb5;replace E := E.trans Eb5.no
 replace HF := HF.cons (yb Gb5);replace E := E.cons (some gb5);replace XLW := Mut.grow XLW (fun k e => Or.inr (Nat.le_trans LW.size ((yb Gb5) k e)));replace HF := HF.on E;replace LW := LW.step E XLW;have SB : ∀ q9, No q9 → Mut [(some gb5)] q9 := (Mut.skip Mut.nil_);replace HF := HF.less SB;replace XLW := fun k h => XLW k (SB k h);clear SB;replace E := erx (No) w6
 replace HF := HF.and (Per.blkN Bb5 NotIn.nil);refine za rfl (vq rfl ?_);intro gb7 w8 Bb7 Eb7 Gb7;have Gb7 : _ ≤ gb7 := Nat.le_trans E.size Gb7;have GLb7 := Nat.le_trans LW.size Gb7;replace E := E.trans Eb7.no;replace HF := HF.cons (yb Gb7);replace E := E.cons (some gb7);replace XLW := Mut.grow XLW (fun k e => Or.inr (Nat.le_trans LW.size ((yb Gb7) k e)));replace HF := HF.on E
 replace LW := LW.step E XLW;have SB : ∀ q9, No q9 → Mut [(some gb7)] q9 := (Mut.skip Mut.nil_);replace HF := HF.less SB;replace XLW := fun k h => XLW k (SB k h);clear SB;replace E := erx (No) w8;replace HF := HF.and (Per.blkN Bb7 NotIn.nil);refine anx rfl (zi (srx (anx rfl (yc ?_))));replace HF := HF.on E;replace LW := LW.step E XLW;replace E := erx (No) w8
 refine qm (ι := Nat) (fun k => [(4, .pointer (some ⟨gb1, 0, none⟩)), (5, .pointer (some ⟨gb3, 0, none⟩)), (6, .pointer (some ⟨gb5, 0, none⟩)), (7, .pointer (some ⟨gb7, 0, none⟩)), (9, .int .i64 ((k : Nat) : Int))]) (fun k w' => Ext (No) w8 w' ∧ (k ≤ i.l.length ∧ (i.l.take k).all (fun r => inI r f.regs) = true)) (fun k => i.l.length - k) 0 ⟨rfl, rfl, rfl, rfl, rfl, trivial⟩ ⟨Ext.refl _ _, ⟨Nat.zero_le _, by rw [List.take_zero]; rfl⟩⟩ ?_
 rintro k w10 ⟨M9, ⟨hk0, hall⟩⟩;have XM9 := grx (No) w8;replace E := E.trans M9;replace HF := HF.on E;replace LW := LW.step E XLW;replace E := erx (No) w10
 refine zi (srx (mvx rfl (za rfl (zb Tryz.underlying46 rfl zsx (by decide) rfl (za rfl (zh Tryz.underlying44 rfl rfl (HF.on E).here.2 rfl (za rfl (qr Tryz.underlying44 rfl (za rfl (yv rfl rfl (rnx (zt rfl (fun q => ?_) (fun q => ?_)))))))))))))
 ·
  have q := of_decide_eq_true q;have hlt : k < i.l.length := by omega
  obtain ⟨y, hy⟩ : ∃ y, i.l[k]? = some y := ⟨_, List.getElem?_eq_getElem hlt⟩;obtain ⟨g, o, hB, hg, hc⟩ := ((HF.on E).here.1.1.1.1.1.2).cell hy;by_cases h0 : y < 0
  ·
   refine zn (ze (zi (yc (zi ?_))));have OY : ∀ q9, (Mut (xe [])) q9 → q9 < (World.drew w10).heap.size → (No) q9 := fun k h _ => (Mut.none_) k h;refine vo (No) Mut.none_ [] [] (oi [Fx.of (.pointer (some ⟨gb7, 6, none⟩)),
    Fx.of (.slice B i.l.length c),
    Fx.of (.int .i64 ((k : Nat) : Int)),
    Fx.of (.pointer (some ⟨g, o + k, none⟩)),
    Fx.of (.int .i64 y),
    Fx.of (.bool true),
    Fx.of (.bool true),
    Fx.of undef,
    Fx.of undef,
    Fx.of undef,
    Fx.of undef,
    Fx.of undef,
    Fx.of undef,
    Fx.of undef,
    Fx.of undef,
    Fx.of (.bool true)]) mixed rfl trivial (fun _ h => by cases h) ?_ ?_
   · refine ⟨?_, ?_, ?_, ?_, ?_, ?_, ?_, ?_, ?_, ?_, ?_, ?_, ?_, ?_, ?_, ?_, trivial⟩
     · intro vs X wq K;exact zb Tryz.underlying46 rfl zsx (by decide) rfl ⟨Below.refl _ _, Left.of rfl⟩
     · intro vs X wq K;have LE := K.1;obtain ⟨_, e0, k0⟩ := K.dep 0 rfl rfl rfl;refine zk 17 (.pointer (some ⟨gb7, 6, none⟩)) rfl e0 ?_;exact zh Tryz.underlying44 rfl rfl (HF.on (E.drew.trans (LE.mono OY))).here.2 rfl ⟨Below.refl _ _, Left.of rfl⟩
     · intro vs X wq K;exact zv rfl ⟨Below.refl _ _, Left.of rfl⟩
     · intro vs X wq K;obtain ⟨_, e1, k1⟩ := K.dep 1 rfl rfl rfl;refine zk 18 (.slice B i.l.length c) rfl e1 ?_;obtain ⟨_, e2, k2⟩ := K.dep 2 rfl rfl rfl;refine zk 19 (.int .i64 ((k : Nat) : Int)) rfl e2 ?_;exact vu (j := k) Tryz.underlying44 sz3 (congrArg (fun z ↦ some (Value.slice z i.l.length c)) hB) rfl rfl hlt ⟨Below.refl _ _, Left.of rfl⟩
     · intro vs X wq K;have LE := K.1;obtain ⟨_, e3, k3⟩ := K.dep 3 rfl rfl rfl;refine zk 20 (.pointer (some ⟨g, o + k, none⟩)) rfl e3 ?_;exact yx Tryz.underlying3 rfl rfl (((HF.on (E.drew.trans (LE.mono OY))).here.1.1.1.1.1.2).cellA hy hB) ⟨Below.refl _ _, Left.of rfl⟩
     · intro vs X wq K;obtain ⟨_, e4, k4⟩ := K.dep 4 rfl rfl rfl;refine zk 21 (.int .i64 y) rfl e4 ?_;exact yv rfl rfl ⟨Below.refl _ _, Left.of ((by rw [decide_eq_true h0] : (.bool (decide (y < 0)) : Value) = _))⟩
     · intro vs X wq K;obtain ⟨_, e5, k5⟩ := K.dep 5 rfl rfl rfl;refine zk 22 (.bool true) rfl e5 ?_;exact zv rfl ⟨Below.refl _ _, Left.of rfl⟩
     · intro vs X wq K;obtain ⟨_, e6, k6⟩ := K.dep 6 rfl rfl rfl;refine zk 23 (.bool true) rfl e6 ?_;exact zc rfl ⟨Below.refl _ _, Left.of rfl⟩
     · intro vs X wq K;obtain ⟨_, e7, k7⟩ := K.dep 7 rfl rfl rfl;refine zk 24 (undef) rfl e7 ?_;obtain ⟨_, e6, k6⟩ := K.dep 6 rfl rfl rfl;refine zk 23 (.bool true) rfl e6 ?_;exact zc rfl ⟨Below.refl _ _, Left.of rfl⟩
     · intro vs X wq K;obtain ⟨_, e6, k6⟩ := K.dep 6 rfl rfl rfl;refine zk 23 (.bool true) rfl e6 ?_;exact zc rfl ⟨Below.refl _ _, Left.of rfl⟩
     · intro vs X wq K;obtain ⟨_, e8, k8⟩ := K.dep 8 rfl rfl rfl;refine zk 25 (undef) rfl e8 ?_;obtain ⟨_, e9, k9⟩ := K.dep 9 rfl rfl rfl;refine zk 26 (undef) rfl e9 ?_;obtain ⟨_, e6, k6⟩ := K.dep 6 rfl rfl rfl;refine zk 23 (.bool true) rfl e6 ?_;exact zc rfl ⟨Below.refl _ _, Left.of rfl⟩
     · intro vs X wq K;obtain ⟨_, e10, k10⟩ := K.dep 10 rfl rfl rfl;refine zk 27 (undef) rfl e10 ?_;obtain ⟨_, e6, k6⟩ := K.dep 6 rfl rfl rfl;refine zk 23 (.bool true) rfl e6 ?_;exact zc rfl ⟨Below.refl _ _, Left.of rfl⟩
     · intro vs X wq K;obtain ⟨_, e6, k6⟩ := K.dep 6 rfl rfl rfl;refine zk 23 (.bool true) rfl e6 ?_;exact zc rfl ⟨Below.refl _ _, Left.of rfl⟩
     · intro vs X wq K;obtain ⟨_, e12, k12⟩ := K.dep 12 rfl rfl rfl;refine zk 29 (undef) rfl e12 ?_;obtain ⟨_, e6, k6⟩ := K.dep 6 rfl rfl rfl;refine zk 23 (.bool true) rfl e6 ?_;exact zc rfl ⟨Below.refl _ _, Left.of rfl⟩
     · intro vs X wq K;obtain ⟨_, e11, k11⟩ := K.dep 11 rfl rfl rfl;refine zk 28 (undef) rfl e11 ?_;obtain ⟨_, e13, k13⟩ := K.dep 13 rfl rfl rfl;refine zk 30 (undef) rfl e13 ?_;obtain ⟨_, e6, k6⟩ := K.dep 6 rfl rfl rfl;refine zk 23 (.bool true) rfl e6 ?_;exact zc rfl ⟨Below.refl _ _, Left.of rfl⟩
     · intro vs X wq K;obtain ⟨_, e6, k6⟩ := K.dep 6 rfl rfl rfl;refine zk 23 (.bool true) rfl e6 ?_;obtain ⟨_, e14, k14⟩ := K.dep 14 rfl rfl rfl;refine zk 31 (undef) rfl e14 ?_;exact zq rfl rfl ⟨Below.refl _ _, Left.of rfl⟩
   intro vs w11 LE AO AL AF AA;replace E := E.drew.trans (LE.mono OY);obtain ⟨_, e15, k15⟩ := AL.2.2.2.2.2.2.2.2.2.2.2.2.2.2.2.1;refine jj (τ := [(4, _), (5, _), (6, _), (7, _), (9, _), (32, .bool true)]) ⟨rfl, rfl, rfl, rfl, rfl, congrArg some e15, trivial⟩ ?_;clear AL AF AA LE AO OY e15 k15
   refine ze (yg rfl (srx (anx rfl (zo (zj (zd (zd (zj (zd (zm (rs := [.tmp 8]) (vs := [_]) rfl ⟨rfl, trivial⟩ ?_))))))))));exact ⟨by unfold lOK; rw [vf hy (by unfold inI; rw [decide_eq_false (by omega)]; rfl)]; rfl, (LW.step E XLW).toBelow⟩
  ·
   by_cases h1 : f.regs ≤ y
   ·
    refine zn (ze (zi (yc (zi ?_))));have OY : ∀ q9, (Mut (xe [])) q9 → q9 < (World.drew w10).heap.size → (No) q9 := fun k h _ => (Mut.none_) k h;refine vo (No) Mut.none_ [] [] (oi [Fx.of (.pointer (some ⟨gb7, 6, none⟩)),
     Fx.of (.slice B i.l.length c),
     Fx.of (.int .i64 ((k : Nat) : Int)),
     Fx.of (.pointer (some ⟨g, o + k, none⟩)),
     Fx.of (.int .i64 y),
     Fx.of (.bool false),
     Fx.of (.bool false),
     Fx.of (.pointer (some ⟨gb7, 6, none⟩)),
     Fx.of (.slice B i.l.length c),
     Fx.of (.int .i64 ((k : Nat) : Int)),
     Fx.of (.pointer (some ⟨g, o + k, none⟩)),
     Fx.of (.int .i64 y),
     Fx.of (.pointer (some ⟨gb3, 2, none⟩)),
     Fx.of (.int .i64 f.regs),
     Fx.of (.bool true),
     Fx.of (.bool true)]) mixed rfl trivial (fun _ h => by cases h) ?_ ?_
    · refine ⟨?_, ?_, ?_, ?_, ?_, ?_, ?_, ?_, ?_, ?_, ?_, ?_, ?_, ?_, ?_, ?_, trivial⟩
      · intro vs X wq K;exact zb Tryz.underlying46 rfl zsx (by decide) rfl ⟨Below.refl _ _, Left.of rfl⟩
      · intro vs X wq K;have LE := K.1;obtain ⟨_, e0, k0⟩ := K.dep 0 rfl rfl rfl;refine zk 17 (.pointer (some ⟨gb7, 6, none⟩)) rfl e0 ?_;exact zh Tryz.underlying44 rfl rfl (HF.on (E.drew.trans (LE.mono OY))).here.2 rfl ⟨Below.refl _ _, Left.of rfl⟩
      · intro vs X wq K;exact zv rfl ⟨Below.refl _ _, Left.of rfl⟩
      · intro vs X wq K;obtain ⟨_, e1, k1⟩ := K.dep 1 rfl rfl rfl;refine zk 18 (.slice B i.l.length c) rfl e1 ?_;obtain ⟨_, e2, k2⟩ := K.dep 2 rfl rfl rfl;refine zk 19 (.int .i64 ((k : Nat) : Int)) rfl e2 ?_;exact vu (j := k) Tryz.underlying44 sz3 (congrArg (fun z ↦ some (Value.slice z i.l.length c)) hB) rfl rfl hlt ⟨Below.refl _ _, Left.of rfl⟩
      · intro vs X wq K;have LE := K.1;obtain ⟨_, e3, k3⟩ := K.dep 3 rfl rfl rfl;refine zk 20 (.pointer (some ⟨g, o + k, none⟩)) rfl e3 ?_;exact yx Tryz.underlying3 rfl rfl (((HF.on (E.drew.trans (LE.mono OY))).here.1.1.1.1.1.2).cellA hy hB) ⟨Below.refl _ _, Left.of rfl⟩
      · intro vs X wq K;obtain ⟨_, e4, k4⟩ := K.dep 4 rfl rfl rfl;refine zk 21 (.int .i64 y) rfl e4 ?_;exact yv rfl rfl ⟨Below.refl _ _, Left.of ((by rw [decide_eq_false h0] : (.bool (decide (y < 0)) : Value) = _))⟩
      · intro vs X wq K;obtain ⟨_, e5, k5⟩ := K.dep 5 rfl rfl rfl;refine zk 22 (.bool false) rfl e5 ?_;exact zv rfl ⟨Below.refl _ _, Left.of rfl⟩
      · intro vs X wq K;obtain ⟨_, e6, k6⟩ := K.dep 6 rfl rfl rfl;refine zk 23 (.bool false) rfl e6 ?_;exact vm rfl (zb Tryz.underlying46 rfl zsx (by decide) rfl ⟨Below.refl _ _, Left.of rfl⟩)
      · intro vs X wq K;have LE := K.1;obtain ⟨_, e7, k7⟩ := K.dep 7 rfl rfl rfl;refine zk 24 (.pointer (some ⟨gb7, 6, none⟩)) rfl e7 ?_;obtain ⟨_, e6, k6⟩ := K.dep 6 rfl rfl rfl;refine zk 23 (.bool false) rfl e6 ?_;exact vm rfl (zh Tryz.underlying44 rfl rfl (HF.on (E.drew.trans (LE.mono OY))).here.2 rfl ⟨Below.refl _ _, Left.of rfl⟩)
      · intro vs X wq K;obtain ⟨_, e6, k6⟩ := K.dep 6 rfl rfl rfl;refine zk 23 (.bool false) rfl e6 ?_;exact vm rfl (zv rfl ⟨Below.refl _ _, Left.of rfl⟩)
      · intro vs X wq K;obtain ⟨_, e8, k8⟩ := K.dep 8 rfl rfl rfl;refine zk 25 (.slice B i.l.length c) rfl e8 ?_;obtain ⟨_, e9, k9⟩ := K.dep 9 rfl rfl rfl;refine zk 26 (.int .i64 ((k : Nat) : Int)) rfl e9 ?_;obtain ⟨_, e6, k6⟩ := K.dep 6 rfl rfl rfl;refine zk 23 (.bool false) rfl e6 ?_
        exact vm rfl (vu (j := k) Tryz.underlying44 sz3 (congrArg (fun z ↦ some (Value.slice z i.l.length c)) hB) rfl rfl hlt ⟨Below.refl _ _, Left.of rfl⟩)
      · intro vs X wq K;have LE := K.1;obtain ⟨_, e10, k10⟩ := K.dep 10 rfl rfl rfl;refine zk 27 (.pointer (some ⟨g, o + k, none⟩)) rfl e10 ?_;obtain ⟨_, e6, k6⟩ := K.dep 6 rfl rfl rfl;refine zk 23 (.bool false) rfl e6 ?_;exact vm rfl (yx Tryz.underlying3 rfl rfl (((HF.on (E.drew.trans (LE.mono OY))).here.1.1.1.1.1.2).cellA hy hB) ⟨Below.refl _ _, Left.of rfl⟩)
      · intro vs X wq K;obtain ⟨_, e6, k6⟩ := K.dep 6 rfl rfl rfl;refine zk 23 (.bool false) rfl e6 ?_;exact vm rfl (zb Tryz.underlying37 rfl sz3 (by decide) rfl ⟨Below.refl _ _, Left.of rfl⟩)
      · intro vs X wq K;have LE := K.1;obtain ⟨_, e12, k12⟩ := K.dep 12 rfl rfl rfl;refine zk 29 (.pointer (some ⟨gb3, 2, none⟩)) rfl e12 ?_;obtain ⟨_, e6, k6⟩ := K.dep 6 rfl rfl rfl;refine zk 23 (.bool false) rfl e6 ?_;exact vm rfl (zh Tryz.underlying3 rfl rfl (HF.on (E.drew.trans (LE.mono OY))).here.1.1.2 rfl ⟨Below.refl _ _, Left.of rfl⟩)
      · intro vs X wq K;obtain ⟨_, e11, k11⟩ := K.dep 11 rfl rfl rfl;refine zk 28 (.int .i64 y) rfl e11 ?_;obtain ⟨_, e13, k13⟩ := K.dep 13 rfl rfl rfl;refine zk 30 (.int .i64 f.regs) rfl e13 ?_;obtain ⟨_, e6, k6⟩ := K.dep 6 rfl rfl rfl;refine zk 23 (.bool false) rfl e6 ?_
        exact vm rfl (qz rfl rfl ⟨Below.refl _ _, Left.of ((by rw [decide_eq_true (by omega)] : (.bool (decide (f.regs ≤ y)) : Value) = _))⟩)
      · intro vs X wq K;obtain ⟨_, e6, k6⟩ := K.dep 6 rfl rfl rfl;refine zk 23 (.bool false) rfl e6 ?_;obtain ⟨_, e14, k14⟩ := K.dep 14 rfl rfl rfl;refine zk 31 (.bool true) rfl e14 ?_;exact zx rfl rfl ⟨Below.refl _ _, Left.of rfl⟩
    intro vs w12 LE AO AL AF AA;replace E := E.drew.trans (LE.mono OY);obtain ⟨_, e15, k15⟩ := AL.2.2.2.2.2.2.2.2.2.2.2.2.2.2.2.1;refine jj (τ := [(4, _), (5, _), (6, _), (7, _), (9, _), (32, .bool true)]) ⟨rfl, rfl, rfl, rfl, rfl, congrArg some e15, trivial⟩ ?_;clear AL AF AA LE AO OY e15 k15
    refine ze (yg rfl (srx (anx rfl (zo (zj (zd (zd (zj (zd (zm (rs := [.tmp 8]) (vs := [_]) rfl ⟨rfl, trivial⟩ ?_))))))))));exact ⟨by unfold lOK; rw [vf hy (by unfold inI; rw [decide_eq_false (show ¬ y < f.regs by omega), Bool.and_false])]; rfl, (LW.step E XLW).toBelow⟩
   ·
    refine zn (ze (zi (yc (zi ?_))));have OY : ∀ q9, (Mut (xe [])) q9 → q9 < (World.drew w10).heap.size → (No) q9 := fun k h _ => (Mut.none_) k h;refine vo (No) Mut.none_ [] [] (oi [Fx.of (.pointer (some ⟨gb7, 6, none⟩)),
     Fx.of (.slice B i.l.length c),
     Fx.of (.int .i64 ((k : Nat) : Int)),
     Fx.of (.pointer (some ⟨g, o + k, none⟩)),
     Fx.of (.int .i64 y),
     Fx.of (.bool false),
     Fx.of (.bool false),
     Fx.of (.pointer (some ⟨gb7, 6, none⟩)),
     Fx.of (.slice B i.l.length c),
     Fx.of (.int .i64 ((k : Nat) : Int)),
     Fx.of (.pointer (some ⟨g, o + k, none⟩)),
     Fx.of (.int .i64 y),
     Fx.of (.pointer (some ⟨gb3, 2, none⟩)),
     Fx.of (.int .i64 f.regs),
     Fx.of (.bool false),
     Fx.of (.bool false)]) mixed rfl trivial (fun _ h => by cases h) ?_ ?_
    · refine ⟨?_, ?_, ?_, ?_, ?_, ?_, ?_, ?_, ?_, ?_, ?_, ?_, ?_, ?_, ?_, ?_, trivial⟩
      · intro vs X wq K;exact zb Tryz.underlying46 rfl zsx (by decide) rfl ⟨Below.refl _ _, Left.of rfl⟩
      · intro vs X wq K;have LE := K.1;obtain ⟨_, e0, k0⟩ := K.dep 0 rfl rfl rfl;refine zk 17 (.pointer (some ⟨gb7, 6, none⟩)) rfl e0 ?_;exact zh Tryz.underlying44 rfl rfl (HF.on (E.drew.trans (LE.mono OY))).here.2 rfl ⟨Below.refl _ _, Left.of rfl⟩
      · intro vs X wq K;exact zv rfl ⟨Below.refl _ _, Left.of rfl⟩
      · intro vs X wq K;obtain ⟨_, e1, k1⟩ := K.dep 1 rfl rfl rfl;refine zk 18 (.slice B i.l.length c) rfl e1 ?_;obtain ⟨_, e2, k2⟩ := K.dep 2 rfl rfl rfl;refine zk 19 (.int .i64 ((k : Nat) : Int)) rfl e2 ?_;exact vu (j := k) Tryz.underlying44 sz3 (congrArg (fun z ↦ some (Value.slice z i.l.length c)) hB) rfl rfl hlt ⟨Below.refl _ _, Left.of rfl⟩
      · intro vs X wq K;have LE := K.1;obtain ⟨_, e3, k3⟩ := K.dep 3 rfl rfl rfl;refine zk 20 (.pointer (some ⟨g, o + k, none⟩)) rfl e3 ?_;exact yx Tryz.underlying3 rfl rfl (((HF.on (E.drew.trans (LE.mono OY))).here.1.1.1.1.1.2).cellA hy hB) ⟨Below.refl _ _, Left.of rfl⟩
      · intro vs X wq K;obtain ⟨_, e4, k4⟩ := K.dep 4 rfl rfl rfl;refine zk 21 (.int .i64 y) rfl e4 ?_;exact yv rfl rfl ⟨Below.refl _ _, Left.of ((by rw [decide_eq_false h0] : (.bool (decide (y < 0)) : Value) = _))⟩
      · intro vs X wq K;obtain ⟨_, e5, k5⟩ := K.dep 5 rfl rfl rfl;refine zk 22 (.bool false) rfl e5 ?_;exact zv rfl ⟨Below.refl _ _, Left.of rfl⟩
      · intro vs X wq K;obtain ⟨_, e6, k6⟩ := K.dep 6 rfl rfl rfl;refine zk 23 (.bool false) rfl e6 ?_;exact vm rfl (zb Tryz.underlying46 rfl zsx (by decide) rfl ⟨Below.refl _ _, Left.of rfl⟩)
      · intro vs X wq K;have LE := K.1;obtain ⟨_, e7, k7⟩ := K.dep 7 rfl rfl rfl;refine zk 24 (.pointer (some ⟨gb7, 6, none⟩)) rfl e7 ?_;obtain ⟨_, e6, k6⟩ := K.dep 6 rfl rfl rfl;refine zk 23 (.bool false) rfl e6 ?_;exact vm rfl (zh Tryz.underlying44 rfl rfl (HF.on (E.drew.trans (LE.mono OY))).here.2 rfl ⟨Below.refl _ _, Left.of rfl⟩)
      · intro vs X wq K;obtain ⟨_, e6, k6⟩ := K.dep 6 rfl rfl rfl;refine zk 23 (.bool false) rfl e6 ?_;exact vm rfl (zv rfl ⟨Below.refl _ _, Left.of rfl⟩)
      · intro vs X wq K;obtain ⟨_, e8, k8⟩ := K.dep 8 rfl rfl rfl;refine zk 25 (.slice B i.l.length c) rfl e8 ?_;obtain ⟨_, e9, k9⟩ := K.dep 9 rfl rfl rfl;refine zk 26 (.int .i64 ((k : Nat) : Int)) rfl e9 ?_;obtain ⟨_, e6, k6⟩ := K.dep 6 rfl rfl rfl;refine zk 23 (.bool false) rfl e6 ?_
        exact vm rfl (vu (j := k) Tryz.underlying44 sz3 (congrArg (fun z ↦ some (Value.slice z i.l.length c)) hB) rfl rfl hlt ⟨Below.refl _ _, Left.of rfl⟩)
      · intro vs X wq K;have LE := K.1;obtain ⟨_, e10, k10⟩ := K.dep 10 rfl rfl rfl;refine zk 27 (.pointer (some ⟨g, o + k, none⟩)) rfl e10 ?_;obtain ⟨_, e6, k6⟩ := K.dep 6 rfl rfl rfl;refine zk 23 (.bool false) rfl e6 ?_;exact vm rfl (yx Tryz.underlying3 rfl rfl (((HF.on (E.drew.trans (LE.mono OY))).here.1.1.1.1.1.2).cellA hy hB) ⟨Below.refl _ _, Left.of rfl⟩)
      · intro vs X wq K;obtain ⟨_, e6, k6⟩ := K.dep 6 rfl rfl rfl;refine zk 23 (.bool false) rfl e6 ?_;exact vm rfl (zb Tryz.underlying37 rfl sz3 (by decide) rfl ⟨Below.refl _ _, Left.of rfl⟩)
      · intro vs X wq K;have LE := K.1;obtain ⟨_, e12, k12⟩ := K.dep 12 rfl rfl rfl;refine zk 29 (.pointer (some ⟨gb3, 2, none⟩)) rfl e12 ?_;obtain ⟨_, e6, k6⟩ := K.dep 6 rfl rfl rfl;refine zk 23 (.bool false) rfl e6 ?_;exact vm rfl (zh Tryz.underlying3 rfl rfl (HF.on (E.drew.trans (LE.mono OY))).here.1.1.2 rfl ⟨Below.refl _ _, Left.of rfl⟩)
      · intro vs X wq K;obtain ⟨_, e11, k11⟩ := K.dep 11 rfl rfl rfl;refine zk 28 (.int .i64 y) rfl e11 ?_;obtain ⟨_, e13, k13⟩ := K.dep 13 rfl rfl rfl;refine zk 30 (.int .i64 f.regs) rfl e13 ?_;obtain ⟨_, e6, k6⟩ := K.dep 6 rfl rfl rfl;refine zk 23 (.bool false) rfl e6 ?_
        exact vm rfl (qz rfl rfl ⟨Below.refl _ _, Left.of ((by rw [decide_eq_false (by omega)] : (.bool (decide (f.regs ≤ y)) : Value) = _))⟩)
      · intro vs X wq K;obtain ⟨_, e6, k6⟩ := K.dep 6 rfl rfl rfl;refine zk 23 (.bool false) rfl e6 ?_;obtain ⟨_, e14, k14⟩ := K.dep 14 rfl rfl rfl;refine zk 31 (.bool false) rfl e14 ?_;exact zx rfl rfl ⟨Below.refl _ _, Left.of rfl⟩
    intro vs w13 LE AO AL AF AA;replace E := E.drew.trans (LE.mono OY);obtain ⟨_, e15, k15⟩ := AL.2.2.2.2.2.2.2.2.2.2.2.2.2.2.2.1;refine jj (τ := [(4, _), (5, _), (6, _), (7, _), (9, _), (32, .bool false)]) ⟨rfl, rfl, rfl, rfl, rfl, congrArg some e15, trivial⟩ ?_;clear AL AF AA LE AO OY e15 k15
    refine ze (ye rfl (zn (zf (ze (zg (mvx rfl (za rfl (yp rfl rfl (zw (by omega)) (avx rfl (yd ?_))))))))))
    exact yr (k + 1) (by show i.l.length - (k + 1) < i.l.length - k; omega) ⟨rfl, rfl, rfl, rfl, rfl, trivial⟩ ⟨M9.step E XM9, ⟨hlt, gh hy hall (by unfold inI; rw [decide_eq_true (by omega), decide_eq_true (by omega)]; rfl)⟩⟩
 ·
  have q := of_decide_eq_false q;have hall2 := kh hall (by omega);refine yw (zl (zl (zy (ze (zi (srx (za rfl (zb Tryz.underlying55 rfl sz3 (by decide) rfl (za rfl (zh Tryz.underlying3 rfl rfl (HF.on E).here.1.2 rfl (rnx (yc (srx (za rfl (zz rfl rfl (anx rfl ?_))))))))))))))));by_cases q1 : rL i.op = -1
  ·
   refine zp 35 (.bool true) rfl ((by rw [q1]; rfl : (.bool ((rL i.op) == (-1)) : Value) = _)) (yg rfl (srx (za rfl (zb Tryz.underlying46 rfl zsx (by decide) rfl (za rfl (zh Tryz.underlying44 rfl rfl (HF.on E).here.2 rfl (za rfl (qr Tryz.underlying44 rfl (za rfl (zz rfl rfl (anx rfl (zo (zj (zd (zm (rs := [.tmp 8]) (vs := [_]) rfl ⟨rfl, trivial⟩ ?_)))))))))))))))
   exact ⟨by unfold lOK; rw [hall2, q1]; refine congrArg (fun z => Ending.returned (.bool z)) ?_; first | rfl | (rw [Bool.eq_iff_iff]; simp; done), (LW.step E XLW).toBelow⟩
  ·
   refine zp 35 (.bool false) rfl ((by congr 1; rw [beq_eq_false_iff_ne]; exact q1 : (.bool ((rL i.op) == (-1)) : Value) = _)) (ye rfl (srx (za rfl (zz rfl rfl (anx rfl ?_)))));by_cases q2 : rL i.op = -2
   ·
    refine zp 41 (.bool true) rfl ((by rw [q2]; rfl : (.bool ((rL i.op) == (-2)) : Value) = _)) (yg rfl (srx (anx rfl (zo (zj (zd (zm (rs := [.tmp 8]) (vs := [_]) rfl ⟨rfl, trivial⟩ ?_)))))));exact ⟨by unfold lOK; rw [hall2, if_pos q2]; rfl, (LW.step E XLW).toBelow⟩
   ·
    refine zp 41 (.bool false) rfl ((by congr 1; rw [beq_eq_false_iff_ne]; exact q2 : (.bool ((rL i.op) == (-2)) : Value) = _)) (ye rfl (srx (za rfl (zz rfl rfl (anx rfl ?_)))));by_cases q3 : rL i.op = -3
    ·
     refine zp 43 (.bool true) rfl ((by rw [q3]; rfl : (.bool ((rL i.op) == (-3)) : Value) = _)) (yg rfl (srx (za rfl (zb Tryz.underlying46 rfl zsx (by decide) rfl (za rfl (zh Tryz.underlying44 rfl rfl (HF.on E).here.2 rfl (za rfl (qr Tryz.underlying44 rfl (za rfl (ow_rem rfl rfl (by decide) (show (((i.l.length : Nat) : Int).tmod 2) = ((i.l.length % 2 : Nat) : Int) from by rw [Int.tmod_eq_emod_of_nonneg (by omega)]; rfl) (za rfl (zz rfl rfl (anx rfl (zo (zj (zd (zm (rs := [.tmp 8]) (vs := [_]) rfl ⟨rfl, trivial⟩ ?_)))))))))))))))))
     exact ⟨by unfold lOK; rw [hall2, if_neg q2, if_pos q3]; refine congrArg (fun z => Ending.returned (.bool z)) ?_; first | rfl | (simp; done) | (simp; omega) | (rw [Bool.true_and, Bool.eq_iff_iff]; simp; omega), (LW.step E XLW).toBelow⟩
    ·
     refine zp 43 (.bool false) rfl ((by congr 1; rw [beq_eq_false_iff_ne]; exact q3 : (.bool ((rL i.op) == (-3)) : Value) = _)) (ye rfl (srx (za rfl (zz rfl rfl (anx rfl ?_)))));by_cases q4 : rL i.op = -4
     ·
      refine zp 50 (.bool true) rfl ((by rw [q4]; rfl : (.bool ((rL i.op) == (-4)) : Value) = _)) ?_;obtain ⟨hk1, hk2⟩ := hk (rL_36 q4);obtain ⟨kn, hkn⟩ : ∃ kn : Nat, i.k = ((kn : Nat) : Int) := ⟨i.k.toNat, by omega⟩;have hknl : kn < fs.length := by omega
      obtain ⟨f2, hf2⟩ : ∃ f2, fs[kn]? = some f2 := ⟨_, List.getElem?_eq_getElem hknl⟩;obtain ⟨g, o, p2, hA, hg, _, hc⟩ := ((HF.on E).here.1.1.1.1.2).at hf2;refine yg rfl (zi ?_);have OY : ∀ q9, (Mut (xe [])) q9 → q9 < (World.drew w10).heap.size → (No) q9 := fun k h _ => (Mut.none_) k h;refine vo (No) Mut.none_ [] [] (oi [Fx.of (.pointer (some ⟨gb7, 5, none⟩)),
       Fx.of (.int .i64 i.k),
       Fx.of (.bool true),
       Fx.of (.bool true),
       Fx.of (.pointer (some ⟨gb7, 5, none⟩)),
       Fx.of (.int .i64 i.k),
       Fx.of (.pointer (some ⟨gb1, 0, none⟩)),
       Fx.of (.slice A fs.length cp),
       Fx.of (.int .i64 (((fs.length : Nat)) : Int)),
       Fx.of (.bool true),
       Fx.of (.bool true),
       Fx.of (.bool true),
       Fx.of (.pointer (some ⟨gb7, 6, none⟩)),
       Fx.of (.slice B i.l.length c),
       Fx.of (.int .i64 (((i.l.length : Nat)) : Int)),
       Fx.of (.pointer (some ⟨gb1, 0, none⟩)),
       Fx.of (.slice A fs.length cp),
       Fx.of (.pointer (some ⟨gb7, 5, none⟩)),
       Fx.of (.int .i64 i.k),
       Fx.of (.pointer (some ⟨g, o + kn * 10, none⟩)),
       Fx.of (.pointer (some ⟨g, o + kn * 10 + 3, none⟩)),
       Fx.of (.int .i64 f2.frees),
       Fx.of (.bool ((((i.l.length : Nat)) : Int) == f2.frees)),
       Fx.of (.bool ((((i.l.length : Nat)) : Int) == f2.frees)),
       Fx.of (.bool ((((i.l.length : Nat)) : Int) == f2.frees))]) mixed rfl trivial (fun _ h => by cases h) ?_ ?_
      · refine ⟨?_, ?_, ?_, ?_, ?_, ?_, ?_, ?_, ?_, ?_, ?_, ?_, ?_, ?_, ?_, ?_, ?_, ?_, ?_, ?_, ?_, ?_, ?_, ?_, ?_, trivial⟩
        · intro vs X wq K;exact zb Tryz.underlying46 rfl sz3 (by decide) rfl ⟨Below.refl _ _, Left.of rfl⟩
        · intro vs X wq K;have LE := K.1;obtain ⟨_, e0, k0⟩ := K.dep 0 rfl rfl rfl;refine zk 52 (.pointer (some ⟨gb7, 5, none⟩)) rfl e0 ?_;exact zh Tryz.underlying3 rfl rfl (HF.on (E.drew.trans (LE.mono OY))).here.2 rfl ⟨Below.refl _ _, Left.of rfl⟩
        · intro vs X wq K;obtain ⟨_, e1, k1⟩ := K.dep 1 rfl rfl rfl;refine zk 53 (.int .i64 i.k) rfl e1 ?_;exact qe rfl rfl ⟨Below.refl _ _, Left.of ((by rw [decide_eq_true hk1] : (.bool (decide (0 < i.k)) : Value) = _))⟩
        · intro vs X wq K;obtain ⟨_, e2, k2⟩ := K.dep 2 rfl rfl rfl;refine zk 54 (.bool true) rfl e2 ?_;exact zv rfl ⟨Below.refl _ _, Left.of rfl⟩
        · intro vs X wq K;obtain ⟨_, e3, k3⟩ := K.dep 3 rfl rfl rfl;refine zk 55 (.bool true) rfl e3 ?_;exact vm rfl (zb Tryz.underlying46 rfl sz3 (by decide) rfl ⟨Below.refl _ _, Left.of rfl⟩)
        · intro vs X wq K;have LE := K.1;obtain ⟨_, e4, k4⟩ := K.dep 4 rfl rfl rfl;refine zk 56 (.pointer (some ⟨gb7, 5, none⟩)) rfl e4 ?_;obtain ⟨_, e3, k3⟩ := K.dep 3 rfl rfl rfl;refine zk 55 (.bool true) rfl e3 ?_;exact vm rfl (zh Tryz.underlying3 rfl rfl (HF.on (E.drew.trans (LE.mono OY))).here.2 rfl ⟨Below.refl _ _, Left.of rfl⟩)
        · intro vs X wq K;obtain ⟨_, e3, k3⟩ := K.dep 3 rfl rfl rfl;refine zk 55 (.bool true) rfl e3 ?_;exact vm rfl (zb Tryz.underlying24 rfl sz22 (by decide) rfl ⟨Below.refl _ _, Left.of rfl⟩)
        · intro vs X wq K;have LE := K.1;obtain ⟨_, e6, k6⟩ := K.dep 6 rfl rfl rfl;refine zk 58 (.pointer (some ⟨gb1, 0, none⟩)) rfl e6 ?_;obtain ⟨_, e3, k3⟩ := K.dep 3 rfl rfl rfl;refine zk 55 (.bool true) rfl e3 ?_;exact vm rfl (zh Tryz.underlying22 rfl rfl (HF.on (E.drew.trans (LE.mono OY))).here.1.1.1.2 rfl ⟨Below.refl _ _, Left.of rfl⟩)
        · intro vs X wq K;obtain ⟨_, e7, k7⟩ := K.dep 7 rfl rfl rfl;refine zk 59 (.slice A fs.length cp) rfl e7 ?_;obtain ⟨_, e3, k3⟩ := K.dep 3 rfl rfl rfl;refine zk 55 (.bool true) rfl e3 ?_;exact vm rfl (qr Tryz.underlying22 rfl ⟨Below.refl _ _, Left.of rfl⟩)
        · intro vs X wq K;obtain ⟨_, e5, k5⟩ := K.dep 5 rfl rfl rfl;refine zk 57 (.int .i64 i.k) rfl e5 ?_;obtain ⟨_, e8, k8⟩ := K.dep 8 rfl rfl rfl;refine zk 60 (.int .i64 (((fs.length : Nat)) : Int)) rfl e8 ?_;obtain ⟨_, e3, k3⟩ := K.dep 3 rfl rfl rfl;refine zk 55 (.bool true) rfl e3 ?_
          exact vm rfl (yv rfl rfl ⟨Below.refl _ _, Left.of ((by rw [decide_eq_true hk2] : (.bool (decide (i.k < (((fs.length : Nat)) : Int))) : Value) = _))⟩)
        · intro vs X wq K;obtain ⟨_, e3, k3⟩ := K.dep 3 rfl rfl rfl;refine zk 55 (.bool true) rfl e3 ?_;obtain ⟨_, e9, k9⟩ := K.dep 9 rfl rfl rfl;refine zk 61 (.bool true) rfl e9 ?_;exact zq rfl rfl ⟨Below.refl _ _, Left.of rfl⟩
        · intro vs X wq K;obtain ⟨_, e10, k10⟩ := K.dep 10 rfl rfl rfl;refine zk 62 (.bool true) rfl e10 ?_;exact zv rfl ⟨Below.refl _ _, Left.of rfl⟩
        · intro vs X wq K;obtain ⟨_, e11, k11⟩ := K.dep 11 rfl rfl rfl;refine zk 63 (.bool true) rfl e11 ?_;exact vm rfl (zb Tryz.underlying46 rfl zsx (by decide) rfl ⟨Below.refl _ _, Left.of rfl⟩)
        · intro vs X wq K;have LE := K.1;obtain ⟨_, e12, k12⟩ := K.dep 12 rfl rfl rfl;refine zk 64 (.pointer (some ⟨gb7, 6, none⟩)) rfl e12 ?_;obtain ⟨_, e11, k11⟩ := K.dep 11 rfl rfl rfl;refine zk 63 (.bool true) rfl e11 ?_;exact vm rfl (zh Tryz.underlying44 rfl rfl (HF.on (E.drew.trans (LE.mono OY))).here.2 rfl ⟨Below.refl _ _, Left.of rfl⟩)
        · intro vs X wq K;obtain ⟨_, e13, k13⟩ := K.dep 13 rfl rfl rfl;refine zk 65 (.slice B i.l.length c) rfl e13 ?_;obtain ⟨_, e11, k11⟩ := K.dep 11 rfl rfl rfl;refine zk 63 (.bool true) rfl e11 ?_;exact vm rfl (qr Tryz.underlying44 rfl ⟨Below.refl _ _, Left.of rfl⟩)
        · intro vs X wq K;obtain ⟨_, e11, k11⟩ := K.dep 11 rfl rfl rfl;refine zk 63 (.bool true) rfl e11 ?_;exact vm rfl (zb Tryz.underlying24 rfl sz22 (by decide) rfl ⟨Below.refl _ _, Left.of rfl⟩)
        · intro vs X wq K;have LE := K.1;obtain ⟨_, e15, k15⟩ := K.dep 15 rfl rfl rfl;refine zk 67 (.pointer (some ⟨gb1, 0, none⟩)) rfl e15 ?_;obtain ⟨_, e11, k11⟩ := K.dep 11 rfl rfl rfl;refine zk 63 (.bool true) rfl e11 ?_;exact vm rfl (zh Tryz.underlying22 rfl rfl (HF.on (E.drew.trans (LE.mono OY))).here.1.1.1.2 rfl ⟨Below.refl _ _, Left.of rfl⟩)
        · intro vs X wq K;obtain ⟨_, e11, k11⟩ := K.dep 11 rfl rfl rfl;refine zk 63 (.bool true) rfl e11 ?_;exact vm rfl (zb Tryz.underlying46 rfl sz3 (by decide) rfl ⟨Below.refl _ _, Left.of rfl⟩)
        · intro vs X wq K;have LE := K.1;obtain ⟨_, e17, k17⟩ := K.dep 17 rfl rfl rfl;refine zk 69 (.pointer (some ⟨gb7, 5, none⟩)) rfl e17 ?_;obtain ⟨_, e11, k11⟩ := K.dep 11 rfl rfl rfl;refine zk 63 (.bool true) rfl e11 ?_;exact vm rfl (zh Tryz.underlying3 rfl rfl (HF.on (E.drew.trans (LE.mono OY))).here.2 rfl ⟨Below.refl _ _, Left.of rfl⟩)
        · intro vs X wq K;obtain ⟨_, e16, k16⟩ := K.dep 16 rfl rfl rfl;refine zk 68 (.slice A fs.length cp) rfl e16 ?_;obtain ⟨_, e18, k18⟩ := K.dep 18 rfl rfl rfl;refine zk 70 (.int .i64 i.k) rfl e18 ?_;obtain ⟨_, e11, k11⟩ := K.dep 11 rfl rfl rfl;refine zk 63 (.bool true) rfl e11 ?_
          exact vm rfl (qq (j := kn) Tryz.underlying22 zkv (congrArg (fun z ↦ some (Value.slice z fs.length cp)) hA) rfl hkn hknl ⟨Below.refl _ _, Left.of rfl⟩)
        · intro vs X wq K;obtain ⟨_, e19, k19⟩ := K.dep 19 rfl rfl rfl;refine zk 71 (.pointer (some ⟨g, o + kn * 10, none⟩)) rfl e19 ?_;obtain ⟨_, e11, k11⟩ := K.dep 11 rfl rfl rfl;refine zk 63 (.bool true) rfl e11 ?_;exact vm rfl (zb Tryz.underlying37 rfl sz3 (by decide) rfl ⟨Below.refl _ _, Left.of rfl⟩)
        · intro vs X wq K;have LE := K.1;obtain ⟨_, e20, k20⟩ := K.dep 20 rfl rfl rfl;refine zk 72 (.pointer (some ⟨g, o + kn * 10 + 3, none⟩)) rfl e20 ?_;obtain ⟨_, e11, k11⟩ := K.dep 11 rfl rfl rfl;refine zk 63 (.bool true) rfl e11 ?_
          exact vm rfl (yx Tryz.underlying3 rfl rfl (((HF.on (E.drew.trans (LE.mono OY))).here.1.1.1.1.2).cellA hf2 hA) ⟨Below.refl _ _, Left.of rfl⟩)
        · intro vs X wq K;obtain ⟨_, e14, k14⟩ := K.dep 14 rfl rfl rfl;refine zk 66 (.int .i64 (((i.l.length : Nat)) : Int)) rfl e14 ?_;obtain ⟨_, e21, k21⟩ := K.dep 21 rfl rfl rfl;refine zk 73 (.int .i64 f2.frees) rfl e21 ?_;obtain ⟨_, e11, k11⟩ := K.dep 11 rfl rfl rfl;refine zk 63 (.bool true) rfl e11 ?_;exact vm rfl (zz rfl rfl ⟨Below.refl _ _, Left.of rfl⟩)
        · intro vs X wq K;obtain ⟨_, e11, k11⟩ := K.dep 11 rfl rfl rfl;refine zk 63 (.bool true) rfl e11 ?_;obtain ⟨_, e22, k22⟩ := K.dep 22 rfl rfl rfl;refine zk 74 (.bool ((((i.l.length : Nat)) : Int) == f2.frees)) rfl e22 ?_;exact zq rfl rfl ⟨Below.refl _ _, Left.of rfl⟩
        · intro vs X wq K;obtain ⟨_, e23, k23⟩ := K.dep 23 rfl rfl rfl;refine zk 75 (.bool ((((i.l.length : Nat)) : Int) == f2.frees)) rfl e23 ?_;exact jr rfl ⟨Below.refl _ _, Left.of rfl⟩
      intro vs w14 LE AO AL AF AA;replace E := E.drew.trans (LE.mono OY);obtain ⟨_, e24, k24⟩ := AL.2.2.2.2.2.2.2.2.2.2.2.2.2.2.2.2.2.2.2.2.2.2.2.2.1;refine jj (τ := [(6, _), (7, _), (8, .bool ((((i.l.length : Nat)) : Int) == f2.frees))]) ⟨rfl, rfl, congrArg some e24, trivial⟩ ?_;clear AL AF AA LE AO OY e24 k24
      refine ze (zo (zj (zd (zm (rs := [.tmp 8]) (vs := [_]) rfl ⟨rfl, trivial⟩ ?_))));exact ⟨by unfold lOK; rw [hall2, if_neg q2, if_neg q3, if_pos q4, hkn, fsAt_of hf2]; rfl, (LW.step E XLW).toBelow⟩
     ·
      refine zp 50 (.bool false) rfl ((by congr 1; rw [beq_eq_false_iff_ne]; exact q4 : (.bool ((rL i.op) == (-4)) : Value) = _)) (ye rfl (zn (zf (ze (srx (za rfl (zb Tryz.underlying46 rfl zsx (by decide) rfl (za rfl (zh Tryz.underlying44 rfl rfl (HF.on E).here.2 rfl (za rfl (qr Tryz.underlying44 rfl (za rfl (zb Tryz.underlying55 rfl sz3 (by decide) rfl (za rfl (zh Tryz.underlying3 rfl rfl (HF.on E).here.1.2 rfl (za rfl (zz rfl rfl (anx rfl (zo (zm (rs := [.tmp 8]) (vs := [_]) rfl ⟨rfl, trivial⟩ ?_))))))))))))))))))))
      exact ⟨by unfold lOK; rw [hall2, if_neg q2, if_neg q3, if_neg q4, if_neg q1]; rfl, (LW.step E XLW).toBelow⟩
end
section
variable (w : World) (A : Option Addr) (n cp : Nat) (fs : List LFn) (hfs : FsA n w A fs) (p : Pl) (f : LFn) (hf : FnA n w p f) (at_ : Nat) (i : LIns) (hi : f.ins[at_]? = some i)
include hfs hf hi
set_option maxHeartbeats 1000000 in
theorem insR_any : Calls Tryz.prog 8 #[.agg #[.slice A fs.length cp], fnV p f, .int .i64 ((at_ : Nat) : Int)] w fun e w' => e = .returned (.bool (jq fs f at_ i)) ∧ Below w.heap.size w w' := by
 have hil := (List.getElem?_eq_some_iff.1 hi).1;have hilen := hf.ins.len;refine yn Tryz.func8 rfl Tryz.ntmps8 rfl ?_;have HF : Per (No) w (fun _ => True) := Per.true_;have LW := erx (No) w;have XLW := grx (No) w;have E := erx (No) w;replace HF := HF.on E;replace LW := LW.step E XLW;replace E := erx (No) w;replace HF := HF.and (Per.fnA hf (fun _ h => h.elim));replace HF := HF.on E
 replace LW := LW.step E XLW;replace E := erx (No) w;replace HF := HF.and (Per.fsA hfs (fun _ h => h.elim));refine srx (za rfl (vq rfl ?_));intro gb1 w2 Bb1 Eb1 Gb1;have Gb1 : _ ≤ gb1 := Nat.le_trans E.size Gb1;have GLb1 := Nat.le_trans LW.size Gb1;replace E := E.trans Eb1.no;replace HF := HF.cons (yb Gb1);replace E := E.cons (some gb1)
 replace XLW := Mut.grow XLW (fun k e => Or.inr (Nat.le_trans LW.size ((yb Gb1) k e)));replace HF := HF.on E;replace LW := LW.step E XLW;have SB : ∀ q9, No q9 → Mut [(some gb1)] q9 := (Mut.skip Mut.nil_);replace HF := HF.less SB;replace XLW := fun k h => XLW k (SB k h);clear SB;replace E := erx (No) w2;replace HF := HF.and (Per.blkN Bb1 NotIn.nil);refine za rfl (vq rfl ?_)
 intro gb3 w4 Bb3 Eb3 Gb3;have Gb3 : _ ≤ gb3 := Nat.le_trans E.size Gb3;have GLb3 := Nat.le_trans LW.size Gb3;replace E := E.trans Eb3.no;replace HF := HF.cons (yb Gb3);replace E := E.cons (some gb3);replace XLW := Mut.grow XLW (fun k e => Or.inr (Nat.le_trans LW.size ((yb Gb3) k e)));replace HF := HF.on E;replace LW := LW.step E XLW
 have SB : ∀ q9, No q9 → Mut [(some gb3)] q9 := (Mut.skip Mut.nil_);replace HF := HF.less SB;replace XLW := fun k h => XLW k (SB k h);clear SB;replace E := erx (No) w4;replace HF := HF.and (Per.blkN Bb3 NotIn.nil);refine anx rfl (srx (za rfl (zb Tryz.underlying37 rfl sz34 (by decide) rfl (za rfl (zh Tryz.underlying34 rfl rfl (HF.on E).here.2 rfl (mvx rfl ?_))))))
 obtain ⟨g, o, B, c, hA, hg, hl8, hlB, hcI⟩ := ((HF.on E).here.1.1.1.2).ins.at hi;replace HF := HF.on E;replace LW := LW.step E XLW;replace E := erx (No) w4;replace HF := HF.and (Per.ints hlB (fun _ h => h.elim))
 refine za rfl (qq (j := at_) Tryz.underlying34 sz46 (congrArg (fun z ↦ some (Value.slice z f.ins.length p.ci)) hA) rfl rfl hil (za rfl (xk (cs := #[.int .i64 i.op, .int .i64 i.d, .int .i64 i.a, .int .i64 i.b, .int .i64 i.t, .int .i64 i.k, .slice B i.l.length c]) Tryz.underlying46 rfl sz46 rfl rfl (fun j v hj ↦ hcI j v (by simpa [insV] using hj)) (za rfl (qo zr46 ?_)))))
 intro gb5 w6 Bb5 Eb5 Gb5;have Gb5 : _ ≤ gb5 := Nat.le_trans E.size Gb5;have GLb5 := Nat.le_trans LW.size Gb5;replace E := E.trans Eb5.no;replace HF := HF.cons (yb Gb5);replace E := E.cons (some gb5);replace XLW := Mut.grow XLW (fun k e => Or.inr (Nat.le_trans LW.size ((yb Gb5) k e)));refine ya (gz sz46 rfl rfl Bb5 rfl rfl rfl ?_);intro w7 Bx Eb5
 replace Bb5 : Blk w7 gb5 46 #[.int .i64 i.op, .int .i64 i.d, .int .i64 i.a, .int .i64 i.b, .int .i64 i.t, .int .i64 i.k, .slice B i.l.length c] := Bx;replace E := E.step1 Eb5 Mut.head;replace HF := HF.on E;replace LW := LW.step E XLW;have SB : ∀ q9, No q9 → Mut [(some gb5)] q9 := (Mut.skip Mut.nil_);replace HF := HF.less SB;replace XLW := fun k h => XLW k (SB k h);clear SB
 replace E := erx (No) w7;replace HF := HF.and (Per.blkN Bb5 NotIn.nil);refine rnx (srx (za rfl (zb Tryz.underlying46 rfl sz3 (by decide) rfl (za rfl (zh Tryz.underlying3 rfl rfl (HF.on E).here.2 rfl (za rfl (yh en16 rfl ((flags_any _ i.op).mono ?_))))))));rintro e w8 ⟨rfl, hb⟩;refine ⟨_, rfl, ?_⟩;replace E := blx E hb
 refine anx rfl (zi (yc (zi (srx (mvx rfl (za rfl (zz rfl rfl (anx rfl ?_))))))));by_cases h0 : flN i.op = 0
 ·
  refine zp 17 (.bool true) rfl ((by rw [h0]; rfl : (.bool (((flN i.op : Nat) : Int) == 0) : Value) = _)) (yg rfl (zn (ze (yg rfl (srx (anx rfl (zo (zj (zd (zm (rs := [.tmp 6]) (vs := [_]) rfl ⟨rfl, trivial⟩ ?_))))))))));exact ⟨by unfold jq; rw [h0]; rfl, (LW.step E XLW).toBelow⟩
 ·
  refine zp 17 (.bool false) rfl ((by congr 1; rw [beq_eq_false_iff_ne]; omega : (.bool (((flN i.op : Nat) : Int) == 0) : Value) = _)) ?_;have e0 : (flN i.op != 0) = true := by rw [bne_iff_ne]; exact h0
  refine ye rfl (srx (mvx rfl (za rfl (vg rfl rfl (vn i.op 2 (by decide)) (za rfl (qw rfl rfl (za rfl (zb Tryz.underlying46 rfl sz3 (by decide) rfl (za rfl (zh Tryz.underlying3 rfl rfl (HF.on E).here.2 rfl (za rfl (zb Tryz.underlying37 rfl sz3 (by decide) rfl (za rfl (zh Tryz.underlying3 rfl rfl (HF.on E).here.1.1.2 rfl (yi 22 (.bool (uD i.op)) rfl ((by rw [show (2 : Nat) = 2 ^ 1 from rfl, jo, bitD] : (.bool (((flN i.op &&& 2 : Nat) : Int) != 0) : Value) = _)) (za rfl (yh en9 rfl ((zez _ (uD i.op) i.d f.regs).mono ?_))))))))))))))))))
  rintro e w9 ⟨rfl, hb⟩;refine ⟨_, rfl, ?_⟩;replace E := blx E hb;refine za rfl (vd rfl (anx rfl ?_));by_cases h1 : yq (uD i.op) i.d f.regs = false
  ·
   refine zp 17 (.bool true) rfl ((by rw [h1]; rfl : (.bool (!(yq (uD i.op) i.d f.regs)) : Value) = _)) (yg rfl (zn (ze (yg rfl (srx (anx rfl (zo (zj (zd (zm (rs := [.tmp 6]) (vs := [_]) rfl ⟨rfl, trivial⟩ ?_))))))))));exact ⟨by unfold jq; rw [e0, h1]; rfl, (LW.step E XLW).toBelow⟩
  ·
   have h1 := (Bool.not_eq_false _).mp h1
   refine zp 17 (.bool false) rfl ((by rw [h1]; rfl : (.bool (!(yq (uD i.op) i.d f.regs)) : Value) = _)) (ye rfl (srx (mvx rfl (za rfl (vg rfl rfl (vn i.op 4 (by decide)) (za rfl (qw rfl rfl (za rfl (zb Tryz.underlying46 rfl sz3 (by decide) rfl (za rfl (zh Tryz.underlying3 rfl rfl (HF.on E).here.2 rfl (za rfl (zb Tryz.underlying37 rfl sz3 (by decide) rfl (za rfl (zh Tryz.underlying3 rfl rfl (HF.on E).here.1.1.2 rfl (yi 31 (.bool (uA i.op)) rfl ((by rw [show (4 : Nat) = 2 ^ 2 from rfl, jo, bitA] : (.bool (((flN i.op &&& 4 : Nat) : Int) != 0) : Value) = _)) (za rfl (yh en9 rfl ((zez _ (uA i.op) i.a f.regs).mono ?_)))))))))))))))))))
   rintro e w10 ⟨rfl, hb⟩;refine ⟨_, rfl, ?_⟩;replace E := blx E hb;refine za rfl (vd rfl (anx rfl ?_));by_cases h2 : yq (uA i.op) i.a f.regs = false
   ·
    refine zp 17 (.bool true) rfl ((by rw [h2]; rfl : (.bool (!(yq (uA i.op) i.a f.regs)) : Value) = _)) (yg rfl (zn (ze (yg rfl (srx (anx rfl (zo (zj (zd (zm (rs := [.tmp 6]) (vs := [_]) rfl ⟨rfl, trivial⟩ ?_))))))))));exact ⟨by unfold jq; rw [e0, h1, h2]; rfl, (LW.step E XLW).toBelow⟩
   ·
    have h2 := (Bool.not_eq_false _).mp h2
    refine zp 17 (.bool false) rfl ((by rw [h2]; rfl : (.bool (!(yq (uA i.op) i.a f.regs)) : Value) = _)) (ye rfl (srx (mvx rfl (za rfl (vg rfl rfl (vn i.op 8 (by decide)) (za rfl (qw rfl rfl (za rfl (zb Tryz.underlying46 rfl sz3 (by decide) rfl (za rfl (zh Tryz.underlying3 rfl rfl (HF.on E).here.2 rfl (za rfl (zb Tryz.underlying37 rfl sz3 (by decide) rfl (za rfl (zh Tryz.underlying3 rfl rfl (HF.on E).here.1.1.2 rfl (yi 40 (.bool (uB i.op)) rfl ((by rw [show (8 : Nat) = 2 ^ 3 from rfl, jo, bitB] : (.bool (((flN i.op &&& 8 : Nat) : Int) != 0) : Value) = _)) (za rfl (yh en9 rfl ((zez _ (uB i.op) i.b f.regs).mono ?_)))))))))))))))))))
    rintro e w11 ⟨rfl, hb⟩;refine ⟨_, rfl, ?_⟩;replace E := blx E hb;refine za rfl (vd rfl (anx rfl ?_));by_cases h3 : yq (uB i.op) i.b f.regs = false
    ·
     refine zp 17 (.bool true) rfl ((by rw [h3]; rfl : (.bool (!(yq (uB i.op) i.b f.regs)) : Value) = _)) (yg rfl (zn (ze (yg rfl (srx (anx rfl (zo (zj (zd (zm (rs := [.tmp 6]) (vs := [_]) rfl ⟨rfl, trivial⟩ ?_))))))))));exact ⟨by unfold jq; rw [e0, h1, h2, h3]; rfl, (LW.step E XLW).toBelow⟩
    ·
     have h3 := (Bool.not_eq_false _).mp h3
     refine zp 17 (.bool false) rfl ((by rw [h3]; rfl : (.bool (!(yq (uB i.op) i.b f.regs)) : Value) = _)) (ye rfl (zg (mvx rfl (za rfl (vg rfl rfl (vn i.op 16 (by decide)) (za rfl (qw rfl rfl (za rfl (zb Tryz.underlying46 rfl sz3 (by decide) rfl (za rfl (zh Tryz.underlying3 rfl rfl (HF.on E).here.2 rfl (za rfl (zb Tryz.underlying37 rfl sz34 (by decide) rfl (za rfl (zh Tryz.underlying34 rfl rfl (HF.on E).here.1.1.2 rfl (za rfl (qr Tryz.underlying34 rfl (yi 49 (.bool (uT i.op)) rfl ((by rw [show (16 : Nat) = 2 ^ 4 from rfl, jo, bitL] : (.bool (((flN i.op &&& 16 : Nat) : Int) != 0) : Value) = _)) (za rfl (yh en9 rfl ((zez _ (uT i.op) i.t (f.ins.length : Int)).mono ?_)))))))))))))))))))))
     rintro e w12 ⟨rfl, hb⟩;refine ⟨_, rfl, ?_⟩;replace E := blx E hb;refine za rfl (vd rfl (anx rfl ?_));by_cases h4 : yq (uT i.op) i.t (f.ins.length : Int) = false
     ·
      refine zp 17 (.bool true) rfl ((by rw [h4]; rfl : (.bool (!(yq (uT i.op) i.t (f.ins.length : Int))) : Value) = _)) (yg rfl (srx (anx rfl (zo (zj (zd (zm (rs := [.tmp 6]) (vs := [_]) rfl ⟨rfl, trivial⟩ ?_)))))));exact ⟨by unfold jq; rw [e0, h1, h2, h3, h4]; rfl, (LW.step E XLW).toBelow⟩
     ·
      have h4 := (Bool.not_eq_false _).mp h4
      refine zp 17 (.bool false) rfl ((by rw [h4]; rfl : (.bool (!(yq (uT i.op) i.t (f.ins.length : Int))) : Value) = _)) (ye rfl (zi (srx (za rfl (yf Tryz.underlying24 rfl sz24 rfl (HF.on E).here.1.1.1.2 rfl (za rfl (yf Tryz.underlying37 rfl zkv rfl (HF.on E).here.1.1.2 rfl (za rfl (yf Tryz.underlying46 rfl sz46 rfl (HF.on E).here.2 rfl (mvx rfl (za rfl (yh en17 rfl ((rightK_any _ A fs.length cp p f i B c).mono ?_)))))))))))))
      rintro e w13 ⟨rfl, hb⟩;refine ⟨_, rfl, ?_⟩;replace E := blx E hb;refine za rfl (vd rfl (anx rfl ?_));by_cases h5 : kOK fs.length f i = false
      ·
       refine zp 57 (.bool true) rfl ((by rw [h5]; rfl : (.bool (!(kOK fs.length f i)) : Value) = _)) (yg rfl (zn (ze (yg rfl (srx (anx rfl (zo (zj (zd (zm (rs := [.tmp 6]) (vs := [_]) rfl ⟨rfl, trivial⟩ ?_))))))))));exact ⟨by unfold jq; rw [e0, h1, h2, h3, h4, h5]; rfl, (LW.step E XLW).toBelow⟩
      ·
       have h5 := (Bool.not_eq_false _).mp h5
       refine zp 57 (.bool false) rfl ((by rw [h5]; rfl : (.bool (!(kOK fs.length f i)) : Value) = _)) (ye rfl (srx (za rfl (yf Tryz.underlying24 rfl sz24 rfl (HF.on E).here.1.1.1.2 rfl (za rfl (yf Tryz.underlying37 rfl zkv rfl (HF.on E).here.1.1.2 rfl (za rfl (yf Tryz.underlying46 rfl sz46 rfl (HF.on E).here.2 rfl (mvx rfl (za rfl (yh en18 rfl ((rightL_any _ A n cp fs (HF.on E).here.1.1.1.1.2 p f i B c (HF.on E).here.1.2 (fun h => by have := kOK_36 h5 h; omega)).mono ?_))))))))))))
       rintro e w14 ⟨rfl, hb⟩;refine ⟨_, rfl, ?_⟩;replace E := blx E hb;refine za rfl (vd rfl (anx rfl ?_));by_cases h6 : lOK fs f i = false
       ·
        refine zp 57 (.bool true) rfl ((by rw [h6]; rfl : (.bool (!(lOK fs f i)) : Value) = _)) (yg rfl (zn (ze (yg rfl (srx (anx rfl (zo (zj (zd (zm (rs := [.tmp 6]) (vs := [_]) rfl ⟨rfl, trivial⟩ ?_))))))))));exact ⟨by unfold jq; rw [e0, h1, h2, h3, h4, h5, h6]; rfl, (LW.step E XLW).toBelow⟩
       ·
        have h6 := (Bool.not_eq_false _).mp h6;refine zp 57 (.bool false) rfl ((by rw [h6]; rfl : (.bool (!(lOK fs f i)) : Value) = _)) ?_;have e9 : decide (at_ + 1 < f.ins.length) = decide (((at_ : Nat) : Int) + 1 < ((f.ins.length : Nat) : Int)) := by rw [decide_eq_decide]; omega
        refine ye rfl (zg (za rfl (zb Tryz.underlying46 rfl sz3 (by decide) rfl (za rfl (zh Tryz.underlying3 rfl rfl (HF.on E).here.2 rfl (za rfl (zz rfl rfl (mvx rfl (yk 73 rfl (fun t1 => ?_) (fun t1 => ?_))))))))))
        ·
         replace t1 := eq_of_beq t1;refine onx rfl (zb Tryz.underlying37 rfl sz4 (by decide) rfl (onx rfl (zh Tryz.underlying4 rfl rfl (HF.on E).here.1.1.2 rfl (onx rfl (vd rfl (za rfl (zq rfl rfl (anx rfl (zt rfl (fun t2 => ?_) (fun t2 => ?_))))))))))
         ·
          refine zp 57 (.bool true) rfl (congrArg Value.bool t2) (srx (anx rfl (zo (zj (zd (zm (rs := [.tmp 6]) (vs := [_]) rfl ⟨rfl, trivial⟩ ?_))))))
          exact ⟨by unfold jq; rw [e0, h1, h2, h3, h4, h5, h6, e9]; refine congrArg (fun z => Ending.returned (.bool z)) ?_; clear h1 h2 h3 h4 h5 h6 e0 h0 hcI hlB hfs hf hA e9; first | rfl | (simp_all; done) | (simp_all; omega) | (simp_all; rw [decide_eq_false (by omega)]; rfl) | (simp_all; rfl), (LW.step E XLW).toBelow⟩
         ·
          refine zp 57 (.bool false) rfl (congrArg Value.bool t2) (zn (zf (ze (srx (mvx rfl (za rfl (yp rfl rfl (zw (by omega)) (za rfl (zb Tryz.underlying37 rfl sz34 (by decide) rfl (za rfl (zh Tryz.underlying34 rfl rfl (HF.on E).here.1.1.2 rfl (za rfl (qr Tryz.underlying34 rfl (za rfl (yv rfl rfl (mvx rfl (yk 84 rfl (fun t3 => ?_) (fun t3 => ?_))))))))))))))))))
          ·
           replace t3 := of_decide_eq_true t3
           refine za rfl (zc rfl (za rfl (zc rfl (za rfl (zc rfl (za rfl (zq rfl rfl (mvx rfl (za rfl (zc rfl (za rfl (zc rfl (za rfl (zc rfl (za rfl (zq rfl rfl (mvx rfl (za rfl (zc rfl (za rfl (zc rfl (za rfl (zc rfl (za rfl (zq rfl rfl (anx rfl (zo (zm (rs := [.tmp 6]) (vs := [_]) rfl ⟨rfl, trivial⟩ ?_))))))))))))))))))))))))))))
           exact ⟨by unfold jq; rw [e0, h1, h2, h3, h4, h5, h6, e9]; refine congrArg (fun z => Ending.returned (.bool z)) ?_; clear h1 h2 h3 h4 h5 h6 e0 h0 hcI hlB hfs hf hA e9; first | rfl | (simp_all; done) | (simp_all; omega) | (simp_all; rw [decide_eq_false (by omega)]; rfl) | (simp_all; rfl), (LW.step E XLW).toBelow⟩
          ·
           replace t3 := of_decide_eq_false t3;refine onx rfl (zb Tryz.underlying46 rfl sz3 (by decide) rfl (onx rfl (zh Tryz.underlying3 rfl rfl (HF.on E).here.2 rfl (onx rfl (zz rfl rfl (za rfl (zx rfl rfl (mvx rfl (yk 89 rfl (fun t4 => ?_) (fun t4 => ?_))))))))))
           ·
            replace t4 := eq_of_beq t4;refine za rfl (zc rfl (za rfl (zc rfl (za rfl (zc rfl (za rfl (zq rfl rfl (mvx rfl (za rfl (zc rfl (za rfl (zc rfl (za rfl (zc rfl (za rfl (zq rfl rfl (anx rfl (zo (zm (rs := [.tmp 6]) (vs := [_]) rfl ⟨rfl, trivial⟩ ?_)))))))))))))))))))
            exact ⟨by unfold jq; rw [e0, h1, h2, h3, h4, h5, h6, e9]; refine congrArg (fun z => Ending.returned (.bool z)) ?_; clear h1 h2 h3 h4 h5 h6 e0 h0 hcI hlB hfs hf hA e9; first | rfl | (simp_all; done) | (simp_all; omega) | (simp_all; rw [decide_eq_false (by omega)]; rfl) | (simp_all; rfl), (LW.step E XLW).toBelow⟩
           ·
            replace t4 := beq_eq_false_iff_ne.1 t4;refine onx rfl (zb Tryz.underlying46 rfl sz3 (by decide) rfl (onx rfl (zh Tryz.underlying3 rfl rfl (HF.on E).here.2 rfl (onx rfl (zz rfl rfl (za rfl (zx rfl rfl (mvx rfl (yk 94 rfl (fun t5 => ?_) (fun t5 => ?_))))))))))
            ·
             replace t5 := eq_of_beq t5;refine za rfl (zc rfl (za rfl (zc rfl (za rfl (zc rfl (za rfl (zq rfl rfl (anx rfl (zo (zm (rs := [.tmp 6]) (vs := [_]) rfl ⟨rfl, trivial⟩ ?_))))))))))
             exact ⟨by unfold jq; rw [e0, h1, h2, h3, h4, h5, h6, e9]; refine congrArg (fun z => Ending.returned (.bool z)) ?_; clear h1 h2 h3 h4 h5 h6 e0 h0 hcI hlB hfs hf hA e9; first | rfl | (simp_all; done) | (simp_all; omega) | (simp_all; rw [decide_eq_false (by omega)]; rfl) | (simp_all; rfl), (LW.step E XLW).toBelow⟩
            ·
             replace t5 := beq_eq_false_iff_ne.1 t5;refine onx rfl (zb Tryz.underlying46 rfl sz3 (by decide) rfl (onx rfl (zh Tryz.underlying3 rfl rfl (HF.on E).here.2 rfl (onx rfl (zz rfl rfl (za rfl (zx rfl rfl (anx rfl (zo (zm (rs := [.tmp 6]) (vs := [_]) rfl ⟨rfl, trivial⟩ ?_))))))))))
             exact ⟨by unfold jq; rw [e0, h1, h2, h3, h4, h5, h6, e9]; refine congrArg (fun z => Ending.returned (.bool z)) ?_; clear h1 h2 h3 h4 h5 h6 e0 h0 hcI hlB hfs hf hA e9; first | rfl | (simp_all; done) | (simp_all; omega) | (simp_all; rw [decide_eq_false (by omega)]; rfl) | (simp_all; rfl), (LW.step E XLW).toBelow⟩
        ·
         replace t1 := beq_eq_false_iff_ne.1 t1
         refine za rfl (zc rfl (za rfl (zc rfl (za rfl (zc rfl (za rfl (zx rfl rfl (anx rfl (ye rfl (zn (zf (ze (srx (mvx rfl (za rfl (yp rfl rfl (zw (by omega)) (za rfl (zb Tryz.underlying37 rfl sz34 (by decide) rfl (za rfl (zh Tryz.underlying34 rfl rfl (HF.on E).here.1.1.2 rfl (za rfl (qr Tryz.underlying34 rfl (za rfl (yv rfl rfl (mvx rfl (yk 84 rfl (fun t6 => ?_) (fun t6 => ?_)))))))))))))))))))))))))))
         ·
          replace t6 := of_decide_eq_true t6
          refine za rfl (zc rfl (za rfl (zc rfl (za rfl (zc rfl (za rfl (zq rfl rfl (mvx rfl (za rfl (zc rfl (za rfl (zc rfl (za rfl (zc rfl (za rfl (zq rfl rfl (mvx rfl (za rfl (zc rfl (za rfl (zc rfl (za rfl (zc rfl (za rfl (zq rfl rfl (anx rfl (zo (zm (rs := [.tmp 6]) (vs := [_]) rfl ⟨rfl, trivial⟩ ?_))))))))))))))))))))))))))))
          exact ⟨by unfold jq; rw [e0, h1, h2, h3, h4, h5, h6, e9]; refine congrArg (fun z => Ending.returned (.bool z)) ?_; clear h1 h2 h3 h4 h5 h6 e0 h0 hcI hlB hfs hf hA e9; first | rfl | (simp_all; done) | (simp_all; omega) | (simp_all; rw [decide_eq_false (by omega)]; rfl) | (simp_all; rfl), (LW.step E XLW).toBelow⟩
         ·
          replace t6 := of_decide_eq_false t6;refine onx rfl (zb Tryz.underlying46 rfl sz3 (by decide) rfl (onx rfl (zh Tryz.underlying3 rfl rfl (HF.on E).here.2 rfl (onx rfl (zz rfl rfl (za rfl (zx rfl rfl (mvx rfl (yk 89 rfl (fun t7 => ?_) (fun t7 => ?_))))))))))
          ·
           replace t7 := eq_of_beq t7;refine za rfl (zc rfl (za rfl (zc rfl (za rfl (zc rfl (za rfl (zq rfl rfl (mvx rfl (za rfl (zc rfl (za rfl (zc rfl (za rfl (zc rfl (za rfl (zq rfl rfl (anx rfl (zo (zm (rs := [.tmp 6]) (vs := [_]) rfl ⟨rfl, trivial⟩ ?_)))))))))))))))))))
           exact ⟨by unfold jq; rw [e0, h1, h2, h3, h4, h5, h6, e9]; refine congrArg (fun z => Ending.returned (.bool z)) ?_; clear h1 h2 h3 h4 h5 h6 e0 h0 hcI hlB hfs hf hA e9; first | rfl | (simp_all; done) | (simp_all; omega) | (simp_all; rw [decide_eq_false (by omega)]; rfl) | (simp_all; rfl), (LW.step E XLW).toBelow⟩
          ·
           replace t7 := beq_eq_false_iff_ne.1 t7;refine onx rfl (zb Tryz.underlying46 rfl sz3 (by decide) rfl (onx rfl (zh Tryz.underlying3 rfl rfl (HF.on E).here.2 rfl (onx rfl (zz rfl rfl (za rfl (zx rfl rfl (mvx rfl (yk 94 rfl (fun t8 => ?_) (fun t8 => ?_))))))))))
           ·
            replace t8 := eq_of_beq t8;refine za rfl (zc rfl (za rfl (zc rfl (za rfl (zc rfl (za rfl (zq rfl rfl (anx rfl (zo (zm (rs := [.tmp 6]) (vs := [_]) rfl ⟨rfl, trivial⟩ ?_))))))))))
            exact ⟨by unfold jq; rw [e0, h1, h2, h3, h4, h5, h6, e9]; refine congrArg (fun z => Ending.returned (.bool z)) ?_; clear h1 h2 h3 h4 h5 h6 e0 h0 hcI hlB hfs hf hA e9; first | rfl | (simp_all; done) | (simp_all; omega) | (simp_all; rw [decide_eq_false (by omega)]; rfl) | (simp_all; rfl), (LW.step E XLW).toBelow⟩
           ·
            replace t8 := beq_eq_false_iff_ne.1 t8;refine onx rfl (zb Tryz.underlying46 rfl sz3 (by decide) rfl (onx rfl (zh Tryz.underlying3 rfl rfl (HF.on E).here.2 rfl (onx rfl (zz rfl rfl (za rfl (zx rfl rfl (anx rfl (zo (zm (rs := [.tmp 6]) (vs := [_]) rfl ⟨rfl, trivial⟩ ?_))))))))))
            exact ⟨by unfold jq; rw [e0, h1, h2, h3, h4, h5, h6, e9]; refine congrArg (fun z => Ending.returned (.bool z)) ?_; clear h1 h2 h3 h4 h5 h6 e0 h0 hcI hlB hfs hf hA e9; first | rfl | (simp_all; done) | (simp_all; omega) | (simp_all; rw [decide_eq_false (by omega)]; rfl) | (simp_all; rfl), (LW.step E XLW).toBelow⟩
end
end Go.Proofs.YtmjemknimipnjaaGreatDoor
namespace Go.Proofs.YtmjemknimipnjaaGreatDoor
open Go.RowKit
set_option maxRecDepth 100000
attribute [local irreducible] OW RS flN uD uA uB uT uL rL rK rLo rHi
theorem rowOf_x (w : World) (op : Int) : Calls Tryz.prog 20 #[.int .i64 op] w fun e w' => e = .returned (.agg #[.bool (flN op != 0), .bool (uD op), .bool (uA op), .bool (uB op), .bool (uT op), .int .i64 (rL op), .int .i64 (rK op), .int .i64 (rLo op), .int .i64 (rHi op)]) ∧ Below w.heap.size w w' := rowOf_any w op
section
variable (w : World) (A : Option Addr) (n cp : Nat) (fs : List LFn) (hfs : FsA n w A fs) (p : Pl) (f : LFn) (hf : FnA n w p f) (at_ : Nat) (i : LIns) (hi : f.ins[at_]? = some i)
include hfs hf hi
set_option maxHeartbeats 1000000 in
theorem rinsR_any : Calls Tryz.prog 11 #[.agg #[.slice A fs.length cp], fnV p f, .int .i64 ((at_ : Nat) : Int)] w fun e w' => e = .returned (.bool (jq fs f at_ i)) ∧ Below w.heap.size w w' := by
 have hil := (List.getElem?_eq_some_iff.1 hi).1;have hilen := hf.ins.len;refine yn Tryz.func11 rfl Tryz.ntmps11 rfl ?_;have HF : Per (No) w (fun _ => True) := Per.true_;have LW := erx (No) w;have XLW := grx (No) w;have E := erx (No) w;replace HF := HF.on E;replace LW := LW.step E XLW;replace E := erx (No) w;replace HF := HF.and (Per.fnA hf (fun _ h => h.elim));replace HF := HF.on E
 replace LW := LW.step E XLW;replace E := erx (No) w;replace HF := HF.and (Per.fsA hfs (fun _ h => h.elim));refine srx (za rfl (vq rfl ?_));intro gb1 w2 Bb1 Eb1 Gb1;have Gb1 : _ ≤ gb1 := Nat.le_trans E.size Gb1;have GLb1 := Nat.le_trans LW.size Gb1;replace E := E.trans Eb1.no;replace HF := HF.cons (yb Gb1);replace E := E.cons (some gb1)
 replace XLW := Mut.grow XLW (fun k e => Or.inr (Nat.le_trans LW.size ((yb Gb1) k e)));replace HF := HF.on E;replace LW := LW.step E XLW;have SB : ∀ q9, No q9 → Mut [(some gb1)] q9 := (Mut.skip Mut.nil_);replace HF := HF.less SB;replace XLW := fun k h => XLW k (SB k h);clear SB;replace E := erx (No) w2;replace HF := HF.and (Per.blkN Bb1 NotIn.nil);refine za rfl (vq rfl ?_)
 intro gb3 w4 Bb3 Eb3 Gb3;have Gb3 : _ ≤ gb3 := Nat.le_trans E.size Gb3;have GLb3 := Nat.le_trans LW.size Gb3;replace E := E.trans Eb3.no;replace HF := HF.cons (yb Gb3);replace E := E.cons (some gb3);replace XLW := Mut.grow XLW (fun k e => Or.inr (Nat.le_trans LW.size ((yb Gb3) k e)));replace HF := HF.on E;replace LW := LW.step E XLW
 have SB : ∀ q9, No q9 → Mut [(some gb3)] q9 := (Mut.skip Mut.nil_);replace HF := HF.less SB;replace XLW := fun k h => XLW k (SB k h);clear SB;replace E := erx (No) w4;replace HF := HF.and (Per.blkN Bb3 NotIn.nil);refine anx rfl (srx (za rfl (zb Tryz.underlying37 rfl sz34 (by decide) rfl (za rfl (zh Tryz.underlying34 rfl rfl (HF.on E).here.2 rfl (mvx rfl ?_))))))
 obtain ⟨g, o, B, c, hA, hg, hl8, hlB, hcI⟩ := ((HF.on E).here.1.1.1.2).ins.at hi;replace HF := HF.on E;replace LW := LW.step E XLW;replace E := erx (No) w4;replace HF := HF.and (Per.ints hlB (fun _ h => h.elim))
 refine za rfl (qq (j := at_) Tryz.underlying34 sz46 (congrArg (fun z ↦ some (Value.slice z f.ins.length p.ci)) hA) rfl rfl hil (za rfl (xk (cs := #[.int .i64 i.op, .int .i64 i.d, .int .i64 i.a, .int .i64 i.b, .int .i64 i.t, .int .i64 i.k, .slice B i.l.length c]) Tryz.underlying46 rfl sz46 rfl rfl (fun j v hj ↦ hcI j v (by simpa [insV] using hj)) (za rfl (qo zr46 ?_)))))
 intro gb5 w6 Bb5 Eb5 Gb5;have Gb5 : _ ≤ gb5 := Nat.le_trans E.size Gb5;have GLb5 := Nat.le_trans LW.size Gb5;replace E := E.trans Eb5.no;replace HF := HF.cons (yb Gb5);replace E := E.cons (some gb5);replace XLW := Mut.grow XLW (fun k e => Or.inr (Nat.le_trans LW.size ((yb Gb5) k e)));refine ya (gz sz46 rfl rfl Bb5 rfl rfl rfl ?_);intro w7 Bx Eb5
 replace Bb5 : Blk w7 gb5 46 #[.int .i64 i.op, .int .i64 i.d, .int .i64 i.a, .int .i64 i.b, .int .i64 i.t, .int .i64 i.k, .slice B i.l.length c] := Bx;replace E := E.step1 Eb5 Mut.head;replace HF := HF.on E;replace LW := LW.step E XLW;have SB : ∀ q9, No q9 → Mut [(some gb5)] q9 := (Mut.skip Mut.nil_);replace HF := HF.less SB;replace XLW := fun k h => XLW k (SB k h);clear SB
 replace E := erx (No) w7;replace HF := HF.and (Per.blkN Bb5 NotIn.nil);refine rnx (srx (za rfl (zb Tryz.underlying46 rfl sz3 (by decide) rfl (za rfl (zh Tryz.underlying3 rfl rfl (HF.on E).here.2 rfl (za rfl (yh en20 rfl ((rowOf_x _ i.op).mono ?_))))))));rintro e w8 ⟨rfl, hb⟩;refine ⟨_, rfl, ?_⟩;replace E := blx E hb;refine za rfl (qo zrv ?_)
 intro gb9 w10 Bb9 Eb9 Gb9;have Gb9 : _ ≤ gb9 := Nat.le_trans E.size Gb9;have GLb9 := Nat.le_trans LW.size Gb9;replace E := E.trans Eb9.no;replace HF := HF.cons (yb Gb9);replace E := E.cons (some gb9);replace XLW := Mut.grow XLW (fun k e => Or.inr (Nat.le_trans LW.size ((yb Gb9) k e)));refine ya (gz yl rfl rfl Bb9 rfl rfl rfl ?_);intro w11 Bx Eb9
 replace Bb9 : Blk w11 gb9 55 #[.bool (flN i.op != 0), .bool (uD i.op), .bool (uA i.op), .bool (uB i.op), .bool (uT i.op), .int .i64 (rL i.op), .int .i64 (rK i.op), .int .i64 (rLo i.op), .int .i64 (rHi i.op)] := Bx;replace E := E.step1 Eb9 Mut.head;replace HF := HF.on E;replace LW := LW.step E XLW;have SB : ∀ q9, No q9 → Mut [(some gb9)] q9 := (Mut.skip Mut.nil_);replace HF := HF.less SB
 replace XLW := fun k h => XLW k (SB k h);clear SB;replace E := erx (No) w11;replace HF := HF.and (Per.blkN Bb9 NotIn.nil);refine rnx (zi (srx (za rfl (zb Tryz.underlying55 rfl sz4 (by decide) rfl (za rfl (zh Tryz.underlying4 rfl rfl (HF.on E).here.2 rfl (za rfl (vd rfl (mvx rfl ?_)))))))));by_cases e0 : (flN i.op != 0) = false
 ·
  refine yi 20 (.bool true) rfl ((by rw [e0]; rfl : (.bool (!(flN i.op != 0)) : Value) = _)) (za rfl (zc rfl (za rfl (zc rfl (za rfl (zc rfl (za rfl (zc rfl (za rfl (zc rfl (za rfl (zc rfl (za rfl (zc rfl (za rfl (zc rfl (za rfl (zq rfl rfl (mvx rfl (za rfl (zc rfl (za rfl (zc rfl (za rfl (zc rfl (za rfl (zc rfl (za rfl (zc rfl (za rfl (zc rfl (za rfl (zc rfl (za rfl (zc rfl (za rfl (zq rfl rfl (mvx rfl (za rfl (zc rfl (za rfl (zc rfl (za rfl (zc rfl (za rfl (zc rfl (za rfl (zc rfl (za rfl (zc rfl (za rfl (zc rfl (za rfl (zc rfl (za rfl (zq rfl rfl (mvx rfl (za rfl (zc rfl (za rfl (zc rfl (za rfl (zc rfl (za rfl (zc rfl (za rfl (zc rfl (za rfl (zc rfl (za rfl (zc rfl (za rfl (zc rfl (za rfl (zc rfl ?_)))))))))))))))))))))))))))))))))))))))))))))))))))))))))))))))))))))))))))
  refine za rfl (zq rfl rfl (rnx (yg rfl (srx (anx rfl (zo (zd (zm (rs := [.tmp 6]) (vs := [_]) rfl ⟨rfl, trivial⟩ ?_))))))));exact ⟨by unfold jq; rw [e0]; rfl, (LW.step E XLW).toBelow⟩
 ·
  have e0 := (Bool.not_eq_false _).mp e0
  refine yi 20 (.bool false) rfl ((by rw [e0]; rfl : (.bool (!(flN i.op != 0)) : Value) = _)) (onx rfl (zb Tryz.underlying55 rfl sz4 (by decide) rfl (onx rfl (zh Tryz.underlying4 rfl rfl (HF.on E).here.2 rfl (onx rfl (zb Tryz.underlying46 rfl sz3 (by decide) rfl (onx rfl (zh Tryz.underlying3 rfl rfl (HF.on E).here.1.2 rfl (onx rfl (zb Tryz.underlying37 rfl sz3 (by decide) rfl (onx rfl (zh Tryz.underlying3 rfl rfl (HF.on E).here.1.1.1.2 rfl (onx rfl (yh en21 rfl ((zix _ (uD i.op) i.d f.regs).mono ?_)))))))))))))))
  rintro e w12 ⟨rfl, hb⟩;refine ⟨_, rfl, ?_⟩;replace E := blx E hb;refine onx rfl (vd rfl (za rfl (zx rfl rfl (mvx rfl ?_))));by_cases h1 : yq (uD i.op) i.d f.regs = false
  ·
   refine yi 30 (.bool true) rfl ((by rw [h1]; rfl : (.bool (!(yq (uD i.op) i.d f.regs)) : Value) = _)) (za rfl (zc rfl (za rfl (zc rfl (za rfl (zc rfl (za rfl (zc rfl (za rfl (zc rfl (za rfl (zc rfl (za rfl (zc rfl (za rfl (zc rfl (za rfl (zq rfl rfl (mvx rfl (za rfl (zc rfl (za rfl (zc rfl (za rfl (zc rfl (za rfl (zc rfl (za rfl (zc rfl (za rfl (zc rfl (za rfl (zc rfl (za rfl (zc rfl (za rfl (zq rfl rfl (mvx rfl (za rfl (zc rfl (za rfl (zc rfl (za rfl (zc rfl (za rfl (zc rfl (za rfl (zc rfl (za rfl (zc rfl (za rfl (zc rfl (za rfl (zc rfl (za rfl (zc rfl (za rfl (zq rfl rfl (rnx (yg rfl (srx (anx rfl (zo ?_)))))))))))))))))))))))))))))))))))))))))))))))))))))))))))))))
   refine zd (zm (rs := [.tmp 6]) (vs := [_]) rfl ⟨rfl, trivial⟩ ?_);exact ⟨by unfold jq; rw [e0, h1]; rfl, (LW.step E XLW).toBelow⟩
  ·
   have h1 := (Bool.not_eq_false _).mp h1
   refine yi 30 (.bool false) rfl ((by rw [h1]; rfl : (.bool (!(yq (uD i.op) i.d f.regs)) : Value) = _)) (onx rfl (zb Tryz.underlying55 rfl sz4 (by decide) rfl (onx rfl (zh Tryz.underlying4 rfl rfl (HF.on E).here.2 rfl (onx rfl (zb Tryz.underlying46 rfl sz3 (by decide) rfl (onx rfl (zh Tryz.underlying3 rfl rfl (HF.on E).here.1.2 rfl (onx rfl (zb Tryz.underlying37 rfl sz3 (by decide) rfl (onx rfl (zh Tryz.underlying3 rfl rfl (HF.on E).here.1.1.1.2 rfl (onx rfl (yh en21 rfl ((zix _ (uA i.op) i.a f.regs).mono ?_)))))))))))))))
   rintro e w13 ⟨rfl, hb⟩;refine ⟨_, rfl, ?_⟩;replace E := blx E hb;refine onx rfl (vd rfl (za rfl (zx rfl rfl (mvx rfl ?_))));by_cases h2 : yq (uA i.op) i.a f.regs = false
   ·
    refine yi 40 (.bool true) rfl ((by rw [h2]; rfl : (.bool (!(yq (uA i.op) i.a f.regs)) : Value) = _)) (za rfl (zc rfl (za rfl (zc rfl (za rfl (zc rfl (za rfl (zc rfl (za rfl (zc rfl (za rfl (zc rfl (za rfl (zc rfl (za rfl (zc rfl (za rfl (zq rfl rfl (mvx rfl (za rfl (zc rfl (za rfl (zc rfl (za rfl (zc rfl (za rfl (zc rfl (za rfl (zc rfl (za rfl (zc rfl (za rfl (zc rfl (za rfl (zc rfl (za rfl (zc rfl (za rfl (zq rfl rfl (rnx (yg rfl (srx (anx rfl (zo (zd (zm (rs := [.tmp 6]) (vs := [_]) rfl ⟨rfl, trivial⟩ ?_))))))))))))))))))))))))))))))))))))))))))))))
    exact ⟨by unfold jq; rw [e0, h1, h2]; rfl, (LW.step E XLW).toBelow⟩
   ·
    have h2 := (Bool.not_eq_false _).mp h2
    refine yi 40 (.bool false) rfl ((by rw [h2]; rfl : (.bool (!(yq (uA i.op) i.a f.regs)) : Value) = _)) (onx rfl (zb Tryz.underlying55 rfl sz4 (by decide) rfl (onx rfl (zh Tryz.underlying4 rfl rfl (HF.on E).here.2 rfl (onx rfl (zb Tryz.underlying46 rfl sz3 (by decide) rfl (onx rfl (zh Tryz.underlying3 rfl rfl (HF.on E).here.1.2 rfl (onx rfl (zb Tryz.underlying37 rfl sz3 (by decide) rfl (onx rfl (zh Tryz.underlying3 rfl rfl (HF.on E).here.1.1.1.2 rfl (onx rfl (yh en21 rfl ((zix _ (uB i.op) i.b f.regs).mono ?_)))))))))))))))
    rintro e w14 ⟨rfl, hb⟩;refine ⟨_, rfl, ?_⟩;replace E := blx E hb;refine onx rfl (vd rfl (za rfl (zx rfl rfl (mvx rfl ?_))));by_cases h3 : yq (uB i.op) i.b f.regs = false
    ·
     refine yi 50 (.bool true) rfl ((by rw [h3]; rfl : (.bool (!(yq (uB i.op) i.b f.regs)) : Value) = _)) (za rfl (zc rfl (za rfl (zc rfl (za rfl (zc rfl (za rfl (zc rfl (za rfl (zc rfl (za rfl (zc rfl (za rfl (zc rfl (za rfl (zc rfl (za rfl (zc rfl (za rfl (zq rfl rfl (rnx (yg rfl (srx (anx rfl (zo (zd (zm (rs := [.tmp 6]) (vs := [_]) rfl ⟨rfl, trivial⟩ ?_)))))))))))))))))))))))))))
     exact ⟨by unfold jq; rw [e0, h1, h2, h3]; rfl, (LW.step E XLW).toBelow⟩
    ·
     have h3 := (Bool.not_eq_false _).mp h3
     refine yi 50 (.bool false) rfl ((by rw [h3]; rfl : (.bool (!(yq (uB i.op) i.b f.regs)) : Value) = _)) (onx rfl (zb Tryz.underlying55 rfl sz4 (by decide) rfl (onx rfl (zh Tryz.underlying4 rfl rfl (HF.on E).here.2 rfl (onx rfl (zb Tryz.underlying46 rfl sz3 (by decide) rfl (onx rfl (zh Tryz.underlying3 rfl rfl (HF.on E).here.1.2 rfl (onx rfl (zb Tryz.underlying37 rfl sz34 (by decide) rfl (onx rfl (zh Tryz.underlying34 rfl rfl (HF.on E).here.1.1.1.2 rfl (onx rfl (qr Tryz.underlying34 rfl (onx rfl (yh en21 rfl ((zix _ (uT i.op) i.t (f.ins.length : Int)).mono ?_)))))))))))))))))
     rintro e w15 ⟨rfl, hb⟩;refine ⟨_, rfl, ?_⟩;replace E := blx E hb;refine onx rfl (vd rfl (za rfl (zx rfl rfl (rnx ?_))));by_cases h4 : yq (uT i.op) i.t (f.ins.length : Int) = false
     ·
      refine zp 60 (.bool true) rfl ((by rw [h4]; rfl : (.bool (!(yq (uT i.op) i.t (f.ins.length : Int))) : Value) = _)) (yg rfl (srx (anx rfl (zo (zd (zm (rs := [.tmp 6]) (vs := [_]) rfl ⟨rfl, trivial⟩ ?_))))));exact ⟨by unfold jq; rw [e0, h1, h2, h3, h4]; rfl, (LW.step E XLW).toBelow⟩
     ·
      have h4 := (Bool.not_eq_false _).mp h4
      refine zp 60 (.bool false) rfl ((by rw [h4]; rfl : (.bool (!(yq (uT i.op) i.t (f.ins.length : Int))) : Value) = _)) (ye rfl (zn (ze (zi (srx (za rfl (yf Tryz.underlying24 rfl sz24 rfl (HF.on E).here.1.1.1.1.2 rfl (za rfl (yf Tryz.underlying37 rfl zkv rfl (HF.on E).here.1.1.1.2 rfl (za rfl (yf Tryz.underlying55 rfl yl rfl (HF.on E).here.2 rfl (za rfl (zb Tryz.underlying46 rfl sz3 (by decide) rfl (za rfl (zh Tryz.underlying3 rfl rfl (HF.on E).here.1.2 rfl (za rfl (yh en22 rfl ((rrightK_any _ A fs.length cp p f i).mono ?_))))))))))))))))))
      rintro e w16 ⟨rfl, hb⟩;refine ⟨_, rfl, ?_⟩;replace E := blx E hb;refine za rfl (vd rfl (mvx rfl ?_));by_cases h5 : kOK fs.length f i = false
      ·
       refine yi 68 (.bool true) rfl ((by rw [h5]; rfl : (.bool (!(kOK fs.length f i)) : Value) = _)) (za rfl (zc rfl (za rfl (zc rfl (za rfl (zc rfl (za rfl (zc rfl (za rfl (zc rfl (za rfl (zc rfl (za rfl (zq rfl rfl (mvx rfl (za rfl (zc rfl (za rfl (zc rfl (za rfl (zc rfl (za rfl (zc rfl (za rfl (qj rfl rfl (za rfl (qj rfl rfl (za rfl (qj rfl rfl (za rfl (zc rfl (za rfl (zq rfl rfl (rnx (yg rfl (srx (anx rfl (zo (zd (zm (rs := [.tmp 6]) (vs := [_]) rfl ⟨rfl, trivial⟩ ?_))))))))))))))))))))))))))))))))))))))))
       exact ⟨by unfold jq; rw [e0, h1, h2, h3, h4, h5]; rfl, (LW.step E XLW).toBelow⟩
      ·
       have h5 := (Bool.not_eq_false _).mp h5
       refine yi 68 (.bool false) rfl ((by rw [h5]; rfl : (.bool (!(kOK fs.length f i)) : Value) = _)) (onx rfl (yf Tryz.underlying24 rfl sz24 rfl (HF.on E).here.1.1.1.1.2 rfl (onx rfl (yf Tryz.underlying37 rfl zkv rfl (HF.on E).here.1.1.1.2 rfl (onx rfl (yf Tryz.underlying55 rfl yl rfl (HF.on E).here.2 rfl (onx rfl (yf Tryz.underlying46 rfl sz46 rfl (HF.on E).here.1.2 rfl (onx rfl (yh en23 rfl ((rrightL_any _ A n cp fs (HF.on E).here.1.1.1.1.1.2 p f i B c (HF.on E).here.1.1.2 (fun h => kOK_36 h5 h)).mono ?_)))))))))))
       rintro e w17 ⟨rfl, hb⟩;refine ⟨_, rfl, ?_⟩;replace E := blx E hb;refine onx rfl (vd rfl (za rfl (zx rfl rfl (mvx rfl ?_))));by_cases h6 : lOK fs f i = false
       ·
        refine yi 76 (.bool true) rfl ((by rw [h6]; rfl : (.bool (!(lOK fs f i)) : Value) = _)) (za rfl (zc rfl (za rfl (zc rfl (za rfl (zc rfl (za rfl (zc rfl (za rfl (qj rfl rfl (za rfl (qj rfl rfl (za rfl (qj rfl rfl (za rfl (zc rfl (za rfl (zq rfl rfl (rnx (yg rfl (srx (anx rfl (zo (zd (zm (rs := [.tmp 6]) (vs := [_]) rfl ⟨rfl, trivial⟩ ?_)))))))))))))))))))))))))
        exact ⟨by unfold jq; rw [e0, h1, h2, h3, h4, h5, h6]; rfl, (LW.step E XLW).toBelow⟩
       ·
        have h6 := (Bool.not_eq_false _).mp h6;refine yi 76 (.bool false) rfl ((by rw [h6]; rfl : (.bool (!(lOK fs f i)) : Value) = _)) ?_;have e9 : decide (at_ + 1 < f.ins.length) = decide (((at_ : Nat) : Int) < ((f.ins.length : Nat) : Int) - 1) := by rw [decide_eq_decide]; omega
        refine onx rfl (zb Tryz.underlying46 rfl sz3 (by decide) rfl (onx rfl (zh Tryz.underlying3 rfl rfl (HF.on E).here.1.2 rfl (onx rfl (zz rfl rfl (onx rfl (zv rfl (yk 80 rfl (fun t1 => ?_) (fun t1 => ?_)))))))))
        ·
         replace t1 := eq_of_beq t1;refine onx rfl (zb Tryz.underlying37 rfl sz4 (by decide) rfl (onx rfl (zh Tryz.underlying4 rfl rfl (HF.on E).here.1.1.1.2 rfl (onx rfl (vd rfl (onx rfl (zq rfl rfl (za rfl (zx rfl rfl (rnx (zt rfl (fun t2 => ?_) (fun t2 => ?_))))))))))))
         ·
          refine zp 85 (.bool true) rfl (congrArg Value.bool t2) (srx (anx rfl (zo (zd (zm (rs := [.tmp 6]) (vs := [_]) rfl ⟨rfl, trivial⟩ ?_)))))
          exact ⟨by unfold jq; rw [e0, h1, h2, h3, h4, h5, h6, e9]; refine congrArg (fun z => Ending.returned (.bool z)) ?_; clear h1 h2 h3 h4 h5 h6 e0 hcI hlB hfs hf hA e9 HF E LW; first | rfl | (simp_all; done) | (simp_all; omega) | (simp_all; rw [decide_eq_false (by omega)]; rfl) | (simp_all; rfl), (LW.step E XLW).toBelow⟩
         ·
          refine zp 85 (.bool false) rfl (congrArg Value.bool t2) (zn (ze (srx (mvx rfl (za rfl (zb Tryz.underlying37 rfl sz34 (by decide) rfl (za rfl (zh Tryz.underlying34 rfl rfl (HF.on E).here.1.1.1.2 rfl (za rfl (qr Tryz.underlying34 rfl (za rfl (qc rfl rfl (zw (by omega)) (za rfl (yv rfl rfl (mvx rfl (yk 92 rfl (fun t3 => ?_) (fun t3 => ?_)))))))))))))))))
          ·
           replace t3 := of_decide_eq_true t3
           refine za rfl (zc rfl (za rfl (zc rfl (za rfl (zc rfl (za rfl (zq rfl rfl (mvx rfl (za rfl (zc rfl (za rfl (zc rfl (za rfl (zc rfl (za rfl (zq rfl rfl (mvx rfl (za rfl (zc rfl (za rfl (zc rfl (za rfl (zc rfl (za rfl (zq rfl rfl (anx rfl (zo (zm (rs := [.tmp 6]) (vs := [_]) rfl ⟨rfl, trivial⟩ ?_))))))))))))))))))))))))))))
           exact ⟨by unfold jq; rw [e0, h1, h2, h3, h4, h5, h6, e9]; refine congrArg (fun z => Ending.returned (.bool z)) ?_; clear h1 h2 h3 h4 h5 h6 e0 hcI hlB hfs hf hA e9 HF E LW; first | rfl | (simp_all; done) | (simp_all; omega) | (simp_all; rw [decide_eq_false (by omega)]; rfl) | (simp_all; rfl), (LW.step E XLW).toBelow⟩
          ·
           replace t3 := of_decide_eq_false t3;refine onx rfl (zb Tryz.underlying46 rfl sz3 (by decide) rfl (onx rfl (zh Tryz.underlying3 rfl rfl (HF.on E).here.1.2 rfl (onx rfl (zz rfl rfl (za rfl (zx rfl rfl (mvx rfl (yk 97 rfl (fun t4 => ?_) (fun t4 => ?_))))))))))
           ·
            replace t4 := eq_of_beq t4;refine za rfl (zc rfl (za rfl (zc rfl (za rfl (zc rfl (za rfl (zq rfl rfl (mvx rfl (za rfl (zc rfl (za rfl (zc rfl (za rfl (zc rfl (za rfl (zq rfl rfl (anx rfl (zo (zm (rs := [.tmp 6]) (vs := [_]) rfl ⟨rfl, trivial⟩ ?_)))))))))))))))))))
            exact ⟨by unfold jq; rw [e0, h1, h2, h3, h4, h5, h6, e9]; refine congrArg (fun z => Ending.returned (.bool z)) ?_; clear h1 h2 h3 h4 h5 h6 e0 hcI hlB hfs hf hA e9 HF E LW; first | rfl | (simp_all; done) | (simp_all; omega) | (simp_all; rw [decide_eq_false (by omega)]; rfl) | (simp_all; rfl), (LW.step E XLW).toBelow⟩
           ·
            replace t4 := beq_eq_false_iff_ne.1 t4;refine onx rfl (zb Tryz.underlying46 rfl sz3 (by decide) rfl (onx rfl (zh Tryz.underlying3 rfl rfl (HF.on E).here.1.2 rfl (onx rfl (zz rfl rfl (za rfl (zx rfl rfl (mvx rfl (yk 102 rfl (fun t5 => ?_) (fun t5 => ?_))))))))))
            ·
             replace t5 := eq_of_beq t5;refine za rfl (zc rfl (za rfl (zc rfl (za rfl (zc rfl (za rfl (zq rfl rfl (anx rfl (zo (zm (rs := [.tmp 6]) (vs := [_]) rfl ⟨rfl, trivial⟩ ?_))))))))))
             exact ⟨by unfold jq; rw [e0, h1, h2, h3, h4, h5, h6, e9]; refine congrArg (fun z => Ending.returned (.bool z)) ?_; clear h1 h2 h3 h4 h5 h6 e0 hcI hlB hfs hf hA e9 HF E LW; first | rfl | (simp_all; done) | (simp_all; omega) | (simp_all; rw [decide_eq_false (by omega)]; rfl) | (simp_all; rfl), (LW.step E XLW).toBelow⟩
            ·
             replace t5 := beq_eq_false_iff_ne.1 t5;refine onx rfl (zb Tryz.underlying46 rfl sz3 (by decide) rfl (onx rfl (zh Tryz.underlying3 rfl rfl (HF.on E).here.1.2 rfl (onx rfl (zz rfl rfl (za rfl (zx rfl rfl (anx rfl (zo (zm (rs := [.tmp 6]) (vs := [_]) rfl ⟨rfl, trivial⟩ ?_))))))))))
             exact ⟨by unfold jq; rw [e0, h1, h2, h3, h4, h5, h6, e9]; refine congrArg (fun z => Ending.returned (.bool z)) ?_; clear h1 h2 h3 h4 h5 h6 e0 hcI hlB hfs hf hA e9 HF E LW; first | rfl | (simp_all; done) | (simp_all; omega) | (simp_all; rw [decide_eq_false (by omega)]; rfl) | (simp_all; rfl), (LW.step E XLW).toBelow⟩
        ·
         replace t1 := beq_eq_false_iff_ne.1 t1
         refine za rfl (zc rfl (za rfl (zc rfl (za rfl (zc rfl (onx rfl (zx rfl rfl (za rfl (zx rfl rfl (rnx (ye rfl (zn (ze (srx (mvx rfl (za rfl (zb Tryz.underlying37 rfl sz34 (by decide) rfl (za rfl (zh Tryz.underlying34 rfl rfl (HF.on E).here.1.1.1.2 rfl (za rfl (qr Tryz.underlying34 rfl (za rfl (qc rfl rfl (zw (by omega)) (za rfl (yv rfl rfl (mvx rfl (yk 92 rfl (fun t6 => ?_) (fun t6 => ?_))))))))))))))))))))))))))))
         ·
          replace t6 := of_decide_eq_true t6
          refine za rfl (zc rfl (za rfl (zc rfl (za rfl (zc rfl (za rfl (zq rfl rfl (mvx rfl (za rfl (zc rfl (za rfl (zc rfl (za rfl (zc rfl (za rfl (zq rfl rfl (mvx rfl (za rfl (zc rfl (za rfl (zc rfl (za rfl (zc rfl (za rfl (zq rfl rfl (anx rfl (zo (zm (rs := [.tmp 6]) (vs := [_]) rfl ⟨rfl, trivial⟩ ?_))))))))))))))))))))))))))))
          exact ⟨by unfold jq; rw [e0, h1, h2, h3, h4, h5, h6, e9]; refine congrArg (fun z => Ending.returned (.bool z)) ?_; clear h1 h2 h3 h4 h5 h6 e0 hcI hlB hfs hf hA e9 HF E LW; first | rfl | (simp_all; done) | (simp_all; omega) | (simp_all; rw [decide_eq_false (by omega)]; rfl) | (simp_all; rfl), (LW.step E XLW).toBelow⟩
         ·
          replace t6 := of_decide_eq_false t6;refine onx rfl (zb Tryz.underlying46 rfl sz3 (by decide) rfl (onx rfl (zh Tryz.underlying3 rfl rfl (HF.on E).here.1.2 rfl (onx rfl (zz rfl rfl (za rfl (zx rfl rfl (mvx rfl (yk 97 rfl (fun t7 => ?_) (fun t7 => ?_))))))))))
          ·
           replace t7 := eq_of_beq t7;refine za rfl (zc rfl (za rfl (zc rfl (za rfl (zc rfl (za rfl (zq rfl rfl (mvx rfl (za rfl (zc rfl (za rfl (zc rfl (za rfl (zc rfl (za rfl (zq rfl rfl (anx rfl (zo (zm (rs := [.tmp 6]) (vs := [_]) rfl ⟨rfl, trivial⟩ ?_)))))))))))))))))))
           exact ⟨by unfold jq; rw [e0, h1, h2, h3, h4, h5, h6, e9]; refine congrArg (fun z => Ending.returned (.bool z)) ?_; clear h1 h2 h3 h4 h5 h6 e0 hcI hlB hfs hf hA e9 HF E LW; first | rfl | (simp_all; done) | (simp_all; omega) | (simp_all; rw [decide_eq_false (by omega)]; rfl) | (simp_all; rfl), (LW.step E XLW).toBelow⟩
          ·
           replace t7 := beq_eq_false_iff_ne.1 t7;refine onx rfl (zb Tryz.underlying46 rfl sz3 (by decide) rfl (onx rfl (zh Tryz.underlying3 rfl rfl (HF.on E).here.1.2 rfl (onx rfl (zz rfl rfl (za rfl (zx rfl rfl (mvx rfl (yk 102 rfl (fun t8 => ?_) (fun t8 => ?_))))))))))
           ·
            replace t8 := eq_of_beq t8;refine za rfl (zc rfl (za rfl (zc rfl (za rfl (zc rfl (za rfl (zq rfl rfl (anx rfl (zo (zm (rs := [.tmp 6]) (vs := [_]) rfl ⟨rfl, trivial⟩ ?_))))))))))
            exact ⟨by unfold jq; rw [e0, h1, h2, h3, h4, h5, h6, e9]; refine congrArg (fun z => Ending.returned (.bool z)) ?_; clear h1 h2 h3 h4 h5 h6 e0 hcI hlB hfs hf hA e9 HF E LW; first | rfl | (simp_all; done) | (simp_all; omega) | (simp_all; rw [decide_eq_false (by omega)]; rfl) | (simp_all; rfl), (LW.step E XLW).toBelow⟩
           ·
            replace t8 := beq_eq_false_iff_ne.1 t8;refine onx rfl (zb Tryz.underlying46 rfl sz3 (by decide) rfl (onx rfl (zh Tryz.underlying3 rfl rfl (HF.on E).here.1.2 rfl (onx rfl (zz rfl rfl (za rfl (zx rfl rfl (anx rfl (zo (zm (rs := [.tmp 6]) (vs := [_]) rfl ⟨rfl, trivial⟩ ?_))))))))))
            exact ⟨by unfold jq; rw [e0, h1, h2, h3, h4, h5, h6, e9]; refine congrArg (fun z => Ending.returned (.bool z)) ?_; clear h1 h2 h3 h4 h5 h6 e0 hcI hlB hfs hf hA e9 HF E LW; first | rfl | (simp_all; done) | (simp_all; omega) | (simp_all; rw [decide_eq_false (by omega)]; rfl) | (simp_all; rfl), (LW.step E XLW).toBelow⟩
end
end Go.Proofs.YtmjemknimipnjaaGreatDoor
