/- Texts of this claim. -/
import Derived.Test.YtppdgjlmeahimaaDoorE11
namespace Go.Proofs.YtppdgjlmeahimaaDoor
open Go.RowKit
set_option maxRecDepth 100000
attribute [local irreducible] OW RS
theorem Per.cellN {w : World} {p : Addr} {v : Value} (h : w.cell? p = some v) : Per No w (fun z => z.cell? p = some v) := fun _ hb =>
 (hb.cell (World.block_lt_of_cell? w _ h) (fun hx => hx.elim)).trans h
theorem right1_any (w : World) (cap c n1 : Nat) (A : Option Addr) (m : List Int) (hb4 : Blk w cap 28 #[.slice A m.length c]) (hm : IntsA n1 w A m) (r o : Nat) (x y : Int) (hr : m[r]? = some x) (ho : m[o]? = some y) : Calls Tryd.prog 21 #[.int .i64 ((r : Nat) : Int), .int .i64 ((o : Nat) : Int), .pointer (some ⟨cap, 0, none⟩)] w fun e w' => e = .returned (.bool (x != y)) ∧ Below w.heap.size w w' := by
 have hl := hm.len;have hrl := (List.getElem?_eq_some_iff.1 hr).1;have hol := (List.getElem?_eq_some_iff.1 ho).1;refine qs Tryd.func21 rfl Tryd.ntmps21 rfl ?_;have HF : Per (No) w (fun _ => True) := Per.true_;have LW := erx (No) w;have XLW := grx (No) w;have E := erx (No) w;replace HF := HF.on E;replace LW := LW.step E XLW;replace E := erx (No) w
 replace HF := HF.and (Per.blkN hb4 NotIn.nil);obtain ⟨g1, o1, hA1, hg1, hc1⟩ := hm.cell hr;obtain ⟨g2, o2, hA2, hg2, hc2⟩ := hm.cell ho;replace HF := HF.on E;replace LW := LW.step E XLW;replace E := erx (No) w;replace HF := HF.and (Per.cellN hc1);replace HF := HF.on E;replace LW := LW.step E XLW;replace E := erx (No) w;replace HF := HF.and (Per.cellN hc2);refine srx (anx rfl (zp ?_))
 have OY : ∀ q9, (Mut (znx [])) q9 → q9 < (World.drew w).heap.size → (No) q9 := fun k h _ => (Mut.none_) k h;refine jx (No) Mut.none_ [] [] (kl [Fx.of (.slice A m.length c),
  Fx.of (.int .i64 ((r : Nat) : Int)),
  Fx.of (.pointer (some ⟨g1, o1 + r, none⟩)),
  Fx.of (.int .i64 x),
  Fx.of (.slice A m.length c),
  Fx.of (.int .i64 ((o : Nat) : Int)),
  Fx.of (.pointer (some ⟨g2, o2 + o, none⟩)),
  Fx.of (.int .i64 y),
  Fx.of (.bool (x != y)),
  Fx.of (.bool (x != y))]) je rfl trivial (fun _ h => by cases h) ?_ ?_
 · refine ⟨?_, ?_, ?_, ?_, ?_, ?_, ?_, ?_, ?_, ?_, trivial⟩
   · intro vs X wq K;have LE := K.1;exact zt Tryd.underlying28 rfl rfl ((((HF.on (E.drew.trans (LE.mono OY))).here.1.1.2).cell 0).trans rfl) ⟨Below.refl _ _, Left.of rfl⟩
   · intro vs X wq K;exact zl rfl ⟨Below.refl _ _, Left.of rfl⟩
   · intro vs X wq K;obtain ⟨_, e0, k0⟩ := K.dep 0 rfl rfl rfl;refine zd 6 (.slice A m.length c) rfl e0 ?_;obtain ⟨_, e1, k1⟩ := K.dep 1 rfl rfl rfl;refine zd 7 (.int .i64 ((r : Nat) : Int)) rfl e1 ?_;exact zk (j := r) Tryd.underlying28 sz3 (congrArg (fun z ↦ some (Value.slice z m.length c)) hA1) rfl rfl hrl ⟨Below.refl _ _, Left.of rfl⟩
   · intro vs X wq K;have LE := K.1;obtain ⟨_, e2, k2⟩ := K.dep 2 rfl rfl rfl;refine zd 8 (.pointer (some ⟨g1, o1 + r, none⟩)) rfl e2 ?_;exact zt Tryd.underlying3 rfl rfl ((HF.on (E.drew.trans (LE.mono OY))).here.1.2) ⟨Below.refl _ _, Left.of rfl⟩
   · intro vs X wq K;have LE := K.1;exact zt Tryd.underlying28 rfl rfl ((((HF.on (E.drew.trans (LE.mono OY))).here.1.1.2).cell 0).trans rfl) ⟨Below.refl _ _, Left.of rfl⟩
   · intro vs X wq K;exact zl rfl ⟨Below.refl _ _, Left.of rfl⟩
   · intro vs X wq K;obtain ⟨_, e4, k4⟩ := K.dep 4 rfl rfl rfl;refine zd 10 (.slice A m.length c) rfl e4 ?_;obtain ⟨_, e5, k5⟩ := K.dep 5 rfl rfl rfl;refine zd 11 (.int .i64 ((o : Nat) : Int)) rfl e5 ?_;exact zk (j := o) Tryd.underlying28 sz3 (congrArg (fun z ↦ some (Value.slice z m.length c)) hA2) rfl rfl hol ⟨Below.refl _ _, Left.of rfl⟩
   · intro vs X wq K;have LE := K.1;obtain ⟨_, e6, k6⟩ := K.dep 6 rfl rfl rfl;refine zd 12 (.pointer (some ⟨g2, o2 + o, none⟩)) rfl e6 ?_;exact zt Tryd.underlying3 rfl rfl ((HF.on (E.drew.trans (LE.mono OY))).here.2) ⟨Below.refl _ _, Left.of rfl⟩
   · intro vs X wq K;obtain ⟨_, e3, k3⟩ := K.dep 3 rfl rfl rfl;refine zd 9 (.int .i64 x) rfl e3 ?_;obtain ⟨_, e7, k7⟩ := K.dep 7 rfl rfl rfl;refine zd 13 (.int .i64 y) rfl e7 ?_;exact vb rfl rfl ⟨Below.refl _ _, Left.of rfl⟩
   · intro vs X wq K;obtain ⟨_, e8, k8⟩ := K.dep 8 rfl rfl rfl;refine zd 14 (.bool (x != y)) rfl e8 ?_;exact va rfl ⟨Below.refl _ _, Left.of rfl⟩
 intro vs w1 LE AO AL AF AA;replace E := E.drew.trans (LE.mono OY);obtain ⟨_, e9, k9⟩ := AL.2.2.2.2.2.2.2.2.2.1;refine vq (τ := [(5, .bool (x != y))]) ⟨congrArg some e9, trivial⟩ ?_;clear AL AF AA LE AO OY e9 k9;refine zh (zv (zu (rs := [.tmp 5]) (vs := [_]) rfl ⟨rfl, trivial⟩ ?_));exact ⟨rfl, (LW.step E XLW).toBelow⟩
def RJ (cap c n1 : Nat) (A : Option Addr) (m : List Int) (D : Nat → Nat → Prop) (w : World) : Prop := Blk w cap 28 #[.slice A m.length c] ∧ IntsA n1 w A m ∧ ∀ (r o : Nat) (x y : Int), D r o → m[r]? = some x → m[o]? = some y → x ≠ y
theorem RJ.step {cap c n1 : Nat} {A : Option Addr} {m : List Int} {D D' : Nat → Nat → Prop} {w w' : World} {Y : Nat → Prop} (h : RJ cap c n1 A m D w) (e : Ext Y w w') (h1 : ¬ Y cap) (h2 : ∀ k, Y k → n1 ≤ k) (hd : ∀ (r o : Nat) (x y : Int), D' r o → m[r]? = some x → m[o]? = some y → x ≠ y) : RJ cap c n1 A m D' w' := ⟨h.1.ext e h1, h.2.1.low (X := Y) ⟨e, h2⟩, hd⟩
theorem right_each {cap c n1 R : Nat} {A : Option Addr} {m : List Int} {w0 : World} (hc : cap < w0.heap.size) (hn : n1 ≤ w0.heap.size) (hl : R = m.length) : EachOk 21 #[.pointer (some ⟨cap, 0, none⟩)] R No (RJ cap c n1 A m) (fun r o => ∃ x y, m[r]? = some x ∧ m[o]? = some y ∧ x = y) w0 where
 keep := fun D w w' Y h e hY => h.step e (fun h => by have := hY _ h; omega) (fun k h => Nat.le_trans hn (hY k h)) h.2.2
 call := fun D w r o h _ hr ho => by
  subst hl;obtain ⟨x, hx⟩ : ∃ x, m[r]? = some x := ⟨_, List.getElem?_eq_getElem hr⟩;obtain ⟨y, hy⟩ : ∃ y, m[o]? = some y := ⟨_, List.getElem?_eq_getElem ho⟩;rw [show (#[.int .i64 ((r : Nat) : Int), .int .i64 ((o : Nat) : Int)] ++ #[.pointer (some ⟨cap, 0, none⟩)] : Array Value) = #[.int .i64 ((r : Nat) : Int), .int .i64 ((o : Nat) : Int), .pointer (some ⟨cap, 0, none⟩)] from rfl]
  refine (right1_any w cap c n1 A m h.1 h.2.1 r o x y hx hy).mono fun e w' h2 => ⟨x != y, h2.1, Ext.of_below h2.2 No, fun hb => h.step (Ext.of_below h2.2 No) (fun h => h.elim) (fun _ h => h.elim) fun r' o' x' y' hd hx' hy' => ?_, fun hb => ⟨x, y, hx, hy, by simpa using hb⟩⟩;rcases hd with hd | ⟨rfl, rfl⟩
  · exact h.2.2 r' o' x' y' hd hx' hy'
  · rw [hx] at hx';rw [hy] at hy';obtain rfl := Option.some.inj hx';obtain rfl := Option.some.inj hy';simpa using hb
theorem meets_right {w : World} {p : Pl} {f : LFn} {n0 b0 cl cap c n1 : Nat} {AL A : Option Addr} {W : List (List Nat)} {m : List Int} (hF : FnA n0 w p f) (hs :     vh f = true) (hD : DbT w) (hW : Rows64 W f.ins.length (    ke f)) (hL : ∀ a r,   vj W a r = true ↔ Liv f a r) (hA : RowsW b0 w AL W) (hb0 : n0 ≤ b0) (hdb : 0 < b0)
 (h4 : Blk w cap 28 #[.slice A m.length c]) (hm : IntsA n1 w A m) (hn : n1 ≤ w.heap.size) (hl : (m.length : Int) = f.regs) : Calls Tryd.prog 20 #[fnV p f, .slice AL f.ins.length cl, .func (.func 21) #[] #[.pointer (some ⟨cap, 0, none⟩)]] w fun e w' => ∃ b, e = .returned (.bool b) ∧ (b = true ↔ ∀ (r o : Nat) (x y : Int), Met f r o → m[r]? = some x → m[o]? = some y → x ≠ y) ∧ Below w.heap.size w w' :=
 (meets_any w p f n0 b0 cl AL W hF hs hD hW hL hA hb0 hdb _ _ No (RJ cap c n1 A m) _ (fun _ h => h.elim) (right_each h4.lt hn (by omega)) en21 ⟨h4, hm, fun _ _ _ _ h => h.elim⟩).mono fun e w' h => by
  obtain ⟨hE, h⟩ := h;rcases h with ⟨he, D, hD, hJ⟩ | ⟨he, r, o, hM, x, y, hx, hy, hxy⟩
  · exact ⟨true, he, ⟨fun _ r o x y hM => hJ.2.2 r o x y ((hD r o).2 hM), fun _ => rfl⟩, hE.toBelow⟩
  · exact ⟨false, he, ⟨fun h => (by cases h), fun h => absurd hxy (h r o x y hM hx hy)⟩, hE.toBelow⟩
theorem live_no {w : World} {p : Pl} {f : LFn} {n0 : Nat} (hF : FnA n0 w p f) (hs : vh f = false) : Calls Tryd.prog 19 #[fnV p f] w fun e w' => e = .returned (.tuple #[.slice none 0 0, .int .i64 3]) ∧ Below w.heap.size w w' :=
 (live_any w p f n0 hF).mono fun _ _ h => ⟨h.2.1 hs, h.1⟩
theorem live_yes {w : World} {p : Pl} {f : LFn} {n0 : Nat} (hF : FnA n0 w p f) (hs :     vh f = true) : Calls Tryd.prog 19 #[fnV p f] w fun e w' => ∃ A c W, e = .returned (.tuple #[.slice A f.ins.length c, .int .i64 0]) ∧ Rows64 W f.ins.length (    ke f) ∧ (∀ a r,   vj W a r = true ↔ Liv f a r) ∧ RowsW w'.heap.size w' A W ∧ Below w.heap.size w w' :=
 (live_any w p f n0 hF).mono fun _ _ h => by
  obtain ⟨A, c, W, h1, h2, h3, h4⟩ := h.2.2 hs;exact ⟨A, c, W, h1, h2, h3, h4, h.1⟩
def zbq (f : LFn) (n : Int) (r : Nat) (x : Int) : Prop := 0 ≤ x ∧ x < n ∧ ((r : Int) < f.params → x = (r : Int)) ∧ (f.params ≤ (r : Int) → x < f.params → ¬ Liv f 0 r)
theorem xk {f : LFn} {n : Int} {m : List Int} {i : Nat} {y : Int} (hy : m[i]? = some y) (hok : ∀ (r : Nat) (x : Int), r < i → m[r]? = some x → zbq f n r x) (h : zbq f n i y) : ∀ (r : Nat) (x : Int), r < i + 1 → m[r]? = some x → zbq f n r x := fun r x hr hx => by
 rcases Nat.lt_or_ge r i with h1 | h1
 · exact hok r x h1 hx
 · obtain rfl : r = i := by omega
   rw [hy] at hx;obtain rfl := Option.some.inj hx;exact h
theorem right_any (w : World) (p : Pl) (f : LFn) (n0 : Nat) (hF : FnA n0 w p f) (A : Option Addr) (c n1 : Nat) (m : List Int) (hm : IntsA n1 w A m) (n : Int) (hn : I64 n) (hn1 : n1 ≤ w.heap.size) (hD : DbT w) : Calls Tryd.prog 9 #[fnV p f, .slice A m.length c, .int .i64 n] w fun e w' => ∃ b, e = .returned (.bool b) ∧ (b = true ↔ jq f m n) ∧ Below w.heap.size w w' := by
 have hml := hm.len;have hn00 := hF.size;have hdb0 : 0 < w.heap.size := World.block_lt_of_cell? w _ (hD 0 0 rfl);refine qs Tryd.func9 rfl Tryd.ntmps9 rfl ?_;have HF : Per (No) w (fun _ => True) := Per.true_;have LW := erx (No) w;have XLW := grx (No) w;have E := erx (No) w;replace HF := HF.on E;replace LW := LW.step E XLW;replace E := erx (No) w
 replace HF := HF.and (Per.fnA hF (fun _ h => h.elim));replace HF := HF.on E;replace LW := LW.step E XLW;replace E := erx (No) w;replace HF := HF.and (Per.ints hm (fun _ h => h.elim));replace HF := HF.on E;replace LW := LW.step E XLW;replace E := erx (No) w;replace HF := HF.and (Per.dbT hD (fun _ h => h.elim));by_cases hs : vh f = true
 ·
  obtain ⟨hr0, hr1, hp0, hp1, hne⟩ := gl hs;refine srx (za rfl (vk rfl ?_));intro gb1 w2 Bb1 Eb1 Gb1;have Gb1 : _ ≤ gb1 := Nat.le_trans E.size Gb1;have GLb1 := Nat.le_trans LW.size Gb1;replace E := E.trans Eb1.no;replace HF := HF.cons (zz Gb1);replace E := E.cons (some gb1);replace XLW := Mut.grow XLW (fun k e => Or.inr (Nat.le_trans LW.size ((zz Gb1) k e)))
  replace HF := HF.on E;replace LW := LW.step E XLW;have SB : ∀ q9, No q9 → Mut [(some gb1)] q9 := (Mut.skip Mut.nil_);replace HF := HF.less SB;replace XLW := fun k h => XLW k (SB k h);clear SB;replace E := erx (No) w2;replace HF := HF.and (Per.blkN Bb1 NotIn.nil);refine za rfl (vk rfl ?_);intro gb3 w4 Bb3 Eb3 Gb3;have Gb3 : _ ≤ gb3 := Nat.le_trans E.size Gb3
  have GLb3 := Nat.le_trans LW.size Gb3;replace E := E.trans Eb3.no;replace HF := HF.cons (zz Gb3);replace E := E.cons (some gb3);replace XLW := Mut.grow XLW (fun k e => Or.inr (Nat.le_trans LW.size ((zz Gb3) k e)))
  refine anx rfl (srx (za rfl (zo Tryd.underlying27 rfl jp rfl (HF.on E).here.2 rfl (za rfl (yf en19 rfl ((live_yes (HF.on E).here.1.1.1.2 hs).mono ?_))))));rintro e w5 ⟨AL, cL, W, rfl, hW, hL, hA, hb⟩;refine ⟨_, rfl, ?_⟩;have Ec := Ext.of_below hb No;replace Bb3 := Bb3.extN Ec NotIn.nil;replace E := E.trans Ec.no;replace HF := HF.on E;replace LW := LW.step E XLW
  have SB : ∀ q9, No q9 → Mut [(some gb3)] q9 := (Mut.skip Mut.nil_);replace HF := HF.less SB;replace XLW := fun k h => XLW k (SB k h);clear SB;replace E := erx (No) w5;replace HF := HF.and (Per.blkN Bb3 NotIn.nil);obtain ⟨bz, hbz⟩ : ∃ bz, bz = w5.heap.size := ⟨_, rfl⟩;have hnz : w.heap.size ≤ bz := by rw [hbz]; exact ((LW.step E XLW).toBelow).size
  have hnb : n0 ≤ bz := Nat.le_trans hn00 hnz;rw [← hbz] at hA;replace HF := HF.on E;replace LW := LW.step E XLW;replace E := erx (No) w5;replace HF := HF.and (Per.rowsW hA (fun _ h => h.elim))
  refine mvx rfl (za rfl (vz rfl rfl (za rfl (vz rfl rfl (avx rfl (anx rfl (zp (srx (mvx rfl (za rfl (vb rfl rfl (mvx rfl (onx rfl (zg Tryd.underlying28 rfl rfl (HF.on E).here.1.2 rfl (onx rfl (yw Tryd.underlying28 rfl (onx rfl (zb Tryd.underlying27 rfl sz3 (by decide) rfl (onx rfl (zg Tryd.underlying3 rfl rfl (HF.on E).here.1.1.2 rfl (onx rfl (vb rfl rfl (za rfl (yd rfl rfl (mvx rfl (yx 25 rfl (fun h1 => ?_) (fun h1 => ?_)))))))))))))))))))))))))))
  ·
   have h1 : (m.length : Int) ≠ f.regs := by simpa using h1
   refine za rfl (zc rfl (za rfl (zc rfl (za rfl (zc rfl (za rfl (zc rfl (za rfl (zx rfl rfl (mvx rfl (za rfl (zc rfl (za rfl (zc rfl (za rfl (zc rfl (za rfl (zc rfl (za rfl (zx rfl rfl (rnx (yr rfl (srx (anx rfl (zv (ze (zu (rs := [.tmp 6]) (vs := [_]) rfl ⟨rfl, trivial⟩ ?_)))))))))))))))))))))))))))
   exact ⟨false, rfl, ⟨fun h => (by cases h), fun h => absurd h.2.1 h1⟩, (LW.step E XLW).toBelow⟩
  ·
   have h1 : (m.length : Int) = f.regs := by simpa using h1
   refine onx rfl (zl rfl (onx rfl (zb Tryd.underlying27 rfl sz3 (by decide) rfl (onx rfl (zg Tryd.underlying3 rfl rfl (HF.on E).here.1.1.2 rfl (onx rfl (yy rfl rfl (za rfl (yd rfl rfl (mvx rfl (yx 31 rfl (fun h2 => ?_) (fun h2 => ?_))))))))))))
   ·
    have h2 := of_decide_eq_true h2;refine za rfl (zc rfl (za rfl (zc rfl (za rfl (zc rfl (za rfl (zc rfl (za rfl (zx rfl rfl (rnx (yr rfl (srx (anx rfl (zv (ze (zu (rs := [.tmp 6]) (vs := [_]) rfl ⟨rfl, trivial⟩ ?_))))))))))))))));exact ⟨false, rfl, ⟨fun h => (by cases h), fun h => absurd h.2.2.1 (by omega)⟩, (LW.step E XLW).toBelow⟩
   ·
    have h2 := of_decide_eq_false h2;refine onx rfl (zl rfl (onx rfl (zb Tryd.underlying27 rfl sz3 (by decide) rfl (onx rfl (zg Tryd.underlying3 rfl rfl (HF.on E).here.1.1.2 rfl (onx rfl (xb rfl rfl (za rfl (yd rfl rfl (rnx (zr rfl (fun h3 => ?_) (fun h3 => ?_))))))))))))
    ·
     have h3 := of_decide_eq_true h3;refine srx (anx rfl (zv (ze (zu (rs := [.tmp 6]) (vs := [_]) rfl ⟨rfl, trivial⟩ ?_))));exact ⟨false, rfl, ⟨fun h => (by cases h), fun h => absurd h.2.2.2.1 (by omega)⟩, (LW.step E XLW).toBelow⟩
    ·
     have h3 := of_decide_eq_false h3;refine zq (zh (zp (srx (za rfl (zg Tryd.underlying28 rfl rfl (HF.on E).here.1.2 rfl (za rfl (yw Tryd.underlying28 rfl (mvx rfl (rnx (yb ?_))))))))));replace HF := HF.on E;replace LW := LW.step E XLW;replace E := erx (No) w5
     refine qu (ι := Nat) (fun i => [(2, .int .i64 n), (3, .pointer (some ⟨gb1, 0, none⟩)), (4, .pointer (some ⟨gb3, 0, none⟩)), (7, .slice AL f.ins.length cL), (37, .slice A m.length c), (38, .int .i64 ((m.length : Nat) : Int)), (39, .int .i64 ((i : Nat) : Int))]) (fun i w' => Ext (No) w5 w' ∧ (i ≤ m.length ∧ ∀ (r : Nat) (x : Int), r < i → m[r]? = some x → zbq f n r x)) (fun i => m.length - i) 0 ⟨rfl, rfl, rfl, rfl, rfl, rfl, rfl, trivial⟩ ⟨Ext.refl _ _, ⟨Nat.zero_le _, fun r x h => absurd h (Nat.not_lt_zero _)⟩⟩ ?_
     rintro i w7 ⟨M6, ⟨him, hok⟩⟩;have XM6 := grx (No) w5;replace E := E.trans M6;replace HF := HF.on E;replace LW := LW.step E XLW;replace E := erx (No) w7;refine srx (za rfl (yy rfl rfl (rnx (zp (zr rfl (fun hi => ?_) (fun hi => ?_))))))
     ·
      have hi := of_decide_eq_true hi;have him2 : i < m.length := by omega
      obtain ⟨y, hy⟩ : ∃ y, m[i]? = some y := ⟨_, List.getElem?_eq_getElem him2⟩;obtain ⟨gm, om, hAm, hgm, hcm⟩ := ((HF.on E).here.1.1.1.1.2).cell hy;refine zq (zh (zp (yb (srx (mvx rfl (za rfl (zk (j := i) Tryd.underlying28 sz3 (congrArg (fun z ↦ some (Value.slice z m.length c)) hAm) rfl rfl him2 (za rfl (zt Tryd.underlying3 rfl rfl hcm ?_)))))))))
      have hno : ¬ zbq f n i y → ¬ jq f m n := fun h h2 => h (h2.2.2.2.2.1 i y hy);refine avx rfl (anx rfl (srx (mvx rfl (za rfl (yy rfl rfl (mvx rfl (yx 46 rfl (fun q1 => ?_) (fun q1 => ?_))))))))
      ·
       have q1 := of_decide_eq_true q1
       refine za rfl (zc rfl (za rfl (zc rfl (za rfl (zc rfl (za rfl (zx rfl rfl (mvx rfl (za rfl (zc rfl (za rfl (zc rfl (za rfl (zc rfl (za rfl (zc rfl (za rfl (zc rfl (za rfl (yp rfl rfl (za rfl (yp rfl rfl (za rfl (yp rfl rfl (za rfl (zc rfl (za rfl (zx rfl rfl (mvx rfl (za rfl (zc rfl (za rfl (zc rfl (za rfl (zc rfl (za rfl (zc rfl (za rfl (zc rfl (za rfl (yp rfl rfl (za rfl (yp rfl rfl (za rfl (yp rfl rfl (za rfl (yp rfl rfl (za rfl (zc rfl (za rfl (zc rfl (za rfl (yp rfl rfl (za rfl (yp rfl rfl (za rfl (yp rfl rfl (za rfl (yp rfl rfl (za rfl (yp rfl rfl (za rfl (yp rfl rfl (za rfl (yp rfl rfl (za rfl (yp rfl rfl (za rfl (yp rfl rfl (za rfl (yp rfl rfl (za rfl (yp rfl rfl (za rfl (yp rfl rfl (za rfl (zc rfl ?_)))))))))))))))))))))))))))))))))))))))))))))))))))))))))))))))))))))))))))))
       refine za rfl (zx rfl rfl (rnx (yr rfl (srx (anx rfl (zv (zi (ze (ze (zi (ze (zu (rs := [.tmp 6]) (vs := [_]) rfl ⟨rfl, trivial⟩ ?_))))))))))));exact ⟨false, rfl, ⟨fun h => (by cases h), fun h => absurd h (hno fun h => by exact absurd h.1 (by omega))⟩, (LW.step E XLW).toBelow⟩
      ·
       have q1 := of_decide_eq_false q1;refine onx rfl (zl rfl (onx rfl (zl rfl (onx rfl (jd rfl rfl (za rfl (yd rfl rfl (mvx rfl (yx 51 rfl (fun q2 => ?_) (fun q2 => ?_))))))))))
       ·
        have q2 := of_decide_eq_true q2
        refine za rfl (zc rfl (za rfl (zc rfl (za rfl (zc rfl (za rfl (zc rfl (za rfl (zc rfl (za rfl (yp rfl rfl (za rfl (yp rfl rfl (za rfl (yp rfl rfl (za rfl (zc rfl (za rfl (zx rfl rfl (mvx rfl (za rfl (zc rfl (za rfl (zc rfl (za rfl (zc rfl (za rfl (zc rfl (za rfl (zc rfl (za rfl (yp rfl rfl (za rfl (yp rfl rfl (za rfl (yp rfl rfl (za rfl (yp rfl rfl (za rfl (zc rfl (za rfl (zc rfl (za rfl (yp rfl rfl (za rfl (yp rfl rfl (za rfl (yp rfl rfl (za rfl (yp rfl rfl (za rfl (yp rfl rfl (za rfl (yp rfl rfl (za rfl (yp rfl rfl (za rfl (yp rfl rfl (za rfl (yp rfl rfl (za rfl (yp rfl rfl (za rfl (yp rfl rfl (za rfl (yp rfl rfl (za rfl (zc rfl (za rfl (zx rfl rfl (rnx (yr rfl (zp ?_)))))))))))))))))))))))))))))))))))))))))))))))))))))))))))))))))))))))))
        refine zj (anx rfl (zv (zi (ze (ze (zi (ze (zu (rs := [.tmp 6]) (vs := [_]) rfl ⟨rfl, trivial⟩ ?_))))))));exact ⟨false, rfl, ⟨fun h => (by cases h), fun h => absurd h (hno fun h => by exact absurd h.2.1 (by omega))⟩, (LW.step E XLW).toBelow⟩
       ·
        have q2 := of_decide_eq_false q2;refine onx rfl (zl rfl (onx rfl (zb Tryd.underlying27 rfl sz3 (by decide) rfl (onx rfl (zg Tryd.underlying3 rfl rfl (HF.on E).here.1.1.2 rfl (onx rfl (yy rfl rfl (onx rfl (zl rfl (yx 56 rfl (fun q3 => ?_) (fun q3 => ?_)))))))))))
        ·
         have q3 := of_decide_eq_true q3;refine onx rfl (zl rfl (onx rfl (zl rfl (onx rfl (vb rfl rfl (onx rfl (zx rfl rfl (za rfl (yd rfl rfl (mvx rfl (yx 62 rfl (fun q4 => ?_) (fun q4 => ?_))))))))))))
         ·
          have q4 : y ≠ (i : Int) := by simpa using q4
          refine za rfl (zc rfl (za rfl (zc rfl (za rfl (zc rfl (za rfl (zc rfl (za rfl (zc rfl (za rfl (yp rfl rfl (za rfl (yp rfl rfl (za rfl (yp rfl rfl (za rfl (yp rfl rfl (za rfl (zc rfl (za rfl (zc rfl (za rfl (yp rfl rfl (za rfl (yp rfl rfl (za rfl (yp rfl rfl (za rfl (yp rfl rfl (za rfl (yp rfl rfl (za rfl (yp rfl rfl (za rfl (yp rfl rfl (za rfl (yp rfl rfl (za rfl (yp rfl rfl (za rfl (yp rfl rfl (za rfl (yp rfl rfl (za rfl (yp rfl rfl (za rfl (zc rfl (za rfl (zx rfl rfl (rnx (yr rfl (srx (anx rfl (zv (zi (ze (ze (zi (ze (zu (rs := [.tmp 6]) (vs := [_]) rfl ⟨rfl, trivial⟩ ?_))))))))))))))))))))))))))))))))))))))))))))))))))))))))))))
          exact ⟨false, rfl, ⟨fun h => (by cases h), fun h => absurd h (hno fun h => by exact q4 (h.2.2.1 q3))⟩, (LW.step E XLW).toBelow⟩
         ·
          have q4 : y = (i : Int) := by simpa using q4
          refine onx rfl (zl rfl (onx rfl (zb Tryd.underlying27 rfl sz3 (by decide) rfl (onx rfl (zg Tryd.underlying3 rfl rfl (HF.on E).here.1.1.2 rfl (onx rfl (jd rfl rfl (onx rfl (zl rfl (yx 67 rfl (fun q5 => ?_) (fun q5 => ?_)))))))))))
          ·
           exact absurd (of_decide_eq_true q5) (by omega)
          ·
           have hpo : zbq f n i y := ⟨by omega, by omega, fun _ => q4, fun h => absurd h (by omega)⟩
           refine za rfl (zc rfl (za rfl (zc rfl (za rfl (zc rfl (za rfl (zc rfl (onx rfl (yd rfl rfl (onx rfl (zl rfl (za rfl (zc rfl (za rfl (zc rfl (za rfl (zc rfl (za rfl (zc rfl (za rfl (zc rfl (za rfl (zc rfl (za rfl (zc rfl (za rfl (zc rfl (za rfl (zc rfl (za rfl (zc rfl (za rfl (zc rfl (za rfl (zc rfl (onx rfl (yd rfl rfl (za rfl (yd rfl rfl (rnx (qp rfl (zq (zf (zh (zj (za rfl (qc rfl rfl (yg (by omega)) (mvx rfl (yc ?_)))))))))))))))))))))))))))))))))))))))))))))))))
           exact yt (i + 1) (by show m.length - (i + 1) < m.length - i; omega) ⟨rfl, rfl, rfl, rfl, rfl, rfl, rfl, trivial⟩ ⟨M6.step E XM6, ⟨him2, xk hy hok hpo⟩⟩
        ·
         have q3 := of_decide_eq_false q3
         refine za rfl (zc rfl (za rfl (zc rfl (za rfl (zc rfl (onx rfl (yd rfl rfl (za rfl (yd rfl rfl (mvx rfl (onx rfl (zl rfl (onx rfl (zb Tryd.underlying27 rfl sz3 (by decide) rfl (onx rfl (zg Tryd.underlying3 rfl rfl (HF.on E).here.1.1.2 rfl (onx rfl (jd rfl rfl (onx rfl (zl rfl (yx 67 rfl (fun q5 => ?_) (fun q5 => ?_))))))))))))))))))))))
         ·
          refine onx rfl (zl rfl (onx rfl (zb Tryd.underlying27 rfl sz3 (by decide) rfl (onx rfl (zg Tryd.underlying3 rfl rfl (HF.on E).here.1.1.2 rfl (onx rfl (yy rfl rfl (onx rfl (zx rfl rfl (onx rfl (zl rfl (yx 73 rfl (fun q6 => ?_) (fun q6 => ?_)))))))))))))
          ·
           have q6 := of_decide_eq_true q6;have hN0 : 0 < f.ins.length := List.length_pos_iff.2 hne;obtain ⟨row, hrow⟩ : ∃ row, W[0]? = some row := ⟨_, List.getElem?_eq_getElem (by rw [hW.1]; exact hN0)⟩;have hr64 := hW.2 row (List.mem_of_getElem? hrow);have hil : i / 64 < row.length := by rw [hr64.1]; unfold ke; omega
           obtain ⟨x0, hx0⟩ : ∃ x0, row[i / 64]? = some x0 := ⟨_, List.getElem?_eq_getElem hil⟩;have hx064 := hr64.2 x0 (List.mem_of_getElem? hx0);obtain ⟨gL, oL, hAL, hgL, BL, cB, hU, hcL⟩ := RowS.at ((HF.on E).here.2) hrow;obtain ⟨gU, oU, hAU, hgU, hcU⟩ := hU.cell hx0;have hbit : vj W 0 i = x0.testBit (i % 64) := by
            unfold vj gn;rw [List.getD_eq_getElem?_getD (i := 0), hrow, Option.getD_some, List.getD_eq_getElem?_getD, hx0]; rfl
           refine onx rfl (zl rfl (onx rfl (zk (j := 0) Tryd.underlying52 zhk (congrArg (fun z ↦ some (Value.slice z f.ins.length cL)) hAL) rfl rfl hN0 (onx rfl (zt Tryd.underlying55 rfl rfl hcL (onx rfl (zl rfl (onx rfl (xz rfl rfl (by decide) (show IntKind.i64.wrap (((i : Nat) : Int).tdiv 64) = ((i / 64 : Nat) : Int) from by rw [Int.tdiv_eq_ediv_of_nonneg (by omega)]; exact yg (by omega)) (onx rfl (zk (j := i / 64) Tryd.underlying55 zax (congrArg (fun z ↦ some (Value.slice z row.length cB)) hAU) rfl rfl hil (onx rfl (zt Tryd.underlying35 rfl rfl hcU (onx rfl (zl rfl (onx rfl (zmv rfl rfl (by decide) (show (((i : Nat) : Int).tmod 64) = ((i % 64 : Nat) : Int) from by rw [Int.tmod_eq_emod_of_nonneg (by omega)]; rfl) (onx rfl (ow_shr rfl rfl (by omega) (zxk (by omega)) (onx rfl (kp rfl rfl (ot (y := 1) (by rw [Nat.shiftRight_eq_div_pow]; exact Nat.lt_of_le_of_lt (Nat.div_le_self _ _) hx064) (by decide)) (onx rfl (yn rfl rfl (onx rfl (zx rfl rfl (za rfl (yd rfl rfl (rnx (zr rfl (fun q7 => ?_) (fun q7 => ?_))))))))))))))))))))))))))))))
           ·
            rw [zgk, ← hbit] at q7;have q7 := (hL 0 i).1 q7;refine srx (anx rfl (zv (zi (ze (ze (zi (ze (zu (rs := [.tmp 6]) (vs := [_]) rfl ⟨rfl, trivial⟩ ?_))))))));exact ⟨false, rfl, ⟨fun h => (by cases h), fun h => absurd h (hno fun h => by exact h.2.2.2 (by omega) q6 q7)⟩, (LW.step E XLW).toBelow⟩
           ·
            rw [zgk, ← hbit] at q7;have q7 : ¬ Liv f 0 i := fun h => by rw [(hL 0 i).2 h] at q7; cases q7
            have hpo : zbq f n i y := ⟨by omega, by omega, fun h => absurd h q3, fun _ _ => q7⟩;refine zq (zf (zh (zj (za rfl (qc rfl rfl (yg (by omega)) (mvx rfl (yc ?_)))))))
            exact yt (i + 1) (by show m.length - (i + 1) < m.length - i; omega) ⟨rfl, rfl, rfl, rfl, rfl, rfl, rfl, trivial⟩ ⟨M6.step E XM6, ⟨him2, xk hy hok hpo⟩⟩
          ·
           have q6 := of_decide_eq_false q6;have hpo : zbq f n i y := ⟨by omega, by omega, fun h => absurd h q3, fun _ h => absurd h q6⟩
           refine za rfl (zc rfl (za rfl (zc rfl (za rfl (zc rfl (za rfl (zc rfl (za rfl (zc rfl (za rfl (zc rfl (za rfl (zc rfl (za rfl (zc rfl (za rfl (zc rfl (za rfl (zc rfl (za rfl (zc rfl (za rfl (zc rfl (onx rfl (yd rfl rfl (za rfl (yd rfl rfl (rnx (qp rfl (zq (zf (zh (zj (za rfl (qc rfl rfl (yg (by omega)) (mvx rfl (yc ?_)))))))))))))))))))))))))))))))))))))
           exact yt (i + 1) (by show m.length - (i + 1) < m.length - i; omega) ⟨rfl, rfl, rfl, rfl, rfl, rfl, rfl, trivial⟩ ⟨M6.step E XM6, ⟨him2, xk hy hok hpo⟩⟩
         ·
          exact absurd (of_decide_eq_false q5) (by omega)
     ·
      have hi := of_decide_eq_false hi;have hie : i = m.length := by omega
      refine qe (zm (zm (ya (zh (srx (za rfl (zo Tryd.underlying27 rfl jp rfl (HF.on E).here.1.1.2 rfl (mvx rfl (za rfl (zqk (xs := [.tmp 4]) rfl (za rfl (yf en20 rfl ((meets_right (HF.on E).here.1.1.1.1.1.2 hs (HF.on E).here.1.1.1.2 hW hL (HF.on E).here.2 hnb (Nat.lt_of_lt_of_le hdb0 hnz) (HF.on E).here.1.2 (HF.on E).here.1.1.1.1.2 (Nat.le_trans hn1 ((LW.step E XLW).toBelow).size) h1).mono ?_)))))))))))))
      rintro e w8 ⟨b, rfl, hbm, hb⟩;refine ⟨_, rfl, ?_⟩;replace E := blx E hb;refine anx rfl (zv (zu (rs := [.tmp 6]) (vs := [_]) rfl ⟨rfl, trivial⟩ ?_));exact ⟨b, rfl, hbm.trans ⟨fun h => ⟨hs, h1, by omega, by omega, fun r x hx => hok r x (by rw [hie]; exact (List.getElem?_eq_some_iff.1 hx).1) hx, h⟩, fun h => h.2.2.2.2.2⟩, (LW.step E XLW).toBelow⟩
 ·
  have hs : vh f = false := by simpa using hs
  refine srx (za rfl (vk rfl ?_));intro gb9 w10 Bb9 Eb9 Gb9;have Gb9 : _ ≤ gb9 := Nat.le_trans E.size Gb9;have GLb9 := Nat.le_trans LW.size Gb9;replace E := E.trans Eb9.no;replace HF := HF.cons (zz Gb9);replace E := E.cons (some gb9);replace XLW := Mut.grow XLW (fun k e => Or.inr (Nat.le_trans LW.size ((zz Gb9) k e)));replace HF := HF.on E;replace LW := LW.step E XLW
  have SB : ∀ q9, No q9 → Mut [(some gb9)] q9 := (Mut.skip Mut.nil_);replace HF := HF.less SB;replace XLW := fun k h => XLW k (SB k h);clear SB;replace E := erx (No) w10;replace HF := HF.and (Per.blkN Bb9 NotIn.nil);refine za rfl (vk rfl ?_);intro gb11 w12 Bb11 Eb11 Gb11;have Gb11 : _ ≤ gb11 := Nat.le_trans E.size Gb11;have GLb11 := Nat.le_trans LW.size Gb11;replace E := E.trans Eb11.no
  replace HF := HF.cons (zz Gb11);replace E := E.cons (some gb11);replace XLW := Mut.grow XLW (fun k e => Or.inr (Nat.le_trans LW.size ((zz Gb11) k e)));refine anx rfl (srx (za rfl (zo Tryd.underlying27 rfl jp rfl (HF.on E).here.2 rfl (za rfl (yf en19 rfl ((live_no (HF.on E).here.1.1.1.2 hs).mono ?_))))));rintro e w13 ⟨rfl, hb⟩;refine ⟨_, rfl, ?_⟩
  have Ec := Ext.of_below hb No;replace Bb11 := Bb11.extN Ec NotIn.nil;replace E := E.trans Ec.no
  refine mvx rfl (za rfl (vz rfl rfl (za rfl (vz rfl rfl (avx rfl (anx rfl (zp (srx (mvx rfl (za rfl (vb rfl rfl (mvx rfl (za rfl (zc rfl (za rfl (zc rfl (za rfl (zc rfl (za rfl (zc rfl (za rfl (zc rfl (za rfl (zx rfl rfl (mvx rfl (za rfl (zc rfl (za rfl (zc rfl (za rfl (zc rfl (za rfl (zc rfl (za rfl (zx rfl rfl (mvx rfl (za rfl (zc rfl (za rfl (zc rfl (za rfl (zc rfl (za rfl (zc rfl (za rfl (zx rfl rfl (rnx (yr rfl (srx (anx rfl (zv ?_)))))))))))))))))))))))))))))))))))))))))))))))))))
  refine ze (zu (rs := [.tmp 6]) (vs := [_]) rfl ⟨rfl, trivial⟩ ?_);exact ⟨false, rfl, ⟨fun h => (by cases h), fun h => by rw [h.1] at hs; cases hs⟩, (LW.step E XLW).toBelow⟩
end Go.Proofs.YtppdgjlmeahimaaDoor
namespace Go.Proofs.YtppdgjlmeahimaaDoor
open Go.RowKit
set_option maxRecDepth 100000
attribute [local irreducible] OW RS
def Held (row : List Nat) (m : List Int) (p : Int) : Prop := ∃ o : Nat, m[o]? = some p ∧ gn row o = true
def FreeP (row : List Nat) (m : List Int) (least p : Int) : Prop := least ≤ p ∧ ¬ Held row m p ∧ ∀ q, least ≤ q → q < p → Held row m q
theorem many_in : ∀ (n : Nat) (c : Int) (m : List Int), (∀ i : Nat, i < n → c + (i : Int) ∈ m) → n ≤ m.length
 | 0, _, _, _ => Nat.zero_le _
 | n + 1, c, m, h => by
  have h1 := h n (Nat.lt_succ_self n);have h2 := many_in n c (m.erase (c + (n : Int))) fun i hi => (List.mem_erase_of_ne (by omega)).2 (h i (by omega));rw [List.length_erase_of_mem h1] at h2;have := List.length_pos_of_mem h1;omega
theorem held_le {row : List Nat} {m : List Int} {least p : Int} (h0 : least ≤ p) (h : ∀ q, least ≤ q → q < p → Held row m q) : p ≤ least + (m.length : Int) := by
 have := many_in (p - least).toNat least m fun i hi => by
  obtain ⟨o, h1, _⟩ := h (least + (i : Int)) (by omega) (by omega);exact List.mem_of_getElem? h1
 omega
section
variable (w : World) (A B : Option Addr) (ca cb n1 : Nat) (row : List Nat) (m : List Int) (hr : U64A n1 w A row) (hm : IntsA n1 w B m) (least : Int) (hl0 : 0 ≤ least) (hl : least ≤ 65536) (hml : m.length ≤ 64 * row.length)
include hr hm hl0 hl hml
theorem free_any : Calls Tryd.prog 26 #[.slice A row.length ca, .slice B m.length cb, .int .i64 least] w fun e w' => ∃ p, e = .returned (.int .i64 p) ∧ FreeP row m least p ∧ Below w.heap.size w w' := by
 have hrl := hr.len;have hmll := hm.len;refine qs Tryd.func26 rfl Tryd.ntmps26 rfl ?_;have HF : Per (No) w (fun _ => True) := Per.true_;have LW := erx (No) w;have XLW := grx (No) w;have E := erx (No) w;replace HF := HF.on E;replace LW := LW.step E XLW;replace E := erx (No) w;replace HF := HF.and (Per.u64A hr (fun _ h => h.elim));replace HF := HF.on E;replace LW := LW.step E XLW
 replace E := erx (No) w;replace HF := HF.and (Per.ints hm (fun _ h => h.elim));refine srx (anx rfl (cw_scope 4 (srx (mvx rfl (anx rfl (zp (cw_label (zh (yb ?_)))))))));replace HF := HF.on E;replace LW := LW.step E XLW;replace E := erx (No) w
 refine qu (ι := Int) (fun p => [(0, .slice A row.length ca), (1, .slice B m.length cb), (7, .int .i64 p)]) (fun p w' => Ext (No) w w' ∧ (least ≤ p ∧ ∀ q, least ≤ q → q < p → Held row m q)) (fun p => (least + (m.length : Int) + 1 - p).toNat) least ⟨rfl, rfl, rfl, trivial⟩ ⟨Ext.refl _ _, ⟨Int.le_refl _, fun q h1 h2 => absurd h1 (by omega)⟩⟩ ?_;rintro p w2 ⟨M1, ⟨hp0, hpl⟩⟩
 have XM1 := grx (No) w;replace E := E.trans M1;replace HF := HF.on E;replace LW := LW.step E XLW;replace E := erx (No) w2;have hple := held_le hp0 hpl;refine yb (zp (srx (mvx rfl (za rfl (yw Tryd.underlying28 rfl (mvx rfl (rnx (yb ?_))))))));replace HF := HF.on E;replace LW := LW.step E XLW;replace M1 := M1.step E XM1;replace E := erx (No) w2
 refine qu (ι := Nat) (fun i => [(0, .slice A row.length ca), (1, .slice B m.length cb), (7, .int .i64 p), (11, .slice B m.length cb), (12, .int .i64 ((m.length : Nat) : Int)), (13, .int .i64 ((i : Nat) : Int))]) (fun i w' => Ext (No) w2 w' ∧ (i ≤ m.length ∧ ∀ o : Nat, o < i → ¬ (m[o]? = some p ∧ gn row o = true))) (fun i => m.length - i) 0 ⟨rfl, rfl, rfl, rfl, rfl, rfl, trivial⟩ ⟨Ext.refl _ _, ⟨Nat.zero_le _, fun o h => absurd h (Nat.not_lt_zero _)⟩⟩ ?_
 rintro i w4 ⟨M3, ⟨him, hnone⟩⟩;have XM3 := grx (No) w2;replace E := E.trans M3;replace HF := HF.on E;replace LW := LW.step E XLW;replace M1 := M1.step E XM1;replace E := erx (No) w4;refine srx (za rfl (yy rfl rfl (rnx (zp (zr rfl (fun hi => ?_) (fun hi => ?_))))))
 ·
  have hi := of_decide_eq_true hi;have him2 : i < m.length := by omega
  obtain ⟨y, hy⟩ : ∃ y, m[i]? = some y := ⟨_, List.getElem?_eq_getElem him2⟩;obtain ⟨gm, om, hBm, hgm, hcm⟩ := ((HF.on E).here.2).cell hy;have hil : i / 64 < row.length := by omega
  obtain ⟨x0, hx0⟩ : ∃ x0, row[i / 64]? = some x0 := ⟨_, List.getElem?_eq_getElem hil⟩;have hx064 := hr.in_ x0 (List.mem_of_getElem? hx0);obtain ⟨gU, oU, hAU, hgU, hcU⟩ := ((HF.on E).here.1.2).cell hx0;have hbit : gn row i = x0.testBit (i % 64) := by
   unfold gn;rw [List.getD_eq_getElem?_getD, hx0]; rfl
  refine zq (zh (zp (yb (srx (mvx rfl (za rfl (zk (j := i) Tryd.underlying28 sz3 (congrArg (fun z ↦ some (Value.slice z m.length cb)) hBm) rfl rfl him2 (za rfl (zt Tryd.underlying3 rfl rfl hcm (avx rfl (anx rfl (srx (mvx rfl (mvx rfl (za rfl (yn rfl rfl (mvx rfl (yx 21 rfl (fun q1 => ?_) (fun q1 => ?_)))))))))))))))))))
  ·
   have q1 : y = p := by simpa using q1
   refine onx rfl (zl rfl (onx rfl (zl rfl (onx rfl (xz rfl rfl (by decide) (show IntKind.i64.wrap (((i : Nat) : Int).tdiv 64) = ((i / 64 : Nat) : Int) from by rw [Int.tdiv_eq_ediv_of_nonneg (by omega)]; exact yg (by omega)) (onx rfl (zk (j := i / 64) Tryd.underlying55 zax (congrArg (fun z ↦ some (Value.slice z row.length ca)) hAU) rfl rfl hil (onx rfl (zt Tryd.underlying35 rfl rfl hcU (onx rfl (zl rfl (onx rfl (zmv rfl rfl (by decide) (show (((i : Nat) : Int).tmod 64) = ((i % 64 : Nat) : Int) from by rw [Int.tmod_eq_emod_of_nonneg (by omega)]; rfl) (onx rfl (ow_shr rfl rfl (by omega) (zxk (by omega)) (onx rfl (kp rfl rfl (ot (y := 1) (by rw [Nat.shiftRight_eq_div_pow]; exact Nat.lt_of_le_of_lt (Nat.div_le_self _ _) hx064) (by decide)) (onx rfl (yn rfl rfl (za rfl (zx rfl rfl (rnx (zr rfl (fun q2 => ?_) (fun q2 => ?_))))))))))))))))))))))))
   ·
    rw [zgk, ← hbit] at q2;have hheld : Held row m p := ⟨i, by rw [hy, q1], q2⟩;have hpl2 : ∀ q, least ≤ q → q < p + 1 → Held row m q := fun q h1 h2 => by
     rcases Int.lt_or_le q p with h3 | h3
     · exact hpl q h1 h3
     · obtain rfl : q = p := by omega
       exact hheld
    refine srx (mvx rfl (za rfl (qc rfl rfl (yg (by omega)) (anx rfl (qe (zuv rfl (zm (zm (zuv rfl (zm (ya ?_)))))))))));exact yt (p + 1) (by show (least + (m.length : Int) + 1 - (p + 1)).toNat < (least + (m.length : Int) + 1 - p).toNat; omega) ⟨rfl, rfl, rfl, trivial⟩ ⟨M1.step E XM1, ⟨by omega, hpl2⟩⟩
   ·
    rw [zgk, ← hbit] at q2;have hno : ∀ o : Nat, o < i + 1 → ¬ (m[o]? = some p ∧ gn row o = true) := fun o ho h => by
     rcases Nat.lt_or_ge o i with h9 | h9
     · exact hnone o h9 h
     · obtain rfl : o = i := by omega
       rw [hy] at h;rw [q2] at h; cases h.2
    refine zq (zf (zh (zj (za rfl (qc rfl rfl (yg (by omega)) (mvx rfl (yc ?_)))))));exact yt (i + 1) (by show m.length - (i + 1) < m.length - i; omega) ⟨rfl, rfl, rfl, rfl, rfl, rfl, trivial⟩ ⟨M3.step E XM3, ⟨him2, hno⟩⟩
  ·
   have q1 : y ≠ p := by simpa using q1
   have hno : ∀ o : Nat, o < i + 1 → ¬ (m[o]? = some p ∧ gn row o = true) := fun o ho h => by
    rcases Nat.lt_or_ge o i with h9 | h9
    · exact hnone o h9 h
    · obtain rfl : o = i := by omega
      rw [hy] at h;exact q1 (Option.some.inj h.1)
   refine za rfl (zc rfl (za rfl (zc rfl (za rfl (zc rfl (za rfl (zc rfl (za rfl (zc rfl (za rfl (zc rfl (za rfl (zc rfl (za rfl (zc rfl (za rfl (zc rfl (za rfl (zc rfl (za rfl (yd rfl rfl (rnx (qp rfl (zq (zf (zh (zj (za rfl (qc rfl rfl (yg (by omega)) (mvx rfl (yc ?_)))))))))))))))))))))))))))))))
   exact yt (i + 1) (by show m.length - (i + 1) < m.length - i; omega) ⟨rfl, rfl, rfl, rfl, rfl, rfl, trivial⟩ ⟨M3.step E XM3, ⟨him2, hno⟩⟩
 ·
  have hi := of_decide_eq_false hi;refine qe (zm (zm (ya (zh (srx (mvx rfl (anx rfl (zv (zi (ze (zi (ew_scope_ret (zu (rs := [.tmp 6]) (vs := [_]) rfl ⟨rfl, trivial⟩ ?_)))))))))))))
  exact ⟨p, rfl, ⟨hp0, fun ⟨o, h1, h2⟩ => hnone o (by have := (List.getElem?_eq_some_iff.1 h1).1; omega) ⟨h1, h2⟩, hpl⟩, (LW.step E XLW).toBelow⟩
end
end Go.Proofs.YtppdgjlmeahimaaDoor
namespace Go.Proofs.YtppdgjlmeahimaaDoor
open Go.RowKit
set_option maxRecDepth 100000
attribute [local irreducible] OW RS
def zaq (W : List (List Nat)) (r o : Nat) : List (List Nat) := W.set r (setR (W.getD r []) o)
theorem zyz (W : List (List Nat)) (r o : Nat) : (zaq W r o).length = W.length := by unfold zaq; rw [List.length_set]
theorem setW_rows {W : List (List Nat)} {N n r o : Nat} (h : Rows64 W N n) (hr : r < N) : Rows64 (zaq W r o) N n := h.set (zqx (h.get hr))
theorem zuz {W : List (List Nat)} {N n r o : Nat} (h : Rows64 W N n) (hr : r < N) (ho : o < 64 * n) (a b : Nat) : vj (zaq W r o) a b = (vj W a b || decide (a = r ∧ b = o)) := by
 unfold zaq;rw [ydk _ _ _ _ (by rw [h.1]; exact hr)];by_cases h1 : a = r
 · subst h1;rw [if_pos rfl, bitR_setR (h.get hr) ho];unfold vj;simp
 · rw [if_neg h1];simp [h1]
section
variable (w : World) (cap go R n base : Nat) (gs : List Nat) (W : List (List Nat)) (hb : Blk w cap 52 #[.slice (some ⟨go, 0, none⟩) R R]) (hR : RowsB 55 35 base w go R n gs W) (hWl : W.length = R) (hRn : R ≤ 64 * n) (hn : n ≤ 1024) (hcap : cap ∉ gs)
include hb hR hWl hRn hn hcap
theorem assign1_any (r o : Nat) (hr : r < R) (ho : o < R) : Calls Tryd.prog 25 #[.int .i64 ((r : Nat) : Int), .int .i64 ((o : Nat) : Int), .pointer (some ⟨cap, 0, none⟩)] w fun e w' => e = .returned (.bool true) ∧ Ext (fun k => k ∈ gs) w w' ∧ RowsB 55 35 base w' go R n gs (zaq (zaq W r o) o r) := by
 refine qs Tryd.func25 rfl Tryd.ntmps25 rfl ?_;obtain ⟨gw, hgw, hrow, hbw, h64, hcw⟩ := hR.get (i := r) (by omega);have hw : (W.getD r [])[o / 64]? = some ((W.getD r []).getD (o / 64) 0) := by
  rw [List.getD_eq_getElem?_getD (i := o / 64), List.getElem?_eq_getElem (by rw [h64.1]; omega)]; rfl
 have hw64 : (W.getD r []).getD (o / 64) 0 < 2 ^ 64 := h64.get;have hpw : 2 ^ (o % 64) < 2 ^ 64 := Nat.pow_lt_pow_right (by decide) (Nat.mod_lt _ (by decide));refine srx (anx rfl (zp (kr je (kt 13 rfl ?_))));refine vv (No) Mut.none_ [] [] (kl [Fx.of (.slice (some ⟨go, 0, none⟩) R R),
  Fx.of (.int .i64 ((r : Nat) : Int)),
  Fx.of (.pointer (some ⟨go, 0 + r, none⟩)),
  Fx.of (.slice (some ⟨gw, 0, none⟩) n n),
  Fx.of (.int .i64 ((o : Nat) : Int)),
  Fx.of (.int .i64 ((o / 64 : Nat) : Int)),
  Fx.of (.pointer (some ⟨gw, 0 + o / 64, none⟩)),
  Fx.of (.int .u64 (((W.getD r []).getD (o / 64) 0 : Nat) : Int)),
  Fx.of (.int .i64 ((o : Nat) : Int)),
  Fx.of (.int .i64 ((o % 64 : Nat) : Int)),
  Fx.of (.int .u64 ((2 ^ (o % 64) : Nat) : Int)),
  Fx.of (.int .u64 (((W.getD r []).getD (o / 64) 0 ||| 2 ^ (o % 64) : Nat) : Int)),
  Fx.of (.pointer (some ⟨gw, 0 + o / 64, none⟩))]) rfl trivial (fun _ h => by cases h) ?_ ?_
 · refine ⟨?_, ?_, ?_, ?_, ?_, ?_, ?_, ?_, ?_, ?_, ?_, ?_, ?_, trivial⟩
   · intro vs X wq K;have LE := K.1;exact zt Tryd.underlying52 rfl rfl (((vr LE hb).cell 0).trans rfl) ⟨Below.refl _ _, Left.of rfl⟩
   · intro vs X wq K;exact zl rfl ⟨Below.refl _ _, Left.of rfl⟩
   · intro vs X wq K;obtain ⟨_, e0, k0⟩ := K.dep 0 rfl rfl rfl;refine zd 6 (.slice (some ⟨go, 0, none⟩) R R) rfl e0 ?_;obtain ⟨_, e1, k1⟩ := K.dep 1 rfl rfl rfl;refine zd 7 (.int .i64 ((r : Nat) : Int)) rfl e1 ?_;exact zk (j := r) Tryd.underlying52 zhk rfl rfl rfl (by omega) ⟨Below.refl _ _, Left.of rfl⟩
   · intro vs X wq K;have LE := K.1;obtain ⟨_, e2, k2⟩ := K.dep 2 rfl rfl rfl;refine zd 8 (.pointer (some ⟨go, 0 + r, none⟩)) rfl e2 ?_;exact zt Tryd.underlying55 rfl rfl (by rw [Nat.zero_add]; exact js LE hcw) ⟨Below.refl _ _, Left.of rfl⟩
   · intro vs X wq K;exact zl rfl ⟨Below.refl _ _, Left.of rfl⟩
   · intro vs X wq K;obtain ⟨_, e4, k4⟩ := K.dep 4 rfl rfl rfl;refine zd 10 (.int .i64 ((o : Nat) : Int)) rfl e4 ?_;exact xz rfl rfl (by decide) (show IntKind.i64.wrap (((o : Nat) : Int).tdiv 64) = ((o / 64 : Nat) : Int) from by rw [Int.tdiv_eq_ediv_of_nonneg (by omega)]; exact yg (by omega)) ⟨Below.refl _ _, Left.of rfl⟩
   · intro vs X wq K;obtain ⟨_, e3, k3⟩ := K.dep 3 rfl rfl rfl;refine zd 9 (.slice (some ⟨gw, 0, none⟩) n n) rfl e3 ?_;obtain ⟨_, e5, k5⟩ := K.dep 5 rfl rfl rfl;refine zd 11 (.int .i64 ((o / 64 : Nat) : Int)) rfl e5 ?_;exact zk (j := o / 64) Tryd.underlying55 zax rfl rfl rfl (by omega) ⟨Below.refl _ _, Left.of rfl⟩
   · intro vs X wq K;have LE := K.1;obtain ⟨_, e6, k6⟩ := K.dep 6 rfl rfl rfl;refine zd 12 (.pointer (some ⟨gw, 0 + o / 64, none⟩)) rfl e6 ?_;exact zg Tryd.underlying35 rfl rfl (vr LE hbw) (km hw) ⟨Below.refl _ _, Left.of rfl⟩
   · intro vs X wq K;exact zl rfl ⟨Below.refl _ _, Left.of rfl⟩
   · intro vs X wq K;obtain ⟨_, e8, k8⟩ := K.dep 8 rfl rfl rfl;refine zd 14 (.int .i64 ((o : Nat) : Int)) rfl e8 ?_;exact zmv rfl rfl (by decide) (show (((o : Nat) : Int).tmod 64) = ((o % 64 : Nat) : Int) from by rw [Int.tmod_eq_emod_of_nonneg (by omega)]; rfl) ⟨Below.refl _ _, Left.of rfl⟩
   · intro vs X wq K;obtain ⟨_, e9, k9⟩ := K.dep 9 rfl rfl rfl;refine zd 15 (.int .i64 ((o % 64 : Nat) : Int)) rfl e9 ?_;exact ow_shl rfl rfl (by omega) (zxv (Nat.mod_lt _ (by decide))) ⟨Below.refl _ _, Left.of rfl⟩
   · intro vs X wq K;obtain ⟨_, e7, k7⟩ := K.dep 7 rfl rfl rfl;refine zd 13 (.int .u64 (((W.getD r []).getD (o / 64) 0 : Nat) : Int)) rfl e7 ?_;obtain ⟨_, e10, k10⟩ := K.dep 10 rfl rfl rfl;refine zd 16 (.int .u64 ((2 ^ (o % 64) : Nat) : Int)) rfl e10 ?_;exact ow_or rfl rfl (or_u64 hw64 hpw) ⟨Below.refl _ _, Left.of rfl⟩
   · intro vs X wq K;obtain ⟨_, e3, k3⟩ := K.dep 3 rfl rfl rfl;refine zd 9 (.slice (some ⟨gw, 0, none⟩) n n) rfl e3 ?_;obtain ⟨_, e5, k5⟩ := K.dep 5 rfl rfl rfl;refine zd 11 (.int .i64 ((o / 64 : Nat) : Int)) rfl e5 ?_;exact zk (j := o / 64) Tryd.underlying55 zax rfl rfl rfl (by omega) ⟨Below.refl _ _, Left.of rfl⟩
 intro vs w1 LE AO AL AF AA;have hbd : Below (w).heap.size (w) w1 := (((Ext.refl No (w)).drew).trans LE).toBelow;obtain ⟨_, e11, k11⟩ := AL.2.2.2.2.2.2.2.2.2.2.2.1;obtain ⟨_, e12, k12⟩ := AL.2.2.2.2.2.2.2.2.2.2.2.2.1
 refine vq (τ := [(0, _), (1, _), (2, _), (5, _), (17, .int .u64 (((W.getD r []).getD (o / 64) 0 ||| 2 ^ (o % 64) : Nat) : Int)), (18, .pointer (some ⟨gw, 0 + o / 64, none⟩))]) ⟨rfl, rfl, rfl, rfl, congrArg some e11, congrArg some e12, trivial⟩ ?_;clear AL AF AA AO;refine ol (ji (by kernel_rfl) (fun _ _ d_ _ _ h => by cases d_ <;> exact h) ?_);have hbn := Ext.of_below hbd No
 have hbw2 := hbw.ext hbn (fun h => h.elim);refine zw (qi zax rfl rfl hbw2 rfl rfl (by rw [List.size_toArray, kd, h64.1]; omega) (show _ = (vp (setR (W.getD r []) o)).toArray from by unfold setR; rw [ox, Nat.zero_add, List.setIfInBounds_toArray]) ?_);rintro wA Bs Es;have hgm := List.mem_of_getElem? hgw
 have R2 := (hR.ext hbn (fun h => h.elim) (fun _ _ h => h.elim)).put hgw Bs (zqx h64) Es;have C2 := (hb.ext hbn (fun h => h.elim)).ext Es (fun h => by have h := qt h; exact hcap (h ▸ hgm));have X2 := (hbn.mono (Y := fun k => k ∈ gs) (fun _ h _ => h.elim)).step Es (fun k hk => Or.inl (by have h := qt hk; exact h ▸ hgm));have R3 : RowsB 55 35 base wA go R n gs (zaq W r o) := R2
 have C3 := C2;have X3 := X2;have hWl2 : (zaq W r o).length = R := by rw [zyz]; exact hWl
 obtain ⟨gw, hgw, hrow, hbw, h64, hcw⟩ := R3.get (i := o) (by omega);have hw : ((zaq W r o).getD o [])[r / 64]? = some (((zaq W r o).getD o []).getD (r / 64) 0) := by
  rw [List.getD_eq_getElem?_getD (i := r / 64), List.getElem?_eq_getElem (by rw [h64.1]; omega)]; rfl
 have hw64 : ((zaq W r o).getD o []).getD (r / 64) 0 < 2 ^ 64 := h64.get;have hpw : 2 ^ (r % 64) < 2 ^ 64 := Nat.pow_lt_pow_right (by decide) (Nat.mod_lt _ (by decide));refine rnx (zp (kr je (kt 13 rfl ?_)));refine vv (No) Mut.none_ [] [] (kl [Fx.of (.slice (some ⟨go, 0, none⟩) R R),
  Fx.of (.int .i64 ((o : Nat) : Int)),
  Fx.of (.pointer (some ⟨go, 0 + o, none⟩)),
  Fx.of (.slice (some ⟨gw, 0, none⟩) n n),
  Fx.of (.int .i64 ((r : Nat) : Int)),
  Fx.of (.int .i64 ((r / 64 : Nat) : Int)),
  Fx.of (.pointer (some ⟨gw, 0 + r / 64, none⟩)),
  Fx.of (.int .u64 ((((zaq W r o).getD o []).getD (r / 64) 0 : Nat) : Int)),
  Fx.of (.int .i64 ((r : Nat) : Int)),
  Fx.of (.int .i64 ((r % 64 : Nat) : Int)),
  Fx.of (.int .u64 ((2 ^ (r % 64) : Nat) : Int)),
  Fx.of (.int .u64 ((((zaq W r o).getD o []).getD (r / 64) 0 ||| 2 ^ (r % 64) : Nat) : Int)),
  Fx.of (.pointer (some ⟨gw, 0 + r / 64, none⟩))]) rfl trivial (fun _ h => by cases h) ?_ ?_
 · refine ⟨?_, ?_, ?_, ?_, ?_, ?_, ?_, ?_, ?_, ?_, ?_, ?_, ?_, trivial⟩
   · intro vs X wq K;have LE := K.1;exact zt Tryd.underlying52 rfl rfl (((vr LE C3).cell 0).trans rfl) ⟨Below.refl _ _, Left.of rfl⟩
   · intro vs X wq K;exact zl rfl ⟨Below.refl _ _, Left.of rfl⟩
   · intro vs X wq K;obtain ⟨_, e0, k0⟩ := K.dep 0 rfl rfl rfl;refine zd 19 (.slice (some ⟨go, 0, none⟩) R R) rfl e0 ?_;obtain ⟨_, e1, k1⟩ := K.dep 1 rfl rfl rfl;refine zd 20 (.int .i64 ((o : Nat) : Int)) rfl e1 ?_;exact zk (j := o) Tryd.underlying52 zhk rfl rfl rfl (by omega) ⟨Below.refl _ _, Left.of rfl⟩
   · intro vs X wq K;have LE := K.1;obtain ⟨_, e2, k2⟩ := K.dep 2 rfl rfl rfl;refine zd 21 (.pointer (some ⟨go, 0 + o, none⟩)) rfl e2 ?_;exact zt Tryd.underlying55 rfl rfl (by rw [Nat.zero_add]; exact js LE hcw) ⟨Below.refl _ _, Left.of rfl⟩
   · intro vs X wq K;exact zl rfl ⟨Below.refl _ _, Left.of rfl⟩
   · intro vs X wq K;obtain ⟨_, e4, k4⟩ := K.dep 4 rfl rfl rfl;refine zd 23 (.int .i64 ((r : Nat) : Int)) rfl e4 ?_;exact xz rfl rfl (by decide) (show IntKind.i64.wrap (((r : Nat) : Int).tdiv 64) = ((r / 64 : Nat) : Int) from by rw [Int.tdiv_eq_ediv_of_nonneg (by omega)]; exact yg (by omega)) ⟨Below.refl _ _, Left.of rfl⟩
   · intro vs X wq K;obtain ⟨_, e3, k3⟩ := K.dep 3 rfl rfl rfl;refine zd 22 (.slice (some ⟨gw, 0, none⟩) n n) rfl e3 ?_;obtain ⟨_, e5, k5⟩ := K.dep 5 rfl rfl rfl;refine zd 24 (.int .i64 ((r / 64 : Nat) : Int)) rfl e5 ?_;exact zk (j := r / 64) Tryd.underlying55 zax rfl rfl rfl (by omega) ⟨Below.refl _ _, Left.of rfl⟩
   · intro vs X wq K;have LE := K.1;obtain ⟨_, e6, k6⟩ := K.dep 6 rfl rfl rfl;refine zd 25 (.pointer (some ⟨gw, 0 + r / 64, none⟩)) rfl e6 ?_;exact zg Tryd.underlying35 rfl rfl (vr LE hbw) (km hw) ⟨Below.refl _ _, Left.of rfl⟩
   · intro vs X wq K;exact zl rfl ⟨Below.refl _ _, Left.of rfl⟩
   · intro vs X wq K;obtain ⟨_, e8, k8⟩ := K.dep 8 rfl rfl rfl;refine zd 27 (.int .i64 ((r : Nat) : Int)) rfl e8 ?_;exact zmv rfl rfl (by decide) (show (((r : Nat) : Int).tmod 64) = ((r % 64 : Nat) : Int) from by rw [Int.tmod_eq_emod_of_nonneg (by omega)]; rfl) ⟨Below.refl _ _, Left.of rfl⟩
   · intro vs X wq K;obtain ⟨_, e9, k9⟩ := K.dep 9 rfl rfl rfl;refine zd 28 (.int .i64 ((r % 64 : Nat) : Int)) rfl e9 ?_;exact ow_shl rfl rfl (by omega) (zxv (Nat.mod_lt _ (by decide))) ⟨Below.refl _ _, Left.of rfl⟩
   · intro vs X wq K;obtain ⟨_, e7, k7⟩ := K.dep 7 rfl rfl rfl;refine zd 26 (.int .u64 ((((zaq W r o).getD o []).getD (r / 64) 0 : Nat) : Int)) rfl e7 ?_;obtain ⟨_, e10, k10⟩ := K.dep 10 rfl rfl rfl;refine zd 29 (.int .u64 ((2 ^ (r % 64) : Nat) : Int)) rfl e10 ?_;exact ow_or rfl rfl (or_u64 hw64 hpw) ⟨Below.refl _ _, Left.of rfl⟩
   · intro vs X wq K;obtain ⟨_, e3, k3⟩ := K.dep 3 rfl rfl rfl;refine zd 22 (.slice (some ⟨gw, 0, none⟩) n n) rfl e3 ?_;obtain ⟨_, e5, k5⟩ := K.dep 5 rfl rfl rfl;refine zd 24 (.int .i64 ((r / 64 : Nat) : Int)) rfl e5 ?_;exact zk (j := r / 64) Tryd.underlying55 zax rfl rfl rfl (by omega) ⟨Below.refl _ _, Left.of rfl⟩
 intro vs w2 LE AO AL AF AA;have hbd : Below (wA).heap.size (wA) w2 := (((Ext.refl No (wA)).drew).trans LE).toBelow;obtain ⟨_, e11, k11⟩ := AL.2.2.2.2.2.2.2.2.2.2.2.1;obtain ⟨_, e12, k12⟩ := AL.2.2.2.2.2.2.2.2.2.2.2.2.1
 refine vq (τ := [(5, _), (30, .int .u64 ((((zaq W r o).getD o []).getD (r / 64) 0 ||| 2 ^ (r % 64) : Nat) : Int)), (31, .pointer (some ⟨gw, 0 + r / 64, none⟩))]) ⟨rfl, congrArg some e11, congrArg some e12, trivial⟩ ?_;clear AL AF AA AO;refine ol (ji (by kernel_rfl) (fun _ _ d_ _ _ h => by cases d_ <;> exact h) ?_);have hbn := Ext.of_below hbd No
 have hbw2 := hbw.ext hbn (fun h => h.elim);refine zw (qi zax rfl rfl hbw2 rfl rfl (by rw [List.size_toArray, kd, h64.1]; omega) (show _ = (vp (setR ((zaq W r o).getD o []) r)).toArray from by unfold setR; rw [ox, Nat.zero_add, List.setIfInBounds_toArray]) ?_);rintro wB Bs Es;have hgm := List.mem_of_getElem? hgw
 have R2 := (R3.ext hbn (fun h => h.elim) (fun _ _ h => h.elim)).put hgw Bs (zqx h64) Es;have C2 := (C3.ext hbn (fun h => h.elim)).ext Es (fun h => by have h := qt h; exact hcap (h ▸ hgm));have X2 := (hbn.mono (Y := fun k => k ∈ gs) (fun _ h _ => h.elim)).step Es (fun k hk => Or.inl (by have h := qt hk; exact h ▸ hgm))
 refine rnx (srx (anx rfl (zv (zu (rs := [.tmp 5]) (vs := [_]) rfl ⟨rfl, trivial⟩ ?_))));exact ⟨rfl, X3.step X2 (fun _ h => Or.inl h), R2⟩
end
end Go.Proofs.YtppdgjlmeahimaaDoor
namespace Go.Proofs.YtppdgjlmeahimaaDoor
open Go.RowKit
set_option maxRecDepth 100000
section
variable {w w' : World} {X : Nat → Prop} {base base' n n' s s' : Nat} {e e' : TypeId} {v v' : Value} {xs xs' : List Value}
theorem jo {a : Option Nat} {k : Nat} (h : Mut [a] k) : a = some k := by
 rcases h with h | h
 · exact h.symm
 · exact h.elim
theorem zcx {g : Nat} (h : w.ownsRow base e s v n xs) (hg : v.ownBlock = some g) : ∃ cur, Blk w g e cur := by
 rcases h.2 with ⟨rfl, _⟩ | ⟨g', cap, cur, rfl, _, hh, _⟩
 · cases hg
 · obtain rfl : g' = g := by injection hg
   exact ⟨cur, hh⟩
theorem qf (h : w.ownsRow base e s v n xs) (k : Ext X w w') (hn : ∀ g, v.ownBlock = some g → ¬ X g) : w'.ownsRow base e s v n xs := by
 rcases h.2 with h0 | ⟨g, cap, cur, rfl, hb, hh, r⟩
 · exact ⟨h.1, Or.inl h0⟩
 · exact ⟨h.1, Or.inr ⟨g, cap, cur, rfl, hb, Blk.ext (show Blk w g e cur from hh) k (hn g rfl), r⟩⟩
theorem kx {g : Nat} {t t' : TypeId} {cs cs' : Array Value} (h : Blk w g t cs) (h' : Blk w g t' cs') : t = t' := by
 unfold Blk at h h';rw [h] at h';injection h' with h'
 injection h' with h1 h2 h3
theorem qx (h : w.ownsRow base e s v n xs) (h' : w.ownsRow base' e' s' v' n' xs') (hne : e ≠ e') (k : Ext (Mut [v'.ownBlock]) w w') : w'.ownsRow base e s v n xs :=
 qf h k fun g hg hx => by
  obtain ⟨c1, h1⟩ := zcx h hg;obtain ⟨c2, h2⟩ := zcx h' (jo hx);exact hne (kx h1 h2)
theorem qn {g : Nat} {t : TypeId} {cs : Array Value} (h : Blk w g t cs) (h' : w.ownsRow base' e' s' v' n' xs') (hne : t ≠ e') (k : Ext (Mut [v'.ownBlock]) w w') : Blk w' g t cs :=
 h.ext k fun hx => by
  obtain ⟨c2, h2⟩ := zcx h' (jo hx);exact hne (kx h h2)
theorem ye {g : Nat} {t : TypeId} {cs : Array Value} (h : w.ownsRow base e s v n xs) (h' : Blk w g t cs) (hne : e ≠ t) (k : Ext (Mut [some g]) w w') : w'.ownsRow base e s v n xs :=
 qf h k fun g' hg hx => by
  obtain ⟨c1, h1⟩ := zcx h hg;obtain rfl : g' = g := qt hx;exact hne (kx h1 h')
end
section
variable {P : Program} {N : Nat} {ops : Array Oper} {Q : Exit → Act → World → Prop} {σ : Env} {w : World} {ty : TypeId} {pos : String} {af : Array Edge} {dst : Option Nat} {Post : Value → World → Prop}
theorem ju {T e : TypeId} {x y : Operand} {z : Value} {size bytes base n n' B m c : Nat} {v : Value} {xs news xs' : List Value} {A : Option Addr} (hd : P.underlying T = some (.slice e)) (hi : xj P e z size bytes) (hzs : z.cells.size = size) (hsz : 0 < size)
 (hx : ev σ x = some v) (hown : w.ownsRow base e size v n xs) (hy : ev σ y = some (.slice A m c)) (hr : Reads w B size A m news) (h1 : ∀ u ∈ news, u.oneCell' = true) (hn : n + m = n') (hxs : xs ++ news = xs') (h63 : n' ≤ maxLen) (hbytes : n' * bytes ≤ 140737488355328) (hbase : base ≤ w.heap.size)
 (k : ∀ A' c' w', w'.ownsRow base e size (.slice A' n' c') n' xs' → Ext (Mut [v.ownBlock]) w w' → (∀ k, (Value.slice A' n' c').ownBlock = some k → v.ownBlock = some k ∨ w.heap.size ≤ k) → Post (.slice A' n' c') w') : OW P N ops Q ⟨dst, .call ⟨.builtin .append, #[x, y], #[T, T]⟩, ty, pos, af, none⟩ σ w Post := by
 subst hn hxs;refine qw hd hi hzs hsz hx hown hy hr h1 h63 hbytes hbase fun v' w' g1 g2 g3 => ?_;obtain ⟨A', c', rfl⟩ := qk g1;exact k A' c' w' g1 g2 g3
end
theorem zjx {w w' : World} {g g' : Nat} {t t' : TypeId} {cs cs' : Array Value} (h : Blk w g t cs) (h' : Blk w g' t' cs') (hne : t ≠ t') (k : Ext (Mut [some g']) w w') : Blk w' g t cs :=
 h.ext k fun hx => by
  obtain rfl : g = g' := qt hx;exact hne (kx h h')
theorem ycv {w : World} {b n s : Nat} {e : TypeId} {v : Value} {xs : List Value} (h : w.ownsRow b e s v n xs) : ∀ q, Mut [v.ownBlock] q → b ≤ q := fun q hq => jj h q (jo hq)
/-! ### a function that grows -/
def fcs (R : Int) (gc : Nat) (A : Option Addr) (c cap : Nat) : Array Value := #[.string ⟨#[]⟩, .int .i64 0, .int .i64 R, .int .i64 0, .bool false, .int .i64 0, .slice none 0 0, .slice (some ⟨gc, 0, none⟩) 1 1, .slice A c cap, .slice none 0 0]
abbrev isOwn (w : World) (b : Nat) (x : LIns × Option Addr × Nat) : Prop := w.ownsRow b 3 1 (.slice x.2.1 x.1.l.length x.2.2) x.1.l.length (yz x.1.l)
structure ApM (b b2 gf gc : Nat) (R : Int) (is : List (LIns × Option Addr × Nat)) (A : Option Addr) (cap : Nat) (w : World) : Prop where
 f : Blk w gf 27 (fcs R gc A is.length cap)
 c : Blk w gc 37 #[.int .i64 1, .string ⟨#[49]⟩]
 i : w.ownsRow b 41 7 (.slice A is.length cap) is.length (kc is)
 l : ∀ x ∈ is, isOwn w b x
 lt : ∀ x ∈ is, ∀ g, (Value.slice x.2.1 x.1.l.length x.2.2).ownBlock = some g → g < b2
section
variable {b b2 gf gc : Nat} {R : Int} {is : List (LIns × Option Addr × Nat)} {A : Option Addr} {cap : Nat} {w w' : World} {X : Nat → Prop}
theorem ApM.ext (h : ApM b b2 gf gc R is A cap w) (k : Ext X w w') (hX : ∀ q, X q → q < b2 → False) (hf : ¬ X gf) (hc : ¬ X gc) (hi : ∀ q, (Value.slice A is.length cap).ownBlock = some q → ¬ X q) : ApM b b2 gf gc R is A cap w' :=
 ⟨h.f.ext k hf, h.c.ext k hc, qf h.i k hi, fun x hx => qf (h.l x hx) k fun g hg hq => hX g hq (h.lt x hx g hg), h.lt⟩
theorem ApM.no (h : ApM b b2 gf gc R is A cap w) (k : Ext No w w') : ApM b b2 gf gc R is A cap w' := h.ext k (fun _ h => h.elim) (fun h => h.elim) (fun h => h.elim) fun _ _ h => h.elim
theorem ApM.up {b3 : Nat} (h : ApM b b2 gf gc R is A cap w) (hb : b2 ≤ b3) : ApM b b3 gf gc R is A cap w := ⟨h.f, h.c, h.i, h.l, fun x hx g hg => Nat.lt_of_lt_of_le (h.lt x hx g hg) hb⟩
theorem ApM.ints {n s : Nat} {v : Value} {xs : List Value} (h : ApM b b2 gf gc R is A cap w) (h' : w.ownsRow b2 3 s v n xs) (k : Ext (Mut [v.ownBlock]) w w') : ApM b b2 gf gc R is A cap w' :=
 ⟨qn h.f h' (by decide) k, qn h.c h' (by decide) k, qx h.i h' (by decide) k, fun x hx => qf (h.l x hx) k fun g hg hq => by
  have h1 := h.lt x hx g hg;have h2 := jj h' g (jo hq);omega, h.lt⟩
theorem ApM.put {x : LIns × Option Addr × Nat} {A' : Option Addr} {c' : Nat} {w1 w2 : World} (h : ApM b b2 gf gc R is A cap w) (hx : isOwn w b x) (hlt : ∀ g, (Value.slice x.2.1 x.1.l.length x.2.2).ownBlock = some g → g < b2)
 (h1 : w1.ownsRow b 41 7 (.slice A' (is.length + 1) c') (is.length + 1) (kc is ++ jr x.1 x.2.1 x.2.2)) (k1 : Ext (Mut [(Value.slice A is.length cap).ownBlock]) w w1) (h2 : Blk w2 gf 27 (fcs R gc A' (is.length + 1) c')) (k2 : Ext (Mut [some gf]) w1 w2) : ApM b b2 gf gc R (is ++ [x]) A' c' w2 := by
 have hlen : (is ++ [x]).length = is.length + 1 := by rw [List.length_append]; rfl
 have hf1 := qn h.f h.i (by decide) k1;have hc1 := qn h.c h.i (by decide) k1;refine ⟨by rw [hlen]; exact h2, hc1.ext k2 fun hq => ?_, ?_, fun y hy => ?_, fun y hy => ?_⟩
 · have := qt hq; subst this;exact absurd (kx hc1 hf1) (by decide)
 · rw [hlen];have e : kc (is ++ [x]) = kc is ++ jr x.1 x.2.1 x.2.2 := by unfold kc; rw [List.flatMap_append]; simp
   rw [e];exact ye h1 hf1 (by decide) k2
 · rcases List.mem_append.1 hy with hy | hy
   · exact ye (qx (h.l y hy) h.i (by decide) k1) hf1 (by decide) k2
   · rw [List.mem_singleton.1 hy];exact ye (qx hx h.i (by decide) k1) hf1 (by decide) k2
 · rcases List.mem_append.1 hy with hy | hy
   · exact h.lt y hy
   · rw [List.mem_singleton.1 hy]; exact hlt
end
theorem ApM.fn {b b2 gf gc : Nat} {R : Int} {is : List (LIns × Option Addr × Nat)} {A : Option Addr} {cap : Nat} {w : World} {f : LFn} (h : ApM b b2 gf gc R is A cap w) (hf : f = ⟨⟨#[]⟩, 0, R, 0, false, 0, [], [(1, ⟨#[49]⟩)], is.map (·.1), []⟩) (hR : I64 R) (hl : 72 * is.length ≤ 140737488351232) (h0 : 0 < is.length) (hi : ∀ x ∈ is, InsI x.1 ∧ 8 * x.1.l.length ≤ 140737488351232 ∧ ∀ y ∈ x.1.l, I64 y) : FnA w.heap.size w ⟨none, 0, some ⟨gc, 0, none⟩, 1, A, cap, none, 0⟩ f := by
 subst hf;obtain ⟨g, rfl, hb, hg, hc⟩ := gg h.i h0;have h00 : I64 0 := by decide
 refine ⟨h00, hR, h00, h00, show (⟨#[]⟩ : ByteArray).size ≤ maxLen by decide, StrsA.nil _ _ _, cons_one h.c.lt h.c (by decide) (by decide), ?_, RegsA.nil _ _ _, Nat.le_refl _⟩;exact insA_of hg hc hl fun x hx => ⟨(hi x hx).1, (hi x hx).2.1, OwnsI.ints (h.l x hx) (by have := (hi x hx).2.1; omega) (hi x hx).2.2⟩
abbrev GR (α : Type) := Option Addr × Nat × List α
def grV {α : Type} (r : GR α) : Value := .slice r.1 r.2.2.length r.2.1
structure GrowB {α : Type} (en : α → List Value) (te e : TypeId) (s base g : Nat) (rows : List (GR α)) (w : World) : Prop where
 out : Blk w g te (rows.map grV).toArray
 own : ∀ r ∈ rows, w.ownsRow base e s (grV r) r.2.2.length (r.2.2.flatMap en)
 apart : ∀ (i j : Nat) ri rj, rows[i]? = some ri → rows[j]? = some rj → i ≠ j → ∀ k, (grV ri).ownBlock = some k → (grV rj).ownBlock ≠ some k
section
variable {α : Type} {en : α → List Value} {te e : TypeId} {s base g : Nat} {rows : List (GR α)} {w w' : World} {X : Nat → Prop}
theorem GrowB.nil (R : Nat) (h : Blk w g te (List.replicate R (.slice none 0 0)).toArray) : GrowB en te e s base g (List.replicate R (none, 0, [])) w := by
 refine ⟨by rw [List.map_replicate]; exact h, fun r hr => ?_, fun i j ri rj hi _ _ k hk => ?_⟩
 · rw [List.eq_of_mem_replicate hr]; exact vi
 · have := List.eq_of_mem_replicate (List.mem_of_getElem? hi);subst this;cases hk
theorem GrowB.ext (h : GrowB en te e s base g rows w) (k : Ext X w w') (hg : ¬ X g) (hr : ∀ r ∈ rows, ∀ q, (grV r).ownBlock = some q → ¬ X q) : GrowB en te e s base g rows w' :=
 ⟨h.out.ext k hg, fun r hr' => qf (h.own r hr') k (hr r hr'), h.apart⟩
theorem GrowB.no (h : GrowB en te e s base g rows w) (k : Ext No w w') : GrowB en te e s base g rows w' := h.ext k (fun h => h.elim) fun _ _ _ _ h => h.elim
theorem GrowB.other {base' n' s' : Nat} {e' : TypeId} {v' : Value} {xs' : List Value} (h : GrowB en te e s base g rows w) (h' : w.ownsRow base' e' s' v' n' xs') (h1 : te ≠ e') (h2 : e ≠ e') (k : Ext (Mut [v'.ownBlock]) w w') : GrowB en te e s base g rows w' :=
 ⟨qn h.out h' h1 k, fun r hr => qx (h.own r hr) h' h2 k, h.apart⟩
theorem GrowB.blk {g' : Nat} {t : TypeId} {cs : Array Value} (h : GrowB en te e s base g rows w) (h' : Blk w g' t cs) (h1 : te ≠ t) (h2 : e ≠ t) (k : Ext (Mut [some g']) w w') : GrowB en te e s base g rows w' :=
 ⟨zjx h.out h' h1 k, fun r hr => ye (h.own r hr) h' h2 k, h.apart⟩
theorem GrowB.cell (h : GrowB en te e s base g rows w) {i : Nat} {r : GR α} (hi : rows[i]? = some r) : w.cell? ⟨g, i, none⟩ = some (grV r) := by
 rw [h.out.cell, List.getElem?_toArray, List.getElem?_map, hi]; rfl
theorem GrowB.lt (h : GrowB en te e s base g rows w) {r : GR α} (hr : r ∈ rows) {k : Nat} (hk : (grV r).ownBlock = some k) : k < w.heap.size := qy (h.own r hr) k hk
theorem GrowB.put {i : Nat} {r r' : GR α} {w1 w2 : World} (h : GrowB en te e s base g rows w) (hi : rows[i]? = some r) (hne : te ≠ e)
 (h1 : w1.ownsRow base e s (grV r') r'.2.2.length (r'.2.2.flatMap en)) (k1 : Ext (Mut [(grV r).ownBlock]) w w1) (hnew : ∀ k, (grV r').ownBlock = some k → (grV r).ownBlock = some k ∨ w.heap.size ≤ k)
 (h2 : Blk w2 g te ((rows.set i r').map grV).toArray) (k2 : Ext (Mut [some g]) w1 w2) : GrowB en te e s base g (rows.set i r') w2 := by
 have hil := (List.getElem?_eq_some_iff.1 hi).1;have hrm := List.mem_of_getElem? hi;have hb1 := qn h.out (h.own r hrm) hne k1;have hsub : ∀ (j : Nat) (rj : GR α), (rows.set i r')[j]? = some rj → (j = i ∧ rj = r') ∨ (j ≠ i ∧ rows[j]? = some rj) := fun j rj hj => by
  rw [List.getElem?_set] at hj;by_cases hij : i = j
  · subst hij;rw [if_pos rfl, if_pos hil] at hj;exact Or.inl ⟨rfl, (Option.some.inj hj).symm⟩
  · rw [if_neg hij] at hj;exact Or.inr ⟨fun e => hij e.symm, hj⟩
 refine ⟨h2, fun x hx => ?_, fun a b ra rb ha hb hab k hk hk2 => ?_⟩
 · obtain ⟨j, hj⟩ := List.mem_iff_getElem?.1 hx;rcases hsub j x hj with ⟨_, rfl⟩ | ⟨hji, hj⟩
   · exact ye h1 hb1 (Ne.symm hne) k2
   · refine ye (qf (h.own x (List.mem_of_getElem? hj)) k1 fun q hq hm => ?_) hb1 (Ne.symm hne) k2;exact h.apart j i x r hj hi hji q hq (jo hm)
 · rcases hsub a ra ha with ⟨rfl, rfl⟩ | ⟨hai, ha3⟩
   · rcases hsub b rb hb with ⟨rfl, _⟩ | ⟨hbi, hb⟩
     · exact hab rfl
     · rcases hnew k hk with h3 | h3
       · exact h.apart _ _ r rb hi hb hab k h3 hk2
       · have := h.lt (List.mem_of_getElem? hb) hk2;omega
   · rcases hsub b rb hb with ⟨rfl, hrb⟩ | ⟨hbi, hb⟩
     · rw [hrb] at hk2;rcases hnew k hk2 with h3 | h3
       · exact h.apart _ _ r ra hi ha3 (Ne.symm hab) k h3 hk
       · have := h.lt (List.mem_of_getElem? ha3) hk;omega
     · exact h.apart a b ra rb ha3 hb hab k hk hk2
end
theorem gr_set {α : Type} {rows : List (GR α)} {i : Nat} (r : GR α) : (rows.map grV).toArray.setIfInBounds i (grV r) = ((rows.set i r).map grV).toArray := by
 rw [List.setIfInBounds_toArray, List.map_set]
abbrev BRow := List (Nat × List Int)
def BOk (f : LFn) (B : List BRow) : Prop := ∀ (t a : Nat) (ws : List Int), (a, ws) ∈ B.getD t [] ↔ ∃ i, f.ins[a]? = some i ∧ (((t : Nat) : Int), ws) ∈ vg f a i
def DOk (f : LFn) (D : List Nat) (r : Nat) : Prop := ∀ a, a ∈ D ↔ ∃ i, f.ins[a]? = some i ∧ ((r : Nat) : Int) ∈ yu i
structure SprJ (f : LFn) (B : List BRow) (D : List Nat) (r : Nat) (W0 W : List (List Nat)) (T : List Nat) (lim : Nat → Nat → Prop) : Prop where
 other : ∀ a q, q ≠ r → vj W a q = vj W0 a q
 sound : ∀ a, vj W a r = true → Liv f a r
 soundT : ∀ a ∈ T, Liv f a r
 read : ∀ a ∈ D, vj W a r = true ∨ a ∈ T
 close : ∀ (a j : Nat) x, vj W a r = true → (B.getD a [])[j]? = some x → ¬ lim a j → ((r : Nat) : Int) ∉ x.2 → vj W x.1 r = true ∨ x.1 ∈ T
abbrev SprI (f : LFn) (B : List BRow) (D : List Nat) (r : Nat) (W0 W : List (List Nat)) (T : List Nat) : Prop := SprJ f B D r W0 W T (fun _ _ => False)
section
variable {f : LFn} {B : List BRow} {D : List Nat} {r : Nat} {W0 W : List (List Nat)} {T : List Nat} {N n at_ : Nat}
theorem SprJ.begin (hD : DOk f D r) (h0 : ∀ a, vj W0 a r = false) : SprI f B D r W0 W0 D :=
 ⟨fun _ _ _ => rfl, fun a h => (by rw [h0] at h; cases h), fun a ha => (by obtain ⟨i, hi, hr⟩ := (hD a).1 ha; exact Liv.read hi hr), fun a ha => Or.inr ha, fun a j x h => (by rw [h0] at h; cases h)⟩
theorem SprJ.pop (h : SprI f B D r W0 W (T ++ [at_])) (hb : vj W at_ r = true) : SprI f B D r W0 W T := by
 have key : ∀ a, vj W a r = true ∨ a ∈ T ++ [at_] → vj W a r = true ∨ a ∈ T := fun a ha => by
  rcases ha with ha | ha
  · exact Or.inl ha
  · rcases List.mem_append.1 ha with ha | ha
    · exact Or.inr ha
    · rw [List.mem_singleton.1 ha]; exact Or.inl hb
 exact ⟨h.other, h.sound, fun a ha => h.soundT a (List.mem_append_left _ ha), fun a ha => key a (h.read a ha), fun a j x h1 h2 h3 h4 => key _ (h.close a j x h1 h2 h3 h4)⟩
theorem SprJ.set (h : SprI f B D r W0 W (T ++ [at_])) (hW : Rows64 W N n) (ha : at_ < N) (hr : r < 64 * n) : SprJ f B D r W0 (zaq W at_ r) T (fun a j => a = at_ ∧ 0 ≤ j) := by
 have hbit := zuz hW ha hr;have key : ∀ a, vj W a r = true ∨ a ∈ T ++ [at_] → vj (zaq W at_ r) a r = true ∨ a ∈ T := fun a ha => by
  rcases ha with ha | ha
  · exact Or.inl (by rw [hbit, ha]; rfl)
  · rcases List.mem_append.1 ha with ha | ha
    · exact Or.inr ha
    · rw [List.mem_singleton.1 ha]; exact Or.inl (by rw [hbit]; simp)
 refine ⟨fun a q hq => ?_, fun a h1 => ?_, fun a ha => h.soundT a (List.mem_append_left _ ha), fun a ha => key a (h.read a ha), fun a j x h1 h2 h3 h4 => ?_⟩
 · rw [hbit, h.other a q hq]; simp [hq]
 · rw [hbit] at h1;by_cases e : a = at_
   · subst e; exact h.soundT a (by simp)
   · simp [e] at h1; exact h.sound a h1
 · by_cases e : a = at_
   · exact absurd ⟨e, Nat.zero_le _⟩ h3
   · refine key _ (h.close a j x ?_ h2 (fun h => h) h4);rw [hbit] at h1;simpa [e] using h1
theorem SprJ.skip {k : Nat} {x : Nat × List Int} (h : SprJ f B D r W0 W T (fun a j => a = at_ ∧ k ≤ j)) (hx : (B.getD at_ [])[k]? = some x) (hr : ((r : Nat) : Int) ∈ x.2) : SprJ f B D r W0 W T (fun a j => a = at_ ∧ k + 1 ≤ j) :=
 ⟨h.other, h.sound, h.soundT, h.read, fun a j y h1 h2 h3 h4 => by
  by_cases e : a = at_ ∧ j = k
  · obtain ⟨rfl, rfl⟩ := e;rw [hx] at h2;obtain rfl := Option.some.inj h2;exact absurd hr h4
  · exact h.close a j y h1 h2 (fun h => h3 ⟨h.1, by have := h.2; omega⟩) h4⟩
theorem SprJ.push {k : Nat} {x : Nat × List Int} (hB : BOk f B) (h : SprJ f B D r W0 W T (fun a j => a = at_ ∧ k ≤ j)) (hx : (B.getD at_ [])[k]? = some x) (hr : ((r : Nat) : Int) ∉ x.2) (hl : Liv f at_ r) : SprJ f B D r W0 W (T ++ [x.1]) (fun a j => a = at_ ∧ k + 1 ≤ j) := by
 have key : ∀ a, vj W a r = true ∨ a ∈ T → vj W a r = true ∨ a ∈ T ++ [x.1] := fun a ha => ha.imp id fun h => List.mem_append_left _ h;refine ⟨h.other, h.sound, fun a ha => ?_, fun a ha => key a (h.read a ha), fun a j y h1 h2 h3 h4 => ?_⟩
 · rcases List.mem_append.1 ha with ha | ha
   · exact h.soundT a ha
   · rw [List.mem_singleton.1 ha];obtain ⟨i, hi, hw⟩ := (hB at_ x.1 x.2).1 (List.mem_of_getElem? hx);exact Liv.back hi hw hr hl
 · by_cases e : a = at_ ∧ j = k
   · obtain ⟨rfl, rfl⟩ := e;rw [hx] at h2;obtain rfl := Option.some.inj h2;exact Or.inr (by simp)
   · exact key _ (h.close a j y h1 h2 (fun h => h3 ⟨h.1, by have := h.2; omega⟩) h4)
theorem SprJ.done {k : Nat} (h : SprJ f B D r W0 W T (fun a j => a = at_ ∧ k ≤ j)) (hk : (B.getD at_ []).length ≤ k) : SprI f B D r W0 W T :=
 ⟨h.other, h.sound, h.soundT, h.read, fun a j y h1 h2 _ h4 => h.close a j y h1 h2 (fun e => by
  obtain ⟨rfl, e⟩ := e;have := (List.getElem?_eq_some_iff.1 h2).1;omega) h4⟩
theorem SprJ.live (hB : BOk f B) (hD : DOk f D r) (h : SprI f B D r W0 W []) (a : Nat) : vj W a r = true ↔ Liv f a r := by
 refine ⟨h.sound a, fun hl => ?_⟩;have := ydz (f := f) (B := fun a q => q = r → vj W a r = true) (fun a i q hi hq e => ?_) (fun a i t ws q hi hw hq hb e => ?_) hl rfl
 · exact this
 · subst e;rcases h.read a ((hD a).2 ⟨i, hi, hq⟩) with h1 | h1
   · exact h1
   · cases h1
 · subst e;obtain ⟨j, hj⟩ := List.mem_iff_getElem?.1 ((hB t a ws).2 ⟨i, hi, hw⟩);rcases h.close t j (a, ws) (hb rfl) hj (fun h => h) hq with h1 | h1
   · exact h1
   · cases h1
end
/-! ### how much is left -/
def xn (N : Nat) (B : List BRow) (W : List (List Nat)) (r : Nat) : Nat := xa ((List.range N).map fun a => if vj W a r = true then 0 else (B.getD a []).length)
theorem unset_set {N n at_ r : Nat} {B : List BRow} {W : List (List Nat)} (hW : Rows64 W N n) (ha : at_ < N) (hr : r < 64 * n) (hb : vj W at_ r = false) : xn N B (zaq W at_ r) r + (B.getD at_ []).length = xn N B W r := by
 have hbit := zuz hW ha hr;have e : ((List.range N).map fun a => if vj (zaq W at_ r) a r = true then 0 else (B.getD a []).length) = ((List.range N).map fun a => if vj W a r = true then 0 else (B.getD a []).length).set at_ 0 := by
  apply List.ext_getElem?
  intro j;rw [List.getElem?_set, List.getElem?_map, List.getElem?_map];by_cases hj : at_ = j
  · subst hj;rw [if_pos rfl, if_pos (by simpa using ha), List.getElem?_range ha];simp [hbit]
  · rw [if_neg hj];have hj2 : ¬ j = at_ := fun e => hj e.symm;cases h : (List.range N)[j]? with
    | none => rfl
    | some q =>
     obtain ⟨h1, h2⟩ := List.getElem?_eq_some_iff.1 h;simp at h1 h2
     subst h2;simp [hbit, hj2]
 have h1 := zxx (l := (List.range N).map fun a => if vj W a r = true then 0 else (B.getD a []).length) (k := at_) (x := 0) (by simpa using ha);have h2 : ((List.range N).map fun a => if vj W a r = true then 0 else (B.getD a []).length).getD at_ 0 = (B.getD at_ []).length := by
  rw [List.getD_eq_getElem?_getD, List.getElem?_map, List.getElem?_range ha];simp [hb]
 unfold xn;rw [e];rw [h2] at h1;omega
theorem unset_le {N r : Nat} {B : List BRow} {W : List (List Nat)} {M : Nat} (h : ∀ a, (B.getD a []).length ≤ M) : xn N B W r ≤ N * M := by
 unfold xn;induction N with
 | zero => simp [xa]
 | succ N ih =>
  rw [List.range_succ, List.map_append];have : ∀ (l l' : List Nat), xa (l ++ l') = xa l + xa l' := fun l l' => by
   induction l with
   | nil => simp [xa]
   | cons x l ih => simp only [List.cons_append, xa, ih]; omega
  rw [this, Nat.succ_mul];have h2 := h N;simp only [List.map_cons, List.map_nil, xa]
  split <;> omega
/-! ### memory: what is written holds words only -/
def IsU (w : World) (k : Nat) : Prop := ∃ x, Blk w k 35 (vp x).toArray
structure LowU (n : Nat) (X : Nat → Prop) (w w' : World) : Prop where
 e : Ext X w w'
 x : ∀ k, X k → n ≤ k ∨ IsU w k
theorem LowU.cell {n : Nat} {X : Nat → Prop} {w w' : World} (h : LowU n X w w') {g o : Nat} {v : Value} (hg : g < n) (hc : w.cell? ⟨g, o, none⟩ = some v) (hv : ∀ z, v ≠ .int .u64 z) : w'.cell? ⟨g, o, none⟩ = some v := by
 refine (h.e.cell (World.block_lt_of_cell? w _ hc) (fun hx => ?_)).trans hc;rcases h.x _ hx with h1 | ⟨x, h1⟩
 · have h1 : n ≤ g := h1; omega
 · have h1 : Blk w g 35 (vp x).toArray := h1;rw [h1.cell, List.getElem?_toArray] at hc;unfold vp at hc;rw [List.getElem?_map] at hc;cases hx : x[o]? with
   | none => rw [hx] at hc; cases hc
   | some y =>
    rw [hx] at hc;exact hv _ (Option.some.inj hc).symm
theorem IntsA.lowU {n : Nat} {X : Nat → Prop} {w w' : World} {A : Option Addr} {xs : List Int} (h : IntsA n w A xs) (k : LowU n X w w') : IntsA n w' A xs :=
 ⟨h.len, h.in_, h.row.low fun _ _ _ hg hc => k.cell hg hc (fun z h => by cases h)⟩
def BackA (n : Nat) (w : World) (A : Option Addr) (row : BRow) : Prop := RowS n w 2 (fun w g o (x : Nat × List Int) => ∃ C c, IntsA n w C x.2 ∧ zbx w g o [.int .i64 ((x.1 : Nat) : Int), .slice C x.2.length c]) A row
def BacksA (n : Nat) (w : World) (A : Option Addr) (B : List BRow) : Prop := RowS n w 1 (fun w g o (row : BRow) => ∃ C c, BackA n w C row ∧ w.cell? ⟨g, o, none⟩ = some (.slice C row.length c)) A B
theorem BackA.lowU {n : Nat} {X : Nat → Prop} {w w' : World} {A : Option Addr} {row : BRow} (h : BackA n w A row) (k : LowU n X w w') : BackA n w' A row := RowS.low h fun g o x hg hc => by
 obtain ⟨C, c, h1, h2⟩ := hc;refine ⟨C, c, h1.lowU k, fun j v hj => k.cell hg (h2 j v hj) fun z hz => ?_⟩;subst hz;match j, hj with
 | 0, hj => cases hj
 | 1, hj => cases hj
 | j + 2, hj => cases hj
theorem BacksA.lowU {n : Nat} {X : Nat → Prop} {w w' : World} {A : Option Addr} {B : List BRow} (h : BacksA n w A B) (k : LowU n X w w') : BacksA n w' A B := RowS.low h fun g o x hg hc => by
 obtain ⟨C, c, h1, h2⟩ := hc;exact ⟨C, c, h1.lowU k, k.cell hg h2 fun z h => by cases h⟩
end Go.Proofs.YtppdgjlmeahimaaDoor
namespace Go.Proofs.YtppdgjlmeahimaaDoor
open Go.RowKit
set_option maxRecDepth 100000
attribute [local irreducible] OW RS
theorem owns_cut {w : World} {base n c : Nat} {e : TypeId} {A : Option Addr} {xs : List Value} (h : w.ownsRow base e 1 (.slice A (n + 1) c) (n + 1) xs) : w.ownsRow base e 1 (.slice A n c) n (xs.take n) := by
 rcases h.2 with ⟨h0, _⟩ | ⟨g, cap, cur, hv, hb, hh, hn, hm, hs, ht⟩
 · cases h0
 · cases hv
   refine ⟨by rw [List.length_take, h.1]; omega, Or.inr ⟨g, c, cur, rfl, hb, hh, by omega, hm, hs, ?_⟩⟩;rw [← ht, List.take_take];congr 1
   omega
theorem owns_le {w : World} {base s n c : Nat} {e : TypeId} {A : Option Addr} {xs : List Value} (h : w.ownsRow base e s (.slice A n c) n xs) : n ≤ c := by
 rcases h.2 with ⟨h0, h1⟩ | ⟨g, cap, cur, hv, hb, hh, hn, _⟩
 · cases h1; omega
 · cases hv; exact hn
def natV (T : List Nat) : List Value := T.map fun a => .int .i64 ((a : Nat) : Int)
theorem natV_at {T : List Nat} {j a : Nat} (h : T[j]? = some a) : (natV T)[j]? = some (.int .i64 ((a : Nat) : Int)) := by unfold natV; rw [List.getElem?_map, h]; rfl
theorem natV_add (T : List Nat) (a : Nat) : natV T ++ [.int .i64 ((a : Nat) : Int)] = natV (T ++ [a]) := by unfold natV; rw [List.map_append]; rfl
theorem natV_one {T : List Nat} : ∀ u ∈ natV T, u.oneCell' = true := fun u hu => by
 obtain ⟨x, _, rfl⟩ := List.mem_map.1 hu;rfl
theorem natV_take {T : List Nat} {a : Nat} : (natV (T ++ [a])).take T.length = natV T := by unfold natV; rw [List.map_append, List.take_append_of_le_length (by simp), List.take_of_length_le (by simp)]
abbrev SprX (gs : List Nat) (m : Nat) : Nat → Prop := fun k => k ∈ gs ∨ m ≤ k
theorem RowsB.lowU {b0 go N n m : Nat} {gs : List Nat} {W : List (List Nat)} {w z : World} (h : RowsB 55 35 b0 w go N n gs W) (k : Ext (SprX gs m) w z) : LowU m (SprX gs m) w z :=
 ⟨k, fun q hq => hq.symm.imp id fun hg => by
  obtain ⟨i, hi⟩ := List.mem_iff_getElem?.1 hg;obtain ⟨x, _, hb, _⟩ := h.at hi;exact ⟨x, hb⟩⟩
theorem RowsB.owns {b0 go N n m e s q : Nat} {gs : List Nat} {W : List (List Nat)} {w z : World} {v : Value} {xs : List Value} {g : Nat} (h : RowsB 55 35 b0 w go N n gs W) (hg : g ∈ gs) (ho : w.ownsRow m e s v q xs) (he : e ≠ 35) (k : Ext (Mut [some g]) w z) : z.ownsRow m e s v q xs := by
 obtain ⟨i, hi⟩ := List.mem_iff_getElem?.1 hg;obtain ⟨x, _, hb, _⟩ := h.at hi;exact ye ho hb he k
theorem RowsB.other {b0 go N n m e s q : Nat} {gs : List Nat} {W : List (List Nat)} {w z : World} {v : Value} {xs : List Value} (h : RowsB 55 35 b0 w go N n gs W) (ho : w.ownsRow m e s v q xs) (h1 : e ≠ 35) (h2 : e ≠ 55) (k : Ext (Mut [v.ownBlock]) w z) : RowsB 55 35 b0 z go N n gs W :=
 h.ext k (fun hx => by
  obtain ⟨c, hc⟩ := zcx ho (jo hx);exact h2 (kx hc h.out)) fun g hg hx => by
  obtain ⟨c, hc⟩ := zcx ho (jo hx);obtain ⟨i, hi⟩ := List.mem_iff_getElem?.1 hg;obtain ⟨x, _, hb, _⟩ := h.at hi;exact h1 (kx hc hb)
section
variable (f : LFn) (w : World) (b0 go gb N n : Nat) (gs : List Nat) (W0 : List (List Nat)) (B : List BRow) (hR : RowsB 55 35 b0 w go N n gs W0) (hWl : W0.length = N) (hN : f.ins.length = N) (hn : n ≤ 1024) (hb0 : b0 ≤ w.heap.size)
 (hBA : BacksA w.heap.size w (some ⟨gb, 0, none⟩) B) (hBl : B.length = N) (hBok : BOk f B) (hs : vh f = true)
 (r : Nat) (hr : r < 64 * n) (h0 : ∀ a, vj W0 a r = false) (D : List Nat) (A0 : Option Addr) (c0 : Nat) (hDA : IntsA w.heap.size w A0 (D.map fun (a : Nat) => (a : Int))) (hD : DOk f D r) (hK : D.length + xn N B W0 r ≤ 8796093022208)
include hR hWl hN hn hb0 hBA hBl hBok hs hr h0 hDA hD hK
theorem spread_any (cb : Nat) : Calls Tryd.prog 43 #[.slice (some ⟨go, 0, none⟩) N N, .slice (some ⟨gb, 0, none⟩) N cb, .slice A0 D.length c0, .int .i64 ((r : Nat) : Int)] w fun e w' => e = .returned (.tuple #[]) ∧ ∃ W, RowsB 55 35 b0 w' go N n gs W ∧ W.length = N ∧ (∀ a, vj W a r = true ↔ Liv f a r) ∧ (∀ a q, q ≠ r → vj W a q = vj W0 a q) ∧ Ext (fun k => k ∈ gs ∨ w.heap.size ≤ k) w w' := by
 have hr0 : r < 65536 := by omega
 have _ := hb0;have hDl := hDA.len;rw [List.length_map] at hDl;have hNl : ∀ {a q}, Liv f a q → a < N := fun h => by rw [← hN]; exact (liv_in hs h).1
 refine qs Tryd.func43 rfl Tryd.ntmps43 rfl ?_;have hrd : ∀ {z}, Ext No w z → Reads z z.heap.size 1 A0 D.length (natV D) := fun {z} k => by
  have h := (hDA.low (X := No) ⟨k, fun _ h => h.elim⟩).reads (B := z.heap.size) k.size;rw [List.length_map, List.map_map] at h;exact h
 refine srx (mvx rfl (za rfl (zmv rfl rfl (by decide) (show (((r : Nat) : Int).tmod 64) = ((r % 64 : Nat) : Int) from by rw [Int.tmod_eq_emod_of_nonneg (by omega)]; rfl) (za rfl (ow_conv Tryd.underlying84 Tryd.underlying3 rfl (xd (by omega)) (za rfl (ow_shl rfl rfl (by omega) (zxv (Nat.mod_lt _ (by decide))) (anx rfl (srx (za rfl (zkx Tryd.underlying28 sz3 zr3 ?_)))))))))))
 rintro g0 wA B0 hA G0;have EA := Ext.of_below hA No;refine mvx rfl (za rfl (ow_appendE Tryd.underlying28 ou rfl (by decide) rfl rfl (hrd EA) natV_one (by unfold maxLen; omega) (by omega) ?_));rintro A1 c1 wB hB hO;have EB := Ext.of_below hB No;have O1 : wB.ownsRow w.heap.size 3 1 (.slice A1 D.length c1) D.length (natV D) := by
  rcases hO with ⟨h1, rfl, rfl, h2⟩ | h
  · rw [h1, h2];exact ⟨rfl, Or.inr ⟨g0, 0, #[], rfl, G0, B0.ext EB (fun h => h.elim), Nat.le_refl _, Nat.zero_le _, rfl, rfl⟩⟩
  · exact vw h EA.size
 have EAB : Ext (SprX gs w.heap.size) w wB := (EA.mono (Y := SprX gs w.heap.size) (fun _ h _ => h.elim)).step EB (fun _ h => h.elim);have R1 := (hR.ext EA (fun h => h.elim) (fun _ _ h => h.elim)).ext EB (fun h => h.elim) (fun _ _ h => h.elim);have hpw : 2 ^ (r % 64) < 2 ^ 64 := Nat.pow_lt_pow_right (by decide) (Nat.mod_lt _ (by decide))
 refine anx rfl (yb (qu (ι := List Nat × Option Addr × Nat × List (List Nat)) (fun (T, A, c, W) => [(0, .slice (some ⟨go, 0, none⟩) N N), (1, .slice (some ⟨gb, 0, none⟩) N cb), (2, .slice A T.length c), (3, .int .i64 ((r : Nat) : Int)), (8, .int .u64 ((2 ^ (r % 64) : Nat) : Int))]) (fun (T, A, c, W) w' => Ext (SprX gs w.heap.size) w w' ∧ RowsB 55 35 b0 w' go N n gs W ∧ W.length = N ∧ w'.ownsRow w.heap.size 3 1 (.slice A T.length c) T.length (natV T) ∧ SprI f B D r W0 W T ∧ T.length + xn N B W r ≤ 8796093022208) (fun (T, _, _, W) => T.length + xn N B W r) (D, A1, c1, W0) ⟨rfl, rfl, rfl, rfl, rfl, trivial⟩ (⟨EAB, R1, hWl, O1, SprJ.begin hD h0, hK⟩) ?_))
 rintro ⟨T, A, c, W⟩ w2 ⟨hE, hRW, hWl2, hO, hS, hM⟩;refine zp (srx (mvx rfl (za rfl (yw Tryd.underlying28 rfl (za rfl (xb rfl rfl (rnx (zr rfl (fun hi => ?_) (fun hi => ?_)))))))))
 ·
  have hi := of_decide_eq_true hi;obtain ⟨T', at_, hT⟩ : ∃ T' a, T = T' ++ [a] := ⟨T.dropLast, T.getLast (fun e => by rw [e] at hi; exact absurd hi (by decide)), (List.dropLast_concat_getLast _).symm⟩;have hTl : T.length = T'.length + 1 := by rw [hT, List.length_append]; rfl
  rw [hTl, hT] at hO;obtain ⟨gt, hAe, hgt, hgl, hct⟩ := jm hO (by omega);rw [hAe] at hO;have hle := owns_le hO;have O2 := owns_cut hO;rw [natV_take] at O2;have hat : at_ < N := hNl (hS.soundT at_ (by rw [hT]; simp));obtain ⟨gw, hgw, hrow, hbw, h64, hcw⟩ := hRW.get (i := at_) (by omega);have hw : (W.getD at_ [])[r / 64]? = some ((W.getD at_ []).getD (r / 64) 0) := by
   rw [List.getD_eq_getElem?_getD (i := r / 64), List.getElem?_eq_getElem (by rw [h64.1]; omega)]; rfl
  have hw64 : (W.getD at_ []).getD (r / 64) 0 < 2 ^ 64 := h64.get
  refine zy 2 (.slice (some ⟨gt, 0, none⟩) (T'.length + 1) c) rfl ((by rw [hTl, hAe] : (.slice A T.length c : Value) = _)) (zq (zh (yb (srx (mvx rfl (mvx rfl (za rfl (yw Tryd.underlying28 rfl (za rfl (zmk rfl rfl (yg (by omega)) (za rfl (zk (j := T'.length) Tryd.underlying28 sz3 rfl rfl (by omega) (by omega) (za rfl (zt Tryd.underlying3 rfl rfl (by rw [Nat.zero_add]; exact hct T'.length _ (natV_at (a := at_) (by simp))) (anx rfl (srx (mvx rfl (mvx rfl (za rfl (yw Tryd.underlying28 rfl (za rfl (zmk rfl rfl (yg (by omega)) (za rfl (ow_sliceH (h := T'.length) Tryd.underlying28 sz3 rfl rfl (by omega) (by omega) (anx rfl (zp (srx (mvx rfl (mvx rfl (za rfl (zk (j := at_) Tryd.underlying52 zhk rfl rfl rfl hat (za rfl (zt Tryd.underlying55 rfl rfl (by rw [Nat.zero_add]; exact hcw) (mvx rfl (za rfl (xz rfl rfl (by decide) (show IntKind.i64.wrap (((r : Nat) : Int).tdiv 64) = ((r / 64 : Nat) : Int) from by rw [Int.tdiv_eq_ediv_of_nonneg (by omega)]; exact yg (by omega)) (za rfl (zk (j := r / 64) Tryd.underlying55 zax rfl rfl rfl (by omega) (za rfl (zg Tryd.underlying35 rfl rfl hbw (km hw) (mvx rfl (za rfl (kp rfl rfl (ot hw64 hpw) (za rfl (vb rfl rfl (yc ?_))))))))))))))))))))))))))))))))))))))))))))))
  refine zh (zy 42 (.bool (vj W at_ r)) rfl ((by rw [yak]; rfl : (.bool ((((W.getD at_ []).getD (r / 64) 0 &&& 2 ^ (r % 64) : Nat) : Int) != 0) : Value) = _)) ?_);have hMT : T'.length + 1 + xn N B W r ≤ 8796093022208 := by omega
  refine zr rfl (fun hb => ?_) (fun hb => ?_)
  ·
   refine qe (zm (ya ?_));exact yt (T', some ⟨gt, 0, none⟩, c, W) (by show T'.length + xn N B W r < T.length + xn N B W r; omega) ⟨rfl, rfl, rfl, rfl, rfl, trivial⟩ (⟨hE, hRW, hWl2, O2, SprJ.pop (hT ▸ hS) hb, by omega⟩)
  ·
   have hU := unset_set (B := B) (zix hRW hWl2) hat hr hb;have hS0 := SprJ.set (hT ▸ hS) (zix hRW hWl2) hat hr;have hlv := hS.soundT at_ (by rw [hT]; simp);refine zq (zh (zp (kr je (kt 17 rfl ?_))));refine vv (No) Mut.none_ [] [] (kl [Fx.of (.slice (some ⟨go, 0, none⟩) N N),
    Fx.of (.int .i64 ((at_ : Nat) : Int)),
    Fx.of (.pointer (some ⟨go, 0 + at_, none⟩)),
    Fx.of (.slice (some ⟨gw, 0, none⟩) n n),
    Fx.of (.int .i64 ((r : Nat) : Int)),
    Fx.of (.int .i64 ((r / 64 : Nat) : Int)),
    Fx.of (.slice (some ⟨go, 0, none⟩) N N),
    Fx.of (.int .i64 ((at_ : Nat) : Int)),
    Fx.of (.pointer (some ⟨go, 0 + at_, none⟩)),
    Fx.of (.slice (some ⟨gw, 0, none⟩) n n),
    Fx.of (.int .i64 ((r : Nat) : Int)),
    Fx.of (.int .i64 ((r / 64 : Nat) : Int)),
    Fx.of (.pointer (some ⟨gw, 0 + r / 64, none⟩)),
    Fx.of (.int .u64 (((W.getD at_ []).getD (r / 64) 0 : Nat) : Int)),
    Fx.of (.int .u64 ((2 ^ (r % 64) : Nat) : Int)),
    Fx.of (.int .u64 (((W.getD at_ []).getD (r / 64) 0 ||| 2 ^ (r % 64) : Nat) : Int)),
    Fx.of (.pointer (some ⟨gw, 0 + r / 64, none⟩))]) rfl trivial (fun _ h => by cases h) ?_ ?_
   · refine ⟨?_, ?_, ?_, ?_, ?_, ?_, ?_, ?_, ?_, ?_, ?_, ?_, ?_, ?_, ?_, ?_, ?_, trivial⟩
     · intro vs X wq K;exact zl rfl ⟨Below.refl _ _, Left.of rfl⟩
     · intro vs X wq K;exact zl rfl ⟨Below.refl _ _, Left.of rfl⟩
     · intro vs X wq K;obtain ⟨_, e0, k0⟩ := K.dep 0 rfl rfl rfl;refine zd 43 (.slice (some ⟨go, 0, none⟩) N N) rfl e0 ?_;obtain ⟨_, e1, k1⟩ := K.dep 1 rfl rfl rfl;refine zd 44 (.int .i64 ((at_ : Nat) : Int)) rfl e1 ?_;exact zk (j := at_) Tryd.underlying52 zhk rfl rfl rfl hat ⟨Below.refl _ _, Left.of rfl⟩
     · intro vs X wq K;have LE := K.1;obtain ⟨_, e2, k2⟩ := K.dep 2 rfl rfl rfl;refine zd 45 (.pointer (some ⟨go, 0 + at_, none⟩)) rfl e2 ?_;exact zt Tryd.underlying55 rfl rfl (by rw [Nat.zero_add]; exact js LE hcw) ⟨Below.refl _ _, Left.of rfl⟩
     · intro vs X wq K;exact zl rfl ⟨Below.refl _ _, Left.of rfl⟩
     · intro vs X wq K;obtain ⟨_, e4, k4⟩ := K.dep 4 rfl rfl rfl;refine zd 47 (.int .i64 ((r : Nat) : Int)) rfl e4 ?_;exact xz rfl rfl (by decide) (show IntKind.i64.wrap (((r : Nat) : Int).tdiv 64) = ((r / 64 : Nat) : Int) from by rw [Int.tdiv_eq_ediv_of_nonneg (by omega)]; exact yg (by omega)) ⟨Below.refl _ _, Left.of rfl⟩
     · intro vs X wq K;exact zl rfl ⟨Below.refl _ _, Left.of rfl⟩
     · intro vs X wq K;exact zl rfl ⟨Below.refl _ _, Left.of rfl⟩
     · intro vs X wq K;obtain ⟨_, e6, k6⟩ := K.dep 6 rfl rfl rfl;refine zd 49 (.slice (some ⟨go, 0, none⟩) N N) rfl e6 ?_;obtain ⟨_, e7, k7⟩ := K.dep 7 rfl rfl rfl;refine zd 50 (.int .i64 ((at_ : Nat) : Int)) rfl e7 ?_;exact zk (j := at_) Tryd.underlying52 zhk rfl rfl rfl hat ⟨Below.refl _ _, Left.of rfl⟩
     · intro vs X wq K;have LE := K.1;obtain ⟨_, e8, k8⟩ := K.dep 8 rfl rfl rfl;refine zd 51 (.pointer (some ⟨go, 0 + at_, none⟩)) rfl e8 ?_;exact zt Tryd.underlying55 rfl rfl (by rw [Nat.zero_add]; exact js LE hcw) ⟨Below.refl _ _, Left.of rfl⟩
     · intro vs X wq K;exact zl rfl ⟨Below.refl _ _, Left.of rfl⟩
     · intro vs X wq K;obtain ⟨_, e10, k10⟩ := K.dep 10 rfl rfl rfl;refine zd 53 (.int .i64 ((r : Nat) : Int)) rfl e10 ?_;exact xz rfl rfl (by decide) (show IntKind.i64.wrap (((r : Nat) : Int).tdiv 64) = ((r / 64 : Nat) : Int) from by rw [Int.tdiv_eq_ediv_of_nonneg (by omega)]; exact yg (by omega)) ⟨Below.refl _ _, Left.of rfl⟩
     · intro vs X wq K;obtain ⟨_, e9, k9⟩ := K.dep 9 rfl rfl rfl;refine zd 52 (.slice (some ⟨gw, 0, none⟩) n n) rfl e9 ?_;obtain ⟨_, e11, k11⟩ := K.dep 11 rfl rfl rfl;refine zd 54 (.int .i64 ((r / 64 : Nat) : Int)) rfl e11 ?_;exact zk (j := r / 64) Tryd.underlying55 zax rfl rfl rfl (by omega) ⟨Below.refl _ _, Left.of rfl⟩
     · intro vs X wq K;have LE := K.1;obtain ⟨_, e12, k12⟩ := K.dep 12 rfl rfl rfl;refine zd 55 (.pointer (some ⟨gw, 0 + r / 64, none⟩)) rfl e12 ?_;exact zg Tryd.underlying35 rfl rfl (vr LE hbw) (km hw) ⟨Below.refl _ _, Left.of rfl⟩
     · intro vs X wq K;exact zl rfl ⟨Below.refl _ _, Left.of rfl⟩
     · intro vs X wq K;obtain ⟨_, e13, k13⟩ := K.dep 13 rfl rfl rfl;refine zd 56 (.int .u64 (((W.getD at_ []).getD (r / 64) 0 : Nat) : Int)) rfl e13 ?_;obtain ⟨_, e14, k14⟩ := K.dep 14 rfl rfl rfl;refine zd 57 (.int .u64 ((2 ^ (r % 64) : Nat) : Int)) rfl e14 ?_;exact ow_or rfl rfl (or_u64 hw64 hpw) ⟨Below.refl _ _, Left.of rfl⟩
     · intro vs X wq K;obtain ⟨_, e3, k3⟩ := K.dep 3 rfl rfl rfl;refine zd 46 (.slice (some ⟨gw, 0, none⟩) n n) rfl e3 ?_;obtain ⟨_, e5, k5⟩ := K.dep 5 rfl rfl rfl;refine zd 48 (.int .i64 ((r / 64 : Nat) : Int)) rfl e5 ?_;exact zk (j := r / 64) Tryd.underlying55 zax rfl rfl rfl (by omega) ⟨Below.refl _ _, Left.of rfl⟩
   intro vs w3 LE AO AL AF AA;have hbd : Below (w2).heap.size (w2) w3 := (((Ext.refl No (w2)).drew).trans LE).toBelow;obtain ⟨_, e15, k15⟩ := AL.2.2.2.2.2.2.2.2.2.2.2.2.2.2.2.1;obtain ⟨_, e16, k16⟩ := AL.2.2.2.2.2.2.2.2.2.2.2.2.2.2.2.2.1
   refine vq (τ := [(0, _), (1, _), (2, _), (3, _), (8, _), (9, _), (58, .int .u64 (((W.getD at_ []).getD (r / 64) 0 ||| 2 ^ (r % 64) : Nat) : Int)), (59, .pointer (some ⟨gw, 0 + r / 64, none⟩))]) ⟨rfl, rfl, rfl, rfl, rfl, rfl, congrArg some e15, congrArg some e16, trivial⟩ ?_;clear AL AF AA AO;refine ol (ji (by kernel_rfl) (fun _ _ d_ _ _ h => by cases d_ <;> exact h) ?_)
   have hbn := Ext.of_below hbd No;have hbw2 := hbw.ext hbn (fun h => h.elim);refine zw (qi zax rfl rfl hbw2 rfl rfl (by rw [List.size_toArray, kd, h64.1]; omega) (show _ = (vp (setR (W.getD at_ []) r)).toArray from by unfold setR; rw [ox, Nat.zero_add, List.setIfInBounds_toArray]) ?_);rintro wD Bs Es;have hgm := List.mem_of_getElem? hgw
   have hRn := hRW.ext hbn (fun h => h.elim) (fun _ _ h => h.elim);have R2 : RowsB 55 35 b0 wD go N n gs (zaq W at_ r) := hRn.put hgw Bs (zqx h64) Es;have O3 := hRn.owns hgm (qf O2 hbn (fun _ _ h => h.elim)) (by decide) Es;have hE3 := (hE.step hbn (fun _ h => h.elim)).step Es (fun k hk => Or.inl (Or.inl (by have h := qt hk; exact h ▸ hgm)))
   obtain ⟨row, hrow⟩ : ∃ row, row = B.getD at_ [] := ⟨_, rfl⟩;have hrowB : B[at_]? = some row := by rw [hrow, List.getD_eq_getElem?_getD, List.getElem?_eq_getElem (by omega)]; rfl
   rw [← hrow] at hU
   refine rnx (srx (anx rfl (yb (qu (ι := Nat × List Nat × Option Addr × Nat) (fun (k, S, A3, c3) => [(0, .slice (some ⟨go, 0, none⟩) N N), (1, .slice (some ⟨gb, 0, none⟩) N cb), (2, .slice A3 S.length c3), (3, .int .i64 ((r : Nat) : Int)), (8, .int .u64 ((2 ^ (r % 64) : Nat) : Int)), (9, .int .i64 ((at_ : Nat) : Int)), (10, .int .i64 ((k : Nat) : Int))]) (fun (k, S, A3, c3) w' => Ext (SprX gs w.heap.size) w w' ∧ RowsB 55 35 b0 w' go N n gs (zaq W at_ r) ∧ w'.ownsRow w.heap.size 3 1 (.slice A3 S.length c3) S.length (natV S) ∧ SprJ f B D r W0 (zaq W at_ r) S (fun a j => a = at_ ∧ k ≤ j) ∧ k ≤ row.length ∧ S.length + (row.length - k) + xn N B (zaq W at_ r) r ≤ T'.length + xn N B W r) (fun (k, _) => row.length - k) (0, T', some ⟨gt, 0, none⟩, c) ⟨rfl, rfl, rfl, rfl, rfl, rfl, rfl, trivial⟩ (⟨hE3, R2, O3, hS0, Nat.zero_le _, by omega⟩) ?_))))
   rintro ⟨k, S, A3, c3⟩ w5 ⟨hEk, hRk, hOk, hSk, hkl, hMk⟩;have hBk : BacksA w.heap.size w5 (some ⟨gb, 0, none⟩) B := hBA.lowU (hR.lowU hEk);obtain ⟨gb', ob, hbe, hgb, C, cC, hrowA, hcC⟩ := RowS.at hBk hrowB;cases hbe
   refine zp (srx (mvx rfl (mvx rfl (mvx rfl (za rfl (zk (j := at_) Tryd.underlying75 sz78 rfl rfl rfl hat (za rfl (zt Tryd.underlying78 rfl rfl (by rw [Nat.mul_one] at hcC; exact hcC) (za rfl (yw Tryd.underlying78 rfl (za rfl (yy rfl rfl (rnx (zr rfl (fun hk => ?_) (fun hk => ?_)))))))))))))))
   ·
    have hk := of_decide_eq_true hk;have hklt : k < row.length := by omega
    obtain ⟨x, hx⟩ : ∃ x, row[k]? = some x := ⟨_, List.getElem?_eq_getElem hklt⟩;obtain ⟨g2, o2, hCe, hg2, Cw, cw, hIw, hcx⟩ := RowS.at hrowA hx
    refine zq (zh (zp (yb (srx (mvx rfl (mvx rfl (za rfl (zk (j := at_) Tryd.underlying75 sz78 rfl rfl rfl hat (za rfl (zt Tryd.underlying78 rfl rfl (by rw [Nat.mul_one] at hcC; exact hcC) (mvx rfl (za rfl (yi (j := k) Tryd.underlying78 sz82 (congrArg (fun z ↦ some (Value.slice z row.length cC)) hCe) rfl rfl hklt (za rfl (zb Tryd.underlying82 rfl gu (by decide) rfl (za rfl (zt Tryd.underlying28 rfl rfl (hcx 1 _ rfl) (mvx rfl (za rfl (yf en48 rfl ((has_any _ Cw cw w.heap.size x.2 hIw ((r : Nat) : Int)).mono ?_)))))))))))))))))))))
    rintro e w6 ⟨rfl, hb⟩;refine ⟨_, rfl, ?_⟩;have eh := Ext.of_below hb No;have hR4 := hRk.ext eh (fun h => h.elim) (fun _ _ h => h.elim);have O4 := qf hOk eh (fun _ _ h => h.elim);have hE4 := hEk.step eh (fun _ h => h.elim);refine za rfl (jg rfl (rnx (zr rfl (fun hh => ?_) (fun hh => ?_))))
    ·
     have hh : ((r : Nat) : Int) ∉ x.2 := by simpa using hh
     have hB4 : BacksA w.heap.size w6 (some ⟨gb, 0, none⟩) B := hBA.lowU (hR.lowU hE4);obtain ⟨gb', ob, hbe, hgb, C, cC, hrowA, hcC⟩ := RowS.at hB4 hrowB;cases hbe
     obtain ⟨g2, o2, hCe, hg2, Cw, cw, hIw, hcx⟩ := RowS.at hrowA hx
     refine zj (mvx rfl (mvx rfl (mvx rfl (za rfl (zk (j := at_) Tryd.underlying75 sz78 rfl rfl rfl hat (za rfl (zt Tryd.underlying78 rfl rfl (by rw [Nat.mul_one] at hcC; exact hcC) (mvx rfl (za rfl (yi (j := k) Tryd.underlying78 sz82 (congrArg (fun z ↦ some (Value.slice z row.length cC)) hCe) rfl rfl hklt (za rfl (zb Tryd.underlying82 rfl sz3 (by decide) rfl (za rfl (zt Tryd.underlying3 rfl rfl (hcx 0 _ rfl) (za rfl (yl (cs := #[.int .i64 ((x.1 : Nat) : Int)]) Tryd.underlying28 sz3 zr3 (by decide) rfl (by rw [ym]; rfl) ?_))))))))))))))))
     rintro gy wE By E5 Gy;have O5 := qf O4 E5 (fun _ _ h => h.elim);have hR5 := hR4.ext E5 (fun h => h.elim) (fun _ _ h => h.elim);have hs5 := (hE4.step E5 (fun _ h => h.elim)).size
     refine za rfl (ju (xs' := natV (S ++ [x.1])) (n' := (S ++ [x.1]).length) Tryd.underlying28 ou rfl (by decide) rfl O5 rfl (vn By By.lt rfl) (by simp [Value.oneCell']) (by rw [List.length_append]; rfl) (natV_add S x.1) (by rw [List.length_append]; unfold maxLen; show S.length + 1 ≤ _; omega) (by rw [List.length_append]; show (S.length + 1) * 8 ≤ _; omega) hs5 ?_)
     rintro A2 c2 wF O6 E6 N6;refine avx rfl (yc (zf (zh (zj (mvx rfl (za rfl (qc rfl rfl (yg (by omega)) (avx rfl (yc ?_)))))))))
     exact yt (k + 1, S ++ [x.1], A2, c2) (by show row.length - (k + 1) < row.length - k; omega) ⟨rfl, rfl, rfl, rfl, rfl, rfl, rfl, trivial⟩ (⟨(hE4.step E5 (fun _ h => h.elim)).step E6 (fun q hq => Or.inl (Or.inr (ycv O5 q hq))), hR5.other O5 (by decide) (by decide) E6, O6, SprJ.push hBok hSk (by rw [← hrow]; exact hx) hh hlv, hklt, by rw [List.length_append]; show S.length + 1 + _ + _ ≤ _; omega⟩)
    ·
     have hh : ((r : Nat) : Int) ∈ x.2 := by simpa using hh
     refine zq (zf (zh (zj (mvx rfl (za rfl (qc rfl rfl (yg (by omega)) (avx rfl (yc ?_))))))));exact yt (k + 1, S, A3, c3) (by show row.length - (k + 1) < row.length - k; omega) ⟨rfl, rfl, rfl, rfl, rfl, rfl, rfl, trivial⟩ (⟨hE4, hR4, O4, SprJ.skip hSk (by rw [← hrow]; exact hx) hh, hklt, by omega⟩)
   ·
    have hk := of_decide_eq_false hk;have hke : k = row.length := by omega
    refine qe (zm (zm (ya (zf ?_))));exact yt (S, A3, c3, zaq W at_ r) (by show S.length + xn N B (zaq W at_ r) r < T.length + xn N B W r; omega) ⟨rfl, rfl, rfl, rfl, rfl, trivial⟩ (⟨hEk, hRk, by rw [zyz]; exact hWl2, hOk, SprJ.done hSk (by rw [← hrow]; omega), by omega⟩)
 ·
  have hi := of_decide_eq_false hi;have hT0 : T = [] := List.eq_nil_of_length_eq_zero (by omega);subst hT0;refine qe (zm (zm (ya (ew_end rfl ?_))));exact ⟨rfl, W, hRW, hWl2, hS.live hBok hD, hS.other, hE⟩
end
end Go.Proofs.YtppdgjlmeahimaaDoor
namespace Go.Proofs.YtppdgjlmeahimaaDoor
open Go.RowKit
set_option maxRecDepth 100000
attribute [local irreducible] OW RS
structure WaysA (lo n : Nat) (w : World) (A : Option Addr) (ws : List (Int × List Int)) : Prop where
 in_ : ∀ x ∈ ws, I64 x.1
 lo_ : ∀ q q', A = some ⟨q, q', none⟩ → lo ≤ q
 row : RowS n w 2 (fun w g o (x : Int × List Int) => ∃ B c, IntsA n w B x.2 ∧ (∀ q q', B = some ⟨q, q', none⟩ → lo ≤ q) ∧ zbx w g o [.int .i64 x.1, .slice B x.2.length c]) A ws
theorem WaysA.low {lo n : Nat} {X : Nat → Prop} {w w' : World} {A : Option Addr} {ws : List (Int × List Int)} (h : WaysA lo n w A ws) (k : Low n X w w') : WaysA lo n w' A ws := ⟨h.in_, h.lo_, h.row.low fun _ _ _ hg hc => by
 obtain ⟨B, c, h1, h3, h2⟩ := hc;exact ⟨B, c, h1.low k, h3, k.cells hg h2⟩⟩
def RetWays (w : World) (ws : List (Int × List Int)) : Ending → World → Prop := fun e w' => ∃ A c, e = .returned (.slice A ws.length c) ∧ WaysA w.heap.size w'.heap.size w' A ws ∧ Below w.heap.size w w'
def EncW (lo : Nat) (w : World) (vs : List Value) (ws : List (Int × List Int)) : Prop := ∀ (j : Nat) x, ws[j]? = some x → I64 x.1 ∧ ∃ B c, IntsA w.heap.size w B x.2 ∧ (∀ q q', B = some ⟨q, q', none⟩ → lo ≤ q) ∧ vs[2 * j]? = some (.int .i64 x.1) ∧ vs[2 * j + 1]? = some (.slice B x.2.length c)
theorem xu {lo : Nat} {w : World} {vs : List Value} : EncW lo w vs [] := fun j x h => by simp at h
theorem jc {lo : Nat} {w : World} {t : Int} {ws : List Int} {B : Option Addr} {c : Nat} {vs : List Value} {l : List (Int × List Int)} (h1 : I64 t) (h2 : IntsA w.heap.size w B ws) (hq : ∀ q q', B = some ⟨q, q', none⟩ → lo ≤ q) (h : EncW lo w vs l) : EncW lo w (.int .i64 t :: .slice B ws.length c :: vs) ((t, ws) :: l) := fun j x hj => by
 cases j with
 | zero =>
  simp only [List.getElem?_cons_zero, Option.some.injEq] at hj
  subst hj;exact ⟨h1, B, c, h2, hq, rfl, rfl⟩
 | succ j =>
  simp only [List.getElem?_cons_succ] at hj
  obtain ⟨h3, B', c', h4, h7, h5, h6⟩ := h j x hj;refine ⟨h3, B', c', h4, h7, ?_, ?_⟩
  · rw [show 2 * (j + 1) = 2 * j + 1 + 1 by omega]; simpa using h5
  · rw [show 2 * (j + 1) + 1 = 2 * j + 1 + 1 + 1 by omega]; simpa using h6
theorem yfk {w : World} {base n c size : Nat} {e : TypeId} {A : Option Addr} {xs : List Value} (h : w.ownsRow base e size (.slice A n c) n xs) (h0 : 0 < n) : ∃ g, A = some ⟨g, 0, none⟩ ∧ base ≤ g ∧ g < w.heap.size ∧ ∀ (j : Nat) u, xs[j]? = some u → w.cell? ⟨g, j, none⟩ = some u := by
 rcases h.2 with ⟨_, rfl⟩ | ⟨g, cap, cur, hv, hg, hh, hn, _, hs, ht⟩
 · omega
 · cases hv
   refine ⟨g, rfl, hg, (Array.getElem?_eq_some_iff.1 hh).1, fun j u hj => ?_⟩;unfold World.cell?;simp only [hh, Option.isSome_none, Bool.false_eq_true, if_false]
   rw [← ht, List.getElem?_take] at hj;split at hj
   · simpa using hj
   · cases hj
theorem xr {w w' : World} {ws : List (Int × List Int)} {n c : Nat} {A : Option Addr} {vs : List Value} {T : TypeId} (hn : n = ws.length) (ho : w'.ownsRow w.heap.size T 2 (.slice A n c) n vs) (hv : EncW w.heap.size w' vs ws) (hb : Below w.heap.size w w') : RetWays w ws (.returned (.slice A n c)) w' := by
 subst hn;refine ⟨A, c, rfl, ⟨fun x hx => ?_, fun q q' e => (by subst e; exact jj ho q rfl), fun h0 => ?_⟩, hb⟩
 · obtain ⟨j, hj, e⟩ := List.getElem_of_mem hx;exact (hv j x (by rw [← e]; exact List.getElem?_eq_getElem hj)).1
 · obtain ⟨g, rfl, _, hg, hc⟩ := yfk ho (by cases ws with | nil => exact absurd rfl h0 | cons => simp);refine ⟨g, 0, rfl, hg, fun j x hj => ?_⟩;obtain ⟨_, B, c', h1, h7, h2, h3⟩ := hv j x hj;refine ⟨B, c', h1, h7, fun i v hi => ?_⟩;rw [Nat.zero_add];cases i with
   | zero => simp at hi; subst hi; exact hc _ _ (by rw [show j * 2 + 0 = 2 * j by omega]; exact h2)
   | succ i =>
    cases i with
    | zero => simp at hi; subst hi; exact hc _ _ (by rw [show j * 2 + (0 + 1) = 2 * j + 1 by omega]; exact h3)
    | succ i => simp at hi
theorem IntsA.top {n : Nat} {w : World} {A : Option Addr} {xs : List Int} (h : IntsA n w A xs) : IntsA w.heap.size w A xs := ⟨h.len, h.in_, fun h0 => by
 obtain ⟨g, o, e, hg, hc⟩ := h.row h0;refine ⟨g, o, e, ?_, hc⟩;cases xs with
 | nil => exact absurd rfl h0
 | cons x xs => exact World.block_lt_of_cell? w _ (hc 0 x rfl)⟩
theorem zcz {n : Nat} {w : World} {A : Option Addr} : IntsA n w A [] := ⟨by simp, fun _ h => (by cases h), fun h => absurd rfl h⟩
theorem Per.intsO {X : Nat → Prop} {w : World} {base c : Nat} {A : Option Addr} {xs : List Int} (h : OwnsI w base A c xs) (hX : ∀ k, X k → k < base) (hl : 8 * xs.length ≤ 140737488355000) (hi : ∀ x ∈ xs, I64 x) : Per X w (fun b => IntsA w.heap.size b A xs) := fun z hz => ⟨hl, hi, fun h0 => by
 obtain ⟨g, rfl, hb, hg, hc⟩ := jm h (by cases xs with | nil => exact absurd rfl h0 | cons => simp);refine ⟨g, 0, rfl, hg, fun j x hj => ?_⟩;have h1 := hc j (.int .i64 x) (by unfold yz; rw [List.getElem?_map, hj]; rfl);rw [Nat.zero_add, Nat.mul_one];exact (hz.cell hg (fun hx => by have := hX g hx; omega)).trans h1⟩
theorem zfz {f : LFn} {at_ : Nat} {x : LIns} {l : List Int} (h : jn f at_ x = none) (hg : yo x (at_ : Int) = l) : vg f at_ x = ja x l := by
 unfold vg zkv; rw [h, hg]; simp
theorem zfx {f : LFn} {at_ k : Nat} {x : LIns} {r : LReg} {l : List Int} (h : jn f at_ x = some k) (hr : f.rgs[k]? = some r) (hg : yo x (at_ : Int) = l) : vg f at_ x = ja x l ++ [(r.tg, [r.d])] := by
 unfold vg zkv; rw [h, hg]; simp [hr]
theorem goes_cases (i : LIns) (z : Int) : yo i z = [] ∨ (∃ t, yo i z = [t]) ∨ ∃ t u, yo i z = [t, u] := by
 have h := zck i z;cases hg : yo i z with
 | nil => exact Or.inl rfl
 | cons t l =>
  cases l with
  | nil => exact Or.inr (Or.inl ⟨t, rfl⟩)
  | cons u l =>
   rw [hg] at h;cases l with
   | nil => exact Or.inr (Or.inr ⟨t, u, rfl⟩)
   | cons => simp at h
theorem Per.cellsA {n : Nat} {X : Nat → Prop} {w : World} {g o : Nat} {cs : List Value} (h : zbx w g o cs) (hg : g < n) (hX : ∀ k, X k → n ≤ k) : Per X w (fun z => zbx z g o cs) := fun _ hb => Low.cells (n := n) ⟨hb, hX⟩ hg h
section
variable (w : World) (p : Pl) (f : LFn) (n0 : Nat) (hF : FnA n0 w p f)
include hF
theorem rways_any (at_ : Nat) (x : LIns) (hx : f.ins[at_]? = some x) : Calls Tryd.prog 42 #[fnV p f, .int .i64 ((at_ : Nat) : Int)] w (RetWays w (vg f at_ x)) := by
 have hlt := (List.getElem?_eq_some_iff.1 hx).1;have hrl := hF.rgs.len;have hil := hF.ins.len;have hn := hF.size;refine qs Tryd.func42 rfl Tryd.ntmps42 rfl ?_;have HF : Per (No) w (fun _ => True) := Per.true_;have LW := erx (No) w;have XLW := grx (No) w;have E := erx (No) w;replace HF := HF.on E;replace LW := LW.step E XLW;replace E := erx (No) w
 replace HF := HF.and (Per.fnA hF (fun _ h => h.elim));refine srx (za rfl (vk rfl ?_));intro gb1 w2 Bb1 Eb1 Gb1;have Gb1 : _ ≤ gb1 := Nat.le_trans E.size Gb1;have GLb1 := Nat.le_trans LW.size Gb1;replace E := E.trans Eb1.no;replace HF := HF.cons (zz Gb1);replace E := E.cons (some gb1);replace XLW := Mut.grow XLW (fun k e => Or.inr (Nat.le_trans LW.size ((zz Gb1) k e)))
 replace HF := HF.on E;replace LW := LW.step E XLW;have SB : ∀ q9, No q9 → Mut [(some gb1)] q9 := (Mut.skip Mut.nil_);replace HF := HF.less SB;replace XLW := fun k h => XLW k (SB k h);clear SB;replace E := erx (No) w2;replace HF := HF.and (Per.blkN Bb1 NotIn.nil);refine anx rfl (zp (srx (mvx rfl (za rfl (yy rfl rfl (mvx rfl (yx 13 rfl (fun h1 => ?_) (fun h1 => ?_))))))))
 ·
  replace h1 := of_decide_eq_true h1;refine za rfl (zc rfl (za rfl (zc rfl (za rfl (zc rfl (za rfl (zc rfl (za rfl (zc rfl (za rfl (zx rfl rfl (rnx (yr rfl (srx (anx rfl (zv (ze (zu (rs := [.tmp 4]) (vs := [_]) rfl ⟨rfl, trivial⟩ ?_))))))))))))))))));exfalso; omega
 replace h1 := of_decide_eq_false h1;refine onx rfl (zl rfl (onx rfl (zb Tryd.underlying27 rfl gz (by decide) rfl (onx rfl (zg Tryd.underlying24 rfl rfl (HF.on E).here.2 rfl (onx rfl (yw Tryd.underlying24 rfl (onx rfl (jd rfl rfl (za rfl (yd rfl rfl (rnx (zr rfl (fun h2 => ?_) (fun h2 => ?_))))))))))))))
 ·
  refine zy 19 (.bool true) rfl (congrArg Value.bool h2) ?_;replace h2 := of_decide_eq_true h2;refine srx (anx rfl (zv (ze (zu (rs := [.tmp 4]) (vs := [_]) rfl ⟨rfl, trivial⟩ ?_))));exfalso; omega
 refine zy 19 (.bool false) rfl (congrArg Value.bool h2) ?_;replace h2 := of_decide_eq_false h2;refine zq (zh (srx (za rfl (zb Tryd.underlying27 rfl gz (by decide) rfl (za rfl (zg Tryd.underlying24 rfl rfl (HF.on E).here.2 rfl (mvx rfl ?_)))))));obtain ⟨g, o, hA, hg, hc⟩ := ((HF.on E).here.1.2).ins.row.at hx;obtain ⟨hI, B, cB, hcB, hl, hcells⟩ := hc
 have hwl := zmx hl;have hwi := zhv hI hl;replace HF := HF.on E;replace LW := LW.step E XLW;replace E := erx (No) w2;replace HF := HF.and (Per.ints hl (fun _ h => h.elim))
 refine za rfl (yi (j := at_) Tryd.underlying24 vx (congrArg (fun z ↦ some (Value.slice z f.ins.length p.ci)) hA) rfl rfl hlt (za rfl (jb (cs := (jr x B cB).toArray) Tryd.underlying41 rfl vx rfl rfl (fun j v hj ↦ hcells j v (by simpa using hj)) (za rfl (qb zpk ?_)))));intro gb3 w4 Bb3 Eb3 Gb3;have Gb3 : _ ≤ gb3 := Nat.le_trans E.size Gb3
 have GLb3 := Nat.le_trans LW.size Gb3;replace E := E.trans Eb3.no;replace HF := HF.cons (zz Gb3);replace E := E.cons (some gb3);replace XLW := Mut.grow XLW (fun k e => Or.inr (Nat.le_trans LW.size ((zz Gb3) k e)));refine zw (qz vx rfl rfl Bb3 rfl rfl rfl ?_);intro w5 Bx Eb3
 replace Bb3 : Blk w5 gb3 41 #[.int .i64 x.op, .int .i64 x.d, .int .i64 x.a, .int .i64 x.b, .int .i64 x.t, .int .i64 x.k, .slice B x.l.length cB] := Bx;replace E := E.step1 Eb3 Mut.head;replace HF := HF.on E;replace LW := LW.step E XLW;have SB : ∀ q9, No q9 → Mut [(some gb3)] q9 := (Mut.skip Mut.nil_);replace HF := HF.less SB;replace XLW := fun k h => XLW k (SB k h);clear SB
 replace E := erx (No) w5;replace HF := HF.and (Per.blkN Bb3 NotIn.nil);refine rnx (srx (za rfl (zo Tryd.underlying41 rfl vx rfl (HF.on E).here.2 rfl (mvx rfl (za rfl (yf en30 rfl ((ycz _ x B cB ((at_ : Nat) : Int) (by unfold I64; omega)).mono ?_)))))));rintro e w6 ⟨Ag, cg, rfl, og, hb⟩;refine ⟨_, rfl, ?_⟩;replace E := blx E hb
 have hgi := zzk hI (z := ((at_ : Nat) : Int)) (by unfold I64; omega);replace HF := HF.on E;replace LW := LW.step E XLW;replace E := erx (No) w6;replace HF := HF.and (Per.ints (OwnsI.ints og (by have := zck x ((at_ : Nat) : Int); omega) hgi) (fun _ h => h.elim));have Ol : World.ownsRow w6 w.heap.size 80 2 (.slice none 0 0) 0 ([]) := vi;replace HF := HF.cons (zjq)
 replace E := E.cons ((Value.slice none 0 0).ownBlock);replace XLW := Mut.grow XLW (fun k e => Or.inr (Nat.le_trans LW.size ((zjq) k e)));by_cases h0 : yo x ((at_ : Nat) : Int) = []
 ·
  have hgo := h0
  refine qr 27 (.slice Ag 0 cg) rfl ((by rw [hgo]; rfl : (.slice Ag (yo x ((at_ : Nat) : Int)).length cg : Value) = _)) (anx rfl (srx (anx rfl (zp (srx (anx rfl (yb (yeq (zp (srx (mvx rfl (mvx rfl (za rfl (yw Tryd.underlying28 rfl (za rfl (yy rfl rfl (rnx (qp rfl (qe (zm (zm (ya (zh (zp (srx (za rfl (zo Tryd.underlying27 rfl jp rfl (HF.on E).here.1.1.1.2 rfl (mvx rfl (za rfl (yf en47 rfl ((oh _ p f n0 (HF.on E).here.1.1.1.1.2 at_ x hx).mono ?_)))))))))))))))))))))))))))))))
  rintro e w7 ⟨rfl, hb⟩;refine ⟨_, rfl, ?_⟩;have Ec := Ext.of_below hb No;replace Ol := qd Ol Ec NotIn.nil;replace E := E.trans Ec.no;by_cases hh : jn f at_ x = none
  ·
   refine qr 55 (.int .i64 (-1)) rfl ((by rw [zlx hh] : (.int .i64 (zgq f at_ x) : Value) = _)) (anx rfl (srx (mvx rfl (za rfl (jd rfl rfl (rnx (qp rfl (zq (zh (srx (mvx rfl (anx rfl (zv ?_)))))))))))));have ew := zfz hh hgo;refine zu (rs := [.tmp 4]) (vs := [_]) rfl ⟨rfl, trivial⟩ ?_
   exact xr (by rw [ew]; rfl) Ol (by rw [ew, show ja x [] = [] from rfl]; exact id xu ) (LW.step E XLW).toBelow
  ·
   obtain ⟨kk, hkk⟩ : ∃ kk, jn f at_ x = some kk := by
    cases hz : jn f at_ x with
    | none => exact absurd hz hh
    | some kk => exact ⟨kk, rfl⟩
   obtain ⟨r, hr⟩ := zak hkk;have hkr := (List.getElem?_eq_some_iff.1 hr).1;refine qr 55 (.int .i64 ((kk : Nat) : Int)) rfl ((by rw [zik hkk] : (.int .i64 (zgq f at_ x) : Value) = _)) (anx rfl (srx (mvx rfl (za rfl (jd rfl rfl (rnx (zr rfl (fun h5 => ?_) (fun h5 => ?_))))))))
   ·
    obtain ⟨gr, ro, hA2, hgr, hcr⟩ := ((HF.on E).here.1.1.1.1.2).rgs.row.at hr;have hri := ((HF.on E).here.1.1.1.1.2).rgs.in_ r (List.mem_of_getElem? hr);have ew := zfx hkk hr hgo;replace HF := HF.on E;replace LW := LW.step E XLW;replace E := erx (Mut [((Value.slice none 0 0).ownBlock)]) w7
    replace HF := HF.and (Per.cellsA hcr hgr (fun k h => by rcases h with h | h | h | h | h <;> first | exact h.elim | exact Nat.le_trans hn (jj Ol k h.symm) | (have := Option.some.inj h; omega)));have OY : ∀ q9, (Mut (znx [])) q9 → q9 < (World.drew w7).heap.size → (Mut [((Value.slice none 0 0).ownBlock)]) q9 := fun k h _ => (Mut.none_) k h;refine kr je (kt 16 rfl ?_)
    refine vv (Mut [((Value.slice none 0 0).ownBlock)]) (Mut.grow Mut.none_ (qy Ol)) [] [] (kl [Fx.of (.slice none 0 0),
     Fx.of (.pointer (some ⟨gb1, 9, none⟩)),
     Fx.of (.slice p.ar f.rgs.length p.cr),
     Fx.of (.int .i64 ((kk : Nat) : Int)),
     Fx.of (.pointer (some ⟨gr, ro + kk * 4, none⟩)),
     Fx.of (.pointer (some ⟨gr, ro + kk * 4 + 2, none⟩)),
     Fx.of (.int .i64 r.tg),
     Fx.of (.pointer (some ⟨gb1, 9, none⟩)),
     Fx.of (.slice p.ar f.rgs.length p.cr),
     Fx.of (.int .i64 ((kk : Nat) : Int)),
     Fx.of (.pointer (some ⟨gr, ro + kk * 4, none⟩)),
     Fx.of (.pointer (some ⟨gr, ro + kk * 4 + 3, none⟩)),
     Fx.of (.int .i64 r.d),
     ⟨Nat, fun gs => .slice (some ⟨gs, 0, none⟩) 1 1, fun gs b => (Blk b gs 3 #[.int .i64 r.d] ∧ w.heap.size ≤ gs)⟩,
     ⟨Nat, fun gs => .agg #[.int .i64 r.tg, .slice (some ⟨gs, 0, none⟩) 1 1], fun gs b => (Blk b gs 3 #[.int .i64 r.d] ∧ w.heap.size ≤ gs)⟩,
     ⟨(Nat × Nat), fun (gh, gs) => .slice (some ⟨gh, 0, none⟩) 1 1, fun (gh, gs) b => (Blk b gh 80 #[.int .i64 r.tg, .slice (some ⟨gs, 0, none⟩) 1 1] ∧ Blk b gs 3 #[.int .i64 r.d] ∧ w.heap.size ≤ gs)⟩]) rfl trivial (fun _ h => by cases h) ?_ ?_
    · refine ⟨?_, ?_, ?_, ?_, ?_, ?_, ?_, ?_, ?_, ?_, ?_, ?_, ?_, ?_, ?_, ?_, trivial⟩
      · intro vs X wq K;exact zl rfl ⟨Below.refl _ _, Left.of rfl⟩
      · intro vs X wq K;exact zb Tryd.underlying27 rfl ko (by decide) rfl ⟨Below.refl _ _, Left.of rfl⟩
      · intro vs X wq K;have LE := K.1;obtain ⟨_, e1, k1⟩ := K.dep 1 rfl rfl rfl;refine zd 59 (.pointer (some ⟨gb1, 9, none⟩)) rfl e1 ?_;exact zg Tryd.underlying25 rfl rfl (HF.on (E.drew.trans (LE.mono OY))).here.1.1.1.1.2 rfl ⟨Below.refl _ _, Left.of rfl⟩
      · intro vs X wq K;exact zl rfl ⟨Below.refl _ _, Left.of rfl⟩
      · intro vs X wq K;obtain ⟨_, e2, k2⟩ := K.dep 2 rfl rfl rfl;refine zd 60 (.slice p.ar f.rgs.length p.cr) rfl e2 ?_;obtain ⟨_, e3, k3⟩ := K.dep 3 rfl rfl rfl;refine zd 61 (.int .i64 ((kk : Nat) : Int)) rfl e3 ?_;exact yi (j := kk) Tryd.underlying25 ku (congrArg (fun z ↦ some (Value.slice z f.rgs.length p.cr)) hA2) rfl rfl hkr ⟨Below.refl _ _, Left.of rfl⟩
      · intro vs X wq K;obtain ⟨_, e4, k4⟩ := K.dep 4 rfl rfl rfl;refine zd 62 (.pointer (some ⟨gr, ro + kk * 4, none⟩)) rfl e4 ?_;exact zb Tryd.underlying50 rfl sz3 (by decide) rfl ⟨Below.refl _ _, Left.of rfl⟩
      · intro vs X wq K;have LE := K.1;obtain ⟨_, e5, k5⟩ := K.dep 5 rfl rfl rfl;refine zd 63 (.pointer (some ⟨gr, ro + kk * 4 + 2, none⟩)) rfl e5 ?_;exact zt Tryd.underlying3 rfl rfl ((HF.on (E.drew.trans (LE.mono OY))).here.2 2 _ rfl) ⟨Below.refl _ _, Left.of rfl⟩
      · intro vs X wq K;exact zb Tryd.underlying27 rfl ko (by decide) rfl ⟨Below.refl _ _, Left.of rfl⟩
      · intro vs X wq K;have LE := K.1;obtain ⟨_, e7, k7⟩ := K.dep 7 rfl rfl rfl;refine zd 65 (.pointer (some ⟨gb1, 9, none⟩)) rfl e7 ?_;exact zg Tryd.underlying25 rfl rfl (HF.on (E.drew.trans (LE.mono OY))).here.1.1.1.1.2 rfl ⟨Below.refl _ _, Left.of rfl⟩
      · intro vs X wq K;exact zl rfl ⟨Below.refl _ _, Left.of rfl⟩
      · intro vs X wq K;obtain ⟨_, e8, k8⟩ := K.dep 8 rfl rfl rfl;refine zd 66 (.slice p.ar f.rgs.length p.cr) rfl e8 ?_;obtain ⟨_, e9, k9⟩ := K.dep 9 rfl rfl rfl;refine zd 67 (.int .i64 ((kk : Nat) : Int)) rfl e9 ?_;exact yi (j := kk) Tryd.underlying25 ku (congrArg (fun z ↦ some (Value.slice z f.rgs.length p.cr)) hA2) rfl rfl hkr ⟨Below.refl _ _, Left.of rfl⟩
      · intro vs X wq K;obtain ⟨_, e10, k10⟩ := K.dep 10 rfl rfl rfl;refine zd 68 (.pointer (some ⟨gr, ro + kk * 4, none⟩)) rfl e10 ?_;exact zb Tryd.underlying50 rfl sz3 (by decide) rfl ⟨Below.refl _ _, Left.of rfl⟩
      · intro vs X wq K;have LE := K.1;obtain ⟨_, e11, k11⟩ := K.dep 11 rfl rfl rfl;refine zd 69 (.pointer (some ⟨gr, ro + kk * 4 + 3, none⟩)) rfl e11 ?_;exact zt Tryd.underlying3 rfl rfl ((HF.on (E.drew.trans (LE.mono OY))).here.2 3 _ rfl) ⟨Below.refl _ _, Left.of rfl⟩
      · intro vs X wq K;have LE := K.1;have XN := K.2.1;have SQ := Nat.le_trans LW.size (Nat.le_trans E.size LE.size);obtain ⟨_, e12, k12⟩ := K.dep 12 rfl rfl rfl;refine zd 70 (.int .i64 r.d) rfl e12 (qv (cs := #[.int .i64 r.d]) Tryd.underlying28 sz3 zr3 (by decide) rfl (by rw [ym]; rfl) ?_);intro gs w5 Bs hb Gs
        exact ⟨hb, ⟨gs, rfl, (Per.blk Bs (fun hx => by have := XN gs hx; omega)).and (fun _ _ => Nat.le_trans SQ Gs)⟩⟩
      · intro vs X wq K;obtain ⟨_, e6, k6⟩ := K.dep 6 rfl rfl rfl;refine zd 64 (.int .i64 r.tg) rfl e6 ?_;obtain ⟨gs, e13, k13⟩ := K.dep 13 rfl rfl rfl;refine zd 71 (.slice (some ⟨gs, 0, none⟩) 1 1) rfl e13 ?_;exact vo (cs := #[.int .i64 r.tg, .slice (some ⟨gs, 0, none⟩) 1 1]) pl80 zex rfl rfl ⟨Below.refl _ _, ⟨gs, rfl, (k13.map (fun _ h => h))⟩⟩
      · intro vs X wq K;have XN := K.2.1;obtain ⟨gs, e14, k14⟩ := K.dep 14 rfl rfl rfl;refine zd 72 (.agg #[.int .i64 r.tg, .slice (some ⟨gs, 0, none⟩) 1 1]) rfl e14 (qv (cs := #[.int .i64 r.tg, .slice (some ⟨gs, 0, none⟩) 1 1]) Tryd.underlying76 oz zex (by decide) rfl (by rw [ym]; rfl) ?_);intro gh w5 Bs hb Gs
        exact ⟨hb, ⟨(gh, gs), rfl, (Per.blk Bs (fun hx => by have := XN gh hx; omega)).and (k14.on (Ext.of_below hb _))⟩⟩
    intro vs w8 LE AO AL AF AA;have LOl := Ol;replace Ol := qd (w := World.drew _) Ol LE NotIn.nil;replace E := E.drew.trans (LE.mono OY);obtain ⟨_, e0, k0⟩ := AL.1;obtain ⟨⟨gh, gs⟩, e15, k15⟩ := AL.2.2.2.2.2.2.2.2.2.2.2.2.2.2.2.1;replace HF := HF.on E;replace LW := LW.step E XLW;replace E := erx (Mut [((Value.slice none 0 0).ownBlock)]) w8
    replace HF := HF.and ((k15.map (fun _ h => h) : Per (Mut [((Value.slice none 0 0).ownBlock)]) w8 (fun b => Blk b gh 80 #[.int .i64 r.tg, .slice (some ⟨gs, 0, none⟩) 1 1] ∧ Blk b gs 3 #[.int .i64 r.d] ∧ w.heap.size ≤ gs)));refine vq (τ := [(4, _), (7, _), (58, .slice none 0 0), (73, .slice (some ⟨gh, 0, none⟩) 1 1)]) ⟨rfl, rfl, congrArg some e0, congrArg some e15, trivial⟩ ?_
    clear AL AF AA LE AO OY e0 e15 k0 k15 LOl
    refine ol (ji (by kernel_rfl) (fun _ _ d_ _ _ h => by cases d_ <;> exact h) (za rfl (qw (news := [.int .i64 r.tg, .slice (some ⟨gs, 0, none⟩) 1 1]) Tryd.underlying76 zrq rfl (by decide) rfl Ol rfl (vn ((HF.on E).here.2).1 (((HF.on E).here.2).1).lt rfl) (by simp [Value.oneCell']) (by unfold maxLen; omega) (by omega) (by exact Nat.le_trans LW.size E.size) ?_)))
    intro v0 w9 On En KN;obtain ⟨A9, c9, rfl⟩ := qk On;replace KN : ∀ q9, ((Value.slice A9 1 c9).ownBlock) = some q9 → ((Value.slice none 0 0).ownBlock) = some q9 ∨ w8.heap.size ≤ q9 := KN
    have HY : Gro (Mut [((Value.slice A9 1 c9).ownBlock)]) (Mut [((Value.slice none 0 0).ownBlock)]) w8 := (Mut.grow Mut.none_ (fun k e => (KN k e).elim (fun e => Or.inl (Mut.head k e)) (fun h => Or.inr (Nat.le_trans E.size h))));replace E := E.step1 En Mut.head;replace HF := HF.turn E HY
    have XT := fun q9 (h : (Mut [((Value.slice A9 1 c9).ownBlock)]) q9) => (HY q9 h).elim (XLW q9) (fun h => Or.inr (Nat.le_trans LW.size h));replace LW := LW.step E XLW;replace XLW := XT;replace E := erx (Mut [((Value.slice A9 1 c9).ownBlock)]) w9;clear HY;replace Ol : World.ownsRow w9 w.heap.size 80 2 (.slice A9 1 c9) 1 ([.int .i64 r.tg, .slice (some ⟨gs, 0, none⟩) 1 1]) := by
     have e : (([]) : List Value) ++ ([.int .i64 r.tg, .slice (some ⟨gs, 0, none⟩) 1 1] : List Value) = [.int .i64 r.tg, .slice (some ⟨gs, 0, none⟩) 1 1] := rfl;rw [← e];exact On
    clear On KN En;have ed := zkk ((HF.on E).here.2).2.1 hri.d;have hgs := ((HF.on E).here.2).2.2;refine anx rfl (srx (mvx rfl (anx rfl (zv (zu (rs := [.tmp 4]) (vs := [_]) rfl ⟨rfl, trivial⟩ ?_)))))
    exact xr (by rw [ew]; rfl) Ol (by rw [ew, show ja x [] = [] from rfl]; exact id (jc hri.tg ed (fun q q' h => by cases h; exact hgs) xu) ) (LW.step E XLW).toBelow
   ·
    exact absurd (of_decide_eq_false h5) (by omega)
 ·
  by_cases h1 : ∃ t, yo x ((at_ : Nat) : Int) = [t]
  ·
   obtain ⟨t, hgo⟩ := h1;have ht := hgi t (by rw [hgo]; simp)
   refine qr 27 (.slice Ag 1 cg) rfl ((by rw [hgo]; rfl : (.slice Ag (yo x ((at_ : Nat) : Int)).length cg : Value) = _)) (anx rfl (srx (anx rfl (zp (srx (anx rfl (yb (yeq (zp (srx (mvx rfl (mvx rfl (za rfl (yw Tryd.underlying28 rfl (za rfl (yy rfl rfl (rnx (yr rfl (zq (zh (zp (yb (srx (mvx rfl (mvx rfl ?_)))))))))))))))))))))))))
   obtain ⟨gA, oA, hAg, hgA, hcA⟩ := ((HF.on E).here.2).cell (j := 0) (x := t) (by rw [hgo]; rfl);refine za rfl (zk (j := 0) Tryd.underlying28 sz3 (congrArg (fun z ↦ some (Value.slice z 1 cg)) hAg) rfl rfl (by omega) (za rfl (zt Tryd.underlying3 rfl rfl hcA (za rfl (vo (cs := #[.int .i64 t, .slice none 0 0]) pl80 zex rfl rfl (za rfl (qb zex ?_)))))))
   intro gb10 w11 Bb10 Eb10 Gb10;have Db10_l : Apart (some gb10) ((Value.slice none 0 0).ownBlock) := Apart.of_lt (qy Ol) Gb10;have Dl_b10 := Db10_l.symm;have Gb10 : _ ≤ gb10 := Nat.le_trans E.size Gb10;have GLb10 := Nat.le_trans LW.size Gb10;replace Ol := qd Ol Eb10 NotIn.nil;replace E := E.trans Eb10.no;replace HF := HF.cons (zz Gb10);replace E := E.cons (some gb10)
   replace XLW := Mut.grow XLW (fun k e => Or.inr (Nat.le_trans LW.size ((zz Gb10) k e)));refine zw (qz oz rfl rfl Bb10 rfl rfl rfl ?_);intro w12 Bx Eb10;replace Bb10 : Blk w12 gb10 80 #[.int .i64 t, .slice none 0 0] := Bx;replace Ol := qd Ol Eb10 (NotIn.cons Dl_b10 NotIn.nil);replace E := E.step1 Eb10 Mut.head
   refine rnx (zp (srx (mvx rfl (za rfl (yn rfl rfl (mvx rfl (onx rfl (zb Tryd.underlying41 rfl sz3 (by decide) rfl (onx rfl (zg Tryd.underlying3 rfl rfl (HF.on E).here.1.2 rfl (onx rfl (vb rfl rfl (za rfl (zx rfl rfl (rnx (zr rfl (fun h18 => ?_) (fun h18 => ?_)))))))))))))))))
   ·
    have e18 : x.op ≠ 18 := by simpa using h18
    refine zj (za rfl (zo Tryd.underlying41 rfl vx rfl (HF.on E).here.1.2 rfl (za rfl (yf en29 rfl ((zbv _ x B cB n0 (HF.on E).here.1.1.2 (Nat.le_trans hn ((LW.step E XLW).toBelow).size)).mono ?_)))));rintro e w13 ⟨Aw, cw, rfl, ow, hb⟩;refine ⟨_, rfl, ?_⟩
    have XC : ∀ q9, (Mut [(some gb10), ((Value.slice none 0 0).ownBlock)]) q9 → q9 < w12.heap.size := (Mut.grow (Mut.grow Mut.none_ (qy Ol)) (vd Bb10.lt));have SC := Nat.le_trans LW.size E.size;have Ec := Ext.of_below hb No;replace Bb10 := Bb10.extN Ec NotIn.nil;replace Ol := qd Ol Ec NotIn.nil;replace E := E.trans Ec.no;replace HF := HF.on E;replace LW := LW.step E XLW
    replace E := erx (Mut [(some gb10), ((Value.slice none 0 0).ownBlock)]) w13;replace HF := HF.and (Per.intsO ow XC hwl hwi);have hwr : ∀ q q', Aw = some ⟨q, q', none⟩ → w.heap.size ≤ q := fun q q' h => by subst h; exact Nat.le_trans SC (jj ow q rfl)
    refine za rfl (zb Tryd.underlying80 rfl gu (by decide) rfl (zw (zn gu rfl rfl Bb10 rfl rfl (Nat.le_of_ble_eq_true rfl) ?_)));intro w14 Bx Eb10;replace Bb10 := Bx;replace Ol := qd Ol Eb10 (NotIn.cons Dl_b10 NotIn.nil);replace E := E.step1 Eb10 Mut.head;replace HF := HF.on E;replace LW := LW.step E XLW
    have SB : ∀ q9, Mut [((Value.slice none 0 0).ownBlock)] q9 → Mut [(some gb10), ((Value.slice none 0 0).ownBlock)] q9 := (Mut.skip (Mut.keep Mut.nil_));replace HF := HF.less SB;replace XLW := fun k h => XLW k (SB k h);clear SB;replace E := erx (Mut [((Value.slice none 0 0).ownBlock)]) w14;replace HF := HF.and (Per.blkN Bb10 (NotIn.cons Db10_l NotIn.nil))
    refine rnx (zj (mvx rfl (za rfl (zo Tryd.underlying80 rfl oz rfl (HF.on E).here.2 rfl (za rfl (yl (cs := #[.int .i64 t, .slice Aw (yj x).length cw]) Tryd.underlying76 oz zex (by decide) rfl (by rw [ym]; rfl) ?_))))));intro gb15 w16 Bb15 Eb15 Gb15
    have Db15_l : Apart (some gb15) ((Value.slice none 0 0).ownBlock) := Apart.of_lt (qy Ol) Gb15;have Dl_b15 := Db15_l.symm;have Gb15 : _ ≤ gb15 := Nat.le_trans E.size Gb15;have GLb15 := Nat.le_trans LW.size Gb15;replace Ol := qd Ol Eb15 NotIn.nil;replace E := E.trans Eb15.no;replace HF := HF.cons (zz Gb15);replace E := E.cons (some gb15)
    replace XLW := Mut.grow XLW (fun k e => Or.inr (Nat.le_trans LW.size ((zz Gb15) k e)));replace HF := HF.on E;replace LW := LW.step E XLW;have SB : ∀ q9, Mut [((Value.slice none 0 0).ownBlock)] q9 → Mut [(some gb15), ((Value.slice none 0 0).ownBlock)] q9 := (Mut.skip (Mut.keep Mut.nil_));replace HF := HF.less SB;replace XLW := fun k h => XLW k (SB k h);clear SB
    replace E := erx (Mut [((Value.slice none 0 0).ownBlock)]) w16;replace HF := HF.and (Per.blkN Bb15 (NotIn.cons Db15_l NotIn.nil))
    refine za rfl (qw (news := [.int .i64 t, .slice Aw (yj x).length cw]) Tryd.underlying76 zrq rfl (by decide) rfl Ol rfl (vn (HF.on E).here.2 ((HF.on E).here.2).lt rfl) (by simp [Value.oneCell']) (by unfold maxLen; omega) (by omega) (by exact Nat.le_trans LW.size E.size) ?_);intro v0 w18 On En KN;obtain ⟨Aq17, cq17, rfl⟩ := qk On
    replace KN : ∀ q9, ((Value.slice Aq17 1 cq17).ownBlock) = some q9 → ((Value.slice none 0 0).ownBlock) = some q9 ∨ w16.heap.size ≤ q9 := KN;have HY : Gro (Mut [((Value.slice Aq17 1 cq17).ownBlock)]) (Mut [((Value.slice none 0 0).ownBlock)]) w16 := (Mut.grow Mut.none_ (fun k e => (KN k e).elim (fun e => Or.inl (Mut.head k e)) (fun h => Or.inr (Nat.le_trans E.size h))))
    replace E := E.step1 En Mut.head;replace HF := HF.turn E HY;have XT := fun q9 (h : (Mut [((Value.slice Aq17 1 cq17).ownBlock)]) q9) => (HY q9 h).elim (XLW q9) (fun h => Or.inr (Nat.le_trans LW.size h));replace LW := LW.step E XLW;replace XLW := XT;replace E := erx (Mut [((Value.slice Aq17 1 cq17).ownBlock)]) w18;clear HY
    replace Ol : World.ownsRow w18 w.heap.size 80 2 (.slice Aq17 1 cq17) 1 ([.int .i64 t, .slice Aw (yj x).length cw]) := by
     have e : (([]) : List Value) ++ ([.int .i64 t, .slice Aw (yj x).length cw] : List Value) = [.int .i64 t, .slice Aw (yj x).length cw] := rfl;rw [← e];exact On
    clear On KN En
    refine avx rfl (yc (zf (zh (zj (mvx rfl (za rfl (qc (z := 1) rfl rfl (by kernel_rfl) (avx rfl (yc (zlq (zp (srx (mvx rfl (mvx rfl (za rfl (yw Tryd.underlying28 rfl (za rfl (yy rfl rfl (rnx (qp rfl (qe (zm (zm (ya (zh (zp (srx (za rfl (zo Tryd.underlying27 rfl jp rfl (HF.on E).here.1.1.1.1.1.1.2 rfl (mvx rfl (za rfl (yf en47 rfl ((oh _ p f n0 (HF.on E).here.1.1.1.1.1.1.1.2 at_ x hx).mono ?_)))))))))))))))))))))))))))))))))
    rintro e w19 ⟨rfl, hb⟩;refine ⟨_, rfl, ?_⟩;have Ec := Ext.of_below hb No;replace Ol := qd Ol Ec NotIn.nil;replace E := E.trans Ec.no;by_cases hh : jn f at_ x = none
    ·
     refine qr 55 (.int .i64 (-1)) rfl ((by rw [zlx hh] : (.int .i64 (zgq f at_ x) : Value) = _)) (anx rfl (srx (mvx rfl (za rfl (jd rfl rfl (rnx (qp rfl (zq (zh (srx (mvx rfl (anx rfl (zv ?_)))))))))))));have ew := zfz hh hgo;refine zu (rs := [.tmp 4]) (vs := [_]) rfl ⟨rfl, trivial⟩ ?_
     exact xr (by rw [ew]; rfl) Ol (by rw [ew, show ja x [t] = [(t, yj x)] by simp [ja, e18]]; exact jc ht (IntsA.top (HF.on E).here.1.1.2) hwr xu ) (LW.step E XLW).toBelow
    ·
     obtain ⟨kk, hkk⟩ : ∃ kk, jn f at_ x = some kk := by
      cases hz : jn f at_ x with
      | none => exact absurd hz hh
      | some kk => exact ⟨kk, rfl⟩
     obtain ⟨r, hr⟩ := zak hkk;have hkr := (List.getElem?_eq_some_iff.1 hr).1;refine qr 55 (.int .i64 ((kk : Nat) : Int)) rfl ((by rw [zik hkk] : (.int .i64 (zgq f at_ x) : Value) = _)) (anx rfl (srx (mvx rfl (za rfl (jd rfl rfl (rnx (zr rfl (fun h5 => ?_) (fun h5 => ?_))))))))
     ·
      obtain ⟨gr, ro, hA2, hgr, hcr⟩ := ((HF.on E).here.1.1.1.1.1.1.1.2).rgs.row.at hr;have hri := ((HF.on E).here.1.1.1.1.1.1.1.2).rgs.in_ r (List.mem_of_getElem? hr);have ew := zfx hkk hr hgo;replace HF := HF.on E;replace LW := LW.step E XLW;replace E := erx (Mut [((Value.slice Aq17 1 cq17).ownBlock)]) w19
      replace HF := HF.and (Per.cellsA hcr hgr (fun k h => by rcases h with h | h | h | h | h <;> first | exact h.elim | exact Nat.le_trans hn (jj Ol k h.symm) | (have := Option.some.inj h; omega)));have OY : ∀ q9, (Mut (znx [])) q9 → q9 < (World.drew w19).heap.size → (Mut [((Value.slice Aq17 1 cq17).ownBlock)]) q9 := fun k h _ => (Mut.none_) k h;refine kr je (kt 16 rfl ?_)
      refine vv (Mut [((Value.slice Aq17 1 cq17).ownBlock)]) (Mut.grow Mut.none_ (qy Ol)) [] [] (kl [Fx.of (.slice Aq17 1 cq17),
       Fx.of (.pointer (some ⟨gb1, 9, none⟩)),
       Fx.of (.slice p.ar f.rgs.length p.cr),
       Fx.of (.int .i64 ((kk : Nat) : Int)),
       Fx.of (.pointer (some ⟨gr, ro + kk * 4, none⟩)),
       Fx.of (.pointer (some ⟨gr, ro + kk * 4 + 2, none⟩)),
       Fx.of (.int .i64 r.tg),
       Fx.of (.pointer (some ⟨gb1, 9, none⟩)),
       Fx.of (.slice p.ar f.rgs.length p.cr),
       Fx.of (.int .i64 ((kk : Nat) : Int)),
       Fx.of (.pointer (some ⟨gr, ro + kk * 4, none⟩)),
       Fx.of (.pointer (some ⟨gr, ro + kk * 4 + 3, none⟩)),
       Fx.of (.int .i64 r.d),
       ⟨Nat, fun gs => .slice (some ⟨gs, 0, none⟩) 1 1, fun gs b => (Blk b gs 3 #[.int .i64 r.d] ∧ w.heap.size ≤ gs)⟩,
       ⟨Nat, fun gs => .agg #[.int .i64 r.tg, .slice (some ⟨gs, 0, none⟩) 1 1], fun gs b => (Blk b gs 3 #[.int .i64 r.d] ∧ w.heap.size ≤ gs)⟩,
       ⟨(Nat × Nat), fun (gh, gs) => .slice (some ⟨gh, 0, none⟩) 1 1, fun (gh, gs) b => (Blk b gh 80 #[.int .i64 r.tg, .slice (some ⟨gs, 0, none⟩) 1 1] ∧ Blk b gs 3 #[.int .i64 r.d] ∧ w.heap.size ≤ gs)⟩]) rfl trivial (fun _ h => by cases h) ?_ ?_
      · refine ⟨?_, ?_, ?_, ?_, ?_, ?_, ?_, ?_, ?_, ?_, ?_, ?_, ?_, ?_, ?_, ?_, trivial⟩
        · intro vs X wq K;exact zl rfl ⟨Below.refl _ _, Left.of rfl⟩
        · intro vs X wq K;exact zb Tryd.underlying27 rfl ko (by decide) rfl ⟨Below.refl _ _, Left.of rfl⟩
        · intro vs X wq K;have LE := K.1;obtain ⟨_, e1, k1⟩ := K.dep 1 rfl rfl rfl;refine zd 59 (.pointer (some ⟨gb1, 9, none⟩)) rfl e1 ?_;exact zg Tryd.underlying25 rfl rfl (HF.on (E.drew.trans (LE.mono OY))).here.1.1.1.1.1.1.1.2 rfl ⟨Below.refl _ _, Left.of rfl⟩
        · intro vs X wq K;exact zl rfl ⟨Below.refl _ _, Left.of rfl⟩
        · intro vs X wq K;obtain ⟨_, e2, k2⟩ := K.dep 2 rfl rfl rfl;refine zd 60 (.slice p.ar f.rgs.length p.cr) rfl e2 ?_;obtain ⟨_, e3, k3⟩ := K.dep 3 rfl rfl rfl;refine zd 61 (.int .i64 ((kk : Nat) : Int)) rfl e3 ?_;exact yi (j := kk) Tryd.underlying25 ku (congrArg (fun z ↦ some (Value.slice z f.rgs.length p.cr)) hA2) rfl rfl hkr ⟨Below.refl _ _, Left.of rfl⟩
        · intro vs X wq K;obtain ⟨_, e4, k4⟩ := K.dep 4 rfl rfl rfl;refine zd 62 (.pointer (some ⟨gr, ro + kk * 4, none⟩)) rfl e4 ?_;exact zb Tryd.underlying50 rfl sz3 (by decide) rfl ⟨Below.refl _ _, Left.of rfl⟩
        · intro vs X wq K;have LE := K.1;obtain ⟨_, e5, k5⟩ := K.dep 5 rfl rfl rfl;refine zd 63 (.pointer (some ⟨gr, ro + kk * 4 + 2, none⟩)) rfl e5 ?_;exact zt Tryd.underlying3 rfl rfl ((HF.on (E.drew.trans (LE.mono OY))).here.2 2 _ rfl) ⟨Below.refl _ _, Left.of rfl⟩
        · intro vs X wq K;exact zb Tryd.underlying27 rfl ko (by decide) rfl ⟨Below.refl _ _, Left.of rfl⟩
        · intro vs X wq K;have LE := K.1;obtain ⟨_, e7, k7⟩ := K.dep 7 rfl rfl rfl;refine zd 65 (.pointer (some ⟨gb1, 9, none⟩)) rfl e7 ?_;exact zg Tryd.underlying25 rfl rfl (HF.on (E.drew.trans (LE.mono OY))).here.1.1.1.1.1.1.1.2 rfl ⟨Below.refl _ _, Left.of rfl⟩
        · intro vs X wq K;exact zl rfl ⟨Below.refl _ _, Left.of rfl⟩
        · intro vs X wq K;obtain ⟨_, e8, k8⟩ := K.dep 8 rfl rfl rfl;refine zd 66 (.slice p.ar f.rgs.length p.cr) rfl e8 ?_;obtain ⟨_, e9, k9⟩ := K.dep 9 rfl rfl rfl;refine zd 67 (.int .i64 ((kk : Nat) : Int)) rfl e9 ?_;exact yi (j := kk) Tryd.underlying25 ku (congrArg (fun z ↦ some (Value.slice z f.rgs.length p.cr)) hA2) rfl rfl hkr ⟨Below.refl _ _, Left.of rfl⟩
        · intro vs X wq K;obtain ⟨_, e10, k10⟩ := K.dep 10 rfl rfl rfl;refine zd 68 (.pointer (some ⟨gr, ro + kk * 4, none⟩)) rfl e10 ?_;exact zb Tryd.underlying50 rfl sz3 (by decide) rfl ⟨Below.refl _ _, Left.of rfl⟩
        · intro vs X wq K;have LE := K.1;obtain ⟨_, e11, k11⟩ := K.dep 11 rfl rfl rfl;refine zd 69 (.pointer (some ⟨gr, ro + kk * 4 + 3, none⟩)) rfl e11 ?_;exact zt Tryd.underlying3 rfl rfl ((HF.on (E.drew.trans (LE.mono OY))).here.2 3 _ rfl) ⟨Below.refl _ _, Left.of rfl⟩
        · intro vs X wq K;have LE := K.1;have XN := K.2.1;have SQ := Nat.le_trans LW.size (Nat.le_trans E.size LE.size);obtain ⟨_, e12, k12⟩ := K.dep 12 rfl rfl rfl;refine zd 70 (.int .i64 r.d) rfl e12 (qv (cs := #[.int .i64 r.d]) Tryd.underlying28 sz3 zr3 (by decide) rfl (by rw [ym]; rfl) ?_);intro gs w5 Bs hb Gs
          exact ⟨hb, ⟨gs, rfl, (Per.blk Bs (fun hx => by have := XN gs hx; omega)).and (fun _ _ => Nat.le_trans SQ Gs)⟩⟩
        · intro vs X wq K;obtain ⟨_, e6, k6⟩ := K.dep 6 rfl rfl rfl;refine zd 64 (.int .i64 r.tg) rfl e6 ?_;obtain ⟨gs, e13, k13⟩ := K.dep 13 rfl rfl rfl;refine zd 71 (.slice (some ⟨gs, 0, none⟩) 1 1) rfl e13 ?_;exact vo (cs := #[.int .i64 r.tg, .slice (some ⟨gs, 0, none⟩) 1 1]) pl80 zex rfl rfl ⟨Below.refl _ _, ⟨gs, rfl, (k13.map (fun _ h => h))⟩⟩
        · intro vs X wq K;have XN := K.2.1;obtain ⟨gs, e14, k14⟩ := K.dep 14 rfl rfl rfl;refine zd 72 (.agg #[.int .i64 r.tg, .slice (some ⟨gs, 0, none⟩) 1 1]) rfl e14 (qv (cs := #[.int .i64 r.tg, .slice (some ⟨gs, 0, none⟩) 1 1]) Tryd.underlying76 oz zex (by decide) rfl (by rw [ym]; rfl) ?_);intro gh w5 Bs hb Gs
          exact ⟨hb, ⟨(gh, gs), rfl, (Per.blk Bs (fun hx => by have := XN gh hx; omega)).and (k14.on (Ext.of_below hb _))⟩⟩
      intro vs w20 LE AO AL AF AA;have LOl := Ol;replace Ol := qd (w := World.drew _) Ol LE NotIn.nil;replace E := E.drew.trans (LE.mono OY);obtain ⟨_, e0, k0⟩ := AL.1;obtain ⟨⟨gh, gs⟩, e15, k15⟩ := AL.2.2.2.2.2.2.2.2.2.2.2.2.2.2.2.1;replace HF := HF.on E;replace LW := LW.step E XLW;replace E := erx (Mut [((Value.slice Aq17 1 cq17).ownBlock)]) w20
      replace HF := HF.and ((k15.map (fun _ h => h) : Per (Mut [((Value.slice Aq17 1 cq17).ownBlock)]) w20 (fun b => Blk b gh 80 #[.int .i64 r.tg, .slice (some ⟨gs, 0, none⟩) 1 1] ∧ Blk b gs 3 #[.int .i64 r.d] ∧ w.heap.size ≤ gs)));refine vq (τ := [(4, _), (7, _), (58, .slice Aq17 1 cq17), (73, .slice (some ⟨gh, 0, none⟩) 1 1)]) ⟨rfl, rfl, congrArg some e0, congrArg some e15, trivial⟩ ?_
      clear AL AF AA LE AO OY e0 e15 k0 k15 LOl
      refine ol (ji (by kernel_rfl) (fun _ _ d_ _ _ h => by cases d_ <;> exact h) (za rfl (qw (news := [.int .i64 r.tg, .slice (some ⟨gs, 0, none⟩) 1 1]) Tryd.underlying76 zrq rfl (by decide) rfl Ol rfl (vn ((HF.on E).here.2).1 (((HF.on E).here.2).1).lt rfl) (by simp [Value.oneCell']) (by unfold maxLen; omega) (by omega) (by exact Nat.le_trans LW.size E.size) ?_)))
      intro v0 w21 On En KN;obtain ⟨A9, c9, rfl⟩ := qk On;replace KN : ∀ q9, ((Value.slice A9 2 c9).ownBlock) = some q9 → ((Value.slice Aq17 1 cq17).ownBlock) = some q9 ∨ w20.heap.size ≤ q9 := KN
      have HY : Gro (Mut [((Value.slice A9 2 c9).ownBlock)]) (Mut [((Value.slice Aq17 1 cq17).ownBlock)]) w20 := (Mut.grow Mut.none_ (fun k e => (KN k e).elim (fun e => Or.inl (Mut.head k e)) (fun h => Or.inr (Nat.le_trans E.size h))));replace E := E.step1 En Mut.head;replace HF := HF.turn E HY
      have XT := fun q9 (h : (Mut [((Value.slice A9 2 c9).ownBlock)]) q9) => (HY q9 h).elim (XLW q9) (fun h => Or.inr (Nat.le_trans LW.size h));replace LW := LW.step E XLW;replace XLW := XT;replace E := erx (Mut [((Value.slice A9 2 c9).ownBlock)]) w21;clear HY
      replace Ol : World.ownsRow w21 w.heap.size 80 2 (.slice A9 2 c9) 2 ([.int .i64 t, .slice Aw (yj x).length cw, .int .i64 r.tg, .slice (some ⟨gs, 0, none⟩) 1 1]) := by
       have e : (([.int .i64 t, .slice Aw (yj x).length cw]) : List Value) ++ ([.int .i64 r.tg, .slice (some ⟨gs, 0, none⟩) 1 1] : List Value) = [.int .i64 t, .slice Aw (yj x).length cw, .int .i64 r.tg, .slice (some ⟨gs, 0, none⟩) 1 1] := rfl;rw [← e];exact On
      clear On KN En;have ed := zkk ((HF.on E).here.2).2.1 hri.d;have hgs := ((HF.on E).here.2).2.2;refine anx rfl (srx (mvx rfl (anx rfl (zv (zu (rs := [.tmp 4]) (vs := [_]) rfl ⟨rfl, trivial⟩ ?_)))))
      exact xr (by rw [ew]; rfl) Ol (by rw [ew, show ja x [t] = [(t, yj x)] by simp [ja, e18]]; exact jc ht (IntsA.top (HF.on E).here.1.1.1.1.2) hwr (jc hri.tg ed (fun q q' h => by cases h; exact hgs) xu) ) (LW.step E XLW).toBelow
     ·
      exact absurd (of_decide_eq_false h5) (by omega)
   ·
    have e18 : x.op = 18 := by simpa using h18
    refine zq (zh (zj (mvx rfl (za rfl (zo Tryd.underlying80 rfl oz rfl Bb10 rfl (za rfl (yl (cs := #[.int .i64 t, .slice none 0 0]) Tryd.underlying76 oz zex (by decide) rfl (by rw [ym]; rfl) ?_)))))));intro gb22 w23 Bb22 Eb22 Gb22;have Db22_b10 : Apart (some gb22) (some gb10) := Apart.of_lt (vd Bb10.lt) Gb22
    have Db10_b22 := Db22_b10.symm;have Db22_l : Apart (some gb22) ((Value.slice none 0 0).ownBlock) := Apart.of_lt (qy Ol) Gb22;have Dl_b22 := Db22_l.symm;have Gb22 : _ ≤ gb22 := Nat.le_trans E.size Gb22;have GLb22 := Nat.le_trans LW.size Gb22;replace Bb10 := Bb10.extN Eb22 NotIn.nil;replace Ol := qd Ol Eb22 NotIn.nil;replace E := E.trans Eb22.no
    replace HF := HF.cons (zz Gb22);replace E := E.cons (some gb22);replace XLW := Mut.grow XLW (fun k e => Or.inr (Nat.le_trans LW.size ((zz Gb22) k e)));replace HF := HF.on E;replace LW := LW.step E XLW
    have SB : ∀ q9, Mut [(some gb10), ((Value.slice none 0 0).ownBlock)] q9 → Mut [(some gb22), (some gb10), ((Value.slice none 0 0).ownBlock)] q9 := (Mut.skip (Mut.keep (Mut.keep Mut.nil_)));replace HF := HF.less SB;replace XLW := fun k h => XLW k (SB k h);clear SB;replace E := erx (Mut [(some gb10), ((Value.slice none 0 0).ownBlock)]) w23
    replace HF := HF.and (Per.blkN Bb22 (NotIn.cons Db22_b10 (NotIn.cons Db22_l NotIn.nil)));refine za rfl (qw (news := [.int .i64 t, .slice none 0 0]) Tryd.underlying76 zrq rfl (by decide) rfl Ol rfl (vn (HF.on E).here.2 ((HF.on E).here.2).lt rfl) (by simp [Value.oneCell']) (by unfold maxLen; omega) (by omega) (by exact Nat.le_trans LW.size E.size) ?_)
    intro v0 w25 On En KN;obtain ⟨Aq24, cq24, rfl⟩ := qk On;replace KN : ∀ q9, ((Value.slice Aq24 1 cq24).ownBlock) = some q9 → ((Value.slice none 0 0).ownBlock) = some q9 ∨ w23.heap.size ≤ q9 := KN;have LTb10 := (vd Bb10.lt);replace Bb10 := Bb10.extN En (NotIn.cons Db10_l NotIn.nil);replace Dl_b10 : Apart ((Value.slice Aq24 1 cq24).ownBlock) (some gb10) := Dl_b10.turn KN LTb10
    replace Db10_l := Dl_b10.symm;clear LTb10;have HY : Gro (Mut [(some gb10), ((Value.slice Aq24 1 cq24).ownBlock)]) (Mut [(some gb10), ((Value.slice none 0 0).ownBlock)]) w23 := (Mut.grow (Mut.grow Mut.none_ (fun k e => (KN k e).elim (fun e => Or.inl ((Mut.tail Mut.head) k e)) (fun h => Or.inr (Nat.le_trans E.size h)))) (fun k e => Or.inl (Mut.head k e)))
    replace E := E.step1 En (Mut.tail Mut.head);replace HF := HF.turn E HY;have XT := fun q9 (h : (Mut [(some gb10), ((Value.slice Aq24 1 cq24).ownBlock)]) q9) => (HY q9 h).elim (XLW q9) (fun h => Or.inr (Nat.le_trans LW.size h));replace LW := LW.step E XLW;replace XLW := XT;replace E := erx (Mut [(some gb10), ((Value.slice Aq24 1 cq24).ownBlock)]) w25;clear HY
    replace Ol : World.ownsRow w25 w.heap.size 80 2 (.slice Aq24 1 cq24) 1 ([.int .i64 t, .slice none 0 0]) := by
     have e : (([]) : List Value) ++ ([.int .i64 t, .slice none 0 0] : List Value) = [.int .i64 t, .slice none 0 0] := rfl;rw [← e];exact On
    clear On KN En
    refine avx rfl (yc (zf (zh (zj (mvx rfl (za rfl (qc (z := 1) rfl rfl (by kernel_rfl) (avx rfl (yc (zlq (zp (srx (mvx rfl (mvx rfl (za rfl (yw Tryd.underlying28 rfl (za rfl (yy rfl rfl (rnx (qp rfl (qe (zm (zm (ya (zh (zp (srx (za rfl (zo Tryd.underlying27 rfl jp rfl (HF.on E).here.1.1.1.1.2 rfl (mvx rfl (za rfl (yf en47 rfl ((oh _ p f n0 (HF.on E).here.1.1.1.1.1.2 at_ x hx).mono ?_)))))))))))))))))))))))))))))))))
    rintro e w26 ⟨rfl, hb⟩;refine ⟨_, rfl, ?_⟩;have Ec := Ext.of_below hb No;replace Bb10 := Bb10.extN Ec NotIn.nil;replace Ol := qd Ol Ec NotIn.nil;replace E := E.trans Ec.no;by_cases hh : jn f at_ x = none
    ·
     refine qr 55 (.int .i64 (-1)) rfl ((by rw [zlx hh] : (.int .i64 (zgq f at_ x) : Value) = _)) (anx rfl (srx (mvx rfl (za rfl (jd rfl rfl (rnx (qp rfl (zq (zh (srx (mvx rfl (anx rfl (zv ?_)))))))))))));have ew := zfz hh hgo;refine zu (rs := [.tmp 4]) (vs := [_]) rfl ⟨rfl, trivial⟩ ?_
     exact xr (by rw [ew]; rfl) Ol (by rw [ew, show ja x [t] = [(t, [])] by simp [ja, e18]]; exact jc ht zcz (fun _ _ h => by cases h) xu ) (LW.step E XLW).toBelow
    ·
     obtain ⟨kk, hkk⟩ : ∃ kk, jn f at_ x = some kk := by
      cases hz : jn f at_ x with
      | none => exact absurd hz hh
      | some kk => exact ⟨kk, rfl⟩
     obtain ⟨r, hr⟩ := zak hkk;have hkr := (List.getElem?_eq_some_iff.1 hr).1;refine qr 55 (.int .i64 ((kk : Nat) : Int)) rfl ((by rw [zik hkk] : (.int .i64 (zgq f at_ x) : Value) = _)) (anx rfl (srx (mvx rfl (za rfl (jd rfl rfl (rnx (zr rfl (fun h5 => ?_) (fun h5 => ?_))))))))
     ·
      obtain ⟨gr, ro, hA2, hgr, hcr⟩ := ((HF.on E).here.1.1.1.1.1.2).rgs.row.at hr;have hri := ((HF.on E).here.1.1.1.1.1.2).rgs.in_ r (List.mem_of_getElem? hr);have ew := zfx hkk hr hgo;replace HF := HF.on E;replace LW := LW.step E XLW;replace E := erx (Mut [(some gb10), ((Value.slice Aq24 1 cq24).ownBlock)]) w26
      replace HF := HF.and (Per.cellsA hcr hgr (fun k h => by rcases h with h | h | h | h | h <;> first | exact h.elim | exact Nat.le_trans hn (jj Ol k h.symm) | (have := Option.some.inj h; omega)));have OY : ∀ q9, (Mut (znx [])) q9 → q9 < (World.drew w26).heap.size → (Mut [(some gb10), ((Value.slice Aq24 1 cq24).ownBlock)]) q9 := fun k h _ => (Mut.none_) k h
      refine kr je (kt 16 rfl ?_);refine vv (Mut [(some gb10), ((Value.slice Aq24 1 cq24).ownBlock)]) (Mut.grow (Mut.grow Mut.none_ (qy Ol)) (vd Bb10.lt)) [] [] (kl [Fx.of (.slice Aq24 1 cq24),
       Fx.of (.pointer (some ⟨gb1, 9, none⟩)),
       Fx.of (.slice p.ar f.rgs.length p.cr),
       Fx.of (.int .i64 ((kk : Nat) : Int)),
       Fx.of (.pointer (some ⟨gr, ro + kk * 4, none⟩)),
       Fx.of (.pointer (some ⟨gr, ro + kk * 4 + 2, none⟩)),
       Fx.of (.int .i64 r.tg),
       Fx.of (.pointer (some ⟨gb1, 9, none⟩)),
       Fx.of (.slice p.ar f.rgs.length p.cr),
       Fx.of (.int .i64 ((kk : Nat) : Int)),
       Fx.of (.pointer (some ⟨gr, ro + kk * 4, none⟩)),
       Fx.of (.pointer (some ⟨gr, ro + kk * 4 + 3, none⟩)),
       Fx.of (.int .i64 r.d),
       ⟨Nat, fun gs => .slice (some ⟨gs, 0, none⟩) 1 1, fun gs b => (Blk b gs 3 #[.int .i64 r.d] ∧ w.heap.size ≤ gs)⟩,
       ⟨Nat, fun gs => .agg #[.int .i64 r.tg, .slice (some ⟨gs, 0, none⟩) 1 1], fun gs b => (Blk b gs 3 #[.int .i64 r.d] ∧ w.heap.size ≤ gs)⟩,
       ⟨(Nat × Nat), fun (gh, gs) => .slice (some ⟨gh, 0, none⟩) 1 1, fun (gh, gs) b => (Blk b gh 80 #[.int .i64 r.tg, .slice (some ⟨gs, 0, none⟩) 1 1] ∧ Blk b gs 3 #[.int .i64 r.d] ∧ w.heap.size ≤ gs)⟩]) rfl trivial (fun _ h => by cases h) ?_ ?_
      · refine ⟨?_, ?_, ?_, ?_, ?_, ?_, ?_, ?_, ?_, ?_, ?_, ?_, ?_, ?_, ?_, ?_, trivial⟩
        · intro vs X wq K;exact zl rfl ⟨Below.refl _ _, Left.of rfl⟩
        · intro vs X wq K;exact zb Tryd.underlying27 rfl ko (by decide) rfl ⟨Below.refl _ _, Left.of rfl⟩
        · intro vs X wq K;have LE := K.1;obtain ⟨_, e1, k1⟩ := K.dep 1 rfl rfl rfl;refine zd 59 (.pointer (some ⟨gb1, 9, none⟩)) rfl e1 ?_;exact zg Tryd.underlying25 rfl rfl (HF.on (E.drew.trans (LE.mono OY))).here.1.1.1.1.1.2 rfl ⟨Below.refl _ _, Left.of rfl⟩
        · intro vs X wq K;exact zl rfl ⟨Below.refl _ _, Left.of rfl⟩
        · intro vs X wq K;obtain ⟨_, e2, k2⟩ := K.dep 2 rfl rfl rfl;refine zd 60 (.slice p.ar f.rgs.length p.cr) rfl e2 ?_;obtain ⟨_, e3, k3⟩ := K.dep 3 rfl rfl rfl;refine zd 61 (.int .i64 ((kk : Nat) : Int)) rfl e3 ?_;exact yi (j := kk) Tryd.underlying25 ku (congrArg (fun z ↦ some (Value.slice z f.rgs.length p.cr)) hA2) rfl rfl hkr ⟨Below.refl _ _, Left.of rfl⟩
        · intro vs X wq K;obtain ⟨_, e4, k4⟩ := K.dep 4 rfl rfl rfl;refine zd 62 (.pointer (some ⟨gr, ro + kk * 4, none⟩)) rfl e4 ?_;exact zb Tryd.underlying50 rfl sz3 (by decide) rfl ⟨Below.refl _ _, Left.of rfl⟩
        · intro vs X wq K;have LE := K.1;obtain ⟨_, e5, k5⟩ := K.dep 5 rfl rfl rfl;refine zd 63 (.pointer (some ⟨gr, ro + kk * 4 + 2, none⟩)) rfl e5 ?_;exact zt Tryd.underlying3 rfl rfl ((HF.on (E.drew.trans (LE.mono OY))).here.2 2 _ rfl) ⟨Below.refl _ _, Left.of rfl⟩
        · intro vs X wq K;exact zb Tryd.underlying27 rfl ko (by decide) rfl ⟨Below.refl _ _, Left.of rfl⟩
        · intro vs X wq K;have LE := K.1;obtain ⟨_, e7, k7⟩ := K.dep 7 rfl rfl rfl;refine zd 65 (.pointer (some ⟨gb1, 9, none⟩)) rfl e7 ?_;exact zg Tryd.underlying25 rfl rfl (HF.on (E.drew.trans (LE.mono OY))).here.1.1.1.1.1.2 rfl ⟨Below.refl _ _, Left.of rfl⟩
        · intro vs X wq K;exact zl rfl ⟨Below.refl _ _, Left.of rfl⟩
        · intro vs X wq K;obtain ⟨_, e8, k8⟩ := K.dep 8 rfl rfl rfl;refine zd 66 (.slice p.ar f.rgs.length p.cr) rfl e8 ?_;obtain ⟨_, e9, k9⟩ := K.dep 9 rfl rfl rfl;refine zd 67 (.int .i64 ((kk : Nat) : Int)) rfl e9 ?_;exact yi (j := kk) Tryd.underlying25 ku (congrArg (fun z ↦ some (Value.slice z f.rgs.length p.cr)) hA2) rfl rfl hkr ⟨Below.refl _ _, Left.of rfl⟩
        · intro vs X wq K;obtain ⟨_, e10, k10⟩ := K.dep 10 rfl rfl rfl;refine zd 68 (.pointer (some ⟨gr, ro + kk * 4, none⟩)) rfl e10 ?_;exact zb Tryd.underlying50 rfl sz3 (by decide) rfl ⟨Below.refl _ _, Left.of rfl⟩
        · intro vs X wq K;have LE := K.1;obtain ⟨_, e11, k11⟩ := K.dep 11 rfl rfl rfl;refine zd 69 (.pointer (some ⟨gr, ro + kk * 4 + 3, none⟩)) rfl e11 ?_;exact zt Tryd.underlying3 rfl rfl ((HF.on (E.drew.trans (LE.mono OY))).here.2 3 _ rfl) ⟨Below.refl _ _, Left.of rfl⟩
        · intro vs X wq K;have LE := K.1;have XN := K.2.1;have SQ := Nat.le_trans LW.size (Nat.le_trans E.size LE.size);obtain ⟨_, e12, k12⟩ := K.dep 12 rfl rfl rfl;refine zd 70 (.int .i64 r.d) rfl e12 (qv (cs := #[.int .i64 r.d]) Tryd.underlying28 sz3 zr3 (by decide) rfl (by rw [ym]; rfl) ?_);intro gs w5 Bs hb Gs
          exact ⟨hb, ⟨gs, rfl, (Per.blk Bs (fun hx => by have := XN gs hx; omega)).and (fun _ _ => Nat.le_trans SQ Gs)⟩⟩
        · intro vs X wq K;obtain ⟨_, e6, k6⟩ := K.dep 6 rfl rfl rfl;refine zd 64 (.int .i64 r.tg) rfl e6 ?_;obtain ⟨gs, e13, k13⟩ := K.dep 13 rfl rfl rfl;refine zd 71 (.slice (some ⟨gs, 0, none⟩) 1 1) rfl e13 ?_;exact vo (cs := #[.int .i64 r.tg, .slice (some ⟨gs, 0, none⟩) 1 1]) pl80 zex rfl rfl ⟨Below.refl _ _, ⟨gs, rfl, (k13.map (fun _ h => h))⟩⟩
        · intro vs X wq K;have XN := K.2.1;obtain ⟨gs, e14, k14⟩ := K.dep 14 rfl rfl rfl;refine zd 72 (.agg #[.int .i64 r.tg, .slice (some ⟨gs, 0, none⟩) 1 1]) rfl e14 (qv (cs := #[.int .i64 r.tg, .slice (some ⟨gs, 0, none⟩) 1 1]) Tryd.underlying76 oz zex (by decide) rfl (by rw [ym]; rfl) ?_);intro gh w5 Bs hb Gs
          exact ⟨hb, ⟨(gh, gs), rfl, (Per.blk Bs (fun hx => by have := XN gh hx; omega)).and (k14.on (Ext.of_below hb _))⟩⟩
      intro vs w27 LE AO AL AF AA;have LBb10 := Bb10;have LOl := Ol;replace Bb10 := Bb10.drew.extN LE NotIn.nil;replace Ol := qd (w := World.drew _) Ol LE NotIn.nil;replace E := E.drew.trans (LE.mono OY);obtain ⟨_, e0, k0⟩ := AL.1;obtain ⟨⟨gh, gs⟩, e15, k15⟩ := AL.2.2.2.2.2.2.2.2.2.2.2.2.2.2.2.1;replace HF := HF.on E;replace LW := LW.step E XLW
      replace E := erx (Mut [(some gb10), ((Value.slice Aq24 1 cq24).ownBlock)]) w27;replace HF := HF.and ((k15.map (fun _ h => h) : Per (Mut [(some gb10), ((Value.slice Aq24 1 cq24).ownBlock)]) w27 (fun b => Blk b gh 80 #[.int .i64 r.tg, .slice (some ⟨gs, 0, none⟩) 1 1] ∧ Blk b gs 3 #[.int .i64 r.d] ∧ w.heap.size ≤ gs)))
      refine vq (τ := [(4, _), (7, _), (58, .slice Aq24 1 cq24), (73, .slice (some ⟨gh, 0, none⟩) 1 1)]) ⟨rfl, rfl, congrArg some e0, congrArg some e15, trivial⟩ ?_;clear AL AF AA LE AO OY e0 e15 k0 k15 LBb10 LOl
      refine ol (ji (by kernel_rfl) (fun _ _ d_ _ _ h => by cases d_ <;> exact h) (za rfl (qw (news := [.int .i64 r.tg, .slice (some ⟨gs, 0, none⟩) 1 1]) Tryd.underlying76 zrq rfl (by decide) rfl Ol rfl (vn ((HF.on E).here.2).1 (((HF.on E).here.2).1).lt rfl) (by simp [Value.oneCell']) (by unfold maxLen; omega) (by omega) (by exact Nat.le_trans LW.size E.size) ?_)))
      intro v0 w28 On En KN;obtain ⟨A9, c9, rfl⟩ := qk On;replace KN : ∀ q9, ((Value.slice A9 2 c9).ownBlock) = some q9 → ((Value.slice Aq24 1 cq24).ownBlock) = some q9 ∨ w27.heap.size ≤ q9 := KN;have LTb10 := (vd Bb10.lt);replace Bb10 := Bb10.extN En (NotIn.cons Db10_l NotIn.nil);replace Dl_b10 : Apart ((Value.slice A9 2 c9).ownBlock) (some gb10) := Dl_b10.turn KN LTb10
      replace Db10_l := Dl_b10.symm;clear LTb10;have HY : Gro (Mut [(some gb10), ((Value.slice A9 2 c9).ownBlock)]) (Mut [(some gb10), ((Value.slice Aq24 1 cq24).ownBlock)]) w27 := (Mut.grow (Mut.grow Mut.none_ (fun k e => (KN k e).elim (fun e => Or.inl ((Mut.tail Mut.head) k e)) (fun h => Or.inr (Nat.le_trans E.size h)))) (fun k e => Or.inl (Mut.head k e)))
      replace E := E.step1 En (Mut.tail Mut.head);replace HF := HF.turn E HY;have XT := fun q9 (h : (Mut [(some gb10), ((Value.slice A9 2 c9).ownBlock)]) q9) => (HY q9 h).elim (XLW q9) (fun h => Or.inr (Nat.le_trans LW.size h));replace LW := LW.step E XLW;replace XLW := XT;replace E := erx (Mut [(some gb10), ((Value.slice A9 2 c9).ownBlock)]) w28;clear HY
      replace Ol : World.ownsRow w28 w.heap.size 80 2 (.slice A9 2 c9) 2 ([.int .i64 t, .slice none 0 0, .int .i64 r.tg, .slice (some ⟨gs, 0, none⟩) 1 1]) := by
       have e : (([.int .i64 t, .slice none 0 0]) : List Value) ++ ([.int .i64 r.tg, .slice (some ⟨gs, 0, none⟩) 1 1] : List Value) = [.int .i64 t, .slice none 0 0, .int .i64 r.tg, .slice (some ⟨gs, 0, none⟩) 1 1] := rfl;rw [← e];exact On
      clear On KN En;have ed := zkk ((HF.on E).here.2).2.1 hri.d;have hgs := ((HF.on E).here.2).2.2;refine anx rfl (srx (mvx rfl (anx rfl (zv (zu (rs := [.tmp 4]) (vs := [_]) rfl ⟨rfl, trivial⟩ ?_)))))
      exact xr (by rw [ew]; rfl) Ol (by rw [ew, show ja x [t] = [(t, [])] by simp [ja, e18]]; exact jc ht zcz (fun _ _ h => by cases h) (jc hri.tg ed (fun q q' h => by cases h; exact hgs) xu) ) (LW.step E XLW).toBelow
     ·
      exact absurd (of_decide_eq_false h5) (by omega)
  ·
   obtain ⟨t, u, hgo⟩ : ∃ t u, yo x ((at_ : Nat) : Int) = [t, u] := by
    rcases goes_cases x ((at_ : Nat) : Int) with h | ⟨t, h⟩ | h
    · exact absurd h h0
    · exact absurd ⟨t, h⟩ h1
    · exact h
   have ht := hgi t (by rw [hgo]; simp);have hu := hgi u (by rw [hgo]; simp)
   refine qr 27 (.slice Ag 2 cg) rfl ((by rw [hgo]; rfl : (.slice Ag (yo x ((at_ : Nat) : Int)).length cg : Value) = _)) (anx rfl (srx (anx rfl (zp (srx (anx rfl (yb (yeq (zp (srx (mvx rfl (mvx rfl (za rfl (yw Tryd.underlying28 rfl (za rfl (yy rfl rfl (rnx (yr rfl (zq (zh (zp (yb (srx (mvx rfl (mvx rfl ?_)))))))))))))))))))))))))
   obtain ⟨gA, oA, hAg, hgA, hcA⟩ := ((HF.on E).here.2).cell (j := 0) (x := t) (by rw [hgo]; rfl);refine za rfl (zk (j := 0) Tryd.underlying28 sz3 (congrArg (fun z ↦ some (Value.slice z 2 cg)) hAg) rfl rfl (by omega) (za rfl (zt Tryd.underlying3 rfl rfl hcA (za rfl (vo (cs := #[.int .i64 t, .slice none 0 0]) pl80 zex rfl rfl (za rfl (qb zex ?_)))))))
   intro gb29 w30 Bb29 Eb29 Gb29;have Db29_l : Apart (some gb29) ((Value.slice none 0 0).ownBlock) := Apart.of_lt (qy Ol) Gb29;have Dl_b29 := Db29_l.symm;have Gb29 : _ ≤ gb29 := Nat.le_trans E.size Gb29;have GLb29 := Nat.le_trans LW.size Gb29;replace Ol := qd Ol Eb29 NotIn.nil;replace E := E.trans Eb29.no;replace HF := HF.cons (zz Gb29);replace E := E.cons (some gb29)
   replace XLW := Mut.grow XLW (fun k e => Or.inr (Nat.le_trans LW.size ((zz Gb29) k e)));refine zw (qz oz rfl rfl Bb29 rfl rfl rfl ?_);intro w31 Bx Eb29;replace Bb29 : Blk w31 gb29 80 #[.int .i64 t, .slice none 0 0] := Bx;replace Ol := qd Ol Eb29 (NotIn.cons Dl_b29 NotIn.nil);replace E := E.step1 Eb29 Mut.head
   refine rnx (zp (srx (mvx rfl (za rfl (yn rfl rfl (mvx rfl (onx rfl (zb Tryd.underlying41 rfl sz3 (by decide) rfl (onx rfl (zg Tryd.underlying3 rfl rfl (HF.on E).here.1.2 rfl (onx rfl (vb rfl rfl (za rfl (zx rfl rfl (rnx (zr rfl (fun h18 => ?_) (fun h18 => ?_)))))))))))))))))
   ·
    have e18 : x.op ≠ 18 := by simpa using h18
    refine zj (za rfl (zo Tryd.underlying41 rfl vx rfl (HF.on E).here.1.2 rfl (za rfl (yf en29 rfl ((zbv _ x B cB n0 (HF.on E).here.1.1.2 (Nat.le_trans hn ((LW.step E XLW).toBelow).size)).mono ?_)))));rintro e w32 ⟨Aw, cw, rfl, ow, hb⟩;refine ⟨_, rfl, ?_⟩
    have XC : ∀ q9, (Mut [(some gb29), ((Value.slice none 0 0).ownBlock)]) q9 → q9 < w31.heap.size := (Mut.grow (Mut.grow Mut.none_ (qy Ol)) (vd Bb29.lt));have SC := Nat.le_trans LW.size E.size;have Ec := Ext.of_below hb No;replace Bb29 := Bb29.extN Ec NotIn.nil;replace Ol := qd Ol Ec NotIn.nil;replace E := E.trans Ec.no;replace HF := HF.on E;replace LW := LW.step E XLW
    replace E := erx (Mut [(some gb29), ((Value.slice none 0 0).ownBlock)]) w32;replace HF := HF.and (Per.intsO ow XC hwl hwi);have hwr : ∀ q q', Aw = some ⟨q, q', none⟩ → w.heap.size ≤ q := fun q q' h => by subst h; exact Nat.le_trans SC (jj ow q rfl)
    refine za rfl (zb Tryd.underlying80 rfl gu (by decide) rfl (zw (zn gu rfl rfl Bb29 rfl rfl (Nat.le_of_ble_eq_true rfl) ?_)));intro w33 Bx Eb29;replace Bb29 := Bx;replace Ol := qd Ol Eb29 (NotIn.cons Dl_b29 NotIn.nil);replace E := E.step1 Eb29 Mut.head;replace HF := HF.on E;replace LW := LW.step E XLW
    have SB : ∀ q9, Mut [((Value.slice none 0 0).ownBlock)] q9 → Mut [(some gb29), ((Value.slice none 0 0).ownBlock)] q9 := (Mut.skip (Mut.keep Mut.nil_));replace HF := HF.less SB;replace XLW := fun k h => XLW k (SB k h);clear SB;replace E := erx (Mut [((Value.slice none 0 0).ownBlock)]) w33;replace HF := HF.and (Per.blkN Bb29 (NotIn.cons Db29_l NotIn.nil))
    refine rnx (zj (mvx rfl (za rfl (zo Tryd.underlying80 rfl oz rfl (HF.on E).here.2 rfl (za rfl (yl (cs := #[.int .i64 t, .slice Aw (yj x).length cw]) Tryd.underlying76 oz zex (by decide) rfl (by rw [ym]; rfl) ?_))))));intro gb34 w35 Bb34 Eb34 Gb34
    have Db34_l : Apart (some gb34) ((Value.slice none 0 0).ownBlock) := Apart.of_lt (qy Ol) Gb34;have Dl_b34 := Db34_l.symm;have Gb34 : _ ≤ gb34 := Nat.le_trans E.size Gb34;have GLb34 := Nat.le_trans LW.size Gb34;replace Ol := qd Ol Eb34 NotIn.nil;replace E := E.trans Eb34.no;replace HF := HF.cons (zz Gb34);replace E := E.cons (some gb34)
    replace XLW := Mut.grow XLW (fun k e => Or.inr (Nat.le_trans LW.size ((zz Gb34) k e)));replace HF := HF.on E;replace LW := LW.step E XLW;have SB : ∀ q9, Mut [((Value.slice none 0 0).ownBlock)] q9 → Mut [(some gb34), ((Value.slice none 0 0).ownBlock)] q9 := (Mut.skip (Mut.keep Mut.nil_));replace HF := HF.less SB;replace XLW := fun k h => XLW k (SB k h);clear SB
    replace E := erx (Mut [((Value.slice none 0 0).ownBlock)]) w35;replace HF := HF.and (Per.blkN Bb34 (NotIn.cons Db34_l NotIn.nil))
    refine za rfl (qw (news := [.int .i64 t, .slice Aw (yj x).length cw]) Tryd.underlying76 zrq rfl (by decide) rfl Ol rfl (vn (HF.on E).here.2 ((HF.on E).here.2).lt rfl) (by simp [Value.oneCell']) (by unfold maxLen; omega) (by omega) (by exact Nat.le_trans LW.size E.size) ?_);intro v0 w37 On En KN;obtain ⟨Aq36, cq36, rfl⟩ := qk On
    replace KN : ∀ q9, ((Value.slice Aq36 1 cq36).ownBlock) = some q9 → ((Value.slice none 0 0).ownBlock) = some q9 ∨ w35.heap.size ≤ q9 := KN;have HY : Gro (Mut [((Value.slice Aq36 1 cq36).ownBlock)]) (Mut [((Value.slice none 0 0).ownBlock)]) w35 := (Mut.grow Mut.none_ (fun k e => (KN k e).elim (fun e => Or.inl (Mut.head k e)) (fun h => Or.inr (Nat.le_trans E.size h))))
    replace E := E.step1 En Mut.head;replace HF := HF.turn E HY;have XT := fun q9 (h : (Mut [((Value.slice Aq36 1 cq36).ownBlock)]) q9) => (HY q9 h).elim (XLW q9) (fun h => Or.inr (Nat.le_trans LW.size h));replace LW := LW.step E XLW;replace XLW := XT;replace E := erx (Mut [((Value.slice Aq36 1 cq36).ownBlock)]) w37;clear HY
    replace Ol : World.ownsRow w37 w.heap.size 80 2 (.slice Aq36 1 cq36) 1 ([.int .i64 t, .slice Aw (yj x).length cw]) := by
     have e : (([]) : List Value) ++ ([.int .i64 t, .slice Aw (yj x).length cw] : List Value) = [.int .i64 t, .slice Aw (yj x).length cw] := rfl;rw [← e];exact On
    clear On KN En;refine avx rfl (yc (zf (zh (zj (mvx rfl (za rfl (qc (z := 1) rfl rfl (by kernel_rfl) (avx rfl (yc (zlq (zp (srx (mvx rfl (mvx rfl (za rfl (yw Tryd.underlying28 rfl (za rfl (yy rfl rfl (rnx (yr rfl (zq (zh (zp (yb (srx (mvx rfl (mvx rfl ?_)))))))))))))))))))))))))))
    obtain ⟨gA, oA, hAg, hgA, hcA⟩ := ((HF.on E).here.1.1.1.2).cell (j := 1) (x := u) (by rw [hgo]; rfl)
    refine za rfl (zk (j := 1) Tryd.underlying28 sz3 (congrArg (fun z ↦ some (Value.slice z 2 cg)) hAg) rfl rfl (by omega) (za rfl (zt Tryd.underlying3 rfl rfl hcA (za rfl (vo (cs := #[.int .i64 u, .slice none 0 0]) pl80 zex rfl rfl (za rfl (qb zex ?_)))))));intro gb38 w39 Bb38 Eb38 Gb38
    have Db38_l : Apart (some gb38) ((Value.slice Aq36 1 cq36).ownBlock) := Apart.of_lt (qy Ol) Gb38;have Dl_b38 := Db38_l.symm;have Gb38 : _ ≤ gb38 := Nat.le_trans E.size Gb38;have GLb38 := Nat.le_trans LW.size Gb38;replace Ol := qd Ol Eb38 NotIn.nil;replace E := E.trans Eb38.no;replace HF := HF.cons (zz Gb38);replace E := E.cons (some gb38)
    replace XLW := Mut.grow XLW (fun k e => Or.inr (Nat.le_trans LW.size ((zz Gb38) k e)));refine zw (qz oz rfl rfl Bb38 rfl rfl rfl ?_);intro w40 Bx Eb38;replace Bb38 : Blk w40 gb38 80 #[.int .i64 u, .slice none 0 0] := Bx;replace Ol := qd Ol Eb38 (NotIn.cons Dl_b38 NotIn.nil);replace E := E.step1 Eb38 Mut.head
    refine rnx (zp (srx (mvx rfl (za rfl (yn rfl rfl (mvx rfl (za rfl (zc rfl (za rfl (zc rfl (za rfl (zc rfl (za rfl (yd rfl rfl (rnx (qp rfl (zq (zh (zj (mvx rfl (za rfl (zo Tryd.underlying80 rfl oz rfl Bb38 rfl (za rfl (yl (cs := #[.int .i64 u, .slice none 0 0]) Tryd.underlying76 oz zex (by decide) rfl (by rw [ym]; rfl) ?_))))))))))))))))))))))))
    intro gb41 w42 Bb41 Eb41 Gb41;have Db41_b38 : Apart (some gb41) (some gb38) := Apart.of_lt (vd Bb38.lt) Gb41;have Db38_b41 := Db41_b38.symm;have Db41_l : Apart (some gb41) ((Value.slice Aq36 1 cq36).ownBlock) := Apart.of_lt (qy Ol) Gb41;have Dl_b41 := Db41_l.symm;have Gb41 : _ ≤ gb41 := Nat.le_trans E.size Gb41;have GLb41 := Nat.le_trans LW.size Gb41
    replace Bb38 := Bb38.extN Eb41 NotIn.nil;replace Ol := qd Ol Eb41 NotIn.nil;replace E := E.trans Eb41.no;replace HF := HF.cons (zz Gb41);replace E := E.cons (some gb41);replace XLW := Mut.grow XLW (fun k e => Or.inr (Nat.le_trans LW.size ((zz Gb41) k e)));replace HF := HF.on E;replace LW := LW.step E XLW
    have SB : ∀ q9, Mut [(some gb38), ((Value.slice Aq36 1 cq36).ownBlock)] q9 → Mut [(some gb41), (some gb38), ((Value.slice Aq36 1 cq36).ownBlock)] q9 := (Mut.skip (Mut.keep (Mut.keep Mut.nil_)));replace HF := HF.less SB;replace XLW := fun k h => XLW k (SB k h);clear SB;replace E := erx (Mut [(some gb38), ((Value.slice Aq36 1 cq36).ownBlock)]) w42
    replace HF := HF.and (Per.blkN Bb41 (NotIn.cons Db41_b38 (NotIn.cons Db41_l NotIn.nil)));refine za rfl (qw (news := [.int .i64 u, .slice none 0 0]) Tryd.underlying76 zrq rfl (by decide) rfl Ol rfl (vn (HF.on E).here.2 ((HF.on E).here.2).lt rfl) (by simp [Value.oneCell']) (by unfold maxLen; omega) (by omega) (by exact Nat.le_trans LW.size E.size) ?_)
    intro v0 w44 On En KN;obtain ⟨Aq43, cq43, rfl⟩ := qk On;replace KN : ∀ q9, ((Value.slice Aq43 2 cq43).ownBlock) = some q9 → ((Value.slice Aq36 1 cq36).ownBlock) = some q9 ∨ w42.heap.size ≤ q9 := KN;have LTb38 := (vd Bb38.lt);replace Bb38 := Bb38.extN En (NotIn.cons Db38_l NotIn.nil);replace Dl_b38 : Apart ((Value.slice Aq43 2 cq43).ownBlock) (some gb38) := Dl_b38.turn KN LTb38
    replace Db38_l := Dl_b38.symm;clear LTb38;have HY : Gro (Mut [(some gb38), ((Value.slice Aq43 2 cq43).ownBlock)]) (Mut [(some gb38), ((Value.slice Aq36 1 cq36).ownBlock)]) w42 := (Mut.grow (Mut.grow Mut.none_ (fun k e => (KN k e).elim (fun e => Or.inl ((Mut.tail Mut.head) k e)) (fun h => Or.inr (Nat.le_trans E.size h)))) (fun k e => Or.inl (Mut.head k e)))
    replace E := E.step1 En (Mut.tail Mut.head);replace HF := HF.turn E HY;have XT := fun q9 (h : (Mut [(some gb38), ((Value.slice Aq43 2 cq43).ownBlock)]) q9) => (HY q9 h).elim (XLW q9) (fun h => Or.inr (Nat.le_trans LW.size h));replace LW := LW.step E XLW;replace XLW := XT;replace E := erx (Mut [(some gb38), ((Value.slice Aq43 2 cq43).ownBlock)]) w44;clear HY
    replace Ol : World.ownsRow w44 w.heap.size 80 2 (.slice Aq43 2 cq43) 2 ([.int .i64 t, .slice Aw (yj x).length cw, .int .i64 u, .slice none 0 0]) := by
     have e : (([.int .i64 t, .slice Aw (yj x).length cw]) : List Value) ++ ([.int .i64 u, .slice none 0 0] : List Value) = [.int .i64 t, .slice Aw (yj x).length cw, .int .i64 u, .slice none 0 0] := rfl;rw [← e];exact On
    clear On KN En
    refine avx rfl (yc (zf (zh (zj (mvx rfl (za rfl (qc (z := 2) rfl rfl (by kernel_rfl) (avx rfl (yc (zlq (zp (srx (mvx rfl (mvx rfl (za rfl (yw Tryd.underlying28 rfl (za rfl (yy rfl rfl (rnx (qp rfl (qe (zm (zm (ya (zh (zp (srx (za rfl (zo Tryd.underlying27 rfl jp rfl (HF.on E).here.1.1.1.1.1.1.1.2 rfl (mvx rfl (za rfl (yf en47 rfl ((oh _ p f n0 (HF.on E).here.1.1.1.1.1.1.1.1.2 at_ x hx).mono ?_)))))))))))))))))))))))))))))))))
    rintro e w45 ⟨rfl, hb⟩;refine ⟨_, rfl, ?_⟩;have Ec := Ext.of_below hb No;replace Bb38 := Bb38.extN Ec NotIn.nil;replace Ol := qd Ol Ec NotIn.nil;replace E := E.trans Ec.no;by_cases hh : jn f at_ x = none
    ·
     refine qr 55 (.int .i64 (-1)) rfl ((by rw [zlx hh] : (.int .i64 (zgq f at_ x) : Value) = _)) (anx rfl (srx (mvx rfl (za rfl (jd rfl rfl (rnx (qp rfl (zq (zh (srx (mvx rfl (anx rfl (zv ?_)))))))))))));have ew := zfz hh hgo;refine zu (rs := [.tmp 4]) (vs := [_]) rfl ⟨rfl, trivial⟩ ?_
     exact xr (by rw [ew]; rfl) Ol (by rw [ew, show ja x [t, u] = [(t, yj x), (u, [])] by simp [ja, e18]]; exact jc ht (IntsA.top (HF.on E).here.1.1.1.2) hwr (jc hu zcz (fun _ _ h => by cases h) xu )) (LW.step E XLW).toBelow
    ·
     obtain ⟨kk, hkk⟩ : ∃ kk, jn f at_ x = some kk := by
      cases hz : jn f at_ x with
      | none => exact absurd hz hh
      | some kk => exact ⟨kk, rfl⟩
     obtain ⟨r, hr⟩ := zak hkk;have hkr := (List.getElem?_eq_some_iff.1 hr).1;refine qr 55 (.int .i64 ((kk : Nat) : Int)) rfl ((by rw [zik hkk] : (.int .i64 (zgq f at_ x) : Value) = _)) (anx rfl (srx (mvx rfl (za rfl (jd rfl rfl (rnx (zr rfl (fun h5 => ?_) (fun h5 => ?_))))))))
     ·
      obtain ⟨gr, ro, hA2, hgr, hcr⟩ := ((HF.on E).here.1.1.1.1.1.1.1.1.2).rgs.row.at hr;have hri := ((HF.on E).here.1.1.1.1.1.1.1.1.2).rgs.in_ r (List.mem_of_getElem? hr);have ew := zfx hkk hr hgo;replace HF := HF.on E;replace LW := LW.step E XLW;replace E := erx (Mut [(some gb38), ((Value.slice Aq43 2 cq43).ownBlock)]) w45
      replace HF := HF.and (Per.cellsA hcr hgr (fun k h => by rcases h with h | h | h | h | h <;> first | exact h.elim | exact Nat.le_trans hn (jj Ol k h.symm) | (have := Option.some.inj h; omega)));have OY : ∀ q9, (Mut (znx [])) q9 → q9 < (World.drew w45).heap.size → (Mut [(some gb38), ((Value.slice Aq43 2 cq43).ownBlock)]) q9 := fun k h _ => (Mut.none_) k h
      refine kr je (kt 16 rfl ?_);refine vv (Mut [(some gb38), ((Value.slice Aq43 2 cq43).ownBlock)]) (Mut.grow (Mut.grow Mut.none_ (qy Ol)) (vd Bb38.lt)) [] [] (kl [Fx.of (.slice Aq43 2 cq43),
       Fx.of (.pointer (some ⟨gb1, 9, none⟩)),
       Fx.of (.slice p.ar f.rgs.length p.cr),
       Fx.of (.int .i64 ((kk : Nat) : Int)),
       Fx.of (.pointer (some ⟨gr, ro + kk * 4, none⟩)),
       Fx.of (.pointer (some ⟨gr, ro + kk * 4 + 2, none⟩)),
       Fx.of (.int .i64 r.tg),
       Fx.of (.pointer (some ⟨gb1, 9, none⟩)),
       Fx.of (.slice p.ar f.rgs.length p.cr),
       Fx.of (.int .i64 ((kk : Nat) : Int)),
       Fx.of (.pointer (some ⟨gr, ro + kk * 4, none⟩)),
       Fx.of (.pointer (some ⟨gr, ro + kk * 4 + 3, none⟩)),
       Fx.of (.int .i64 r.d),
       ⟨Nat, fun gs => .slice (some ⟨gs, 0, none⟩) 1 1, fun gs b => (Blk b gs 3 #[.int .i64 r.d] ∧ w.heap.size ≤ gs)⟩,
       ⟨Nat, fun gs => .agg #[.int .i64 r.tg, .slice (some ⟨gs, 0, none⟩) 1 1], fun gs b => (Blk b gs 3 #[.int .i64 r.d] ∧ w.heap.size ≤ gs)⟩,
       ⟨(Nat × Nat), fun (gh, gs) => .slice (some ⟨gh, 0, none⟩) 1 1, fun (gh, gs) b => (Blk b gh 80 #[.int .i64 r.tg, .slice (some ⟨gs, 0, none⟩) 1 1] ∧ Blk b gs 3 #[.int .i64 r.d] ∧ w.heap.size ≤ gs)⟩]) rfl trivial (fun _ h => by cases h) ?_ ?_
      · refine ⟨?_, ?_, ?_, ?_, ?_, ?_, ?_, ?_, ?_, ?_, ?_, ?_, ?_, ?_, ?_, ?_, trivial⟩
        · intro vs X wq K;exact zl rfl ⟨Below.refl _ _, Left.of rfl⟩
        · intro vs X wq K;exact zb Tryd.underlying27 rfl ko (by decide) rfl ⟨Below.refl _ _, Left.of rfl⟩
        · intro vs X wq K;have LE := K.1;obtain ⟨_, e1, k1⟩ := K.dep 1 rfl rfl rfl;refine zd 59 (.pointer (some ⟨gb1, 9, none⟩)) rfl e1 ?_;exact zg Tryd.underlying25 rfl rfl (HF.on (E.drew.trans (LE.mono OY))).here.1.1.1.1.1.1.1.1.2 rfl ⟨Below.refl _ _, Left.of rfl⟩
        · intro vs X wq K;exact zl rfl ⟨Below.refl _ _, Left.of rfl⟩
        · intro vs X wq K;obtain ⟨_, e2, k2⟩ := K.dep 2 rfl rfl rfl;refine zd 60 (.slice p.ar f.rgs.length p.cr) rfl e2 ?_;obtain ⟨_, e3, k3⟩ := K.dep 3 rfl rfl rfl;refine zd 61 (.int .i64 ((kk : Nat) : Int)) rfl e3 ?_;exact yi (j := kk) Tryd.underlying25 ku (congrArg (fun z ↦ some (Value.slice z f.rgs.length p.cr)) hA2) rfl rfl hkr ⟨Below.refl _ _, Left.of rfl⟩
        · intro vs X wq K;obtain ⟨_, e4, k4⟩ := K.dep 4 rfl rfl rfl;refine zd 62 (.pointer (some ⟨gr, ro + kk * 4, none⟩)) rfl e4 ?_;exact zb Tryd.underlying50 rfl sz3 (by decide) rfl ⟨Below.refl _ _, Left.of rfl⟩
        · intro vs X wq K;have LE := K.1;obtain ⟨_, e5, k5⟩ := K.dep 5 rfl rfl rfl;refine zd 63 (.pointer (some ⟨gr, ro + kk * 4 + 2, none⟩)) rfl e5 ?_;exact zt Tryd.underlying3 rfl rfl ((HF.on (E.drew.trans (LE.mono OY))).here.2 2 _ rfl) ⟨Below.refl _ _, Left.of rfl⟩
        · intro vs X wq K;exact zb Tryd.underlying27 rfl ko (by decide) rfl ⟨Below.refl _ _, Left.of rfl⟩
        · intro vs X wq K;have LE := K.1;obtain ⟨_, e7, k7⟩ := K.dep 7 rfl rfl rfl;refine zd 65 (.pointer (some ⟨gb1, 9, none⟩)) rfl e7 ?_;exact zg Tryd.underlying25 rfl rfl (HF.on (E.drew.trans (LE.mono OY))).here.1.1.1.1.1.1.1.1.2 rfl ⟨Below.refl _ _, Left.of rfl⟩
        · intro vs X wq K;exact zl rfl ⟨Below.refl _ _, Left.of rfl⟩
        · intro vs X wq K;obtain ⟨_, e8, k8⟩ := K.dep 8 rfl rfl rfl;refine zd 66 (.slice p.ar f.rgs.length p.cr) rfl e8 ?_;obtain ⟨_, e9, k9⟩ := K.dep 9 rfl rfl rfl;refine zd 67 (.int .i64 ((kk : Nat) : Int)) rfl e9 ?_;exact yi (j := kk) Tryd.underlying25 ku (congrArg (fun z ↦ some (Value.slice z f.rgs.length p.cr)) hA2) rfl rfl hkr ⟨Below.refl _ _, Left.of rfl⟩
        · intro vs X wq K;obtain ⟨_, e10, k10⟩ := K.dep 10 rfl rfl rfl;refine zd 68 (.pointer (some ⟨gr, ro + kk * 4, none⟩)) rfl e10 ?_;exact zb Tryd.underlying50 rfl sz3 (by decide) rfl ⟨Below.refl _ _, Left.of rfl⟩
        · intro vs X wq K;have LE := K.1;obtain ⟨_, e11, k11⟩ := K.dep 11 rfl rfl rfl;refine zd 69 (.pointer (some ⟨gr, ro + kk * 4 + 3, none⟩)) rfl e11 ?_;exact zt Tryd.underlying3 rfl rfl ((HF.on (E.drew.trans (LE.mono OY))).here.2 3 _ rfl) ⟨Below.refl _ _, Left.of rfl⟩
        · intro vs X wq K;have LE := K.1;have XN := K.2.1;have SQ := Nat.le_trans LW.size (Nat.le_trans E.size LE.size);obtain ⟨_, e12, k12⟩ := K.dep 12 rfl rfl rfl;refine zd 70 (.int .i64 r.d) rfl e12 (qv (cs := #[.int .i64 r.d]) Tryd.underlying28 sz3 zr3 (by decide) rfl (by rw [ym]; rfl) ?_);intro gs w5 Bs hb Gs
          exact ⟨hb, ⟨gs, rfl, (Per.blk Bs (fun hx => by have := XN gs hx; omega)).and (fun _ _ => Nat.le_trans SQ Gs)⟩⟩
        · intro vs X wq K;obtain ⟨_, e6, k6⟩ := K.dep 6 rfl rfl rfl;refine zd 64 (.int .i64 r.tg) rfl e6 ?_;obtain ⟨gs, e13, k13⟩ := K.dep 13 rfl rfl rfl;refine zd 71 (.slice (some ⟨gs, 0, none⟩) 1 1) rfl e13 ?_;exact vo (cs := #[.int .i64 r.tg, .slice (some ⟨gs, 0, none⟩) 1 1]) pl80 zex rfl rfl ⟨Below.refl _ _, ⟨gs, rfl, (k13.map (fun _ h => h))⟩⟩
        · intro vs X wq K;have XN := K.2.1;obtain ⟨gs, e14, k14⟩ := K.dep 14 rfl rfl rfl;refine zd 72 (.agg #[.int .i64 r.tg, .slice (some ⟨gs, 0, none⟩) 1 1]) rfl e14 (qv (cs := #[.int .i64 r.tg, .slice (some ⟨gs, 0, none⟩) 1 1]) Tryd.underlying76 oz zex (by decide) rfl (by rw [ym]; rfl) ?_);intro gh w5 Bs hb Gs
          exact ⟨hb, ⟨(gh, gs), rfl, (Per.blk Bs (fun hx => by have := XN gh hx; omega)).and (k14.on (Ext.of_below hb _))⟩⟩
      intro vs w46 LE AO AL AF AA;have LBb38 := Bb38;have LOl := Ol;replace Bb38 := Bb38.drew.extN LE NotIn.nil;replace Ol := qd (w := World.drew _) Ol LE NotIn.nil;replace E := E.drew.trans (LE.mono OY);obtain ⟨_, e0, k0⟩ := AL.1;obtain ⟨⟨gh, gs⟩, e15, k15⟩ := AL.2.2.2.2.2.2.2.2.2.2.2.2.2.2.2.1;replace HF := HF.on E;replace LW := LW.step E XLW
      replace E := erx (Mut [(some gb38), ((Value.slice Aq43 2 cq43).ownBlock)]) w46;replace HF := HF.and ((k15.map (fun _ h => h) : Per (Mut [(some gb38), ((Value.slice Aq43 2 cq43).ownBlock)]) w46 (fun b => Blk b gh 80 #[.int .i64 r.tg, .slice (some ⟨gs, 0, none⟩) 1 1] ∧ Blk b gs 3 #[.int .i64 r.d] ∧ w.heap.size ≤ gs)))
      refine vq (τ := [(4, _), (7, _), (58, .slice Aq43 2 cq43), (73, .slice (some ⟨gh, 0, none⟩) 1 1)]) ⟨rfl, rfl, congrArg some e0, congrArg some e15, trivial⟩ ?_;clear AL AF AA LE AO OY e0 e15 k0 k15 LBb38 LOl
      refine ol (ji (by kernel_rfl) (fun _ _ d_ _ _ h => by cases d_ <;> exact h) (za rfl (qw (news := [.int .i64 r.tg, .slice (some ⟨gs, 0, none⟩) 1 1]) Tryd.underlying76 zrq rfl (by decide) rfl Ol rfl (vn ((HF.on E).here.2).1 (((HF.on E).here.2).1).lt rfl) (by simp [Value.oneCell']) (by unfold maxLen; omega) (by omega) (by exact Nat.le_trans LW.size E.size) ?_)))
      intro v0 w47 On En KN;obtain ⟨A9, c9, rfl⟩ := qk On;replace KN : ∀ q9, ((Value.slice A9 3 c9).ownBlock) = some q9 → ((Value.slice Aq43 2 cq43).ownBlock) = some q9 ∨ w46.heap.size ≤ q9 := KN;have LTb38 := (vd Bb38.lt);replace Bb38 := Bb38.extN En (NotIn.cons Db38_l NotIn.nil);replace Dl_b38 : Apart ((Value.slice A9 3 c9).ownBlock) (some gb38) := Dl_b38.turn KN LTb38
      replace Db38_l := Dl_b38.symm;clear LTb38;have HY : Gro (Mut [(some gb38), ((Value.slice A9 3 c9).ownBlock)]) (Mut [(some gb38), ((Value.slice Aq43 2 cq43).ownBlock)]) w46 := (Mut.grow (Mut.grow Mut.none_ (fun k e => (KN k e).elim (fun e => Or.inl ((Mut.tail Mut.head) k e)) (fun h => Or.inr (Nat.le_trans E.size h)))) (fun k e => Or.inl (Mut.head k e)))
      replace E := E.step1 En (Mut.tail Mut.head);replace HF := HF.turn E HY;have XT := fun q9 (h : (Mut [(some gb38), ((Value.slice A9 3 c9).ownBlock)]) q9) => (HY q9 h).elim (XLW q9) (fun h => Or.inr (Nat.le_trans LW.size h));replace LW := LW.step E XLW;replace XLW := XT;replace E := erx (Mut [(some gb38), ((Value.slice A9 3 c9).ownBlock)]) w47;clear HY
      replace Ol : World.ownsRow w47 w.heap.size 80 2 (.slice A9 3 c9) 3 ([.int .i64 t, .slice Aw (yj x).length cw, .int .i64 u, .slice none 0 0, .int .i64 r.tg, .slice (some ⟨gs, 0, none⟩) 1 1]) := by
       have e : (([.int .i64 t, .slice Aw (yj x).length cw, .int .i64 u, .slice none 0 0]) : List Value) ++ ([.int .i64 r.tg, .slice (some ⟨gs, 0, none⟩) 1 1] : List Value) = [.int .i64 t, .slice Aw (yj x).length cw, .int .i64 u, .slice none 0 0, .int .i64 r.tg, .slice (some ⟨gs, 0, none⟩) 1 1] := rfl;rw [← e];exact On
      clear On KN En;have ed := zkk ((HF.on E).here.2).2.1 hri.d;have hgs := ((HF.on E).here.2).2.2;refine anx rfl (srx (mvx rfl (anx rfl (zv (zu (rs := [.tmp 4]) (vs := [_]) rfl ⟨rfl, trivial⟩ ?_)))))
      exact xr (by rw [ew]; rfl) Ol (by rw [ew, show ja x [t, u] = [(t, yj x), (u, [])] by simp [ja, e18]]; exact jc ht (IntsA.top (HF.on E).here.1.1.1.1.1.2) hwr (jc hu zcz (fun _ _ h => by cases h) (jc hri.tg ed (fun q q' h => by cases h; exact hgs) xu) )) (LW.step E XLW).toBelow
     ·
      exact absurd (of_decide_eq_false h5) (by omega)
   ·
    have e18 : x.op = 18 := by simpa using h18
    refine zq (zh (zj (mvx rfl (za rfl (zo Tryd.underlying80 rfl oz rfl Bb29 rfl (za rfl (yl (cs := #[.int .i64 t, .slice none 0 0]) Tryd.underlying76 oz zex (by decide) rfl (by rw [ym]; rfl) ?_)))))));intro gb48 w49 Bb48 Eb48 Gb48;have Db48_b29 : Apart (some gb48) (some gb29) := Apart.of_lt (vd Bb29.lt) Gb48
    have Db29_b48 := Db48_b29.symm;have Db48_l : Apart (some gb48) ((Value.slice none 0 0).ownBlock) := Apart.of_lt (qy Ol) Gb48;have Dl_b48 := Db48_l.symm;have Gb48 : _ ≤ gb48 := Nat.le_trans E.size Gb48;have GLb48 := Nat.le_trans LW.size Gb48;replace Bb29 := Bb29.extN Eb48 NotIn.nil;replace Ol := qd Ol Eb48 NotIn.nil;replace E := E.trans Eb48.no
    replace HF := HF.cons (zz Gb48);replace E := E.cons (some gb48);replace XLW := Mut.grow XLW (fun k e => Or.inr (Nat.le_trans LW.size ((zz Gb48) k e)));replace HF := HF.on E;replace LW := LW.step E XLW
    have SB : ∀ q9, Mut [(some gb29), ((Value.slice none 0 0).ownBlock)] q9 → Mut [(some gb48), (some gb29), ((Value.slice none 0 0).ownBlock)] q9 := (Mut.skip (Mut.keep (Mut.keep Mut.nil_)));replace HF := HF.less SB;replace XLW := fun k h => XLW k (SB k h);clear SB;replace E := erx (Mut [(some gb29), ((Value.slice none 0 0).ownBlock)]) w49
    replace HF := HF.and (Per.blkN Bb48 (NotIn.cons Db48_b29 (NotIn.cons Db48_l NotIn.nil)));refine za rfl (qw (news := [.int .i64 t, .slice none 0 0]) Tryd.underlying76 zrq rfl (by decide) rfl Ol rfl (vn (HF.on E).here.2 ((HF.on E).here.2).lt rfl) (by simp [Value.oneCell']) (by unfold maxLen; omega) (by omega) (by exact Nat.le_trans LW.size E.size) ?_)
    intro v0 w51 On En KN;obtain ⟨Aq50, cq50, rfl⟩ := qk On;replace KN : ∀ q9, ((Value.slice Aq50 1 cq50).ownBlock) = some q9 → ((Value.slice none 0 0).ownBlock) = some q9 ∨ w49.heap.size ≤ q9 := KN;have LTb29 := (vd Bb29.lt);replace Bb29 := Bb29.extN En (NotIn.cons Db29_l NotIn.nil);replace Dl_b29 : Apart ((Value.slice Aq50 1 cq50).ownBlock) (some gb29) := Dl_b29.turn KN LTb29
    replace Db29_l := Dl_b29.symm;clear LTb29;have HY : Gro (Mut [(some gb29), ((Value.slice Aq50 1 cq50).ownBlock)]) (Mut [(some gb29), ((Value.slice none 0 0).ownBlock)]) w49 := (Mut.grow (Mut.grow Mut.none_ (fun k e => (KN k e).elim (fun e => Or.inl ((Mut.tail Mut.head) k e)) (fun h => Or.inr (Nat.le_trans E.size h)))) (fun k e => Or.inl (Mut.head k e)))
    replace E := E.step1 En (Mut.tail Mut.head);replace HF := HF.turn E HY;have XT := fun q9 (h : (Mut [(some gb29), ((Value.slice Aq50 1 cq50).ownBlock)]) q9) => (HY q9 h).elim (XLW q9) (fun h => Or.inr (Nat.le_trans LW.size h));replace LW := LW.step E XLW;replace XLW := XT;replace E := erx (Mut [(some gb29), ((Value.slice Aq50 1 cq50).ownBlock)]) w51;clear HY
    replace Ol : World.ownsRow w51 w.heap.size 80 2 (.slice Aq50 1 cq50) 1 ([.int .i64 t, .slice none 0 0]) := by
     have e : (([]) : List Value) ++ ([.int .i64 t, .slice none 0 0] : List Value) = [.int .i64 t, .slice none 0 0] := rfl;rw [← e];exact On
    clear On KN En;refine avx rfl (yc (zf (zh (zj (mvx rfl (za rfl (qc (z := 1) rfl rfl (by kernel_rfl) (avx rfl (yc (zlq (zp (srx (mvx rfl (mvx rfl (za rfl (yw Tryd.underlying28 rfl (za rfl (yy rfl rfl (rnx (yr rfl (zq (zh (zp (yb (srx (mvx rfl (mvx rfl ?_)))))))))))))))))))))))))))
    obtain ⟨gA, oA, hAg, hgA, hcA⟩ := ((HF.on E).here.1.2).cell (j := 1) (x := u) (by rw [hgo]; rfl)
    refine za rfl (zk (j := 1) Tryd.underlying28 sz3 (congrArg (fun z ↦ some (Value.slice z 2 cg)) hAg) rfl rfl (by omega) (za rfl (zt Tryd.underlying3 rfl rfl hcA (za rfl (vo (cs := #[.int .i64 u, .slice none 0 0]) pl80 zex rfl rfl (za rfl (qb zex ?_)))))));intro gb52 w53 Bb52 Eb52 Gb52
    have Db52_b29 : Apart (some gb52) (some gb29) := Apart.of_lt (vd Bb29.lt) Gb52;have Db29_b52 := Db52_b29.symm;have Db52_l : Apart (some gb52) ((Value.slice Aq50 1 cq50).ownBlock) := Apart.of_lt (qy Ol) Gb52;have Dl_b52 := Db52_l.symm;have Gb52 : _ ≤ gb52 := Nat.le_trans E.size Gb52;have GLb52 := Nat.le_trans LW.size Gb52;replace Bb29 := Bb29.extN Eb52 NotIn.nil
    replace Ol := qd Ol Eb52 NotIn.nil;replace E := E.trans Eb52.no;replace HF := HF.cons (zz Gb52);replace E := E.cons (some gb52);replace XLW := Mut.grow XLW (fun k e => Or.inr (Nat.le_trans LW.size ((zz Gb52) k e)));refine zw (qz oz rfl rfl Bb52 rfl rfl rfl ?_);intro w54 Bx Eb52;replace Bb52 : Blk w54 gb52 80 #[.int .i64 u, .slice none 0 0] := Bx
    replace Bb29 := Bb29.extN Eb52 (NotIn.cons Db29_b52 NotIn.nil);replace Ol := qd Ol Eb52 (NotIn.cons Dl_b52 NotIn.nil);replace E := E.step1 Eb52 Mut.head
    refine rnx (zp (srx (mvx rfl (za rfl (yn rfl rfl (mvx rfl (za rfl (zc rfl (za rfl (zc rfl (za rfl (zc rfl (za rfl (yd rfl rfl (rnx (qp rfl (zq (zh (zj (mvx rfl (za rfl (zo Tryd.underlying80 rfl oz rfl Bb52 rfl (za rfl (yl (cs := #[.int .i64 u, .slice none 0 0]) Tryd.underlying76 oz zex (by decide) rfl (by rw [ym]; rfl) ?_))))))))))))))))))))))))
    intro gb55 w56 Bb55 Eb55 Gb55;have Db55_b52 : Apart (some gb55) (some gb52) := Apart.of_lt (vd Bb52.lt) Gb55;have Db52_b55 := Db55_b52.symm;have Db55_b29 : Apart (some gb55) (some gb29) := Apart.of_lt (vd Bb29.lt) Gb55;have Db29_b55 := Db55_b29.symm;have Db55_l : Apart (some gb55) ((Value.slice Aq50 1 cq50).ownBlock) := Apart.of_lt (qy Ol) Gb55;have Dl_b55 := Db55_l.symm
    have Gb55 : _ ≤ gb55 := Nat.le_trans E.size Gb55;have GLb55 := Nat.le_trans LW.size Gb55;replace Bb52 := Bb52.extN Eb55 NotIn.nil;replace Bb29 := Bb29.extN Eb55 NotIn.nil;replace Ol := qd Ol Eb55 NotIn.nil;replace E := E.trans Eb55.no;replace HF := HF.cons (zz Gb55);replace E := E.cons (some gb55)
    replace XLW := Mut.grow XLW (fun k e => Or.inr (Nat.le_trans LW.size ((zz Gb55) k e)));replace HF := HF.on E;replace LW := LW.step E XLW;have SB : ∀ q9, Mut [(some gb52), (some gb29), ((Value.slice Aq50 1 cq50).ownBlock)] q9 → Mut [(some gb55), (some gb52), (some gb29), ((Value.slice Aq50 1 cq50).ownBlock)] q9 := (Mut.skip (Mut.keep (Mut.keep (Mut.keep Mut.nil_))))
    replace HF := HF.less SB;replace XLW := fun k h => XLW k (SB k h);clear SB;replace E := erx (Mut [(some gb52), (some gb29), ((Value.slice Aq50 1 cq50).ownBlock)]) w56;replace HF := HF.and (Per.blkN Bb55 (NotIn.cons Db55_b52 (NotIn.cons Db55_b29 (NotIn.cons Db55_l NotIn.nil))))
    refine za rfl (qw (news := [.int .i64 u, .slice none 0 0]) Tryd.underlying76 zrq rfl (by decide) rfl Ol rfl (vn (HF.on E).here.2 ((HF.on E).here.2).lt rfl) (by simp [Value.oneCell']) (by unfold maxLen; omega) (by omega) (by exact Nat.le_trans LW.size E.size) ?_);intro v0 w58 On En KN;obtain ⟨Aq57, cq57, rfl⟩ := qk On
    replace KN : ∀ q9, ((Value.slice Aq57 2 cq57).ownBlock) = some q9 → ((Value.slice Aq50 1 cq50).ownBlock) = some q9 ∨ w56.heap.size ≤ q9 := KN;have LTb52 := (vd Bb52.lt);have LTb29 := (vd Bb29.lt);replace Bb52 := Bb52.extN En (NotIn.cons Db52_l NotIn.nil);replace Bb29 := Bb29.extN En (NotIn.cons Db29_l NotIn.nil)
    replace Dl_b52 : Apart ((Value.slice Aq57 2 cq57).ownBlock) (some gb52) := Dl_b52.turn KN LTb52;replace Db52_l := Dl_b52.symm;replace Dl_b29 : Apart ((Value.slice Aq57 2 cq57).ownBlock) (some gb29) := Dl_b29.turn KN LTb29;replace Db29_l := Dl_b29.symm;clear LTb52;clear LTb29
    have HY : Gro (Mut [(some gb52), (some gb29), ((Value.slice Aq57 2 cq57).ownBlock)]) (Mut [(some gb52), (some gb29), ((Value.slice Aq50 1 cq50).ownBlock)]) w56 := (Mut.grow (Mut.grow (Mut.grow Mut.none_ (fun k e => (KN k e).elim (fun e => Or.inl ((Mut.tail (Mut.tail Mut.head)) k e)) (fun h => Or.inr (Nat.le_trans E.size h)))) (fun k e => Or.inl ((Mut.tail Mut.head) k e))) (fun k e => Or.inl (Mut.head k e)))
    replace E := E.step1 En (Mut.tail (Mut.tail Mut.head));replace HF := HF.turn E HY;have XT := fun q9 (h : (Mut [(some gb52), (some gb29), ((Value.slice Aq57 2 cq57).ownBlock)]) q9) => (HY q9 h).elim (XLW q9) (fun h => Or.inr (Nat.le_trans LW.size h));replace LW := LW.step E XLW;replace XLW := XT;replace E := erx (Mut [(some gb52), (some gb29), ((Value.slice Aq57 2 cq57).ownBlock)]) w58
    clear HY;replace Ol : World.ownsRow w58 w.heap.size 80 2 (.slice Aq57 2 cq57) 2 ([.int .i64 t, .slice none 0 0, .int .i64 u, .slice none 0 0]) := by
     have e : (([.int .i64 t, .slice none 0 0]) : List Value) ++ ([.int .i64 u, .slice none 0 0] : List Value) = [.int .i64 t, .slice none 0 0, .int .i64 u, .slice none 0 0] := rfl;rw [← e];exact On
    clear On KN En
    refine avx rfl (yc (zf (zh (zj (mvx rfl (za rfl (qc (z := 2) rfl rfl (by kernel_rfl) (avx rfl (yc (zlq (zp (srx (mvx rfl (mvx rfl (za rfl (yw Tryd.underlying28 rfl (za rfl (yy rfl rfl (rnx (qp rfl (qe (zm (zm (ya (zh (zp (srx (za rfl (zo Tryd.underlying27 rfl jp rfl (HF.on E).here.1.1.1.1.1.2 rfl (mvx rfl (za rfl (yf en47 rfl ((oh _ p f n0 (HF.on E).here.1.1.1.1.1.1.2 at_ x hx).mono ?_)))))))))))))))))))))))))))))))))
    rintro e w59 ⟨rfl, hb⟩;refine ⟨_, rfl, ?_⟩;have Ec := Ext.of_below hb No;replace Bb52 := Bb52.extN Ec NotIn.nil;replace Bb29 := Bb29.extN Ec NotIn.nil;replace Ol := qd Ol Ec NotIn.nil;replace E := E.trans Ec.no;by_cases hh : jn f at_ x = none
    ·
     refine qr 55 (.int .i64 (-1)) rfl ((by rw [zlx hh] : (.int .i64 (zgq f at_ x) : Value) = _)) (anx rfl (srx (mvx rfl (za rfl (jd rfl rfl (rnx (qp rfl (zq (zh (srx (mvx rfl (anx rfl (zv ?_)))))))))))));have ew := zfz hh hgo;refine zu (rs := [.tmp 4]) (vs := [_]) rfl ⟨rfl, trivial⟩ ?_
     exact xr (by rw [ew]; rfl) Ol (by rw [ew, show ja x [t, u] = [(t, []), (u, [])] by simp [ja, e18]]; exact jc ht zcz (fun _ _ h => by cases h) (jc hu zcz (fun _ _ h => by cases h) xu )) (LW.step E XLW).toBelow
    ·
     obtain ⟨kk, hkk⟩ : ∃ kk, jn f at_ x = some kk := by
      cases hz : jn f at_ x with
      | none => exact absurd hz hh
      | some kk => exact ⟨kk, rfl⟩
     obtain ⟨r, hr⟩ := zak hkk;have hkr := (List.getElem?_eq_some_iff.1 hr).1;refine qr 55 (.int .i64 ((kk : Nat) : Int)) rfl ((by rw [zik hkk] : (.int .i64 (zgq f at_ x) : Value) = _)) (anx rfl (srx (mvx rfl (za rfl (jd rfl rfl (rnx (zr rfl (fun h5 => ?_) (fun h5 => ?_))))))))
     ·
      obtain ⟨gr, ro, hA2, hgr, hcr⟩ := ((HF.on E).here.1.1.1.1.1.1.2).rgs.row.at hr;have hri := ((HF.on E).here.1.1.1.1.1.1.2).rgs.in_ r (List.mem_of_getElem? hr);have ew := zfx hkk hr hgo;replace HF := HF.on E;replace LW := LW.step E XLW;replace E := erx (Mut [(some gb52), (some gb29), ((Value.slice Aq57 2 cq57).ownBlock)]) w59
      replace HF := HF.and (Per.cellsA hcr hgr (fun k h => by rcases h with h | h | h | h | h <;> first | exact h.elim | exact Nat.le_trans hn (jj Ol k h.symm) | (have := Option.some.inj h; omega)));have OY : ∀ q9, (Mut (znx [])) q9 → q9 < (World.drew w59).heap.size → (Mut [(some gb52), (some gb29), ((Value.slice Aq57 2 cq57).ownBlock)]) q9 := fun k h _ => (Mut.none_) k h
      refine kr je (kt 16 rfl ?_);refine vv (Mut [(some gb52), (some gb29), ((Value.slice Aq57 2 cq57).ownBlock)]) (Mut.grow (Mut.grow (Mut.grow Mut.none_ (qy Ol)) (vd Bb29.lt)) (vd Bb52.lt)) [] [] (kl [Fx.of (.slice Aq57 2 cq57),
       Fx.of (.pointer (some ⟨gb1, 9, none⟩)),
       Fx.of (.slice p.ar f.rgs.length p.cr),
       Fx.of (.int .i64 ((kk : Nat) : Int)),
       Fx.of (.pointer (some ⟨gr, ro + kk * 4, none⟩)),
       Fx.of (.pointer (some ⟨gr, ro + kk * 4 + 2, none⟩)),
       Fx.of (.int .i64 r.tg),
       Fx.of (.pointer (some ⟨gb1, 9, none⟩)),
       Fx.of (.slice p.ar f.rgs.length p.cr),
       Fx.of (.int .i64 ((kk : Nat) : Int)),
       Fx.of (.pointer (some ⟨gr, ro + kk * 4, none⟩)),
       Fx.of (.pointer (some ⟨gr, ro + kk * 4 + 3, none⟩)),
       Fx.of (.int .i64 r.d),
       ⟨Nat, fun gs => .slice (some ⟨gs, 0, none⟩) 1 1, fun gs b => (Blk b gs 3 #[.int .i64 r.d] ∧ w.heap.size ≤ gs)⟩,
       ⟨Nat, fun gs => .agg #[.int .i64 r.tg, .slice (some ⟨gs, 0, none⟩) 1 1], fun gs b => (Blk b gs 3 #[.int .i64 r.d] ∧ w.heap.size ≤ gs)⟩,
       ⟨(Nat × Nat), fun (gh, gs) => .slice (some ⟨gh, 0, none⟩) 1 1, fun (gh, gs) b => (Blk b gh 80 #[.int .i64 r.tg, .slice (some ⟨gs, 0, none⟩) 1 1] ∧ Blk b gs 3 #[.int .i64 r.d] ∧ w.heap.size ≤ gs)⟩]) rfl trivial (fun _ h => by cases h) ?_ ?_
      · refine ⟨?_, ?_, ?_, ?_, ?_, ?_, ?_, ?_, ?_, ?_, ?_, ?_, ?_, ?_, ?_, ?_, trivial⟩
        · intro vs X wq K;exact zl rfl ⟨Below.refl _ _, Left.of rfl⟩
        · intro vs X wq K;exact zb Tryd.underlying27 rfl ko (by decide) rfl ⟨Below.refl _ _, Left.of rfl⟩
        · intro vs X wq K;have LE := K.1;obtain ⟨_, e1, k1⟩ := K.dep 1 rfl rfl rfl;refine zd 59 (.pointer (some ⟨gb1, 9, none⟩)) rfl e1 ?_;exact zg Tryd.underlying25 rfl rfl (HF.on (E.drew.trans (LE.mono OY))).here.1.1.1.1.1.1.2 rfl ⟨Below.refl _ _, Left.of rfl⟩
        · intro vs X wq K;exact zl rfl ⟨Below.refl _ _, Left.of rfl⟩
        · intro vs X wq K;obtain ⟨_, e2, k2⟩ := K.dep 2 rfl rfl rfl;refine zd 60 (.slice p.ar f.rgs.length p.cr) rfl e2 ?_;obtain ⟨_, e3, k3⟩ := K.dep 3 rfl rfl rfl;refine zd 61 (.int .i64 ((kk : Nat) : Int)) rfl e3 ?_;exact yi (j := kk) Tryd.underlying25 ku (congrArg (fun z ↦ some (Value.slice z f.rgs.length p.cr)) hA2) rfl rfl hkr ⟨Below.refl _ _, Left.of rfl⟩
        · intro vs X wq K;obtain ⟨_, e4, k4⟩ := K.dep 4 rfl rfl rfl;refine zd 62 (.pointer (some ⟨gr, ro + kk * 4, none⟩)) rfl e4 ?_;exact zb Tryd.underlying50 rfl sz3 (by decide) rfl ⟨Below.refl _ _, Left.of rfl⟩
        · intro vs X wq K;have LE := K.1;obtain ⟨_, e5, k5⟩ := K.dep 5 rfl rfl rfl;refine zd 63 (.pointer (some ⟨gr, ro + kk * 4 + 2, none⟩)) rfl e5 ?_;exact zt Tryd.underlying3 rfl rfl ((HF.on (E.drew.trans (LE.mono OY))).here.2 2 _ rfl) ⟨Below.refl _ _, Left.of rfl⟩
        · intro vs X wq K;exact zb Tryd.underlying27 rfl ko (by decide) rfl ⟨Below.refl _ _, Left.of rfl⟩
        · intro vs X wq K;have LE := K.1;obtain ⟨_, e7, k7⟩ := K.dep 7 rfl rfl rfl;refine zd 65 (.pointer (some ⟨gb1, 9, none⟩)) rfl e7 ?_;exact zg Tryd.underlying25 rfl rfl (HF.on (E.drew.trans (LE.mono OY))).here.1.1.1.1.1.1.2 rfl ⟨Below.refl _ _, Left.of rfl⟩
        · intro vs X wq K;exact zl rfl ⟨Below.refl _ _, Left.of rfl⟩
        · intro vs X wq K;obtain ⟨_, e8, k8⟩ := K.dep 8 rfl rfl rfl;refine zd 66 (.slice p.ar f.rgs.length p.cr) rfl e8 ?_;obtain ⟨_, e9, k9⟩ := K.dep 9 rfl rfl rfl;refine zd 67 (.int .i64 ((kk : Nat) : Int)) rfl e9 ?_;exact yi (j := kk) Tryd.underlying25 ku (congrArg (fun z ↦ some (Value.slice z f.rgs.length p.cr)) hA2) rfl rfl hkr ⟨Below.refl _ _, Left.of rfl⟩
        · intro vs X wq K;obtain ⟨_, e10, k10⟩ := K.dep 10 rfl rfl rfl;refine zd 68 (.pointer (some ⟨gr, ro + kk * 4, none⟩)) rfl e10 ?_;exact zb Tryd.underlying50 rfl sz3 (by decide) rfl ⟨Below.refl _ _, Left.of rfl⟩
        · intro vs X wq K;have LE := K.1;obtain ⟨_, e11, k11⟩ := K.dep 11 rfl rfl rfl;refine zd 69 (.pointer (some ⟨gr, ro + kk * 4 + 3, none⟩)) rfl e11 ?_;exact zt Tryd.underlying3 rfl rfl ((HF.on (E.drew.trans (LE.mono OY))).here.2 3 _ rfl) ⟨Below.refl _ _, Left.of rfl⟩
        · intro vs X wq K;have LE := K.1;have XN := K.2.1;have SQ := Nat.le_trans LW.size (Nat.le_trans E.size LE.size);obtain ⟨_, e12, k12⟩ := K.dep 12 rfl rfl rfl;refine zd 70 (.int .i64 r.d) rfl e12 (qv (cs := #[.int .i64 r.d]) Tryd.underlying28 sz3 zr3 (by decide) rfl (by rw [ym]; rfl) ?_);intro gs w5 Bs hb Gs
          exact ⟨hb, ⟨gs, rfl, (Per.blk Bs (fun hx => by have := XN gs hx; omega)).and (fun _ _ => Nat.le_trans SQ Gs)⟩⟩
        · intro vs X wq K;obtain ⟨_, e6, k6⟩ := K.dep 6 rfl rfl rfl;refine zd 64 (.int .i64 r.tg) rfl e6 ?_;obtain ⟨gs, e13, k13⟩ := K.dep 13 rfl rfl rfl;refine zd 71 (.slice (some ⟨gs, 0, none⟩) 1 1) rfl e13 ?_;exact vo (cs := #[.int .i64 r.tg, .slice (some ⟨gs, 0, none⟩) 1 1]) pl80 zex rfl rfl ⟨Below.refl _ _, ⟨gs, rfl, (k13.map (fun _ h => h))⟩⟩
        · intro vs X wq K;have XN := K.2.1;obtain ⟨gs, e14, k14⟩ := K.dep 14 rfl rfl rfl;refine zd 72 (.agg #[.int .i64 r.tg, .slice (some ⟨gs, 0, none⟩) 1 1]) rfl e14 (qv (cs := #[.int .i64 r.tg, .slice (some ⟨gs, 0, none⟩) 1 1]) Tryd.underlying76 oz zex (by decide) rfl (by rw [ym]; rfl) ?_);intro gh w5 Bs hb Gs
          exact ⟨hb, ⟨(gh, gs), rfl, (Per.blk Bs (fun hx => by have := XN gh hx; omega)).and (k14.on (Ext.of_below hb _))⟩⟩
      intro vs w60 LE AO AL AF AA;have LBb52 := Bb52;have LBb29 := Bb29;have LOl := Ol;replace Bb52 := Bb52.drew.extN LE NotIn.nil;replace Bb29 := Bb29.drew.extN LE NotIn.nil;replace Ol := qd (w := World.drew _) Ol LE NotIn.nil;replace E := E.drew.trans (LE.mono OY);obtain ⟨_, e0, k0⟩ := AL.1;obtain ⟨⟨gh, gs⟩, e15, k15⟩ := AL.2.2.2.2.2.2.2.2.2.2.2.2.2.2.2.1;replace HF := HF.on E
      replace LW := LW.step E XLW;replace E := erx (Mut [(some gb52), (some gb29), ((Value.slice Aq57 2 cq57).ownBlock)]) w60;replace HF := HF.and ((k15.map (fun _ h => h) : Per (Mut [(some gb52), (some gb29), ((Value.slice Aq57 2 cq57).ownBlock)]) w60 (fun b => Blk b gh 80 #[.int .i64 r.tg, .slice (some ⟨gs, 0, none⟩) 1 1] ∧ Blk b gs 3 #[.int .i64 r.d] ∧ w.heap.size ≤ gs)))
      refine vq (τ := [(4, _), (7, _), (58, .slice Aq57 2 cq57), (73, .slice (some ⟨gh, 0, none⟩) 1 1)]) ⟨rfl, rfl, congrArg some e0, congrArg some e15, trivial⟩ ?_;clear AL AF AA LE AO OY e0 e15 k0 k15 LBb52 LBb29 LOl
      refine ol (ji (by kernel_rfl) (fun _ _ d_ _ _ h => by cases d_ <;> exact h) (za rfl (qw (news := [.int .i64 r.tg, .slice (some ⟨gs, 0, none⟩) 1 1]) Tryd.underlying76 zrq rfl (by decide) rfl Ol rfl (vn ((HF.on E).here.2).1 (((HF.on E).here.2).1).lt rfl) (by simp [Value.oneCell']) (by unfold maxLen; omega) (by omega) (by exact Nat.le_trans LW.size E.size) ?_)))
      intro v0 w61 On En KN;obtain ⟨A9, c9, rfl⟩ := qk On;replace KN : ∀ q9, ((Value.slice A9 3 c9).ownBlock) = some q9 → ((Value.slice Aq57 2 cq57).ownBlock) = some q9 ∨ w60.heap.size ≤ q9 := KN;have LTb52 := (vd Bb52.lt);have LTb29 := (vd Bb29.lt);replace Bb52 := Bb52.extN En (NotIn.cons Db52_l NotIn.nil);replace Bb29 := Bb29.extN En (NotIn.cons Db29_l NotIn.nil)
      replace Dl_b52 : Apart ((Value.slice A9 3 c9).ownBlock) (some gb52) := Dl_b52.turn KN LTb52;replace Db52_l := Dl_b52.symm;replace Dl_b29 : Apart ((Value.slice A9 3 c9).ownBlock) (some gb29) := Dl_b29.turn KN LTb29;replace Db29_l := Dl_b29.symm;clear LTb52;clear LTb29
      have HY : Gro (Mut [(some gb52), (some gb29), ((Value.slice A9 3 c9).ownBlock)]) (Mut [(some gb52), (some gb29), ((Value.slice Aq57 2 cq57).ownBlock)]) w60 := (Mut.grow (Mut.grow (Mut.grow Mut.none_ (fun k e => (KN k e).elim (fun e => Or.inl ((Mut.tail (Mut.tail Mut.head)) k e)) (fun h => Or.inr (Nat.le_trans E.size h)))) (fun k e => Or.inl ((Mut.tail Mut.head) k e))) (fun k e => Or.inl (Mut.head k e)))
      replace E := E.step1 En (Mut.tail (Mut.tail Mut.head));replace HF := HF.turn E HY;have XT := fun q9 (h : (Mut [(some gb52), (some gb29), ((Value.slice A9 3 c9).ownBlock)]) q9) => (HY q9 h).elim (XLW q9) (fun h => Or.inr (Nat.le_trans LW.size h));replace LW := LW.step E XLW;replace XLW := XT;replace E := erx (Mut [(some gb52), (some gb29), ((Value.slice A9 3 c9).ownBlock)]) w61;clear HY
      replace Ol : World.ownsRow w61 w.heap.size 80 2 (.slice A9 3 c9) 3 ([.int .i64 t, .slice none 0 0, .int .i64 u, .slice none 0 0, .int .i64 r.tg, .slice (some ⟨gs, 0, none⟩) 1 1]) := by
       have e : (([.int .i64 t, .slice none 0 0, .int .i64 u, .slice none 0 0]) : List Value) ++ ([.int .i64 r.tg, .slice (some ⟨gs, 0, none⟩) 1 1] : List Value) = [.int .i64 t, .slice none 0 0, .int .i64 u, .slice none 0 0, .int .i64 r.tg, .slice (some ⟨gs, 0, none⟩) 1 1] := rfl;rw [← e];exact On
      clear On KN En;have ed := zkk ((HF.on E).here.2).2.1 hri.d;have hgs := ((HF.on E).here.2).2.2;refine anx rfl (srx (mvx rfl (anx rfl (zv (zu (rs := [.tmp 4]) (vs := [_]) rfl ⟨rfl, trivial⟩ ?_)))))
      exact xr (by rw [ew]; rfl) Ol (by rw [ew, show ja x [t, u] = [(t, []), (u, [])] by simp [ja, e18]]; exact jc ht zcz (fun _ _ h => by cases h) (jc hu zcz (fun _ _ h => by cases h) (jc hri.tg ed (fun q q' h => by cases h; exact hgs) xu) )) (LW.step E XLW).toBelow
     ·
      exact absurd (of_decide_eq_false h5) (by omega)
end
end Go.Proofs.YtppdgjlmeahimaaDoor
namespace Go.Proofs.YtppdgjlmeahimaaDoor
open Go.RowKit
set_option maxRecDepth 100000
/-! ### things gathered under numbers -/
section
variable {β : Type} {it : Nat → List (Int × β)} {a k N : Nat} {L : List (List β)}
def Prog (it : Nat → List (Int × β)) (a k : Nat) (L : List (List β)) : Prop := ∀ (t : Nat) y, y ∈ L.getD t [] ↔ ∃ a' j, (it a')[j]? = some (((t : Nat) : Int), y) ∧ (a' < a ∨ (a' = a ∧ j < k))
theorem Prog.start (N : Nat) : Prog it 0 0 (List.replicate N []) := fun t y => by
 constructor
 · intro h;rw [List.getD_eq_getElem?_getD, List.getElem?_replicate] at h;split at h <;> cases h
 · rintro ⟨a', j, _, h | h⟩ <;> omega
theorem Prog.step {t : Nat} {y : β} (h : Prog it a k L) (hk : (it a)[k]? = some (((t : Nat) : Int), y)) (ht : t < L.length) : Prog it a (k + 1) (L.set t (L.getD t [] ++ [y])) := fun t' y' => by
 have hg : (L.set t (L.getD t [] ++ [y])).getD t' [] = if t' = t then L.getD t [] ++ [y] else L.getD t' [] := by
  rw [List.getD_eq_getElem?_getD, List.getD_eq_getElem?_getD (i := t'), List.getElem?_set];by_cases e : t = t'
  · subst e; simp [ht]
  · have : ¬ t' = t := fun h => e h.symm;simp [e, this]
 rw [hg];constructor
 · intro hm;by_cases e : t' = t
   · subst e;rw [if_pos rfl] at hm;rcases List.mem_append.1 hm with hm | hm
     · obtain ⟨a', j, h1, h2⟩ := (h t' y').1 hm;exact ⟨a', j, h1, by omega⟩
     · rw [List.mem_singleton.1 hm]; exact ⟨a, k, hk, Or.inr ⟨rfl, by omega⟩⟩
   · rw [if_neg e] at hm;obtain ⟨a', j, h1, h2⟩ := (h t' y').1 hm;exact ⟨a', j, h1, by omega⟩
 · rintro ⟨a', j, h1, h2⟩;by_cases e : a' = a ∧ j = k
   · obtain ⟨rfl, rfl⟩ := e;rw [hk] at h1;have h1 := Option.some.inj h1;have e1 : t' = t := by have := congrArg Prod.fst h1; simp at this; omega
     have e2 : y = y' := congrArg Prod.snd h1;rw [if_pos e1, e2];simp
   · have h3 := (h t' y').2 ⟨a', j, h1, by omega⟩;split
     · rename_i e1
       subst e1;exact List.mem_append_left _ h3
     · exact h3
theorem Prog.next (h : Prog it a k L) (hk : (it a).length ≤ k) : Prog it (a + 1) 0 L := fun t y => by
 rw [h t y];constructor
 · rintro ⟨a', j, h1, h2⟩;exact ⟨a', j, h1, by omega⟩
 · rintro ⟨a', j, h1, h2⟩;refine ⟨a', j, h1, ?_⟩;by_cases e : a' = a
   · subst e;have := (List.getElem?_eq_some_iff.1 h1).1;omega
   · omega
theorem Prog.fin (h : Prog it N 0 L) (hN : ∀ a, N ≤ a → it a = []) (t : Nat) (y : β) : y ∈ L.getD t [] ↔ ∃ a', (((t : Nat) : Int), y) ∈ it a' := by
 rw [h t y];constructor
 · rintro ⟨a', j, h1, _⟩;exact ⟨a', List.mem_of_getElem? h1⟩
 · rintro ⟨a', h1⟩;obtain ⟨j, hj⟩ := List.mem_iff_getElem?.1 h1;refine ⟨a', j, hj, ?_⟩;rcases Nat.lt_or_ge a' N with h2 | h2
   · exact Or.inl h2
   · rw [hN a' h2] at h1; cases h1
def cnt (it : Nat → List (Int × β)) : Nat → Nat
 | 0 => 0
 | a + 1 => cnt it a + (it a).length
theorem cnt_le (it : Nat → List (Int × β)) {a N : Nat} (h : a ≤ N) : cnt it a ≤ cnt it N := by
 induction N with
 | zero =>
  obtain rfl : a = 0 := by omega
  exact Nat.le_refl _
 | succ N ih =>
  rcases Nat.lt_or_ge N a with h1 | h1
  · obtain rfl : a = N + 1 := by omega
    exact Nat.le_refl _
  · exact Nat.le_trans (ih h1) (Nat.le_add_right _ _)
theorem zwv {α : Type} {L : List (List α)} {t : Nat} {x : α} (ht : t < L.length) : xa ((L.set t (L.getD t [] ++ [x])).map List.length) = xa (L.map List.length) + 1 := by
 have h := zxx (l := L.map List.length) (k := t) (x := (L.getD t []).length + 1) (by simpa using ht);have e : (L.map List.length).getD t 0 = (L.getD t []).length := by
  rw [List.getD_eq_getElem?_getD, List.getD_eq_getElem?_getD, List.getElem?_map, List.getElem?_eq_getElem ht]; rfl
 rw [e] at h;rw [List.map_set, List.length_append];show xa ((L.map List.length).set t ((L.getD t []).length + 1)) = _
 omega
theorem zez {α : Type} : ∀ {L : List (List α)} (t : Nat), (L.getD t []).length ≤ xa (L.map List.length)
 | [], t => by simp
 | x :: L, 0 => by simp [xa]
 | x :: L, t + 1 => by
  have := zez (L := L) t;simp only [List.getD_cons_succ, List.map_cons, xa]
  omega
theorem sum_zero (α : Type) (N : Nat) : xa ((List.replicate N ([] : List α)).map List.length) = 0 := by
 rw [List.map_replicate];induction N with
 | zero => rfl
 | succ N ih => rw [List.replicate_succ]; simp only [xa]; rw [ih]; rfl
end
/-! ### ways from their ends, readers -/
def itB (f : LFn) (a : Nat) : List (Int × (Nat × List Int)) := match f.ins[a]? with
 | some i => (vg f a i).map fun p => (p.1, (a, p.2))
 | none => []
def itD (f : LFn) (a : Nat) : List (Int × Nat) := match f.ins[a]? with
 | some i => (yu i).map fun r => (r, a)
 | none => []
theorem zzz {f : LFn} {a : Nat} {i : LIns} (h : f.ins[a]? = some i) : itB f a = (vg f a i).map fun p => (p.1, (a, p.2)) := by unfold itB; rw [h]
theorem zzx {f : LFn} {a : Nat} {i : LIns} (h : f.ins[a]? = some i) : itD f a = (yu i).map fun r => (r, a) := by unfold itD; rw [h]
theorem itB_none {f : LFn} {a : Nat} (h : f.ins.length ≤ a) : itB f a = [] := by unfold itB; rw [List.getElem?_eq_none h]
theorem itD_none {f : LFn} {a : Nat} (h : f.ins.length ≤ a) : itD f a = [] := by unfold itD; rw [List.getElem?_eq_none h]
theorem prog_B {f : LFn} {L : List BRow} (h : Prog (itB f) f.ins.length 0 L) : BOk f L := fun t a ws => by
 rw [h.fin (fun a => itB_none) t (a, ws)];constructor
 · rintro ⟨a', h1⟩;cases hi : f.ins[a']? with
   | none => unfold itB at h1; rw [hi] at h1; cases h1
   | some i =>
    rw [zzz hi, List.mem_map] at h1;obtain ⟨p, hp, e⟩ := h1;have e1 := congrArg Prod.fst e;have e2 := congrArg (fun z => z.2.1) e;have e3 := congrArg (fun z => z.2.2) e;simp only at e1 e2 e3
    subst e2;refine ⟨i, hi, ?_⟩;rw [← e1, ← e3]; exact hp
 · rintro ⟨i, hi, hw⟩;refine ⟨a, ?_⟩;rw [zzz hi, List.mem_map];exact ⟨_, hw, rfl⟩
theorem prog_D {f : LFn} {L : List (List Nat)} (h : Prog (itD f) f.ins.length 0 L) (r : Nat) : DOk f (L.getD r []) r := fun a => by
 rw [h.fin (fun a => itD_none) r a];constructor
 · rintro ⟨a', h1⟩;cases hi : f.ins[a']? with
   | none => unfold itD at h1; rw [hi] at h1; cases h1
   | some i =>
    rw [zzx hi, List.mem_map] at h1;obtain ⟨q, hq, e⟩ := h1;have e1 := congrArg Prod.fst e;have e2 := congrArg Prod.snd e;simp only at e1 e2
    subst e2;exact ⟨i, hi, by rw [← e1]; exact hq⟩
 · rintro ⟨i, hi, hw⟩;refine ⟨a, ?_⟩;rw [zzx hi, List.mem_map];exact ⟨_, hw, rfl⟩
theorem ybv (f : LFn) (a : Nat) (i : LIns) : (vg f a i).length ≤ 3 := by
 have h1 := zck i (a : Int);have h2 : (ja i (yo i (a : Int))).length = (yo i (a : Int)).length := by
  cases yo i (a : Int) with
  | nil => rfl
  | cons t l => simp [ja]
 have h3 : (zkv f a i).length ≤ 1 := by
  unfold zkv;split
  · simp
  · split <;> simp
 unfold vg;rw [List.length_append, h2];omega
theorem reads_len2 (i : LIns) : (yu i).length ≤ 2 + i.l.length := by
 unfold yu;rw [List.length_append, List.length_append];have h1 : (if uA i.op = true then [i.a] else []).length ≤ 1 := by split <;> simp
 have h2 : (if uB i.op = true then [i.b] else []).length ≤ 1 := by split <;> simp
 have h3 : (if (uL i.op && i.op != 35) = true then i.l else []).length ≤ i.l.length := by split <;> simp
 omega
theorem cnt_B (f : LFn) : ∀ a, cnt (itB f) a ≤ 3 * a
 | 0 => Nat.le_refl _
 | a + 1 => by
  have := cnt_B f a;have h : (itB f a).length ≤ 3 := by
   cases hi : f.ins[a]? with
   | none => unfold itB; rw [hi]; simp
   | some i => rw [zzz hi, List.length_map]; exact ybv f a i
  unfold cnt; omega
theorem cnt_D (f : LFn) : ∀ a, cnt (itD f) a ≤ 2 * ((f.ins.take a).map fun x => x.l.length + 1).sum
 | 0 => Nat.le_refl _
 | a + 1 => by
  have := cnt_D f a;unfold cnt;cases hi : f.ins[a]? with
  | none =>
   have h : itD f a = [] := by unfold itD; rw [hi]
   have hl : f.ins.length ≤ a := by
    rcases Nat.lt_or_ge a f.ins.length with h1 | h1
    · rw [List.getElem?_eq_getElem h1] at hi; cases hi
    · exact h1
   rw [h, List.take_of_length_le (by omega)];rw [List.take_of_length_le hl] at this;simpa using this
  | some i =>
   have h1 := reads_len2 i;rw [zzx hi, List.length_map];have e : f.ins.take (a + 1) = f.ins.take a ++ [i] := by rw [List.take_add_one, hi]; rfl
   rw [e, List.map_append, List.sum_append, List.map_cons, List.map_nil, List.sum_cons, List.sum_nil];omega
theorem yek (f : LFn) : cnt (itD f) f.ins.length ≤ 2 * (f.ins.map fun x => x.l.length + 1).sum := by
 have := cnt_D f f.ins.length;rwa [List.take_length] at this
theorem ins_le (f : LFn) : f.ins.length ≤ (f.ins.map fun x => x.l.length + 1).sum := by
 induction f.ins with
 | nil => simp
 | cons x l ih => simp; omega
/-! ### the memory of the first loop -/
theorem IntsA.stay {n : Nat} {X : Nat → Prop} {w w' : World} {A : Option Addr} {xs : List Int} (h : IntsA n w A xs) (k : Ext X w w') (hX : xs ≠ [] → ∀ q q', A = some ⟨q, q', none⟩ → ¬ X q) : IntsA n w' A xs :=
 ⟨h.len, h.in_, fun h0 => by
  obtain ⟨g, o, e, hg, hc⟩ := h.row h0;exact ⟨g, o, e, hg, fun j x hj => (k.cell (World.block_lt_of_cell? w _ (hc j x hj)) (hX h0 g o e)).trans (hc j x hj)⟩⟩
theorem WaysA.mid {lo n : Nat} {X : Nat → Prop} {w w' : World} {A : Option Addr} {ws : List (Int × List Int)} (h : WaysA lo n w A ws) (k : Ext X w w') (hX : ∀ q, X q → q < lo ∨ n ≤ q) : WaysA lo n w' A ws :=
 ⟨h.in_, h.lo_, fun h0 => by
  obtain ⟨g, o, e, hg, hc⟩ := h.row h0;have hlo := h.lo_ g o e;refine ⟨g, o, e, hg, fun j x hj => ?_⟩;obtain ⟨B, c, h1, h2, h3⟩ := hc j x hj;refine ⟨B, c, h1.stay k fun h0' q q' e' hq => ?_, h2, fun i v hi => (k.cell (World.block_lt_of_cell? w _ (h3 i v hi)) (fun hq => ?_)).trans (h3 i v hi)⟩
  · have a1 := h2 q q' e';obtain ⟨g', o', e'', hg', _⟩ := h1.row h0';rw [e'] at e'';cases e''
    have := hX q hq;omega
  · have : g < lo ∨ n ≤ g := hX g hq;omega⟩
theorem xi {a b : World} {Z : Nat → Prop} {g o : Nat} {v : Value} (h : Ext Z a.drew b) (hz : ¬ Z g) (hc : a.cell? ⟨g, o, none⟩ = some v) : b.cell? ⟨g, o, none⟩ = some v :=
 (((Ext.refl Z _).drew.trans h).cell (World.block_lt_of_cell? _ _ hc) hz).trans hc
theorem owns_no {a b : World} {base s n : Nat} {e : TypeId} {v : Value} {xs : List Value} (h : Ext No a.drew b) (ho : a.ownsRow base e s v n xs) : b.ownsRow base e s v n xs := qf ho ((Ext.refl No _).drew.trans h) fun _ _ h => h.elim
abbrev BE := (Nat × List Int) × (Option Addr × Nat)
def enB (x : BE) : List Value := [.int .i64 ((x.1.1 : Nat) : Int), .slice x.2.1 x.1.2.length x.2.2]
def enD (a : Nat) : List Value := [.int .i64 ((a : Nat) : Int)]
def Wr (go gb gd : Nat) (rowsB : List (GR BE)) (rowsD : List (GR Nat)) (k : Nat) : Prop := k = go ∨ k = gb ∨ k = gd ∨ (∃ r ∈ rowsB, (grV r).ownBlock = some k) ∨ ∃ r ∈ rowsD, (grV r).ownBlock = some k
theorem Wr_setB {go gb gd i k : Nat} {rowsB : List (GR BE)} {rowsD : List (GR Nat)} {r' : GR BE} (h : Wr go gb gd (rowsB.set i r') rowsD k) : Wr go gb gd rowsB rowsD k ∨ (grV r').ownBlock = some k := by
 rcases h with h | h | h | ⟨r, hr, h⟩ | h
 · exact Or.inl (Or.inl h)
 · exact Or.inl (Or.inr (Or.inl h))
 · exact Or.inl (Or.inr (Or.inr (Or.inl h)))
 · rcases List.mem_or_eq_of_mem_set hr with hr | rfl
   · exact Or.inl (Or.inr (Or.inr (Or.inr (Or.inl ⟨r, hr, h⟩))))
   · exact Or.inr h
 · exact Or.inl (Or.inr (Or.inr (Or.inr (Or.inr h))))
theorem Wr_setD {go gb gd i k : Nat} {rowsB : List (GR BE)} {rowsD : List (GR Nat)} {r' : GR Nat} (h : Wr go gb gd rowsB (rowsD.set i r') k) : Wr go gb gd rowsB rowsD k ∨ (grV r').ownBlock = some k := by
 rcases h with h | h | h | h | ⟨r, hr, h⟩
 · exact Or.inl (Or.inl h)
 · exact Or.inl (Or.inr (Or.inl h))
 · exact Or.inl (Or.inr (Or.inr (Or.inl h)))
 · exact Or.inl (Or.inr (Or.inr (Or.inr (Or.inl h))))
 · rcases List.mem_or_eq_of_mem_set hr with hr | rfl
   · exact Or.inl (Or.inr (Or.inr (Or.inr (Or.inr ⟨r, hr, h⟩))))
   · exact Or.inr h
structure DM (b go gb gd g1 N n : Nat) (fv : Array Value) (gs : List Nat) (Q : List (List Nat)) (rowsB : List (GR BE)) (rowsD : List (GR Nat)) (w : World) : Prop where
 q : RowsB 55 35 b w go N n gs Q
 bk : GrowB enB 78 82 2 b gb rowsB w
 rd : GrowB enD 28 3 1 b gd rowsD w
 fb : Blk w g1 27 fv
 ent : ∀ rb ∈ rowsB, ∀ x ∈ rb.2.2, IntsA w.heap.size w x.2.1 x.1.2
 ap : ∀ k, Wr go gb gd rowsB rowsD k → ∀ rb ∈ rowsB, ∀ x ∈ rb.2.2, x.1.2 ≠ [] → ∀ q', x.2.1 ≠ some ⟨k, q', none⟩
section
variable {b go gb gd g1 N n : Nat} {fv : Array Value} {gs : List Nat} {Q : List (List Nat)} {rowsB : List (GR BE)} {rowsD : List (GR Nat)} {w w1 w2 : World}
theorem RowsB.blkw {m g' : Nat} {t : TypeId} {cs : Array Value} {W : List (List Nat)} (h : RowsB 55 35 m w go N n gs W) (h' : Blk w g' t cs) (h1 : 55 ≠ t) (h2 : 35 ≠ t) (k : Ext (Mut [some g']) w w1) : RowsB 55 35 m w1 go N n gs W :=
 h.ext k (fun hx => by
  have := qt hx; subst this;exact h1 (kx h.out h')) fun g hg hx => by
  have := qt hx; subst this;obtain ⟨i, hi⟩ := List.mem_iff_getElem?.1 hg;obtain ⟨x, _, hb, _⟩ := h.at hi;exact h2 (kx hb h')
theorem DM.wlt (h : DM b go gb gd g1 N n fv gs Q rowsB rowsD w) {k : Nat} (hk : Wr go gb gd rowsB rowsD k) : k < w.heap.size := by
 rcases hk with rfl | rfl | rfl | ⟨r, hr, hk⟩ | ⟨r, hr, hk⟩
 · exact h.q.out.lt
 · exact h.bk.out.lt
 · exact h.rd.out.lt
 · exact h.bk.lt hr hk
 · exact h.rd.lt hr hk
theorem DM.no (h : DM b go gb gd g1 N n fv gs Q rowsB rowsD w) (k : Ext No w w1) : DM b go gb gd g1 N n fv gs Q rowsB rowsD w1 :=
 ⟨h.q.ext k (fun h => h.elim) (fun _ _ h => h.elim), h.bk.no k, h.rd.no k, h.fb.ext k (fun h => h.elim), fun rb hr x hx => ((h.ent rb hr x hx).stay k (fun _ _ _ _ h => h.elim)).up k.size, h.ap⟩
theorem DM.entw (h : DM b go gb gd g1 N n fv gs Q rowsB rowsD w) {X : Nat → Prop} (k : Ext X w w1) (hX : ∀ q, X q → Wr go gb gd rowsB rowsD q) : ∀ rb ∈ rowsB, ∀ x ∈ rb.2.2, IntsA w1.heap.size w1 x.2.1 x.1.2 := fun rb hr x hx =>
 ((h.ent rb hr x hx).stay k fun h0 q q' e hq => h.ap q (hX q hq) rb hr x hx h0 q' e).up k.size
theorem DM.addQ (h : DM b go gb gd g1 N n fv gs Q rowsB rowsD w) {g : Nat} (hk : Q.length < N) (hb : Blk w1 g 35 (List.replicate n (.int .u64 0)).toArray) (e1 : Ext No w w1) (hg : w.heap.size ≤ g) (hbs : b ≤ w.heap.size)
 (ho : Blk w2 go 55 ((outV gs n N).set Q.length (rwV n g)).toArray) (e2 : Ext (Mut [some go]) w1 w2) : DM b go gb gd g1 N n fv (gs ++ [g]) (Q ++ [List.replicate n 0]) rowsB rowsD w2 := by
 have h1 := h.no e1;exact ⟨h.q.add hk hb e1 hg hbs ho e2, h1.bk.blk h1.q.out (by decide) (by decide) e2, h1.rd.blk h1.q.out (by decide) (by decide) e2, zjx h1.fb h1.q.out (by decide) e2, h1.entw e2 (fun q hq => Or.inl (qt hq)), h1.ap⟩
theorem DM.putB (h : DM b go gb gd g1 N n fv gs Q rowsB rowsD w) {i : Nat} {r r' : GR BE} {x : BE} (hi : rowsB[i]? = some r) (hr' : r'.2.2 = r.2.2 ++ [x])
 (h1 : w1.ownsRow b 82 2 (grV r') r'.2.2.length (r'.2.2.flatMap enB)) (k1 : Ext (Mut [(grV r).ownBlock]) w w1) (hnew : ∀ k, (grV r').ownBlock = some k → (grV r).ownBlock = some k ∨ w.heap.size ≤ k)
 (h2 : Blk w2 gb 78 ((rowsB.set i r').map grV).toArray) (k2 : Ext (Mut [some gb]) w1 w2) (hx : IntsA w.heap.size w x.2.1 x.1.2) (hxa : x.1.2 ≠ [] → ∀ q q', x.2.1 = some ⟨q, q', none⟩ → ¬ Wr go gb gd rowsB rowsD q) : DM b go gb gd g1 N n fv gs Q (rowsB.set i r') rowsD w2 := by
 have hrm := List.mem_of_getElem? hi;have hil := (List.getElem?_eq_some_iff.1 hi).1;have ho := h.bk.own r hrm;have hb1 := qn h.bk.out ho (by decide) k1;have hW1 : ∀ q, Mut [(grV r).ownBlock] q → Wr go gb gd rowsB rowsD q := fun q hq => Or.inr (Or.inr (Or.inr (Or.inl ⟨r, hrm, jo hq⟩)));have hW2 : ∀ q, Mut [some gb] q → Wr go gb gd rowsB rowsD q := fun q hq => Or.inr (Or.inl (qt hq))
 have hsub : ∀ rb ∈ rowsB.set i r', rb ∈ rowsB ∨ rb = r' := fun rb hr => List.mem_or_eq_of_mem_set hr;have hold : ∀ rb ∈ rowsB, ∀ y ∈ rb.2.2, IntsA w2.heap.size w2 y.2.1 y.1.2 := fun rb hr y hy =>
  (((h.ent rb hr y hy).stay k1 fun h0 q q' e hq => h.ap q (hW1 q hq) rb hr y hy h0 q' e).stay k2 fun h0 q q' e hq => h.ap q (hW2 q hq) rb hr y hy h0 q' e).up (Nat.le_trans k1.size k2.size)
 have hnewx : IntsA w2.heap.size w2 x.2.1 x.1.2 := ((hx.stay k1 fun h0 q q' e hq => hxa h0 q q' e (hW1 q hq)).stay k2 fun h0 q q' e hq => hxa h0 q q' e (hW2 q hq)).up (Nat.le_trans k1.size k2.size);have hlt : ∀ (y : BE), IntsA w.heap.size w y.2.1 y.1.2 → y.1.2 ≠ [] → ∀ q q', y.2.1 = some ⟨q, q', none⟩ → q < w.heap.size := fun y hy h0 q q' e => by
  obtain ⟨g, o, e', hg, _⟩ := hy.row h0;rw [e] at e';cases e'
  exact hg
 refine ⟨(h.q.other ho (by decide) (by decide) k1).blkw hb1 (by decide) (by decide) k2, h.bk.put hi (by decide) h1 k1 hnew h2 k2, (h.rd.other ho (by decide) (by decide) k1).blk hb1 (by decide) (by decide) k2, zjx (qn h.fb ho (by decide) k1) hb1 (by decide) k2, fun rb hr y hy => ?_, fun k hk rb hr y hy h0 q' e => ?_⟩
 · rcases hsub rb hr with hr | rfl
   · exact hold rb hr y hy
   · rw [hr'] at hy;rcases List.mem_append.1 hy with hy | hy
     · exact hold r hrm y hy
     · rw [List.mem_singleton.1 hy]; exact hnewx
 · have hyy : (∃ rb ∈ rowsB, y ∈ rb.2.2) ∨ y = x := by
    rcases hsub rb hr with hr | rfl
    · exact Or.inl ⟨rb, hr, hy⟩
    · rw [hr'] at hy;rcases List.mem_append.1 hy with hy | hy
      · exact Or.inl ⟨r, hrm, hy⟩
      · exact Or.inr (List.mem_singleton.1 hy)
   have hyi : IntsA w.heap.size w y.2.1 y.1.2 := by
    rcases hyy with ⟨rb, hr, hy⟩ | rfl
    · exact h.ent rb hr y hy
    · exact hx
   have hyk : ¬ Wr go gb gd rowsB rowsD k := by
    rcases hyy with ⟨rb, hr, hy⟩ | rfl
    · exact fun hw => h.ap k hw rb hr y hy h0 q' e
    · exact hxa h0 k q' e
   rcases hk with hk | hk | hk | ⟨r2, hr2, hk⟩ | hk
   · exact hyk (Or.inl hk)
   · exact hyk (Or.inr (Or.inl hk))
   · exact hyk (Or.inr (Or.inr (Or.inl hk)))
   · rcases hsub r2 hr2 with hr2 | rfl
     · exact hyk (Or.inr (Or.inr (Or.inr (Or.inl ⟨r2, hr2, hk⟩))))
     · rcases hnew k hk with h3 | h3
       · exact hyk (Or.inr (Or.inr (Or.inr (Or.inl ⟨r, hrm, h3⟩))))
       · have := hlt y hyi h0 k q' e;omega
   · exact hyk (Or.inr (Or.inr (Or.inr (Or.inr hk))))
theorem DM.putD (h : DM b go gb gd g1 N n fv gs Q rowsB rowsD w) {i : Nat} {r r' : GR Nat} (hi : rowsD[i]? = some r)
 (h1 : w1.ownsRow b 3 1 (grV r') r'.2.2.length (r'.2.2.flatMap enD)) (k1 : Ext (Mut [(grV r).ownBlock]) w w1) (hnew : ∀ k, (grV r').ownBlock = some k → (grV r).ownBlock = some k ∨ w.heap.size ≤ k)
 (h2 : Blk w2 gd 28 ((rowsD.set i r').map grV).toArray) (k2 : Ext (Mut [some gd]) w1 w2) : DM b go gb gd g1 N n fv gs Q rowsB (rowsD.set i r') w2 := by
 have hrm := List.mem_of_getElem? hi;have ho := h.rd.own r hrm;have hb1 := qn h.rd.out ho (by decide) k1;have hW1 : ∀ q, Mut [(grV r).ownBlock] q → Wr go gb gd rowsB rowsD q := fun q hq => Or.inr (Or.inr (Or.inr (Or.inr ⟨r, hrm, jo hq⟩)));have hW2 : ∀ q, Mut [some gd] q → Wr go gb gd rowsB rowsD q := fun q hq => Or.inr (Or.inr (Or.inl (qt hq)))
 refine ⟨(h.q.other ho (by decide) (by decide) k1).blkw hb1 (by decide) (by decide) k2, (h.bk.other ho (by decide) (by decide) k1).blk hb1 (by decide) (by decide) k2, h.rd.put hi (by decide) h1 k1 hnew h2 k2, zjx (qn h.fb ho (by decide) k1) hb1 (by decide) k2, fun rb hr y hy => ?_, fun k hk rb hr y hy h0 q' e => ?_⟩
 · exact (((h.ent rb hr y hy).stay k1 fun h0 q q' e hq => h.ap q (hW1 q hq) rb hr y hy h0 q' e).stay k2 fun h0 q q' e hq => h.ap q (hW2 q hq) rb hr y hy h0 q' e).up (Nat.le_trans k1.size k2.size)
 · have hyk : ¬ Wr go gb gd rowsB rowsD k := fun hw => h.ap k hw rb hr y hy h0 q' e;rcases hk with hk | hk | hk | hk | ⟨r2, hr2, hk⟩
   · exact hyk (Or.inl hk)
   · exact hyk (Or.inr (Or.inl hk))
   · exact hyk (Or.inr (Or.inr (Or.inl hk)))
   · exact hyk (Or.inr (Or.inr (Or.inr (Or.inl hk))))
   · rcases List.mem_or_eq_of_mem_set hr2 with hr2 | rfl
     · exact hyk (Or.inr (Or.inr (Or.inr (Or.inr ⟨r2, hr2, hk⟩))))
     · rcases hnew k hk with h3 | h3
       · exact hyk (Or.inr (Or.inr (Or.inr (Or.inr ⟨r, hrm, h3⟩))))
       · obtain ⟨g, o, e', hg, _⟩ := (h.ent rb hr y hy).row h0;rw [e] at e';cases e'
         omega
end
end Go.Proofs.YtppdgjlmeahimaaDoor
