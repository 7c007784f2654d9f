/- Texts of this claim. -/
import Derived.Test.YtppdgjlmeahimaaDoorE8
namespace Go.Proofs.YtppdgjlmeahimaaDoor
open Go.RowKit
set_option maxRecDepth 100000
attribute [local irreducible] OW RS
theorem yfq (op : Int) : (rL op != -1) = uL op := by
 by_cases h : op < 0 ∨ 44 < op
 · have e : flN op = 0 := by unfold flN; rw [if_pos h]
   unfold rL uL; rw [e]; rfl
 · have key : ∀ k : Fin 45, (rL (k.val : Int) != -1) = uL (k.val : Int) := by decide +kernel
   have e : op = ((op.toNat : Nat) : Int) := by omega
   rw [e];exact key ⟨op.toNat, by omega⟩
theorem yfz (op : Int) : uL op = (flN op &&& 992 != 0) := rfl
theorem bitD (op : Int) : (flN op).testBit 1 = uD op := rfl
theorem bitA (op : Int) : (flN op).testBit 2 = uA op := rfl
theorem bitB (op : Int) : (flN op).testBit 3 = uB op := rfl
theorem uD_35 : uD 35 = false := by decide
attribute [local irreducible] flN uD uA uB uT uL rL rK rLo rHi
section
variable (w : World) (i : LIns) (B : Option Addr) (c : Nat) (n0 : Nat) (hl : IntsA n0 w B i.l)
theorem vt {a b : Bool} {z : Bool} (h1 : uA i.op = a) (h2 : uB i.op = b) (h3 : (uL i.op && i.op != 35) = z) : yu i = (if a = true then [i.a] else []) ++ ((if b = true then [i.b] else []) ++ (if z = true then i.l else [])) := by
 unfold yu; rw [h1, h2, h3]
include hl
theorem ztz (hn : n0 ≤ w.heap.size) : Calls Tryd.prog 35 #[.agg #[.int .i64 i.op, .int .i64 i.d, .int .i64 i.a, .int .i64 i.b, .int .i64 i.t, .int .i64 i.k, .slice B i.l.length c]] w (zeq w (yu i)) := by
 have hll := hl.len;refine qs Tryd.func35 rfl Tryd.ntmps35 rfl ?_;have HF : Per (No) w (fun _ => True) := Per.true_;have LW := erx (No) w;have XLW := grx (No) w;have E := erx (No) w;replace HF := HF.on E;replace LW := LW.step E XLW;replace E := erx (No) w;replace HF := HF.and (Per.ints hl (fun _ h => h.elim));refine srx (za rfl (vk rfl ?_));intro gb1 w2 Bb1 Eb1 Gb1
 have Gb1 : _ ≤ gb1 := Nat.le_trans E.size Gb1;have GLb1 := Nat.le_trans LW.size Gb1;replace E := E.trans Eb1.no;replace HF := HF.cons (zz Gb1);replace E := E.cons (some gb1);replace XLW := Mut.grow XLW (fun k e => Or.inr (Nat.le_trans LW.size ((zz Gb1) k e)));replace HF := HF.on E;replace LW := LW.step E XLW;have SB : ∀ q9, No q9 → Mut [(some gb1)] q9 := (Mut.skip Mut.nil_)
 replace HF := HF.less SB;replace XLW := fun k h => XLW k (SB k h);clear SB;replace E := erx (No) w2;replace HF := HF.and (Per.blkN Bb1 NotIn.nil);refine anx rfl (srx (za rfl (zb Tryd.underlying41 rfl sz3 (by decide) rfl (za rfl (zg Tryd.underlying3 rfl rfl (HF.on E).here.2 rfl (za rfl (yf en44 rfl ((ydv _ i.op).mono ?_))))))));rintro e w3 ⟨rfl, hb⟩
 refine ⟨_, rfl, ?_⟩;replace E := blx E hb;have Ol : World.ownsRow w3 w.heap.size 3 1 (.slice none 0 0) 0 ([]) := vi;replace HF := HF.cons (zjq);replace E := E.cons ((Value.slice none 0 0).ownBlock);replace XLW := Mut.grow XLW (fun k e => Or.inr (Nat.le_trans LW.size ((zjq) k e)))
 refine anx rfl (srx (anx rfl (zp (srx (mvx rfl (za rfl (kp rfl rfl (zcv i.op 4 (by decide)) (za rfl (vb rfl rfl (rnx (zy 10 (.bool (uA i.op)) rfl ((by rw [show (4 : Nat) = 2 ^ 2 from rfl, yak, bitA] : (.bool (((flN i.op &&& 4 : Nat) : Int) != 0) : Value) = _)) (zr rfl (fun hA => ?_) (fun hA => ?_)))))))))))))
 ·
  refine zj (mvx rfl (za rfl (zb Tryd.underlying41 rfl sz3 (by decide) rfl (za rfl (zg Tryd.underlying3 rfl rfl (HF.on E).here.2 rfl (za rfl (yl (cs := #[.int .i64 i.a]) Tryd.underlying28 sz3 zr3 (by decide) rfl (by rw [ym]; rfl) ?_)))))));intro gb4 w5 Bb4 Eb4 Gb4
  have Db4_l : Apart (some gb4) ((Value.slice none 0 0).ownBlock) := Apart.of_lt (qy Ol) Gb4;have Dl_b4 := Db4_l.symm;have Gb4 : _ ≤ gb4 := Nat.le_trans E.size Gb4;have GLb4 := Nat.le_trans LW.size Gb4;replace Ol := qd Ol Eb4 NotIn.nil;replace E := E.trans Eb4.no;replace HF := HF.cons (zz Gb4);replace E := E.cons (some gb4)
  replace XLW := Mut.grow XLW (fun k e => Or.inr (Nat.le_trans LW.size ((zz Gb4) k e)));replace HF := HF.on E;replace LW := LW.step E XLW;have SB : ∀ q9, Mut [((Value.slice none 0 0).ownBlock)] q9 → Mut [(some gb4), ((Value.slice none 0 0).ownBlock)] q9 := (Mut.skip (Mut.keep Mut.nil_));replace HF := HF.less SB;replace XLW := fun k h => XLW k (SB k h);clear SB
  replace E := erx (Mut [((Value.slice none 0 0).ownBlock)]) w5;replace HF := HF.and (Per.blkN Bb4 (NotIn.cons Db4_l NotIn.nil));refine za rfl (qw (news := [.int .i64 i.a]) Tryd.underlying28 ou rfl (by decide) rfl Ol rfl (oc (HF.on E).here.2 ((HF.on E).here.2).lt rfl) (by simp [Value.oneCell']) (by unfold maxLen; omega) (by omega) (by exact Nat.le_trans LW.size E.size) ?_)
  intro v0 w7 On En KN;obtain ⟨Aq6, cq6, rfl⟩ := qk On;replace KN : ∀ q9, ((Value.slice Aq6 1 cq6).ownBlock) = some q9 → ((Value.slice none 0 0).ownBlock) = some q9 ∨ w5.heap.size ≤ q9 := KN
  have HY : Gro (Mut [((Value.slice Aq6 1 cq6).ownBlock)]) (Mut [((Value.slice none 0 0).ownBlock)]) w5 := (Mut.grow Mut.none_ (fun k e => (KN k e).elim (fun e => Or.inl (Mut.head k e)) (fun h => Or.inr (Nat.le_trans E.size h))));replace E := E.step1 En Mut.head;replace HF := HF.turn E HY
  have XT := fun q9 (h : (Mut [((Value.slice Aq6 1 cq6).ownBlock)]) q9) => (HY q9 h).elim (XLW q9) (fun h => Or.inr (Nat.le_trans LW.size h));replace LW := LW.step E XLW;replace XLW := XT;replace E := erx (Mut [((Value.slice Aq6 1 cq6).ownBlock)]) w7;clear HY;replace Ol : World.ownsRow w7 w.heap.size 3 1 (.slice Aq6 1 cq6) 1 ([.int .i64 i.a]) := by
   have e : (([]) : List Value) ++ ([.int .i64 i.a] : List Value) = [.int .i64 i.a] := rfl;rw [← e];exact On
  clear On KN En;refine anx rfl (zp (srx (mvx rfl (za rfl (kp rfl rfl (zcv i.op 8 (by decide)) (za rfl (vb rfl rfl (rnx (zy 18 (.bool (uB i.op)) rfl ((by rw [show (8 : Nat) = 2 ^ 3 from rfl, yak, bitB] : (.bool (((flN i.op &&& 8 : Nat) : Int) != 0) : Value) = _)) (zr rfl (fun hB => ?_) (fun hB => ?_)))))))))))
  ·
   refine zj (mvx rfl (za rfl (zb Tryd.underlying41 rfl sz3 (by decide) rfl (za rfl (zg Tryd.underlying3 rfl rfl (HF.on E).here.1.2 rfl (za rfl (yl (cs := #[.int .i64 i.b]) Tryd.underlying28 sz3 zr3 (by decide) rfl (by rw [ym]; rfl) ?_)))))));intro gb8 w9 Bb8 Eb8 Gb8
   have Db8_l : Apart (some gb8) ((Value.slice Aq6 1 cq6).ownBlock) := Apart.of_lt (qy Ol) Gb8;have Dl_b8 := Db8_l.symm;have Gb8 : _ ≤ gb8 := Nat.le_trans E.size Gb8;have GLb8 := Nat.le_trans LW.size Gb8;replace Ol := qd Ol Eb8 NotIn.nil;replace E := E.trans Eb8.no;replace HF := HF.cons (zz Gb8);replace E := E.cons (some gb8)
   replace XLW := Mut.grow XLW (fun k e => Or.inr (Nat.le_trans LW.size ((zz Gb8) k e)));replace HF := HF.on E;replace LW := LW.step E XLW;have SB : ∀ q9, Mut [((Value.slice Aq6 1 cq6).ownBlock)] q9 → Mut [(some gb8), ((Value.slice Aq6 1 cq6).ownBlock)] q9 := (Mut.skip (Mut.keep Mut.nil_));replace HF := HF.less SB;replace XLW := fun k h => XLW k (SB k h);clear SB
   replace E := erx (Mut [((Value.slice Aq6 1 cq6).ownBlock)]) w9;replace HF := HF.and (Per.blkN Bb8 (NotIn.cons Db8_l NotIn.nil));refine za rfl (qw (news := [.int .i64 i.b]) Tryd.underlying28 ou rfl (by decide) rfl Ol rfl (oc (HF.on E).here.2 ((HF.on E).here.2).lt rfl) (by simp [Value.oneCell']) (by unfold maxLen; omega) (by omega) (by exact Nat.le_trans LW.size E.size) ?_)
   intro v0 w11 On En KN;obtain ⟨Aq10, cq10, rfl⟩ := qk On;replace KN : ∀ q9, ((Value.slice Aq10 2 cq10).ownBlock) = some q9 → ((Value.slice Aq6 1 cq6).ownBlock) = some q9 ∨ w9.heap.size ≤ q9 := KN
   have HY : Gro (Mut [((Value.slice Aq10 2 cq10).ownBlock)]) (Mut [((Value.slice Aq6 1 cq6).ownBlock)]) w9 := (Mut.grow Mut.none_ (fun k e => (KN k e).elim (fun e => Or.inl (Mut.head k e)) (fun h => Or.inr (Nat.le_trans E.size h))));replace E := E.step1 En Mut.head;replace HF := HF.turn E HY
   have XT := fun q9 (h : (Mut [((Value.slice Aq10 2 cq10).ownBlock)]) q9) => (HY q9 h).elim (XLW q9) (fun h => Or.inr (Nat.le_trans LW.size h));replace LW := LW.step E XLW;replace XLW := XT;replace E := erx (Mut [((Value.slice Aq10 2 cq10).ownBlock)]) w11;clear HY;replace Ol : World.ownsRow w11 w.heap.size 3 1 (.slice Aq10 2 cq10) 2 ([.int .i64 i.a, .int .i64 i.b]) := by
    have e : (([.int .i64 i.a]) : List Value) ++ ([.int .i64 i.b] : List Value) = [.int .i64 i.a, .int .i64 i.b] := rfl;rw [← e];exact On
   clear On KN En;refine anx rfl (zp (srx (mvx rfl (za rfl (kp rfl rfl (zcv i.op 992 (by decide)) (za rfl (vb rfl rfl (mvx rfl ?_))))))));by_cases hu : flN i.op &&& 992 = 0
   ·
    have hL : (uL i.op && i.op != 35) = false := by rw [yfz, hu]; rfl
    refine qr 27 (.bool false) rfl ((by rw [hu]; rfl : (.bool (((flN i.op &&& 992 : Nat) : Int) != 0) : Value) = _)) (za rfl (zc rfl (za rfl (zc rfl (za rfl (zc rfl (za rfl (yd rfl rfl (rnx (qp rfl (zq (zh (srx (mvx rfl (anx rfl (zv ?_))))))))))))))));have e := vt i hA hB hL
    refine zu (rs := [.tmp 2]) (vs := [_]) rfl ⟨rfl, trivial⟩ ?_;exact yv (by rw [e]; simp) (by rw [e]; simp [yz]) Ol (LW.step E XLW).toBelow
   ·
    refine qr 27 (.bool true) rfl ((by rw [zgz]; simp [hu] : (.bool (((flN i.op &&& 992 : Nat) : Int) != 0) : Value) = _)) (onx rfl (zb Tryd.underlying41 rfl sz3 (by decide) rfl (onx rfl (zg Tryd.underlying3 rfl rfl (HF.on E).here.1.1.2 rfl (onx rfl (vb rfl rfl (za rfl (zx rfl rfl (rnx (zr rfl (fun h35 => ?_) (fun h35 => ?_)))))))))))
    ·
     have hL : (uL i.op && i.op != 35) = true := by rw [yfz, h35]; simp [hu]
     refine zj (mvx rfl (za rfl (zb Tryd.underlying41 rfl gu (by decide) rfl (za rfl (zg Tryd.underlying28 rfl rfl (HF.on E).here.1.1.2 rfl (za rfl (qw (news := yz i.l) Tryd.underlying28 ou rfl (by decide) rfl Ol rfl (((HF.on E).here.1.1.1.2).reads (Nat.le_trans hn (Nat.le_trans LW.size E.size))) (kj) (by unfold maxLen; omega) (by omega) (by exact Nat.le_trans LW.size E.size) ?_)))))))
     intro v0 w12 On En KN;obtain ⟨A3, c3, rfl⟩ := qk On;replace KN : ∀ q9, ((Value.slice A3 (2 + i.l.length) c3).ownBlock) = some q9 → ((Value.slice Aq10 2 cq10).ownBlock) = some q9 ∨ w11.heap.size ≤ q9 := KN
     have HY : Gro (Mut [((Value.slice A3 (2 + i.l.length) c3).ownBlock)]) (Mut [((Value.slice Aq10 2 cq10).ownBlock)]) w11 := (Mut.grow Mut.none_ (fun k e => (KN k e).elim (fun e => Or.inl (Mut.head k e)) (fun h => Or.inr (Nat.le_trans E.size h))));replace E := E.step1 En Mut.head
     have XT := fun q9 (h : (Mut [((Value.slice A3 (2 + i.l.length) c3).ownBlock)]) q9) => (HY q9 h).elim (XLW q9) (fun h => Or.inr (Nat.le_trans LW.size h));replace LW := LW.step E XLW;replace XLW := XT;replace E := erx (Mut [((Value.slice A3 (2 + i.l.length) c3).ownBlock)]) w12;clear HY
     replace Ol : World.ownsRow w12 w.heap.size 3 1 (.slice A3 (2 + i.l.length) c3) (2 + i.l.length) ([.int .i64 i.a, .int .i64 i.b] ++ yz i.l) := by
      have e : (([.int .i64 i.a, .int .i64 i.b]) : List Value) ++ (yz i.l : List Value) = [.int .i64 i.a, .int .i64 i.b] ++ yz i.l := rfl;rw [← e];exact On
     clear On KN En;have e := vt i hA hB hL;refine anx rfl (srx (mvx rfl (anx rfl (zv (zu (rs := [.tmp 2]) (vs := [_]) rfl ⟨rfl, trivial⟩ ?_)))));exact yv (by rw [e]; simp; try omega) (by rw [e]; simp [yz]) Ol (LW.step E XLW).toBelow
    ·
     have hL : (uL i.op && i.op != 35) = false := by rw [h35]; simp
     refine zq (zh (srx (mvx rfl (anx rfl (zv ?_)))));have e := vt i hA hB hL;refine zu (rs := [.tmp 2]) (vs := [_]) rfl ⟨rfl, trivial⟩ ?_;exact yv (by rw [e]; simp) (by rw [e]; simp [yz]) Ol (LW.step E XLW).toBelow
  ·
   refine zq (zh (zp (srx (mvx rfl (za rfl (kp rfl rfl (zcv i.op 992 (by decide)) (za rfl (vb rfl rfl (mvx rfl ?_)))))))));by_cases hu : flN i.op &&& 992 = 0
   ·
    have hL : (uL i.op && i.op != 35) = false := by rw [yfz, hu]; rfl
    refine qr 27 (.bool false) rfl ((by rw [hu]; rfl : (.bool (((flN i.op &&& 992 : Nat) : Int) != 0) : Value) = _)) (za rfl (zc rfl (za rfl (zc rfl (za rfl (zc rfl (za rfl (yd rfl rfl (rnx (qp rfl (zq (zh (srx (mvx rfl (anx rfl (zv ?_))))))))))))))));have e := vt i hA hB hL
    refine zu (rs := [.tmp 2]) (vs := [_]) rfl ⟨rfl, trivial⟩ ?_;exact yv (by rw [e]; simp) (by rw [e]; simp [yz]) Ol (LW.step E XLW).toBelow
   ·
    refine qr 27 (.bool true) rfl ((by rw [zgz]; simp [hu] : (.bool (((flN i.op &&& 992 : Nat) : Int) != 0) : Value) = _)) (onx rfl (zb Tryd.underlying41 rfl sz3 (by decide) rfl (onx rfl (zg Tryd.underlying3 rfl rfl (HF.on E).here.1.2 rfl (onx rfl (vb rfl rfl (za rfl (zx rfl rfl (rnx (zr rfl (fun h35 => ?_) (fun h35 => ?_)))))))))))
    ·
     have hL : (uL i.op && i.op != 35) = true := by rw [yfz, h35]; simp [hu]
     refine zj (mvx rfl (za rfl (zb Tryd.underlying41 rfl gu (by decide) rfl (za rfl (zg Tryd.underlying28 rfl rfl (HF.on E).here.1.2 rfl (za rfl (qw (news := yz i.l) Tryd.underlying28 ou rfl (by decide) rfl Ol rfl (((HF.on E).here.1.1.2).reads (Nat.le_trans hn (Nat.le_trans LW.size E.size))) (kj) (by unfold maxLen; omega) (by omega) (by exact Nat.le_trans LW.size E.size) ?_)))))))
     intro v0 w13 On En KN;obtain ⟨A3, c3, rfl⟩ := qk On;replace KN : ∀ q9, ((Value.slice A3 (1 + i.l.length) c3).ownBlock) = some q9 → ((Value.slice Aq6 1 cq6).ownBlock) = some q9 ∨ w7.heap.size ≤ q9 := KN
     have HY : Gro (Mut [((Value.slice A3 (1 + i.l.length) c3).ownBlock)]) (Mut [((Value.slice Aq6 1 cq6).ownBlock)]) w7 := (Mut.grow Mut.none_ (fun k e => (KN k e).elim (fun e => Or.inl (Mut.head k e)) (fun h => Or.inr (Nat.le_trans E.size h))));replace E := E.step1 En Mut.head
     have XT := fun q9 (h : (Mut [((Value.slice A3 (1 + i.l.length) c3).ownBlock)]) q9) => (HY q9 h).elim (XLW q9) (fun h => Or.inr (Nat.le_trans LW.size h));replace LW := LW.step E XLW;replace XLW := XT;replace E := erx (Mut [((Value.slice A3 (1 + i.l.length) c3).ownBlock)]) w13;clear HY
     replace Ol : World.ownsRow w13 w.heap.size 3 1 (.slice A3 (1 + i.l.length) c3) (1 + i.l.length) ([.int .i64 i.a] ++ yz i.l) := by
      have e : (([.int .i64 i.a]) : List Value) ++ (yz i.l : List Value) = [.int .i64 i.a] ++ yz i.l := rfl;rw [← e];exact On
     clear On KN En;have e := vt i hA hB hL;refine anx rfl (srx (mvx rfl (anx rfl (zv (zu (rs := [.tmp 2]) (vs := [_]) rfl ⟨rfl, trivial⟩ ?_)))));exact yv (by rw [e]; simp; try omega) (by rw [e]; simp [yz]) Ol (LW.step E XLW).toBelow
    ·
     have hL : (uL i.op && i.op != 35) = false := by rw [h35]; simp
     refine zq (zh (srx (mvx rfl (anx rfl (zv ?_)))));have e := vt i hA hB hL;refine zu (rs := [.tmp 2]) (vs := [_]) rfl ⟨rfl, trivial⟩ ?_;exact yv (by rw [e]; simp) (by rw [e]; simp [yz]) Ol (LW.step E XLW).toBelow
 ·
  refine zq (zh (zp (srx (mvx rfl (za rfl (kp rfl rfl (zcv i.op 8 (by decide)) (za rfl (vb rfl rfl (rnx (zy 18 (.bool (uB i.op)) rfl ((by rw [show (8 : Nat) = 2 ^ 3 from rfl, yak, bitB] : (.bool (((flN i.op &&& 8 : Nat) : Int) != 0) : Value) = _)) (zr rfl (fun hB => ?_) (fun hB => ?_))))))))))))
  ·
   refine zj (mvx rfl (za rfl (zb Tryd.underlying41 rfl sz3 (by decide) rfl (za rfl (zg Tryd.underlying3 rfl rfl (HF.on E).here.2 rfl (za rfl (yl (cs := #[.int .i64 i.b]) Tryd.underlying28 sz3 zr3 (by decide) rfl (by rw [ym]; rfl) ?_)))))));intro gb14 w15 Bb14 Eb14 Gb14
   have Db14_l : Apart (some gb14) ((Value.slice none 0 0).ownBlock) := Apart.of_lt (qy Ol) Gb14;have Dl_b14 := Db14_l.symm;have Gb14 : _ ≤ gb14 := Nat.le_trans E.size Gb14;have GLb14 := Nat.le_trans LW.size Gb14;replace Ol := qd Ol Eb14 NotIn.nil;replace E := E.trans Eb14.no;replace HF := HF.cons (zz Gb14);replace E := E.cons (some gb14)
   replace XLW := Mut.grow XLW (fun k e => Or.inr (Nat.le_trans LW.size ((zz Gb14) k e)));replace HF := HF.on E;replace LW := LW.step E XLW;have SB : ∀ q9, Mut [((Value.slice none 0 0).ownBlock)] q9 → Mut [(some gb14), ((Value.slice none 0 0).ownBlock)] q9 := (Mut.skip (Mut.keep Mut.nil_));replace HF := HF.less SB;replace XLW := fun k h => XLW k (SB k h);clear SB
   replace E := erx (Mut [((Value.slice none 0 0).ownBlock)]) w15;replace HF := HF.and (Per.blkN Bb14 (NotIn.cons Db14_l NotIn.nil))
   refine za rfl (qw (news := [.int .i64 i.b]) Tryd.underlying28 ou rfl (by decide) rfl Ol rfl (oc (HF.on E).here.2 ((HF.on E).here.2).lt rfl) (by simp [Value.oneCell']) (by unfold maxLen; omega) (by omega) (by exact Nat.le_trans LW.size E.size) ?_);intro v0 w17 On En KN;obtain ⟨Aq16, cq16, rfl⟩ := qk On
   replace KN : ∀ q9, ((Value.slice Aq16 1 cq16).ownBlock) = some q9 → ((Value.slice none 0 0).ownBlock) = some q9 ∨ w15.heap.size ≤ q9 := KN;have HY : Gro (Mut [((Value.slice Aq16 1 cq16).ownBlock)]) (Mut [((Value.slice none 0 0).ownBlock)]) w15 := (Mut.grow Mut.none_ (fun k e => (KN k e).elim (fun e => Or.inl (Mut.head k e)) (fun h => Or.inr (Nat.le_trans E.size h))))
   replace E := E.step1 En Mut.head;replace HF := HF.turn E HY;have XT := fun q9 (h : (Mut [((Value.slice Aq16 1 cq16).ownBlock)]) q9) => (HY q9 h).elim (XLW q9) (fun h => Or.inr (Nat.le_trans LW.size h));replace LW := LW.step E XLW;replace XLW := XT;replace E := erx (Mut [((Value.slice Aq16 1 cq16).ownBlock)]) w17;clear HY
   replace Ol : World.ownsRow w17 w.heap.size 3 1 (.slice Aq16 1 cq16) 1 ([.int .i64 i.b]) := by
    have e : (([]) : List Value) ++ ([.int .i64 i.b] : List Value) = [.int .i64 i.b] := rfl;rw [← e];exact On
   clear On KN En;refine anx rfl (zp (srx (mvx rfl (za rfl (kp rfl rfl (zcv i.op 992 (by decide)) (za rfl (vb rfl rfl (mvx rfl ?_))))))));by_cases hu : flN i.op &&& 992 = 0
   ·
    have hL : (uL i.op && i.op != 35) = false := by rw [yfz, hu]; rfl
    refine qr 27 (.bool false) rfl ((by rw [hu]; rfl : (.bool (((flN i.op &&& 992 : Nat) : Int) != 0) : Value) = _)) (za rfl (zc rfl (za rfl (zc rfl (za rfl (zc rfl (za rfl (yd rfl rfl (rnx (qp rfl (zq (zh (srx (mvx rfl (anx rfl (zv ?_))))))))))))))));have e := vt i hA hB hL
    refine zu (rs := [.tmp 2]) (vs := [_]) rfl ⟨rfl, trivial⟩ ?_;exact yv (by rw [e]; simp) (by rw [e]; simp [yz]) Ol (LW.step E XLW).toBelow
   ·
    refine qr 27 (.bool true) rfl ((by rw [zgz]; simp [hu] : (.bool (((flN i.op &&& 992 : Nat) : Int) != 0) : Value) = _)) (onx rfl (zb Tryd.underlying41 rfl sz3 (by decide) rfl (onx rfl (zg Tryd.underlying3 rfl rfl (HF.on E).here.1.2 rfl (onx rfl (vb rfl rfl (za rfl (zx rfl rfl (rnx (zr rfl (fun h35 => ?_) (fun h35 => ?_)))))))))))
    ·
     have hL : (uL i.op && i.op != 35) = true := by rw [yfz, h35]; simp [hu]
     refine zj (mvx rfl (za rfl (zb Tryd.underlying41 rfl gu (by decide) rfl (za rfl (zg Tryd.underlying28 rfl rfl (HF.on E).here.1.2 rfl (za rfl (qw (news := yz i.l) Tryd.underlying28 ou rfl (by decide) rfl Ol rfl (((HF.on E).here.1.1.2).reads (Nat.le_trans hn (Nat.le_trans LW.size E.size))) (kj) (by unfold maxLen; omega) (by omega) (by exact Nat.le_trans LW.size E.size) ?_)))))))
     intro v0 w18 On En KN;obtain ⟨A3, c3, rfl⟩ := qk On;replace KN : ∀ q9, ((Value.slice A3 (1 + i.l.length) c3).ownBlock) = some q9 → ((Value.slice Aq16 1 cq16).ownBlock) = some q9 ∨ w17.heap.size ≤ q9 := KN
     have HY : Gro (Mut [((Value.slice A3 (1 + i.l.length) c3).ownBlock)]) (Mut [((Value.slice Aq16 1 cq16).ownBlock)]) w17 := (Mut.grow Mut.none_ (fun k e => (KN k e).elim (fun e => Or.inl (Mut.head k e)) (fun h => Or.inr (Nat.le_trans E.size h))));replace E := E.step1 En Mut.head
     have XT := fun q9 (h : (Mut [((Value.slice A3 (1 + i.l.length) c3).ownBlock)]) q9) => (HY q9 h).elim (XLW q9) (fun h => Or.inr (Nat.le_trans LW.size h));replace LW := LW.step E XLW;replace XLW := XT;replace E := erx (Mut [((Value.slice A3 (1 + i.l.length) c3).ownBlock)]) w18;clear HY
     replace Ol : World.ownsRow w18 w.heap.size 3 1 (.slice A3 (1 + i.l.length) c3) (1 + i.l.length) ([.int .i64 i.b] ++ yz i.l) := by
      have e : (([.int .i64 i.b]) : List Value) ++ (yz i.l : List Value) = [.int .i64 i.b] ++ yz i.l := rfl;rw [← e];exact On
     clear On KN En;have e := vt i hA hB hL;refine anx rfl (srx (mvx rfl (anx rfl (zv (zu (rs := [.tmp 2]) (vs := [_]) rfl ⟨rfl, trivial⟩ ?_)))));exact yv (by rw [e]; simp; try omega) (by rw [e]; simp [yz]) Ol (LW.step E XLW).toBelow
    ·
     have hL : (uL i.op && i.op != 35) = false := by rw [h35]; simp
     refine zq (zh (srx (mvx rfl (anx rfl (zv ?_)))));have e := vt i hA hB hL;refine zu (rs := [.tmp 2]) (vs := [_]) rfl ⟨rfl, trivial⟩ ?_;exact yv (by rw [e]; simp) (by rw [e]; simp [yz]) Ol (LW.step E XLW).toBelow
  ·
   refine zq (zh (zp (srx (mvx rfl (za rfl (kp rfl rfl (zcv i.op 992 (by decide)) (za rfl (vb rfl rfl (mvx rfl ?_)))))))));by_cases hu : flN i.op &&& 992 = 0
   ·
    have hL : (uL i.op && i.op != 35) = false := by rw [yfz, hu]; rfl
    refine qr 27 (.bool false) rfl ((by rw [hu]; rfl : (.bool (((flN i.op &&& 992 : Nat) : Int) != 0) : Value) = _)) (za rfl (zc rfl (za rfl (zc rfl (za rfl (zc rfl (za rfl (yd rfl rfl (rnx (qp rfl (zq (zh (srx (mvx rfl (anx rfl (zv ?_))))))))))))))));have e := vt i hA hB hL
    refine zu (rs := [.tmp 2]) (vs := [_]) rfl ⟨rfl, trivial⟩ ?_;exact yv (by rw [e]; simp) (by rw [e]; simp [yz]) Ol (LW.step E XLW).toBelow
   ·
    refine qr 27 (.bool true) rfl ((by rw [zgz]; simp [hu] : (.bool (((flN i.op &&& 992 : Nat) : Int) != 0) : Value) = _)) (onx rfl (zb Tryd.underlying41 rfl sz3 (by decide) rfl (onx rfl (zg Tryd.underlying3 rfl rfl (HF.on E).here.2 rfl (onx rfl (vb rfl rfl (za rfl (zx rfl rfl (rnx (zr rfl (fun h35 => ?_) (fun h35 => ?_)))))))))))
    ·
     have hL : (uL i.op && i.op != 35) = true := by rw [yfz, h35]; simp [hu]
     refine zj (mvx rfl (za rfl (zb Tryd.underlying41 rfl gu (by decide) rfl (za rfl (zg Tryd.underlying28 rfl rfl (HF.on E).here.2 rfl (za rfl (qw (news := yz i.l) Tryd.underlying28 ou rfl (by decide) rfl Ol rfl (((HF.on E).here.1.2).reads (Nat.le_trans hn (Nat.le_trans LW.size E.size))) (kj) (by unfold maxLen; omega) (by omega) (by exact Nat.le_trans LW.size E.size) ?_)))))))
     intro v0 w19 On En KN;obtain ⟨A3, c3, rfl⟩ := qk On;replace KN : ∀ q9, ((Value.slice A3 (0 + i.l.length) c3).ownBlock) = some q9 → ((Value.slice none 0 0).ownBlock) = some q9 ∨ w3.heap.size ≤ q9 := KN
     have HY : Gro (Mut [((Value.slice A3 (0 + i.l.length) c3).ownBlock)]) (Mut [((Value.slice none 0 0).ownBlock)]) w2 := (Mut.grow Mut.none_ (fun k e => (KN k e).elim (fun e => Or.inl (Mut.head k e)) (fun h => Or.inr (Nat.le_trans E.size h))));replace E := E.step1 En Mut.head
     have XT := fun q9 (h : (Mut [((Value.slice A3 (0 + i.l.length) c3).ownBlock)]) q9) => (HY q9 h).elim (XLW q9) (fun h => Or.inr (Nat.le_trans LW.size h));replace LW := LW.step E XLW;replace XLW := XT;replace E := erx (Mut [((Value.slice A3 (0 + i.l.length) c3).ownBlock)]) w19;clear HY
     replace Ol : World.ownsRow w19 w.heap.size 3 1 (.slice A3 (0 + i.l.length) c3) (0 + i.l.length) ([] ++ yz i.l) := by
      have e : (([]) : List Value) ++ (yz i.l : List Value) = [] ++ yz i.l := rfl;rw [← e];exact On
     clear On KN En;have e := vt i hA hB hL;refine anx rfl (srx (mvx rfl (anx rfl (zv (zu (rs := [.tmp 2]) (vs := [_]) rfl ⟨rfl, trivial⟩ ?_)))));exact yv (by rw [e]; simp; try omega) (by rw [e]; simp [yz]) Ol (LW.step E XLW).toBelow
    ·
     have hL : (uL i.op && i.op != 35) = false := by rw [h35]; simp
     refine zq (zh (srx (mvx rfl (anx rfl (zv ?_)))));have e := vt i hA hB hL;refine zu (rs := [.tmp 2]) (vs := [_]) rfl ⟨rfl, trivial⟩ ?_;exact yv (by rw [e]; simp) (by rw [e]; simp [yz]) Ol (LW.step E XLW).toBelow
theorem zfq (hn : n0 ≤ w.heap.size) : Calls Tryd.prog 28 #[.agg #[.int .i64 i.op, .int .i64 i.d, .int .i64 i.a, .int .i64 i.b, .int .i64 i.t, .int .i64 i.k, .slice B i.l.length c]] w (zeq w (yu i)) := by
 have hll := hl.len;refine qs Tryd.func28 rfl Tryd.ntmps28 rfl ?_;have HF : Per (No) w (fun _ => True) := Per.true_;have LW := erx (No) w;have XLW := grx (No) w;have E := erx (No) w;replace HF := HF.on E;replace LW := LW.step E XLW;replace E := erx (No) w;replace HF := HF.and (Per.ints hl (fun _ h => h.elim));refine srx (za rfl (vk rfl ?_));intro gb1 w2 Bb1 Eb1 Gb1
 have Gb1 : _ ≤ gb1 := Nat.le_trans E.size Gb1;have GLb1 := Nat.le_trans LW.size Gb1;replace E := E.trans Eb1.no;replace HF := HF.cons (zz Gb1);replace E := E.cons (some gb1);replace XLW := Mut.grow XLW (fun k e => Or.inr (Nat.le_trans LW.size ((zz Gb1) k e)));replace HF := HF.on E;replace LW := LW.step E XLW;have SB : ∀ q9, No q9 → Mut [(some gb1)] q9 := (Mut.skip Mut.nil_)
 replace HF := HF.less SB;replace XLW := fun k h => XLW k (SB k h);clear SB;replace E := erx (No) w2;replace HF := HF.and (Per.blkN Bb1 NotIn.nil);refine anx rfl (srx (za rfl (zb Tryd.underlying41 rfl sz3 (by decide) rfl (za rfl (zg Tryd.underlying3 rfl rfl (HF.on E).here.2 rfl (za rfl (yf en33 rfl ((ztx _ i.op).mono ?_))))))));rintro e w3 ⟨rfl, hb⟩
 refine ⟨_, rfl, ?_⟩;replace E := blx E hb;refine qr 7 (.agg #[.bool (flN i.op != 0), .bool (uD i.op), .bool (uA i.op), .bool (uB i.op), .bool (uT i.op), .int .i64 (rL i.op), .int .i64 (rK i.op), .int .i64 (rLo i.op), .int .i64 (rHi i.op)]) rfl (rfl) ?_;have Ol : World.ownsRow w3 w.heap.size 3 1 (.slice none 0 0) 0 ([]) := vi;replace HF := HF.cons (zjq)
 replace E := E.cons ((Value.slice none 0 0).ownBlock);replace XLW := Mut.grow XLW (fun k e => Or.inr (Nat.le_trans LW.size ((zjq) k e)));refine za rfl (qb zpv ?_);intro gb4 w5 Bb4 Eb4 Gb4;have Db4_l : Apart (some gb4) ((Value.slice none 0 0).ownBlock) := Apart.of_lt (qy Ol) Gb4;have Dl_b4 := Db4_l.symm;have Gb4 : _ ≤ gb4 := Nat.le_trans E.size Gb4
 have GLb4 := Nat.le_trans LW.size Gb4;replace Ol := qd Ol Eb4 NotIn.nil;replace E := E.trans Eb4.no;replace HF := HF.cons (zz Gb4);replace E := E.cons (some gb4);replace XLW := Mut.grow XLW (fun k e => Or.inr (Nat.le_trans LW.size ((zz Gb4) k e)));refine zw (qz yk rfl rfl Bb4 rfl rfl rfl ?_);intro w6 Bx Eb4
 replace Bb4 : Blk w6 gb4 68 #[.bool (flN i.op != 0), .bool (uD i.op), .bool (uA i.op), .bool (uB i.op), .bool (uT i.op), .int .i64 (rL i.op), .int .i64 (rK i.op), .int .i64 (rLo i.op), .int .i64 (rHi i.op)] := Bx;replace Ol := qd Ol Eb4 (NotIn.cons Dl_b4 NotIn.nil);replace E := E.step1 Eb4 Mut.head;replace HF := HF.on E;replace LW := LW.step E XLW
 have SB : ∀ q9, Mut [((Value.slice none 0 0).ownBlock)] q9 → Mut [(some gb4), ((Value.slice none 0 0).ownBlock)] q9 := (Mut.skip (Mut.keep Mut.nil_));replace HF := HF.less SB;replace XLW := fun k h => XLW k (SB k h);clear SB;replace E := erx (Mut [((Value.slice none 0 0).ownBlock)]) w6;replace HF := HF.and (Per.blkN Bb4 (NotIn.cons Db4_l NotIn.nil))
 refine rnx (srx (anx rfl (zp (srx (za rfl (zb Tryd.underlying68 rfl sz4 (by decide) rfl (za rfl (zg Tryd.underlying4 rfl rfl (HF.on E).here.2 rfl (rnx (zr rfl (fun hA => ?_) (fun hA => ?_)))))))))))
 ·
  refine zj (mvx rfl (za rfl (zb Tryd.underlying41 rfl sz3 (by decide) rfl (za rfl (zg Tryd.underlying3 rfl rfl (HF.on E).here.1.2 rfl (za rfl (yl (cs := #[.int .i64 i.a]) Tryd.underlying28 sz3 zr3 (by decide) rfl (by rw [ym]; rfl) ?_)))))));intro gb7 w8 Bb7 Eb7 Gb7
  have Db7_l : Apart (some gb7) ((Value.slice none 0 0).ownBlock) := Apart.of_lt (qy Ol) Gb7;have Dl_b7 := Db7_l.symm;have Gb7 : _ ≤ gb7 := Nat.le_trans E.size Gb7;have GLb7 := Nat.le_trans LW.size Gb7;replace Ol := qd Ol Eb7 NotIn.nil;replace E := E.trans Eb7.no;replace HF := HF.cons (zz Gb7);replace E := E.cons (some gb7)
  replace XLW := Mut.grow XLW (fun k e => Or.inr (Nat.le_trans LW.size ((zz Gb7) k e)));replace HF := HF.on E;replace LW := LW.step E XLW;have SB : ∀ q9, Mut [((Value.slice none 0 0).ownBlock)] q9 → Mut [(some gb7), ((Value.slice none 0 0).ownBlock)] q9 := (Mut.skip (Mut.keep Mut.nil_));replace HF := HF.less SB;replace XLW := fun k h => XLW k (SB k h);clear SB
  replace E := erx (Mut [((Value.slice none 0 0).ownBlock)]) w8;replace HF := HF.and (Per.blkN Bb7 (NotIn.cons Db7_l NotIn.nil));refine za rfl (qw (news := [.int .i64 i.a]) Tryd.underlying28 ou rfl (by decide) rfl Ol rfl (oc (HF.on E).here.2 ((HF.on E).here.2).lt rfl) (by simp [Value.oneCell']) (by unfold maxLen; omega) (by omega) (by exact Nat.le_trans LW.size E.size) ?_)
  intro v0 w10 On En KN;obtain ⟨Aq9, cq9, rfl⟩ := qk On;replace KN : ∀ q9, ((Value.slice Aq9 1 cq9).ownBlock) = some q9 → ((Value.slice none 0 0).ownBlock) = some q9 ∨ w8.heap.size ≤ q9 := KN
  have HY : Gro (Mut [((Value.slice Aq9 1 cq9).ownBlock)]) (Mut [((Value.slice none 0 0).ownBlock)]) w8 := (Mut.grow Mut.none_ (fun k e => (KN k e).elim (fun e => Or.inl (Mut.head k e)) (fun h => Or.inr (Nat.le_trans E.size h))));replace E := E.step1 En Mut.head;replace HF := HF.turn E HY
  have XT := fun q9 (h : (Mut [((Value.slice Aq9 1 cq9).ownBlock)]) q9) => (HY q9 h).elim (XLW q9) (fun h => Or.inr (Nat.le_trans LW.size h));replace LW := LW.step E XLW;replace XLW := XT;replace E := erx (Mut [((Value.slice Aq9 1 cq9).ownBlock)]) w10;clear HY;replace Ol : World.ownsRow w10 w.heap.size 3 1 (.slice Aq9 1 cq9) 1 ([.int .i64 i.a]) := by
   have e : (([]) : List Value) ++ ([.int .i64 i.a] : List Value) = [.int .i64 i.a] := rfl;rw [← e];exact On
  clear On KN En;refine anx rfl (zp (srx (za rfl (zb Tryd.underlying68 rfl sz4 (by decide) rfl (za rfl (zg Tryd.underlying4 rfl rfl (HF.on E).here.1.2 rfl (rnx (zr rfl (fun hB => ?_) (fun hB => ?_)))))))))
  ·
   refine zj (mvx rfl (za rfl (zb Tryd.underlying41 rfl sz3 (by decide) rfl (za rfl (zg Tryd.underlying3 rfl rfl (HF.on E).here.1.1.2 rfl (za rfl (yl (cs := #[.int .i64 i.b]) Tryd.underlying28 sz3 zr3 (by decide) rfl (by rw [ym]; rfl) ?_)))))));intro gb11 w12 Bb11 Eb11 Gb11
   have Db11_l : Apart (some gb11) ((Value.slice Aq9 1 cq9).ownBlock) := Apart.of_lt (qy Ol) Gb11;have Dl_b11 := Db11_l.symm;have Gb11 : _ ≤ gb11 := Nat.le_trans E.size Gb11;have GLb11 := Nat.le_trans LW.size Gb11;replace Ol := qd Ol Eb11 NotIn.nil;replace E := E.trans Eb11.no;replace HF := HF.cons (zz Gb11);replace E := E.cons (some gb11)
   replace XLW := Mut.grow XLW (fun k e => Or.inr (Nat.le_trans LW.size ((zz Gb11) k e)));replace HF := HF.on E;replace LW := LW.step E XLW;have SB : ∀ q9, Mut [((Value.slice Aq9 1 cq9).ownBlock)] q9 → Mut [(some gb11), ((Value.slice Aq9 1 cq9).ownBlock)] q9 := (Mut.skip (Mut.keep Mut.nil_));replace HF := HF.less SB;replace XLW := fun k h => XLW k (SB k h);clear SB
   replace E := erx (Mut [((Value.slice Aq9 1 cq9).ownBlock)]) w12;replace HF := HF.and (Per.blkN Bb11 (NotIn.cons Db11_l NotIn.nil))
   refine za rfl (qw (news := [.int .i64 i.b]) Tryd.underlying28 ou rfl (by decide) rfl Ol rfl (oc (HF.on E).here.2 ((HF.on E).here.2).lt rfl) (by simp [Value.oneCell']) (by unfold maxLen; omega) (by omega) (by exact Nat.le_trans LW.size E.size) ?_);intro v0 w14 On En KN;obtain ⟨Aq13, cq13, rfl⟩ := qk On
   replace KN : ∀ q9, ((Value.slice Aq13 2 cq13).ownBlock) = some q9 → ((Value.slice Aq9 1 cq9).ownBlock) = some q9 ∨ w12.heap.size ≤ q9 := KN;have HY : Gro (Mut [((Value.slice Aq13 2 cq13).ownBlock)]) (Mut [((Value.slice Aq9 1 cq9).ownBlock)]) w12 := (Mut.grow Mut.none_ (fun k e => (KN k e).elim (fun e => Or.inl (Mut.head k e)) (fun h => Or.inr (Nat.le_trans E.size h))))
   replace E := E.step1 En Mut.head;replace HF := HF.turn E HY;have XT := fun q9 (h : (Mut [((Value.slice Aq13 2 cq13).ownBlock)]) q9) => (HY q9 h).elim (XLW q9) (fun h => Or.inr (Nat.le_trans LW.size h));replace LW := LW.step E XLW;replace XLW := XT;replace E := erx (Mut [((Value.slice Aq13 2 cq13).ownBlock)]) w14;clear HY
   replace Ol : World.ownsRow w14 w.heap.size 3 1 (.slice Aq13 2 cq13) 2 ([.int .i64 i.a, .int .i64 i.b]) := by
    have e : (([.int .i64 i.a]) : List Value) ++ ([.int .i64 i.b] : List Value) = [.int .i64 i.a, .int .i64 i.b] := rfl;rw [← e];exact On
   clear On KN En;refine anx rfl (zp (srx (za rfl (zb Tryd.underlying68 rfl sz3 (by decide) rfl (za rfl (zg Tryd.underlying3 rfl rfl (HF.on E).here.1.1.2 rfl (za rfl (vb rfl rfl (mvx rfl ?_)))))))));by_cases hu : rL i.op = -1
   ·
    have hL : (uL i.op && i.op != 35) = false := by rw [← yfq, hu]; rfl
    refine qr 25 (.bool false) rfl ((by rw [hu]; rfl : (.bool ((rL i.op) != (-1)) : Value) = _)) (za rfl (zc rfl (za rfl (zc rfl (za rfl (zc rfl (za rfl (yd rfl rfl (rnx (qp rfl (zq (zh (srx (mvx rfl (anx rfl (zv ?_))))))))))))))));have e := vt i hA hB hL;refine zu (rs := [.tmp 2]) (vs := [_]) rfl ⟨rfl, trivial⟩ ?_
    exact yv (by rw [e]; simp) (by rw [e]; simp [yz]) Ol (LW.step E XLW).toBelow
   ·
    have hu2 : uL i.op = true := by rw [← yfq]; simp [hu]
    refine qr 25 (.bool true) rfl ((by simp [hu] : (.bool ((rL i.op) != (-1)) : Value) = _)) (onx rfl (zb Tryd.underlying41 rfl sz3 (by decide) rfl (onx rfl (zg Tryd.underlying3 rfl rfl (HF.on E).here.1.1.1.2 rfl (onx rfl (vb rfl rfl (za rfl (zx rfl rfl (rnx (zr rfl (fun h35 => ?_) (fun h35 => ?_)))))))))))
    ·
     have hL : (uL i.op && i.op != 35) = true := by rw [h35, hu2]; rfl
     refine zj (mvx rfl (za rfl (zb Tryd.underlying41 rfl gu (by decide) rfl (za rfl (zg Tryd.underlying28 rfl rfl (HF.on E).here.1.1.1.2 rfl (za rfl (qw (news := yz i.l) Tryd.underlying28 ou rfl (by decide) rfl Ol rfl (((HF.on E).here.1.1.1.1.2).reads (Nat.le_trans hn (Nat.le_trans LW.size E.size))) (kj) (by unfold maxLen; omega) (by omega) (by exact Nat.le_trans LW.size E.size) ?_)))))))
     intro v0 w15 On En KN;obtain ⟨A3, c3, rfl⟩ := qk On;replace KN : ∀ q9, ((Value.slice A3 (2 + i.l.length) c3).ownBlock) = some q9 → ((Value.slice Aq13 2 cq13).ownBlock) = some q9 ∨ w14.heap.size ≤ q9 := KN
     have HY : Gro (Mut [((Value.slice A3 (2 + i.l.length) c3).ownBlock)]) (Mut [((Value.slice Aq13 2 cq13).ownBlock)]) w14 := (Mut.grow Mut.none_ (fun k e => (KN k e).elim (fun e => Or.inl (Mut.head k e)) (fun h => Or.inr (Nat.le_trans E.size h))));replace E := E.step1 En Mut.head
     have XT := fun q9 (h : (Mut [((Value.slice A3 (2 + i.l.length) c3).ownBlock)]) q9) => (HY q9 h).elim (XLW q9) (fun h => Or.inr (Nat.le_trans LW.size h));replace LW := LW.step E XLW;replace XLW := XT;replace E := erx (Mut [((Value.slice A3 (2 + i.l.length) c3).ownBlock)]) w15;clear HY
     replace Ol : World.ownsRow w15 w.heap.size 3 1 (.slice A3 (2 + i.l.length) c3) (2 + i.l.length) ([.int .i64 i.a, .int .i64 i.b] ++ yz i.l) := by
      have e : (([.int .i64 i.a, .int .i64 i.b]) : List Value) ++ (yz i.l : List Value) = [.int .i64 i.a, .int .i64 i.b] ++ yz i.l := rfl;rw [← e];exact On
     clear On KN En;have e := vt i hA hB hL;refine anx rfl (srx (mvx rfl (anx rfl (zv (zu (rs := [.tmp 2]) (vs := [_]) rfl ⟨rfl, trivial⟩ ?_)))));exact yv (by rw [e]; simp; try omega) (by rw [e]; simp [yz]) Ol (LW.step E XLW).toBelow
    ·
     have hL : (uL i.op && i.op != 35) = false := by rw [h35]; simp
     refine zq (zh (srx (mvx rfl (anx rfl (zv ?_)))));have e := vt i hA hB hL;refine zu (rs := [.tmp 2]) (vs := [_]) rfl ⟨rfl, trivial⟩ ?_;exact yv (by rw [e]; simp) (by rw [e]; simp [yz]) Ol (LW.step E XLW).toBelow
  ·
   refine zq (zh (zp (srx (za rfl (zb Tryd.underlying68 rfl sz3 (by decide) rfl (za rfl (zg Tryd.underlying3 rfl rfl (HF.on E).here.1.2 rfl (za rfl (vb rfl rfl (mvx rfl ?_))))))))));by_cases hu : rL i.op = -1
   ·
    have hL : (uL i.op && i.op != 35) = false := by rw [← yfq, hu]; rfl
    refine qr 25 (.bool false) rfl ((by rw [hu]; rfl : (.bool ((rL i.op) != (-1)) : Value) = _)) (za rfl (zc rfl (za rfl (zc rfl (za rfl (zc rfl (za rfl (yd rfl rfl (rnx (qp rfl (zq (zh (srx (mvx rfl (anx rfl (zv ?_))))))))))))))));have e := vt i hA hB hL;refine zu (rs := [.tmp 2]) (vs := [_]) rfl ⟨rfl, trivial⟩ ?_
    exact yv (by rw [e]; simp) (by rw [e]; simp [yz]) Ol (LW.step E XLW).toBelow
   ·
    have hu2 : uL i.op = true := by rw [← yfq]; simp [hu]
    refine qr 25 (.bool true) rfl ((by simp [hu] : (.bool ((rL i.op) != (-1)) : Value) = _)) (onx rfl (zb Tryd.underlying41 rfl sz3 (by decide) rfl (onx rfl (zg Tryd.underlying3 rfl rfl (HF.on E).here.1.1.2 rfl (onx rfl (vb rfl rfl (za rfl (zx rfl rfl (rnx (zr rfl (fun h35 => ?_) (fun h35 => ?_)))))))))))
    ·
     have hL : (uL i.op && i.op != 35) = true := by rw [h35, hu2]; rfl
     refine zj (mvx rfl (za rfl (zb Tryd.underlying41 rfl gu (by decide) rfl (za rfl (zg Tryd.underlying28 rfl rfl (HF.on E).here.1.1.2 rfl (za rfl (qw (news := yz i.l) Tryd.underlying28 ou rfl (by decide) rfl Ol rfl (((HF.on E).here.1.1.1.2).reads (Nat.le_trans hn (Nat.le_trans LW.size E.size))) (kj) (by unfold maxLen; omega) (by omega) (by exact Nat.le_trans LW.size E.size) ?_)))))))
     intro v0 w16 On En KN;obtain ⟨A3, c3, rfl⟩ := qk On;replace KN : ∀ q9, ((Value.slice A3 (1 + i.l.length) c3).ownBlock) = some q9 → ((Value.slice Aq9 1 cq9).ownBlock) = some q9 ∨ w10.heap.size ≤ q9 := KN
     have HY : Gro (Mut [((Value.slice A3 (1 + i.l.length) c3).ownBlock)]) (Mut [((Value.slice Aq9 1 cq9).ownBlock)]) w10 := (Mut.grow Mut.none_ (fun k e => (KN k e).elim (fun e => Or.inl (Mut.head k e)) (fun h => Or.inr (Nat.le_trans E.size h))));replace E := E.step1 En Mut.head
     have XT := fun q9 (h : (Mut [((Value.slice A3 (1 + i.l.length) c3).ownBlock)]) q9) => (HY q9 h).elim (XLW q9) (fun h => Or.inr (Nat.le_trans LW.size h));replace LW := LW.step E XLW;replace XLW := XT;replace E := erx (Mut [((Value.slice A3 (1 + i.l.length) c3).ownBlock)]) w16;clear HY
     replace Ol : World.ownsRow w16 w.heap.size 3 1 (.slice A3 (1 + i.l.length) c3) (1 + i.l.length) ([.int .i64 i.a] ++ yz i.l) := by
      have e : (([.int .i64 i.a]) : List Value) ++ (yz i.l : List Value) = [.int .i64 i.a] ++ yz i.l := rfl;rw [← e];exact On
     clear On KN En;have e := vt i hA hB hL;refine anx rfl (srx (mvx rfl (anx rfl (zv (zu (rs := [.tmp 2]) (vs := [_]) rfl ⟨rfl, trivial⟩ ?_)))));exact yv (by rw [e]; simp; try omega) (by rw [e]; simp [yz]) Ol (LW.step E XLW).toBelow
    ·
     have hL : (uL i.op && i.op != 35) = false := by rw [h35]; simp
     refine zq (zh (srx (mvx rfl (anx rfl (zv ?_)))));have e := vt i hA hB hL;refine zu (rs := [.tmp 2]) (vs := [_]) rfl ⟨rfl, trivial⟩ ?_;exact yv (by rw [e]; simp) (by rw [e]; simp [yz]) Ol (LW.step E XLW).toBelow
 ·
  refine zq (zh (zp (srx (za rfl (zb Tryd.underlying68 rfl sz4 (by decide) rfl (za rfl (zg Tryd.underlying4 rfl rfl (HF.on E).here.2 rfl (rnx (zr rfl (fun hB => ?_) (fun hB => ?_))))))))))
  ·
   refine zj (mvx rfl (za rfl (zb Tryd.underlying41 rfl sz3 (by decide) rfl (za rfl (zg Tryd.underlying3 rfl rfl (HF.on E).here.1.2 rfl (za rfl (yl (cs := #[.int .i64 i.b]) Tryd.underlying28 sz3 zr3 (by decide) rfl (by rw [ym]; rfl) ?_)))))));intro gb17 w18 Bb17 Eb17 Gb17
   have Db17_l : Apart (some gb17) ((Value.slice none 0 0).ownBlock) := Apart.of_lt (qy Ol) Gb17;have Dl_b17 := Db17_l.symm;have Gb17 : _ ≤ gb17 := Nat.le_trans E.size Gb17;have GLb17 := Nat.le_trans LW.size Gb17;replace Ol := qd Ol Eb17 NotIn.nil;replace E := E.trans Eb17.no;replace HF := HF.cons (zz Gb17);replace E := E.cons (some gb17)
   replace XLW := Mut.grow XLW (fun k e => Or.inr (Nat.le_trans LW.size ((zz Gb17) k e)));replace HF := HF.on E;replace LW := LW.step E XLW;have SB : ∀ q9, Mut [((Value.slice none 0 0).ownBlock)] q9 → Mut [(some gb17), ((Value.slice none 0 0).ownBlock)] q9 := (Mut.skip (Mut.keep Mut.nil_));replace HF := HF.less SB;replace XLW := fun k h => XLW k (SB k h);clear SB
   replace E := erx (Mut [((Value.slice none 0 0).ownBlock)]) w18;replace HF := HF.and (Per.blkN Bb17 (NotIn.cons Db17_l NotIn.nil))
   refine za rfl (qw (news := [.int .i64 i.b]) Tryd.underlying28 ou rfl (by decide) rfl Ol rfl (oc (HF.on E).here.2 ((HF.on E).here.2).lt rfl) (by simp [Value.oneCell']) (by unfold maxLen; omega) (by omega) (by exact Nat.le_trans LW.size E.size) ?_);intro v0 w20 On En KN;obtain ⟨Aq19, cq19, rfl⟩ := qk On
   replace KN : ∀ q9, ((Value.slice Aq19 1 cq19).ownBlock) = some q9 → ((Value.slice none 0 0).ownBlock) = some q9 ∨ w18.heap.size ≤ q9 := KN;have HY : Gro (Mut [((Value.slice Aq19 1 cq19).ownBlock)]) (Mut [((Value.slice none 0 0).ownBlock)]) w18 := (Mut.grow Mut.none_ (fun k e => (KN k e).elim (fun e => Or.inl (Mut.head k e)) (fun h => Or.inr (Nat.le_trans E.size h))))
   replace E := E.step1 En Mut.head;replace HF := HF.turn E HY;have XT := fun q9 (h : (Mut [((Value.slice Aq19 1 cq19).ownBlock)]) q9) => (HY q9 h).elim (XLW q9) (fun h => Or.inr (Nat.le_trans LW.size h));replace LW := LW.step E XLW;replace XLW := XT;replace E := erx (Mut [((Value.slice Aq19 1 cq19).ownBlock)]) w20;clear HY
   replace Ol : World.ownsRow w20 w.heap.size 3 1 (.slice Aq19 1 cq19) 1 ([.int .i64 i.b]) := by
    have e : (([]) : List Value) ++ ([.int .i64 i.b] : List Value) = [.int .i64 i.b] := rfl;rw [← e];exact On
   clear On KN En;refine anx rfl (zp (srx (za rfl (zb Tryd.underlying68 rfl sz3 (by decide) rfl (za rfl (zg Tryd.underlying3 rfl rfl (HF.on E).here.1.2 rfl (za rfl (vb rfl rfl (mvx rfl ?_)))))))));by_cases hu : rL i.op = -1
   ·
    have hL : (uL i.op && i.op != 35) = false := by rw [← yfq, hu]; rfl
    refine qr 25 (.bool false) rfl ((by rw [hu]; rfl : (.bool ((rL i.op) != (-1)) : Value) = _)) (za rfl (zc rfl (za rfl (zc rfl (za rfl (zc rfl (za rfl (yd rfl rfl (rnx (qp rfl (zq (zh (srx (mvx rfl (anx rfl (zv ?_))))))))))))))));have e := vt i hA hB hL;refine zu (rs := [.tmp 2]) (vs := [_]) rfl ⟨rfl, trivial⟩ ?_
    exact yv (by rw [e]; simp) (by rw [e]; simp [yz]) Ol (LW.step E XLW).toBelow
   ·
    have hu2 : uL i.op = true := by rw [← yfq]; simp [hu]
    refine qr 25 (.bool true) rfl ((by simp [hu] : (.bool ((rL i.op) != (-1)) : Value) = _)) (onx rfl (zb Tryd.underlying41 rfl sz3 (by decide) rfl (onx rfl (zg Tryd.underlying3 rfl rfl (HF.on E).here.1.1.2 rfl (onx rfl (vb rfl rfl (za rfl (zx rfl rfl (rnx (zr rfl (fun h35 => ?_) (fun h35 => ?_)))))))))))
    ·
     have hL : (uL i.op && i.op != 35) = true := by rw [h35, hu2]; rfl
     refine zj (mvx rfl (za rfl (zb Tryd.underlying41 rfl gu (by decide) rfl (za rfl (zg Tryd.underlying28 rfl rfl (HF.on E).here.1.1.2 rfl (za rfl (qw (news := yz i.l) Tryd.underlying28 ou rfl (by decide) rfl Ol rfl (((HF.on E).here.1.1.1.2).reads (Nat.le_trans hn (Nat.le_trans LW.size E.size))) (kj) (by unfold maxLen; omega) (by omega) (by exact Nat.le_trans LW.size E.size) ?_)))))))
     intro v0 w21 On En KN;obtain ⟨A3, c3, rfl⟩ := qk On;replace KN : ∀ q9, ((Value.slice A3 (1 + i.l.length) c3).ownBlock) = some q9 → ((Value.slice Aq19 1 cq19).ownBlock) = some q9 ∨ w20.heap.size ≤ q9 := KN
     have HY : Gro (Mut [((Value.slice A3 (1 + i.l.length) c3).ownBlock)]) (Mut [((Value.slice Aq19 1 cq19).ownBlock)]) w20 := (Mut.grow Mut.none_ (fun k e => (KN k e).elim (fun e => Or.inl (Mut.head k e)) (fun h => Or.inr (Nat.le_trans E.size h))));replace E := E.step1 En Mut.head
     have XT := fun q9 (h : (Mut [((Value.slice A3 (1 + i.l.length) c3).ownBlock)]) q9) => (HY q9 h).elim (XLW q9) (fun h => Or.inr (Nat.le_trans LW.size h));replace LW := LW.step E XLW;replace XLW := XT;replace E := erx (Mut [((Value.slice A3 (1 + i.l.length) c3).ownBlock)]) w21;clear HY
     replace Ol : World.ownsRow w21 w.heap.size 3 1 (.slice A3 (1 + i.l.length) c3) (1 + i.l.length) ([.int .i64 i.b] ++ yz i.l) := by
      have e : (([.int .i64 i.b]) : List Value) ++ (yz i.l : List Value) = [.int .i64 i.b] ++ yz i.l := rfl;rw [← e];exact On
     clear On KN En;have e := vt i hA hB hL;refine anx rfl (srx (mvx rfl (anx rfl (zv (zu (rs := [.tmp 2]) (vs := [_]) rfl ⟨rfl, trivial⟩ ?_)))));exact yv (by rw [e]; simp; try omega) (by rw [e]; simp [yz]) Ol (LW.step E XLW).toBelow
    ·
     have hL : (uL i.op && i.op != 35) = false := by rw [h35]; simp
     refine zq (zh (srx (mvx rfl (anx rfl (zv ?_)))));have e := vt i hA hB hL;refine zu (rs := [.tmp 2]) (vs := [_]) rfl ⟨rfl, trivial⟩ ?_;exact yv (by rw [e]; simp) (by rw [e]; simp [yz]) Ol (LW.step E XLW).toBelow
  ·
   refine zq (zh (zp (srx (za rfl (zb Tryd.underlying68 rfl sz3 (by decide) rfl (za rfl (zg Tryd.underlying3 rfl rfl (HF.on E).here.2 rfl (za rfl (vb rfl rfl (mvx rfl ?_))))))))));by_cases hu : rL i.op = -1
   ·
    have hL : (uL i.op && i.op != 35) = false := by rw [← yfq, hu]; rfl
    refine qr 25 (.bool false) rfl ((by rw [hu]; rfl : (.bool ((rL i.op) != (-1)) : Value) = _)) (za rfl (zc rfl (za rfl (zc rfl (za rfl (zc rfl (za rfl (yd rfl rfl (rnx (qp rfl (zq (zh (srx (mvx rfl (anx rfl (zv ?_))))))))))))))));have e := vt i hA hB hL;refine zu (rs := [.tmp 2]) (vs := [_]) rfl ⟨rfl, trivial⟩ ?_
    exact yv (by rw [e]; simp) (by rw [e]; simp [yz]) Ol (LW.step E XLW).toBelow
   ·
    have hu2 : uL i.op = true := by rw [← yfq]; simp [hu]
    refine qr 25 (.bool true) rfl ((by simp [hu] : (.bool ((rL i.op) != (-1)) : Value) = _)) (onx rfl (zb Tryd.underlying41 rfl sz3 (by decide) rfl (onx rfl (zg Tryd.underlying3 rfl rfl (HF.on E).here.1.2 rfl (onx rfl (vb rfl rfl (za rfl (zx rfl rfl (rnx (zr rfl (fun h35 => ?_) (fun h35 => ?_)))))))))))
    ·
     have hL : (uL i.op && i.op != 35) = true := by rw [h35, hu2]; rfl
     refine zj (mvx rfl (za rfl (zb Tryd.underlying41 rfl gu (by decide) rfl (za rfl (zg Tryd.underlying28 rfl rfl (HF.on E).here.1.2 rfl (za rfl (qw (news := yz i.l) Tryd.underlying28 ou rfl (by decide) rfl Ol rfl (((HF.on E).here.1.1.2).reads (Nat.le_trans hn (Nat.le_trans LW.size E.size))) (kj) (by unfold maxLen; omega) (by omega) (by exact Nat.le_trans LW.size E.size) ?_)))))))
     intro v0 w22 On En KN;obtain ⟨A3, c3, rfl⟩ := qk On;replace KN : ∀ q9, ((Value.slice A3 (0 + i.l.length) c3).ownBlock) = some q9 → ((Value.slice none 0 0).ownBlock) = some q9 ∨ w6.heap.size ≤ q9 := KN
     have HY : Gro (Mut [((Value.slice A3 (0 + i.l.length) c3).ownBlock)]) (Mut [((Value.slice none 0 0).ownBlock)]) w6 := (Mut.grow Mut.none_ (fun k e => (KN k e).elim (fun e => Or.inl (Mut.head k e)) (fun h => Or.inr (Nat.le_trans E.size h))));replace E := E.step1 En Mut.head
     have XT := fun q9 (h : (Mut [((Value.slice A3 (0 + i.l.length) c3).ownBlock)]) q9) => (HY q9 h).elim (XLW q9) (fun h => Or.inr (Nat.le_trans LW.size h));replace LW := LW.step E XLW;replace XLW := XT;replace E := erx (Mut [((Value.slice A3 (0 + i.l.length) c3).ownBlock)]) w22;clear HY
     replace Ol : World.ownsRow w22 w.heap.size 3 1 (.slice A3 (0 + i.l.length) c3) (0 + i.l.length) ([] ++ yz i.l) := by
      have e : (([]) : List Value) ++ (yz i.l : List Value) = [] ++ yz i.l := rfl;rw [← e];exact On
     clear On KN En;have e := vt i hA hB hL;refine anx rfl (srx (mvx rfl (anx rfl (zv (zu (rs := [.tmp 2]) (vs := [_]) rfl ⟨rfl, trivial⟩ ?_)))));exact yv (by rw [e]; simp; try omega) (by rw [e]; simp [yz]) Ol (LW.step E XLW).toBelow
    ·
     have hL : (uL i.op && i.op != 35) = false := by rw [h35]; simp
     refine zq (zh (srx (mvx rfl (anx rfl (zv ?_)))));have e := vt i hA hB hL;refine zu (rs := [.tmp 2]) (vs := [_]) rfl ⟨rfl, trivial⟩ ?_;exact yv (by rw [e]; simp) (by rw [e]; simp [yz]) Ol (LW.step E XLW).toBelow
theorem zmz (hn : n0 ≤ w.heap.size) : Calls Tryd.prog 39 #[.agg #[.int .i64 i.op, .int .i64 i.d, .int .i64 i.a, .int .i64 i.b, .int .i64 i.t, .int .i64 i.k, .slice B i.l.length c]] w (zeq w (yj i)) := by
 have hll := hl.len;refine qs Tryd.func39 rfl Tryd.ntmps39 rfl ?_;have HF : Per (No) w (fun _ => True) := Per.true_;have LW := erx (No) w;have XLW := grx (No) w;have E := erx (No) w;replace HF := HF.on E;replace LW := LW.step E XLW;replace E := erx (No) w;replace HF := HF.and (Per.ints hl (fun _ h => h.elim));refine srx (za rfl (vk rfl ?_));intro gb1 w2 Bb1 Eb1 Gb1
 have Gb1 : _ ≤ gb1 := Nat.le_trans E.size Gb1;have GLb1 := Nat.le_trans LW.size Gb1;replace E := E.trans Eb1.no;replace HF := HF.cons (zz Gb1);replace E := E.cons (some gb1);replace XLW := Mut.grow XLW (fun k e => Or.inr (Nat.le_trans LW.size ((zz Gb1) k e)));replace HF := HF.on E;replace LW := LW.step E XLW;have SB : ∀ q9, No q9 → Mut [(some gb1)] q9 := (Mut.skip Mut.nil_)
 replace HF := HF.less SB;replace XLW := fun k h => XLW k (SB k h);clear SB;replace E := erx (No) w2;replace HF := HF.and (Per.blkN Bb1 NotIn.nil)
 refine anx rfl (zp (yb (srx (za rfl (zb Tryd.underlying41 rfl sz3 (by decide) rfl (za rfl (zg Tryd.underlying3 rfl rfl (HF.on E).here.2 rfl (za rfl (yn rfl rfl (anx rfl (zr rfl (fun h35 => ?_) (fun h35 => ?_))))))))))))
 ·
  have h35 := eq_of_beq h35;have e : yj i = i.l := by unfold yj; rw [if_pos h35]
  have Ol : World.ownsRow w2 w.heap.size 3 1 (.slice none 0 0) 0 ([]) := vi;replace HF := HF.cons (zjq);replace E := E.cons ((Value.slice none 0 0).ownBlock);replace XLW := Mut.grow XLW (fun k e => Or.inr (Nat.le_trans LW.size ((zjq) k e)))
  refine srx (za rfl (zb Tryd.underlying41 rfl gu (by decide) rfl (za rfl (zg Tryd.underlying28 rfl rfl (HF.on E).here.2 rfl (za rfl (qw (news := yz i.l) Tryd.underlying28 ou rfl (by decide) rfl Ol rfl (((HF.on E).here.1.2).reads (Nat.le_trans hn (Nat.le_trans LW.size E.size))) (kj) (by unfold maxLen; omega) (by omega) (by exact Nat.le_trans LW.size E.size) ?_))))))
  intro v0 w3 On En KN;obtain ⟨A3, c3, rfl⟩ := qk On;replace KN : ∀ q9, ((Value.slice A3 (0 + i.l.length) c3).ownBlock) = some q9 → ((Value.slice none 0 0).ownBlock) = some q9 ∨ w2.heap.size ≤ q9 := KN
  have HY : Gro (Mut [((Value.slice A3 (0 + i.l.length) c3).ownBlock)]) (Mut [((Value.slice none 0 0).ownBlock)]) w2 := (Mut.grow Mut.none_ (fun k e => (KN k e).elim (fun e => Or.inl (Mut.head k e)) (fun h => Or.inr (Nat.le_trans E.size h))));replace E := E.step1 En Mut.head
  have XT := fun q9 (h : (Mut [((Value.slice A3 (0 + i.l.length) c3).ownBlock)]) q9) => (HY q9 h).elim (XLW q9) (fun h => Or.inr (Nat.le_trans LW.size h));replace LW := LW.step E XLW;replace XLW := XT;replace E := erx (Mut [((Value.slice A3 (0 + i.l.length) c3).ownBlock)]) w3;clear HY;replace Ol : World.ownsRow w3 w.heap.size 3 1 (.slice A3 (0 + i.l.length) c3) (0 + i.l.length) (yz i.l) := by
   have e : (([]) : List Value) ++ (yz i.l : List Value) = yz i.l := rfl;rw [← e];exact On
  clear On KN En;refine anx rfl (zv (zi (ze (zu (rs := [.tmp 2]) (vs := [_]) rfl ⟨rfl, trivial⟩ ?_))));exact yv (by rw [e]; simp) (by rw [e]) Ol (LW.step E XLW).toBelow
 ·
  have h35 := beq_eq_false_iff_ne.1 h35;refine srx (za rfl (zb Tryd.underlying41 rfl sz3 (by decide) rfl (za rfl (zg Tryd.underlying3 rfl rfl (HF.on E).here.2 rfl (za rfl (yf en44 rfl ((ydv _ i.op).mono ?_)))))));rintro e w4 ⟨rfl, hb⟩;refine ⟨_, rfl, ?_⟩;replace E := blx E hb
  refine za rfl (kp rfl rfl (zcv i.op 2 (by decide)) (za rfl (vb rfl rfl (anx rfl (zy 10 (.bool (uD i.op)) rfl ((by rw [show (2 : Nat) = 2 ^ 1 from rfl, yak, bitD] : (.bool (((flN i.op &&& 2 : Nat) : Int) != 0) : Value) = _)) (zr rfl (fun h1 => ?_) (fun h1 => ?_)))))))
  ·
   refine zy 10 (.bool true) rfl (congrArg Value.bool h1) (srx (za rfl (zb Tryd.underlying41 rfl sz3 (by decide) rfl (za rfl (zg Tryd.underlying3 rfl rfl (HF.on E).here.2 rfl (za rfl (yl (cs := #[.int .i64 i.d]) Tryd.underlying28 sz3 zr3 (by decide) rfl (by rw [ym]; rfl) ?_)))))));intro gb5 w6 Bb5 Eb5 Gb5
   have Gb5 : _ ≤ gb5 := Nat.le_trans E.size Gb5;have GLb5 := Nat.le_trans LW.size Gb5;replace E := E.trans Eb5.no;replace HF := HF.cons (zz Gb5);replace E := E.cons (some gb5);replace XLW := Mut.grow XLW (fun k e => Or.inr (Nat.le_trans LW.size ((zz Gb5) k e)));replace HF := HF.on E;replace LW := LW.step E XLW;have SB : ∀ q9, No q9 → Mut [(some gb5)] q9 := (Mut.skip Mut.nil_)
   replace HF := HF.less SB;replace XLW := fun k h => XLW k (SB k h);clear SB;replace E := erx (No) w6;replace HF := HF.and (Per.blkN Bb5 NotIn.nil);refine anx rfl (zv (zi (ze (zu (rs := [.tmp 2]) (vs := [_]) rfl ⟨rfl, trivial⟩ ?_))));have e : yj i = if uD i.op = true then [i.d] else [] := by unfold yj; rw [if_neg h35]
   first | exact yv (by rw [e, h1]; rfl) (by rw [e, h1]; rfl) (jw ((HF.on E).here.2) GLb5 rfl (by unfold maxLen; omega)) (LW.step E XLW).toBelow | exact yv (by rw [e, h1]; rfl) (by rw [e, h1]; rfl) vi (LW.step E XLW).toBelow
  ·
   refine zy 10 (.bool false) rfl (congrArg Value.bool h1) (zq (zf (zh (srx (anx rfl (zv (zu (rs := [.tmp 2]) (vs := [_]) rfl ⟨rfl, trivial⟩ ?_)))))));have e : yj i = if uD i.op = true then [i.d] else [] := by unfold yj; rw [if_neg h35]
   first | exact yv (by rw [e, h1]; rfl) (by rw [e, h1]; rfl) (jw ((HF.on E).here.2) GLb1 rfl (by unfold maxLen; omega)) (LW.step E XLW).toBelow | exact yv (by rw [e, h1]; rfl) (by rw [e, h1]; rfl) vi (LW.step E XLW).toBelow
theorem zbv (hn : n0 ≤ w.heap.size) : Calls Tryd.prog 29 #[.agg #[.int .i64 i.op, .int .i64 i.d, .int .i64 i.a, .int .i64 i.b, .int .i64 i.t, .int .i64 i.k, .slice B i.l.length c]] w (zeq w (yj i)) := by
 have hll := hl.len;refine qs Tryd.func29 rfl Tryd.ntmps29 rfl ?_;have HF : Per (No) w (fun _ => True) := Per.true_;have LW := erx (No) w;have XLW := grx (No) w;have E := erx (No) w;replace HF := HF.on E;replace LW := LW.step E XLW;replace E := erx (No) w;replace HF := HF.and (Per.ints hl (fun _ h => h.elim));have Ol : World.ownsRow w w.heap.size 3 1 (.slice none 0 0) 0 ([]) := vi
 replace HF := HF.cons (zjq);replace E := E.cons ((Value.slice none 0 0).ownBlock);replace XLW := Mut.grow XLW (fun k e => Or.inr (Nat.le_trans LW.size ((zjq) k e)));refine srx (za rfl (vk rfl ?_));intro gb1 w2 Bb1 Eb1 Gb1;have Db1_l : Apart (some gb1) ((Value.slice none 0 0).ownBlock) := Apart.of_lt (qy Ol) Gb1;have Dl_b1 := Db1_l.symm
 have Gb1 : _ ≤ gb1 := Nat.le_trans E.size Gb1;have GLb1 := Nat.le_trans LW.size Gb1;replace Ol := qd Ol Eb1 NotIn.nil;replace E := E.trans Eb1.no;replace HF := HF.cons (zz Gb1);replace E := E.cons (some gb1);replace XLW := Mut.grow XLW (fun k e => Or.inr (Nat.le_trans LW.size ((zz Gb1) k e)));replace HF := HF.on E;replace LW := LW.step E XLW
 have SB : ∀ q9, Mut [((Value.slice none 0 0).ownBlock)] q9 → Mut [(some gb1), ((Value.slice none 0 0).ownBlock)] q9 := (Mut.skip (Mut.keep Mut.nil_));replace HF := HF.less SB;replace XLW := fun k h => XLW k (SB k h);clear SB;replace E := erx (Mut [((Value.slice none 0 0).ownBlock)]) w2;replace HF := HF.and (Per.blkN Bb1 (NotIn.cons Db1_l NotIn.nil))
 refine anx rfl (srx (anx rfl (zp (srx (za rfl (zb Tryd.underlying41 rfl sz3 (by decide) rfl (za rfl (zg Tryd.underlying3 rfl rfl (HF.on E).here.2 rfl (za rfl (yf en33 rfl ((ztx _ i.op).mono ?_)))))))))));rintro e w3 ⟨rfl, hb⟩;refine ⟨_, rfl, ?_⟩;have Ec := Ext.of_below hb No;replace Ol := qd Ol Ec NotIn.nil;replace E := E.trans Ec.no
 refine za rfl (ow_field1 Tryd.underlying68 rfl Tryd.underlying4 rfl rfl rfl (rnx (zr rfl (fun hD => ?_) (fun hD => ?_))))
 ·
  have h35 : i.op ≠ 35 := fun e => by rw [e, uD_35] at hD; cases hD
  have e : yj i = [i.d] := by unfold yj; rw [if_neg h35, if_pos hD]
  refine zj (mvx rfl (za rfl (zb Tryd.underlying41 rfl sz3 (by decide) rfl (za rfl (zg Tryd.underlying3 rfl rfl (HF.on E).here.2 rfl (za rfl (yl (cs := #[.int .i64 i.d]) Tryd.underlying28 sz3 zr3 (by decide) rfl (by rw [ym]; rfl) ?_)))))));intro gb4 w5 Bb4 Eb4 Gb4
  have Db4_l : Apart (some gb4) ((Value.slice none 0 0).ownBlock) := Apart.of_lt (qy Ol) Gb4;have Dl_b4 := Db4_l.symm;have Gb4 : _ ≤ gb4 := Nat.le_trans E.size Gb4;have GLb4 := Nat.le_trans LW.size Gb4;replace Ol := qd Ol Eb4 NotIn.nil;replace E := E.trans Eb4.no;replace HF := HF.cons (zz Gb4);replace E := E.cons (some gb4)
  replace XLW := Mut.grow XLW (fun k e => Or.inr (Nat.le_trans LW.size ((zz Gb4) k e)));replace HF := HF.on E;replace LW := LW.step E XLW;have SB : ∀ q9, Mut [((Value.slice none 0 0).ownBlock)] q9 → Mut [(some gb4), ((Value.slice none 0 0).ownBlock)] q9 := (Mut.skip (Mut.keep Mut.nil_));replace HF := HF.less SB;replace XLW := fun k h => XLW k (SB k h);clear SB
  replace E := erx (Mut [((Value.slice none 0 0).ownBlock)]) w5;replace HF := HF.and (Per.blkN Bb4 (NotIn.cons Db4_l NotIn.nil));refine za rfl (qw (news := [.int .i64 i.d]) Tryd.underlying28 ou rfl (by decide) rfl Ol rfl (oc (HF.on E).here.2 ((HF.on E).here.2).lt rfl) (by simp [Value.oneCell']) (by unfold maxLen; omega) (by omega) (by exact Nat.le_trans LW.size E.size) ?_)
  intro v0 w7 On En KN;obtain ⟨Aq6, cq6, rfl⟩ := qk On;replace KN : ∀ q9, ((Value.slice Aq6 1 cq6).ownBlock) = some q9 → ((Value.slice none 0 0).ownBlock) = some q9 ∨ w5.heap.size ≤ q9 := KN
  have HY : Gro (Mut [((Value.slice Aq6 1 cq6).ownBlock)]) (Mut [((Value.slice none 0 0).ownBlock)]) w5 := (Mut.grow Mut.none_ (fun k e => (KN k e).elim (fun e => Or.inl (Mut.head k e)) (fun h => Or.inr (Nat.le_trans E.size h))));replace E := E.step1 En Mut.head;replace HF := HF.turn E HY
  have XT := fun q9 (h : (Mut [((Value.slice Aq6 1 cq6).ownBlock)]) q9) => (HY q9 h).elim (XLW q9) (fun h => Or.inr (Nat.le_trans LW.size h));replace LW := LW.step E XLW;replace XLW := XT;replace E := erx (Mut [((Value.slice Aq6 1 cq6).ownBlock)]) w7;clear HY;replace Ol : World.ownsRow w7 w.heap.size 3 1 (.slice Aq6 1 cq6) 1 ([.int .i64 i.d]) := by
   have e : (([]) : List Value) ++ ([.int .i64 i.d] : List Value) = [.int .i64 i.d] := rfl;rw [← e];exact On
  clear On KN En
  refine anx rfl (zp (srx (za rfl (zb Tryd.underlying41 rfl sz3 (by decide) rfl (za rfl (zg Tryd.underlying3 rfl rfl (HF.on E).here.1.2 rfl (za rfl (yn rfl rfl (rnx (zy 15 (.bool false) rfl ((by rw [beq_eq_false_iff_ne.2 h35] : (.bool (i.op == 35) : Value) = _)) (qp rfl (zq (zh (srx (mvx rfl (anx rfl (zv (zu (rs := [.tmp 2]) (vs := [_]) rfl ⟨rfl, trivial⟩ ?_))))))))))))))))))
  exact yv (by rw [e]; rfl) (by rw [e]; rfl) Ol (LW.step E XLW).toBelow
 ·
  refine zq (zh (zp (srx (za rfl (zb Tryd.underlying41 rfl sz3 (by decide) rfl (za rfl (zg Tryd.underlying3 rfl rfl (HF.on E).here.2 rfl (za rfl (yn rfl rfl (rnx (zr rfl (fun h35 => ?_) (fun h35 => ?_))))))))))))
  ·
   have h35 := eq_of_beq h35;have e : yj i = i.l := by unfold yj; rw [if_pos h35]
   refine zj (mvx rfl (za rfl (zb Tryd.underlying41 rfl gu (by decide) rfl (za rfl (zg Tryd.underlying28 rfl rfl (HF.on E).here.2 rfl (za rfl (qw (news := yz i.l) Tryd.underlying28 ou rfl (by decide) rfl Ol rfl (((HF.on E).here.1.2).reads (Nat.le_trans hn (Nat.le_trans LW.size E.size))) (kj) (by unfold maxLen; omega) (by omega) (by exact Nat.le_trans LW.size E.size) ?_)))))))
   intro v0 w8 On En KN;obtain ⟨A3, c3, rfl⟩ := qk On;replace KN : ∀ q9, ((Value.slice A3 (0 + i.l.length) c3).ownBlock) = some q9 → ((Value.slice none 0 0).ownBlock) = some q9 ∨ w3.heap.size ≤ q9 := KN
   have HY : Gro (Mut [((Value.slice A3 (0 + i.l.length) c3).ownBlock)]) (Mut [((Value.slice none 0 0).ownBlock)]) w2 := (Mut.grow Mut.none_ (fun k e => (KN k e).elim (fun e => Or.inl (Mut.head k e)) (fun h => Or.inr (Nat.le_trans E.size h))));replace E := E.step1 En Mut.head
   have XT := fun q9 (h : (Mut [((Value.slice A3 (0 + i.l.length) c3).ownBlock)]) q9) => (HY q9 h).elim (XLW q9) (fun h => Or.inr (Nat.le_trans LW.size h));replace LW := LW.step E XLW;replace XLW := XT;replace E := erx (Mut [((Value.slice A3 (0 + i.l.length) c3).ownBlock)]) w8;clear HY
   replace Ol : World.ownsRow w8 w.heap.size 3 1 (.slice A3 (0 + i.l.length) c3) (0 + i.l.length) (yz i.l) := by
    have e : (([]) : List Value) ++ (yz i.l : List Value) = yz i.l := rfl;rw [← e];exact On
   clear On KN En;refine anx rfl (srx (mvx rfl (anx rfl (zv (zu (rs := [.tmp 2]) (vs := [_]) rfl ⟨rfl, trivial⟩ ?_)))));exact yv (by rw [e]; simp) (by rw [e]) Ol (LW.step E XLW).toBelow
  ·
   have h35 := beq_eq_false_iff_ne.1 h35;have e : yj i = [] := by unfold yj; rw [if_neg h35, if_neg (by rw [hD]; decide)]
   refine zq (zh (srx (mvx rfl (anx rfl (zv (zu (rs := [.tmp 2]) (vs := [_]) rfl ⟨rfl, trivial⟩ ?_))))));exact yv (by rw [e]; rfl) (by rw [e]; rfl) Ol (LW.step E XLW).toBelow
end
section
variable (w : World) (i : LIns) (B : Option Addr) (c : Nat) (p : Int) (hp : I64 p)
include hp
theorem zlz : Calls Tryd.prog 38 #[.agg #[.int .i64 i.op, .int .i64 i.d, .int .i64 i.a, .int .i64 i.b, .int .i64 i.t, .int .i64 i.k, .slice B i.l.length c], .int .i64 p] w (zeq w (yo i p)) := by
 refine qs Tryd.func38 rfl Tryd.ntmps38 rfl ?_;have HF : Per (No) w (fun _ => True) := Per.true_;have LW := erx (No) w;have XLW := grx (No) w;have E := erx (No) w;refine srx (za rfl (vk rfl ?_));intro gb1 w2 Bb1 Eb1 Gb1;have Gb1 : _ ≤ gb1 := Nat.le_trans E.size Gb1;have GLb1 := Nat.le_trans LW.size Gb1;replace E := E.trans Eb1.no;replace HF := HF.cons (zz Gb1)
 replace E := E.cons (some gb1);replace XLW := Mut.grow XLW (fun k e => Or.inr (Nat.le_trans LW.size ((zz Gb1) k e)));replace HF := HF.on E;replace LW := LW.step E XLW;have SB : ∀ q9, No q9 → Mut [(some gb1)] q9 := (Mut.skip Mut.nil_);replace HF := HF.less SB;replace XLW := fun k h => XLW k (SB k h);clear SB;replace E := erx (No) w2;replace HF := HF.and (Per.blkN Bb1 NotIn.nil)
 refine anx rfl (srx (mvx rfl (mvx rfl (za rfl (qc rfl rfl rfl (za rfl (ow_max rfl rfl (qr 9 (.int .i64 (od p)) rfl (congrArg _ (next_wrap hp)) (anx rfl (zp (srx (za rfl (zb Tryd.underlying41 rfl sz3 (by decide) rfl (za rfl (zg Tryd.underlying3 rfl rfl (HF.on E).here.2 rfl (rnx (yb (srx (za rfl (yn rfl rfl (anx rfl (zr rfl (fun h1 => ?_) (fun h1 => ?_)))))))))))))))))))))))
 ·
  refine zy 12 (.bool true) rfl (congrArg Value.bool h1) ?_;replace h1 := eq_of_beq h1;refine srx (za rfl (zb Tryd.underlying41 rfl sz3 (by decide) rfl (za rfl (zg Tryd.underlying3 rfl rfl (HF.on E).here.2 rfl (za rfl (yl (cs := #[.int .i64 i.t]) Tryd.underlying28 sz3 zr3 (by decide) rfl (by rw [ym]; rfl) ?_))))));intro gb3 w4 Bb3 Eb3 Gb3
  have Gb3 : _ ≤ gb3 := Nat.le_trans E.size Gb3;have GLb3 := Nat.le_trans LW.size Gb3;replace E := E.trans Eb3.no;replace HF := HF.cons (zz Gb3);replace E := E.cons (some gb3);replace XLW := Mut.grow XLW (fun k e => Or.inr (Nat.le_trans LW.size ((zz Gb3) k e)));replace HF := HF.on E;replace LW := LW.step E XLW;have SB : ∀ q9, No q9 → Mut [(some gb3)] q9 := (Mut.skip Mut.nil_)
  replace HF := HF.less SB;replace XLW := fun k h => XLW k (SB k h);clear SB;replace E := erx (No) w4;replace HF := HF.and (Per.blkN Bb3 NotIn.nil);refine anx rfl (zv (zi (ze (zu (rs := [.tmp 4]) (vs := [_]) rfl ⟨rfl, trivial⟩ ?_))))
  first | exact yv (by unfold yo; (repeat' split) <;> first | rfl | (exfalso; omega)) (by unfold yo; (repeat' split) <;> first | rfl | (exfalso; omega)) (jw ((HF.on E).here.2) GLb3 rfl (by unfold maxLen; omega)) (LW.step E XLW).toBelow | exact yv (by unfold yo; (repeat' split) <;> first | rfl | (exfalso; omega)) (by unfold yo; (repeat' split) <;> first | rfl | (exfalso; omega)) vi (LW.step E XLW).toBelow
 ·
  refine zy 12 (.bool false) rfl (congrArg Value.bool h1) ?_;replace h1 := beq_eq_false_iff_ne.1 h1;refine zp (srx (za rfl (yn rfl rfl (anx rfl (zr rfl (fun h2 => ?_) (fun h2 => ?_))))))
  ·
   refine zy 17 (.bool true) rfl (congrArg Value.bool h2) ?_;replace h2 := eq_of_beq h2;refine zq (zh (yr rfl (srx (anx rfl (zv (zi (ze (zu (rs := [.tmp 4]) (vs := [_]) rfl ⟨rfl, trivial⟩ ?_))))))))
   first | exact yv (by unfold yo; (repeat' split) <;> first | rfl | (exfalso; omega)) (by unfold yo; (repeat' split) <;> first | rfl | (exfalso; omega)) (jw ((HF.on E).here.2) GLb1 rfl (by unfold maxLen; omega)) (LW.step E XLW).toBelow | exact yv (by unfold yo; (repeat' split) <;> first | rfl | (exfalso; omega)) (by unfold yo; (repeat' split) <;> first | rfl | (exfalso; omega)) vi (LW.step E XLW).toBelow
  ·
   refine zy 17 (.bool false) rfl (congrArg Value.bool h2) ?_;replace h2 := beq_eq_false_iff_ne.1 h2;refine zj (za rfl (yn rfl rfl (anx rfl (zr rfl (fun h3 => ?_) (fun h3 => ?_)))))
   ·
    refine zy 17 (.bool true) rfl (congrArg Value.bool h3) ?_;replace h3 := eq_of_beq h3;refine srx (anx rfl (zv (zi (ze (zu (rs := [.tmp 4]) (vs := [_]) rfl ⟨rfl, trivial⟩ ?_)))))
    first | exact yv (by unfold yo; (repeat' split) <;> first | rfl | (exfalso; omega)) (by unfold yo; (repeat' split) <;> first | rfl | (exfalso; omega)) (jw ((HF.on E).here.2) GLb1 rfl (by unfold maxLen; omega)) (LW.step E XLW).toBelow | exact yv (by unfold yo; (repeat' split) <;> first | rfl | (exfalso; omega)) (by unfold yo; (repeat' split) <;> first | rfl | (exfalso; omega)) vi (LW.step E XLW).toBelow
   ·
    refine zy 17 (.bool false) rfl (congrArg Value.bool h3) ?_;replace h3 := beq_eq_false_iff_ne.1 h3;refine zp (srx (za rfl (yn rfl rfl (anx rfl (zr rfl (fun h4 => ?_) (fun h4 => ?_))))))
    ·
     refine zy 20 (.bool true) rfl (congrArg Value.bool h4) ?_;replace h4 := eq_of_beq h4
     refine zq (zh (yr rfl (srx (mvx rfl (za rfl (zb Tryd.underlying41 rfl sz3 (by decide) rfl (za rfl (zg Tryd.underlying3 rfl rfl (HF.on E).here.2 rfl (za rfl (yl (cs := #[.int .i64 (od p), .int .i64 i.t]) Tryd.underlying28 sz3 zr3 (by decide) rfl (by rw [ym]; rfl) ?_))))))))));intro gb5 w6 Bb5 Eb5 Gb5
     have Gb5 : _ ≤ gb5 := Nat.le_trans E.size Gb5;have GLb5 := Nat.le_trans LW.size Gb5;replace E := E.trans Eb5.no;replace HF := HF.cons (zz Gb5);replace E := E.cons (some gb5);replace XLW := Mut.grow XLW (fun k e => Or.inr (Nat.le_trans LW.size ((zz Gb5) k e)));replace HF := HF.on E;replace LW := LW.step E XLW;have SB : ∀ q9, No q9 → Mut [(some gb5)] q9 := (Mut.skip Mut.nil_)
     replace HF := HF.less SB;replace XLW := fun k h => XLW k (SB k h);clear SB;replace E := erx (No) w6;replace HF := HF.and (Per.blkN Bb5 NotIn.nil);refine anx rfl (zv (zi (ze (zu (rs := [.tmp 4]) (vs := [_]) rfl ⟨rfl, trivial⟩ ?_))))
     first | exact yv (by unfold yo; (repeat' split) <;> first | rfl | (exfalso; omega)) (by unfold yo; (repeat' split) <;> first | rfl | (exfalso; omega)) (jw ((HF.on E).here.2) GLb5 rfl (by unfold maxLen; omega)) (LW.step E XLW).toBelow | exact yv (by unfold yo; (repeat' split) <;> first | rfl | (exfalso; omega)) (by unfold yo; (repeat' split) <;> first | rfl | (exfalso; omega)) vi (LW.step E XLW).toBelow
    ·
     refine zy 20 (.bool false) rfl (congrArg Value.bool h4) ?_;replace h4 := beq_eq_false_iff_ne.1 h4;refine srx (za rfl (yn rfl rfl (anx rfl (zr rfl (fun h5 => ?_) (fun h5 => ?_)))))
     ·
      refine zy 20 (.bool true) rfl (congrArg Value.bool h5) ?_;replace h5 := eq_of_beq h5
      refine zq (zh (yr rfl (srx (mvx rfl (za rfl (zb Tryd.underlying41 rfl sz3 (by decide) rfl (za rfl (zg Tryd.underlying3 rfl rfl (HF.on E).here.2 rfl (za rfl (yl (cs := #[.int .i64 (od p), .int .i64 i.t]) Tryd.underlying28 sz3 zr3 (by decide) rfl (by rw [ym]; rfl) ?_))))))))));intro gb7 w8 Bb7 Eb7 Gb7
      have Gb7 : _ ≤ gb7 := Nat.le_trans E.size Gb7;have GLb7 := Nat.le_trans LW.size Gb7;replace E := E.trans Eb7.no;replace HF := HF.cons (zz Gb7);replace E := E.cons (some gb7);replace XLW := Mut.grow XLW (fun k e => Or.inr (Nat.le_trans LW.size ((zz Gb7) k e)));replace HF := HF.on E;replace LW := LW.step E XLW;have SB : ∀ q9, No q9 → Mut [(some gb7)] q9 := (Mut.skip Mut.nil_)
      replace HF := HF.less SB;replace XLW := fun k h => XLW k (SB k h);clear SB;replace E := erx (No) w8;replace HF := HF.and (Per.blkN Bb7 NotIn.nil);refine anx rfl (zv (zi (ze (zu (rs := [.tmp 4]) (vs := [_]) rfl ⟨rfl, trivial⟩ ?_))))
      first | exact yv (by unfold yo; (repeat' split) <;> first | rfl | (exfalso; omega)) (by unfold yo; (repeat' split) <;> first | rfl | (exfalso; omega)) (jw ((HF.on E).here.2) GLb7 rfl (by unfold maxLen; omega)) (LW.step E XLW).toBelow | exact yv (by unfold yo; (repeat' split) <;> first | rfl | (exfalso; omega)) (by unfold yo; (repeat' split) <;> first | rfl | (exfalso; omega)) vi (LW.step E XLW).toBelow
     ·
      refine zy 20 (.bool false) rfl (congrArg Value.bool h5) ?_;replace h5 := beq_eq_false_iff_ne.1 h5;refine zj (za rfl (yn rfl rfl (anx rfl (zr rfl (fun h6 => ?_) (fun h6 => ?_)))))
      ·
       refine zy 20 (.bool true) rfl (congrArg Value.bool h6) ?_;replace h6 := eq_of_beq h6
       refine srx (mvx rfl (za rfl (zb Tryd.underlying41 rfl sz3 (by decide) rfl (za rfl (zg Tryd.underlying3 rfl rfl (HF.on E).here.2 rfl (za rfl (yl (cs := #[.int .i64 (od p), .int .i64 i.t]) Tryd.underlying28 sz3 zr3 (by decide) rfl (by rw [ym]; rfl) ?_)))))));intro gb9 w10 Bb9 Eb9 Gb9;have Gb9 : _ ≤ gb9 := Nat.le_trans E.size Gb9
       have GLb9 := Nat.le_trans LW.size Gb9;replace E := E.trans Eb9.no;replace HF := HF.cons (zz Gb9);replace E := E.cons (some gb9);replace XLW := Mut.grow XLW (fun k e => Or.inr (Nat.le_trans LW.size ((zz Gb9) k e)));replace HF := HF.on E;replace LW := LW.step E XLW;have SB : ∀ q9, No q9 → Mut [(some gb9)] q9 := (Mut.skip Mut.nil_);replace HF := HF.less SB
       replace XLW := fun k h => XLW k (SB k h);clear SB;replace E := erx (No) w10;replace HF := HF.and (Per.blkN Bb9 NotIn.nil);refine anx rfl (zv (zi (ze (zu (rs := [.tmp 4]) (vs := [_]) rfl ⟨rfl, trivial⟩ ?_))))
       first | exact yv (by unfold yo; (repeat' split) <;> first | rfl | (exfalso; omega)) (by unfold yo; (repeat' split) <;> first | rfl | (exfalso; omega)) (jw ((HF.on E).here.2) GLb9 rfl (by unfold maxLen; omega)) (LW.step E XLW).toBelow | exact yv (by unfold yo; (repeat' split) <;> first | rfl | (exfalso; omega)) (by unfold yo; (repeat' split) <;> first | rfl | (exfalso; omega)) vi (LW.step E XLW).toBelow
      ·
       refine zy 20 (.bool false) rfl (congrArg Value.bool h6) ?_;replace h6 := beq_eq_false_iff_ne.1 h6;refine zq (zf (zh (srx (mvx rfl (za rfl (yl (cs := #[.int .i64 (od p)]) Tryd.underlying28 sz3 zr3 (by decide) rfl (by rw [ym]; rfl) ?_))))));intro gb11 w12 Bb11 Eb11 Gb11;have Gb11 : _ ≤ gb11 := Nat.le_trans E.size Gb11
       have GLb11 := Nat.le_trans LW.size Gb11;replace E := E.trans Eb11.no;replace HF := HF.cons (zz Gb11);replace E := E.cons (some gb11);replace XLW := Mut.grow XLW (fun k e => Or.inr (Nat.le_trans LW.size ((zz Gb11) k e)));replace HF := HF.on E;replace LW := LW.step E XLW;have SB : ∀ q9, No q9 → Mut [(some gb11)] q9 := (Mut.skip Mut.nil_);replace HF := HF.less SB
       replace XLW := fun k h => XLW k (SB k h);clear SB;replace E := erx (No) w12;replace HF := HF.and (Per.blkN Bb11 NotIn.nil);refine anx rfl (zv (zu (rs := [.tmp 4]) (vs := [_]) rfl ⟨rfl, trivial⟩ ?_))
       first | exact yv (by unfold yo; (repeat' split) <;> first | rfl | (exfalso; omega)) (by unfold yo; (repeat' split) <;> first | rfl | (exfalso; omega)) (jw ((HF.on E).here.2) GLb11 rfl (by unfold maxLen; omega)) (LW.step E XLW).toBelow | exact yv (by unfold yo; (repeat' split) <;> first | rfl | (exfalso; omega)) (by unfold yo; (repeat' split) <;> first | rfl | (exfalso; omega)) vi (LW.step E XLW).toBelow
theorem ycz : Calls Tryd.prog 30 #[.agg #[.int .i64 i.op, .int .i64 i.d, .int .i64 i.a, .int .i64 i.b, .int .i64 i.t, .int .i64 i.k, .slice B i.l.length c], .int .i64 p] w (zeq w (yo i p)) := by
 obtain ⟨hp1, hp2⟩ := hp;refine qs Tryd.func30 rfl Tryd.ntmps30 rfl ?_;have HF : Per (No) w (fun _ => True) := Per.true_;have LW := erx (No) w;have XLW := grx (No) w;have E := erx (No) w;refine srx (za rfl (vk rfl ?_));intro gb1 w2 Bb1 Eb1 Gb1;have Gb1 : _ ≤ gb1 := Nat.le_trans E.size Gb1;have GLb1 := Nat.le_trans LW.size Gb1;replace E := E.trans Eb1.no
 replace HF := HF.cons (zz Gb1);replace E := E.cons (some gb1);replace XLW := Mut.grow XLW (fun k e => Or.inr (Nat.le_trans LW.size ((zz Gb1) k e)));replace HF := HF.on E;replace LW := LW.step E XLW;have SB : ∀ q9, No q9 → Mut [(some gb1)] q9 := (Mut.skip Mut.nil_);replace HF := HF.less SB;replace XLW := fun k h => XLW k (SB k h);clear SB;replace E := erx (No) w2
 replace HF := HF.and (Per.blkN Bb1 NotIn.nil);refine anx rfl (srx (mvx rfl (anx rfl (zp (srx (mvx rfl (za rfl (yy rfl rfl (rnx ?_)))))))));replace HF := HF.on E;replace LW := LW.step E XLW;replace E := erx (No) w2;refine xv (ι := Unit) (fun _ => [(2, .pointer (some ⟨gb1, 0, none⟩)), (5, .int .i64 (od p))]) (fun _ w' => Ext (No) w2 w' ∧ (True)) ?_ ?_
 ·
  have M3 := erx (No) w2;have XM3 := grx (No) w2;refine zr rfl (fun hq => ?_) (fun hq => ?_)
  ·
   have hq := of_decide_eq_true hq;refine zj (mvx rfl (za rfl (qc rfl rfl (yg (by omega)) (avx rfl (yc (zoz 5 (.int .i64 (od p)) rfl ((by rw [od, if_pos hq] : (.int .i64 (p + 1) : Value) = _)) ?_))))));exact jh () ⟨rfl, rfl, trivial⟩ ⟨M3.step E XM3, trivial⟩
  ·
   have hq := of_decide_eq_false hq;refine zq (zoz 5 (.int .i64 (od p)) rfl ((by rw [od, if_neg hq] : (.int .i64 p : Value) = _)) ?_);exact jh () ⟨rfl, rfl, trivial⟩ ⟨M3.step E XM3, trivial⟩
 ·
  rintro _ w4 ⟨M3, _⟩;replace E := E.trans M3;replace HF := HF.on E;replace LW := LW.step E XLW;replace E := erx (No) w4;refine zp (srx (za rfl (zb Tryd.underlying41 rfl sz3 (by decide) rfl (za rfl (zg Tryd.underlying3 rfl rfl (HF.on E).here.2 rfl (rnx (yb (srx (za rfl (yn rfl rfl (anx rfl (zr rfl (fun h1 => ?_) (fun h1 => ?_)))))))))))))
  ·
   refine zy 13 (.bool true) rfl (congrArg Value.bool h1) ?_;replace h1 := eq_of_beq h1;refine srx (za rfl (zb Tryd.underlying41 rfl sz3 (by decide) rfl (za rfl (zg Tryd.underlying3 rfl rfl (HF.on E).here.2 rfl (za rfl (yl (cs := #[.int .i64 i.t]) Tryd.underlying28 sz3 zr3 (by decide) rfl (by rw [ym]; rfl) ?_))))));intro gb5 w6 Bb5 Eb5 Gb5
   have Gb5 : _ ≤ gb5 := Nat.le_trans E.size Gb5;have GLb5 := Nat.le_trans LW.size Gb5;replace E := E.trans Eb5.no;replace HF := HF.cons (zz Gb5);replace E := E.cons (some gb5);replace XLW := Mut.grow XLW (fun k e => Or.inr (Nat.le_trans LW.size ((zz Gb5) k e)));replace HF := HF.on E;replace LW := LW.step E XLW;have SB : ∀ q9, No q9 → Mut [(some gb5)] q9 := (Mut.skip Mut.nil_)
   replace HF := HF.less SB;replace XLW := fun k h => XLW k (SB k h);clear SB;replace E := erx (No) w6;replace HF := HF.and (Per.blkN Bb5 NotIn.nil);refine anx rfl (zv (zi (ze (zu (rs := [.tmp 4]) (vs := [_]) rfl ⟨rfl, trivial⟩ ?_))))
   first | exact yv (by unfold yo; (repeat' split) <;> first | rfl | (exfalso; omega)) (by unfold yo; (repeat' split) <;> first | rfl | (exfalso; omega)) (jw ((HF.on E).here.2) GLb5 rfl (by unfold maxLen; omega)) (LW.step E XLW).toBelow | exact yv (by unfold yo; (repeat' split) <;> first | rfl | (exfalso; omega)) (by unfold yo; (repeat' split) <;> first | rfl | (exfalso; omega)) vi (LW.step E XLW).toBelow
  ·
   refine zy 13 (.bool false) rfl (congrArg Value.bool h1) ?_;replace h1 := beq_eq_false_iff_ne.1 h1;refine zp (srx (za rfl (yn rfl rfl (anx rfl (zr rfl (fun h2 => ?_) (fun h2 => ?_))))))
   ·
    refine zy 18 (.bool true) rfl (congrArg Value.bool h2) ?_;replace h2 := eq_of_beq h2;refine zq (zh (yr rfl (srx (anx rfl (zv (zi (ze (zu (rs := [.tmp 4]) (vs := [_]) rfl ⟨rfl, trivial⟩ ?_))))))))
    first | exact yv (by unfold yo; (repeat' split) <;> first | rfl | (exfalso; omega)) (by unfold yo; (repeat' split) <;> first | rfl | (exfalso; omega)) (jw ((HF.on E).here.2) GLb1 rfl (by unfold maxLen; omega)) (LW.step E XLW).toBelow | exact yv (by unfold yo; (repeat' split) <;> first | rfl | (exfalso; omega)) (by unfold yo; (repeat' split) <;> first | rfl | (exfalso; omega)) vi (LW.step E XLW).toBelow
   ·
    refine zy 18 (.bool false) rfl (congrArg Value.bool h2) ?_;replace h2 := beq_eq_false_iff_ne.1 h2;refine zj (za rfl (yn rfl rfl (anx rfl (zr rfl (fun h3 => ?_) (fun h3 => ?_)))))
    ·
     refine zy 18 (.bool true) rfl (congrArg Value.bool h3) ?_;replace h3 := eq_of_beq h3;refine srx (anx rfl (zv (zi (ze (zu (rs := [.tmp 4]) (vs := [_]) rfl ⟨rfl, trivial⟩ ?_)))))
     first | exact yv (by unfold yo; (repeat' split) <;> first | rfl | (exfalso; omega)) (by unfold yo; (repeat' split) <;> first | rfl | (exfalso; omega)) (jw ((HF.on E).here.2) GLb1 rfl (by unfold maxLen; omega)) (LW.step E XLW).toBelow | exact yv (by unfold yo; (repeat' split) <;> first | rfl | (exfalso; omega)) (by unfold yo; (repeat' split) <;> first | rfl | (exfalso; omega)) vi (LW.step E XLW).toBelow
    ·
     refine zy 18 (.bool false) rfl (congrArg Value.bool h3) ?_;replace h3 := beq_eq_false_iff_ne.1 h3;refine zp (srx (za rfl (yn rfl rfl (anx rfl (zr rfl (fun h4 => ?_) (fun h4 => ?_))))))
     ·
      refine zy 21 (.bool true) rfl (congrArg Value.bool h4) ?_;replace h4 := eq_of_beq h4
      refine zq (zh (yr rfl (srx (mvx rfl (za rfl (zb Tryd.underlying41 rfl sz3 (by decide) rfl (za rfl (zg Tryd.underlying3 rfl rfl (HF.on E).here.2 rfl (za rfl (yl (cs := #[.int .i64 (od p), .int .i64 i.t]) Tryd.underlying28 sz3 zr3 (by decide) rfl (by rw [ym]; rfl) ?_))))))))));intro gb7 w8 Bb7 Eb7 Gb7
      have Gb7 : _ ≤ gb7 := Nat.le_trans E.size Gb7;have GLb7 := Nat.le_trans LW.size Gb7;replace E := E.trans Eb7.no;replace HF := HF.cons (zz Gb7);replace E := E.cons (some gb7);replace XLW := Mut.grow XLW (fun k e => Or.inr (Nat.le_trans LW.size ((zz Gb7) k e)));replace HF := HF.on E;replace LW := LW.step E XLW;have SB : ∀ q9, No q9 → Mut [(some gb7)] q9 := (Mut.skip Mut.nil_)
      replace HF := HF.less SB;replace XLW := fun k h => XLW k (SB k h);clear SB;replace E := erx (No) w8;replace HF := HF.and (Per.blkN Bb7 NotIn.nil);refine anx rfl (zv (zi (ze (zu (rs := [.tmp 4]) (vs := [_]) rfl ⟨rfl, trivial⟩ ?_))))
      first | exact yv (by unfold yo; (repeat' split) <;> first | rfl | (exfalso; omega)) (by unfold yo; (repeat' split) <;> first | rfl | (exfalso; omega)) (jw ((HF.on E).here.2) GLb7 rfl (by unfold maxLen; omega)) (LW.step E XLW).toBelow | exact yv (by unfold yo; (repeat' split) <;> first | rfl | (exfalso; omega)) (by unfold yo; (repeat' split) <;> first | rfl | (exfalso; omega)) vi (LW.step E XLW).toBelow
     ·
      refine zy 21 (.bool false) rfl (congrArg Value.bool h4) ?_;replace h4 := beq_eq_false_iff_ne.1 h4;refine srx (za rfl (yn rfl rfl (anx rfl (zr rfl (fun h5 => ?_) (fun h5 => ?_)))))
      ·
       refine zy 21 (.bool true) rfl (congrArg Value.bool h5) ?_;replace h5 := eq_of_beq h5
       refine zq (zh (yr rfl (srx (mvx rfl (za rfl (zb Tryd.underlying41 rfl sz3 (by decide) rfl (za rfl (zg Tryd.underlying3 rfl rfl (HF.on E).here.2 rfl (za rfl (yl (cs := #[.int .i64 (od p), .int .i64 i.t]) Tryd.underlying28 sz3 zr3 (by decide) rfl (by rw [ym]; rfl) ?_))))))))));intro gb9 w10 Bb9 Eb9 Gb9
       have Gb9 : _ ≤ gb9 := Nat.le_trans E.size Gb9;have GLb9 := Nat.le_trans LW.size Gb9;replace E := E.trans Eb9.no;replace HF := HF.cons (zz Gb9);replace E := E.cons (some gb9);replace XLW := Mut.grow XLW (fun k e => Or.inr (Nat.le_trans LW.size ((zz Gb9) k e)));replace HF := HF.on E;replace LW := LW.step E XLW;have SB : ∀ q9, No q9 → Mut [(some gb9)] q9 := (Mut.skip Mut.nil_)
       replace HF := HF.less SB;replace XLW := fun k h => XLW k (SB k h);clear SB;replace E := erx (No) w10;replace HF := HF.and (Per.blkN Bb9 NotIn.nil);refine anx rfl (zv (zi (ze (zu (rs := [.tmp 4]) (vs := [_]) rfl ⟨rfl, trivial⟩ ?_))))
       first | exact yv (by unfold yo; (repeat' split) <;> first | rfl | (exfalso; omega)) (by unfold yo; (repeat' split) <;> first | rfl | (exfalso; omega)) (jw ((HF.on E).here.2) GLb9 rfl (by unfold maxLen; omega)) (LW.step E XLW).toBelow | exact yv (by unfold yo; (repeat' split) <;> first | rfl | (exfalso; omega)) (by unfold yo; (repeat' split) <;> first | rfl | (exfalso; omega)) vi (LW.step E XLW).toBelow
      ·
       refine zy 21 (.bool false) rfl (congrArg Value.bool h5) ?_;replace h5 := beq_eq_false_iff_ne.1 h5;refine zj (za rfl (yn rfl rfl (anx rfl (zr rfl (fun h6 => ?_) (fun h6 => ?_)))))
       ·
        refine zy 21 (.bool true) rfl (congrArg Value.bool h6) ?_;replace h6 := eq_of_beq h6
        refine srx (mvx rfl (za rfl (zb Tryd.underlying41 rfl sz3 (by decide) rfl (za rfl (zg Tryd.underlying3 rfl rfl (HF.on E).here.2 rfl (za rfl (yl (cs := #[.int .i64 (od p), .int .i64 i.t]) Tryd.underlying28 sz3 zr3 (by decide) rfl (by rw [ym]; rfl) ?_)))))));intro gb11 w12 Bb11 Eb11 Gb11;have Gb11 : _ ≤ gb11 := Nat.le_trans E.size Gb11
        have GLb11 := Nat.le_trans LW.size Gb11;replace E := E.trans Eb11.no;replace HF := HF.cons (zz Gb11);replace E := E.cons (some gb11);replace XLW := Mut.grow XLW (fun k e => Or.inr (Nat.le_trans LW.size ((zz Gb11) k e)));replace HF := HF.on E;replace LW := LW.step E XLW;have SB : ∀ q9, No q9 → Mut [(some gb11)] q9 := (Mut.skip Mut.nil_);replace HF := HF.less SB
        replace XLW := fun k h => XLW k (SB k h);clear SB;replace E := erx (No) w12;replace HF := HF.and (Per.blkN Bb11 NotIn.nil);refine anx rfl (zv (zi (ze (zu (rs := [.tmp 4]) (vs := [_]) rfl ⟨rfl, trivial⟩ ?_))))
        first | exact yv (by unfold yo; (repeat' split) <;> first | rfl | (exfalso; omega)) (by unfold yo; (repeat' split) <;> first | rfl | (exfalso; omega)) (jw ((HF.on E).here.2) GLb11 rfl (by unfold maxLen; omega)) (LW.step E XLW).toBelow | exact yv (by unfold yo; (repeat' split) <;> first | rfl | (exfalso; omega)) (by unfold yo; (repeat' split) <;> first | rfl | (exfalso; omega)) vi (LW.step E XLW).toBelow
       ·
        refine zy 21 (.bool false) rfl (congrArg Value.bool h6) ?_;replace h6 := beq_eq_false_iff_ne.1 h6;refine zq (zf (zh (srx (mvx rfl (za rfl (yl (cs := #[.int .i64 (od p)]) Tryd.underlying28 sz3 zr3 (by decide) rfl (by rw [ym]; rfl) ?_))))));intro gb13 w14 Bb13 Eb13 Gb13;have Gb13 : _ ≤ gb13 := Nat.le_trans E.size Gb13
        have GLb13 := Nat.le_trans LW.size Gb13;replace E := E.trans Eb13.no;replace HF := HF.cons (zz Gb13);replace E := E.cons (some gb13);replace XLW := Mut.grow XLW (fun k e => Or.inr (Nat.le_trans LW.size ((zz Gb13) k e)));replace HF := HF.on E;replace LW := LW.step E XLW;have SB : ∀ q9, No q9 → Mut [(some gb13)] q9 := (Mut.skip Mut.nil_);replace HF := HF.less SB
        replace XLW := fun k h => XLW k (SB k h);clear SB;replace E := erx (No) w14;replace HF := HF.and (Per.blkN Bb13 NotIn.nil);refine anx rfl (zv (zu (rs := [.tmp 4]) (vs := [_]) rfl ⟨rfl, trivial⟩ ?_))
        first | exact yv (by unfold yo; (repeat' split) <;> first | rfl | (exfalso; omega)) (by unfold yo; (repeat' split) <;> first | rfl | (exfalso; omega)) (jw ((HF.on E).here.2) GLb13 rfl (by unfold maxLen; omega)) (LW.step E XLW).toBelow | exact yv (by unfold yo; (repeat' split) <;> first | rfl | (exfalso; omega)) (by unfold yo; (repeat' split) <;> first | rfl | (exfalso; omega)) vi (LW.step E XLW).toBelow
end
section
variable (w : World)
theorem allocs_any (op : Int) : Calls Tryd.prog 46 #[.int .i64 op] w fun e w' => e = .returned (.bool (jy op)) ∧ Below w.heap.size w w' := by
 refine qs Tryd.func46 rfl Tryd.ntmps46 rfl ?_;have LW := erx (No) w;have XLW := grx (No) w;have E := erx (No) w;refine srx (anx rfl (zp (srx (mvx rfl (rnx (yb (zp (srx (za rfl (yn rfl rfl (anx rfl (zr rfl (fun h1 => ?_) (fun h1 => ?_)))))))))))))
 ·
  refine zy 4 (.bool true) rfl (congrArg Value.bool h1) ?_;replace h1 := eq_of_beq h1;subst h1;refine zq (zh (yr rfl (srx (anx rfl (zv (zi (ze (zu (rs := [.tmp 2]) (vs := [_]) rfl ⟨rfl, trivial⟩ ?_))))))));first | exact ⟨rfl, (LW.step E XLW).toBelow⟩ | exact ⟨by unfold jy; rw [if_neg (by omega), zgz]; rfl, (LW.step E XLW).toBelow⟩
 ·
  refine zy 4 (.bool false) rfl (congrArg Value.bool h1) ?_;replace h1 := beq_eq_false_iff_ne.1 h1;refine srx (za rfl (yn rfl rfl (anx rfl (zr rfl (fun h2 => ?_) (fun h2 => ?_)))))
  ·
   refine zy 4 (.bool true) rfl (congrArg Value.bool h2) ?_;replace h2 := eq_of_beq h2;subst h2;refine zq (zh (yr rfl (srx (anx rfl (zv (zi (ze (zu (rs := [.tmp 2]) (vs := [_]) rfl ⟨rfl, trivial⟩ ?_))))))));first | exact ⟨rfl, (LW.step E XLW).toBelow⟩ | exact ⟨by unfold jy; rw [if_neg (by omega), zgz]; rfl, (LW.step E XLW).toBelow⟩
  ·
   refine zy 4 (.bool false) rfl (congrArg Value.bool h2) ?_;replace h2 := beq_eq_false_iff_ne.1 h2;refine srx (za rfl (yn rfl rfl (anx rfl (zr rfl (fun h3 => ?_) (fun h3 => ?_)))))
   ·
    refine zy 4 (.bool true) rfl (congrArg Value.bool h3) ?_;replace h3 := eq_of_beq h3;subst h3;refine zq (zh (yr rfl (srx (anx rfl (zv (zi (ze (zu (rs := [.tmp 2]) (vs := [_]) rfl ⟨rfl, trivial⟩ ?_))))))));first | exact ⟨rfl, (LW.step E XLW).toBelow⟩ | exact ⟨by unfold jy; rw [if_neg (by omega), zgz]; rfl, (LW.step E XLW).toBelow⟩
   ·
    refine zy 4 (.bool false) rfl (congrArg Value.bool h3) ?_;replace h3 := beq_eq_false_iff_ne.1 h3;refine srx (za rfl (yn rfl rfl (anx rfl (zr rfl (fun h4 => ?_) (fun h4 => ?_)))))
    ·
     refine zy 4 (.bool true) rfl (congrArg Value.bool h4) ?_;replace h4 := eq_of_beq h4;subst h4;refine zq (zh (yr rfl (srx (anx rfl (zv (zi (ze (zu (rs := [.tmp 2]) (vs := [_]) rfl ⟨rfl, trivial⟩ ?_))))))));first | exact ⟨rfl, (LW.step E XLW).toBelow⟩ | exact ⟨by unfold jy; rw [if_neg (by omega), zgz]; rfl, (LW.step E XLW).toBelow⟩
    ·
     refine zy 4 (.bool false) rfl (congrArg Value.bool h4) ?_;replace h4 := beq_eq_false_iff_ne.1 h4;refine zj (za rfl (yn rfl rfl (anx rfl (zr rfl (fun h5 => ?_) (fun h5 => ?_)))))
     ·
      refine zy 4 (.bool true) rfl (congrArg Value.bool h5) ?_;replace h5 := eq_of_beq h5;subst h5;refine srx (anx rfl (zv (zi (ze (zu (rs := [.tmp 2]) (vs := [_]) rfl ⟨rfl, trivial⟩ ?_)))));first | exact ⟨rfl, (LW.step E XLW).toBelow⟩ | exact ⟨by unfold jy; rw [if_neg (by omega), zgz]; rfl, (LW.step E XLW).toBelow⟩
     ·
      refine zy 4 (.bool false) rfl (congrArg Value.bool h5) ?_;replace h5 := beq_eq_false_iff_ne.1 h5;refine zq (zf (zh (srx (mvx rfl (za rfl (yf en44 rfl ((ydv _ op).mono ?_)))))));rintro e w1 ⟨rfl, hb⟩;refine ⟨_, rfl, ?_⟩;replace E := blx E hb
      refine za rfl (vb rfl rfl (anx rfl (zv (zu (rs := [.tmp 2]) (vs := [_]) rfl ⟨rfl, trivial⟩ ?_))));first | exact ⟨rfl, (LW.step E XLW).toBelow⟩ | exact ⟨by unfold jy; rw [if_neg (by omega), zgz]; rfl, (LW.step E XLW).toBelow⟩
theorem rallocs_any (op : Int) : Calls Tryd.prog 49 #[.int .i64 op] w fun e w' => e = .returned (.bool (jy op)) ∧ Below w.heap.size w w' := by
 refine qs Tryd.func49 rfl Tryd.ntmps49 rfl ?_;have LW := erx (No) w;have XLW := grx (No) w;have E := erx (No) w;refine srx (anx rfl (zp (srx (mvx rfl (rnx (yb (zp (srx (za rfl (yn rfl rfl (anx rfl (zr rfl (fun h1 => ?_) (fun h1 => ?_)))))))))))))
 ·
  refine zy 4 (.bool true) rfl (congrArg Value.bool h1) ?_;replace h1 := eq_of_beq h1;subst h1;refine zq (zh (yr rfl (srx (anx rfl (zv (zi (ze (zu (rs := [.tmp 2]) (vs := [_]) rfl ⟨rfl, trivial⟩ ?_))))))));first | exact ⟨rfl, (LW.step E XLW).toBelow⟩ | exact ⟨by unfold jy; rw [if_neg (by omega)]; rfl, (LW.step E XLW).toBelow⟩
 ·
  refine zy 4 (.bool false) rfl (congrArg Value.bool h1) ?_;replace h1 := beq_eq_false_iff_ne.1 h1;refine srx (za rfl (yn rfl rfl (anx rfl (zr rfl (fun h2 => ?_) (fun h2 => ?_)))))
  ·
   refine zy 4 (.bool true) rfl (congrArg Value.bool h2) ?_;replace h2 := eq_of_beq h2;subst h2;refine zq (zh (yr rfl (srx (anx rfl (zv (zi (ze (zu (rs := [.tmp 2]) (vs := [_]) rfl ⟨rfl, trivial⟩ ?_))))))));first | exact ⟨rfl, (LW.step E XLW).toBelow⟩ | exact ⟨by unfold jy; rw [if_neg (by omega)]; rfl, (LW.step E XLW).toBelow⟩
  ·
   refine zy 4 (.bool false) rfl (congrArg Value.bool h2) ?_;replace h2 := beq_eq_false_iff_ne.1 h2;refine srx (za rfl (yn rfl rfl (anx rfl (zr rfl (fun h3 => ?_) (fun h3 => ?_)))))
   ·
    refine zy 4 (.bool true) rfl (congrArg Value.bool h3) ?_;replace h3 := eq_of_beq h3;subst h3;refine zq (zh (yr rfl (srx (anx rfl (zv (zi (ze (zu (rs := [.tmp 2]) (vs := [_]) rfl ⟨rfl, trivial⟩ ?_))))))));first | exact ⟨rfl, (LW.step E XLW).toBelow⟩ | exact ⟨by unfold jy; rw [if_neg (by omega)]; rfl, (LW.step E XLW).toBelow⟩
   ·
    refine zy 4 (.bool false) rfl (congrArg Value.bool h3) ?_;replace h3 := beq_eq_false_iff_ne.1 h3;refine srx (za rfl (yn rfl rfl (anx rfl (zr rfl (fun h4 => ?_) (fun h4 => ?_)))))
    ·
     refine zy 4 (.bool true) rfl (congrArg Value.bool h4) ?_;replace h4 := eq_of_beq h4;subst h4;refine zq (zh (yr rfl (srx (anx rfl (zv (zi (ze (zu (rs := [.tmp 2]) (vs := [_]) rfl ⟨rfl, trivial⟩ ?_))))))));first | exact ⟨rfl, (LW.step E XLW).toBelow⟩ | exact ⟨by unfold jy; rw [if_neg (by omega)]; rfl, (LW.step E XLW).toBelow⟩
    ·
     refine zy 4 (.bool false) rfl (congrArg Value.bool h4) ?_;replace h4 := beq_eq_false_iff_ne.1 h4;refine zj (za rfl (yn rfl rfl (anx rfl (zr rfl (fun h5 => ?_) (fun h5 => ?_)))))
     ·
      refine zy 4 (.bool true) rfl (congrArg Value.bool h5) ?_;replace h5 := eq_of_beq h5;subst h5;refine srx (anx rfl (zv (zi (ze (zu (rs := [.tmp 2]) (vs := [_]) rfl ⟨rfl, trivial⟩ ?_)))));first | exact ⟨rfl, (LW.step E XLW).toBelow⟩ | exact ⟨by unfold jy; rw [if_neg (by omega)]; rfl, (LW.step E XLW).toBelow⟩
     ·
      refine zy 4 (.bool false) rfl (congrArg Value.bool h5) ?_;replace h5 := beq_eq_false_iff_ne.1 h5;refine zq (zf (zh (srx (mvx rfl (za rfl (yf en33 rfl ((ztx _ op).mono ?_)))))));rintro e w1 ⟨rfl, hb⟩;refine ⟨_, rfl, ?_⟩;replace E := blx E hb
      refine za rfl (ow_field1 Tryd.underlying68 rfl Tryd.underlying4 rfl rfl rfl (anx rfl (zv (zu (rs := [.tmp 2]) (vs := [_]) rfl ⟨rfl, trivial⟩ ?_))));first | exact ⟨rfl, (LW.step E XLW).toBelow⟩ | exact ⟨by unfold jy; rw [if_neg (by omega)]; rfl, (LW.step E XLW).toBelow⟩
end
end Go.Proofs.YtppdgjlmeahimaaDoor
namespace Go.Proofs.YtppdgjlmeahimaaDoor
open Go.RowKit
set_option maxRecDepth 100000
attribute [local irreducible] OW RS
def zgq (f : LFn) (at_ : Nat) (x : LIns) : Int := match jn f at_ x with
 | some k => (k : Int)
 | none => -1
theorem hIdx_no {f : LFn} {at_ : Nat} {x : LIns} (h : jy x.op = false) : zgq f at_ x = -1 := by
 unfold zgq jn; rw [h]; rfl
theorem hIdx_none {f : LFn} {at_ : Nat} {x : LIns} (h : ∀ (j : Nat) r, f.rgs[j]? = some r → hReg at_ r = false) : zgq f at_ x = -1 := by
 unfold zgq jn;split
 · rename_i k hk
   split at hk
   · obtain ⟨h1, h2, _⟩ := List.findIdx?_eq_some_iff_getElem.1 hk;rw [h k _ (List.getElem?_eq_getElem h1)] at h2;cases h2
   · cases hk
 · rfl
theorem hIdx_some {f : LFn} {at_ k : Nat} {x : LIns} {r : LReg} (ha : jy x.op = true) (hr : f.rgs[k]? = some r) (h : hReg at_ r = true) (hn : ∀ (j : Nat) r', j < k → f.rgs[j]? = some r' → hReg at_ r' = false) : zgq f at_ x = (k : Int) := by
 have e : jn f at_ x = some k := by
  unfold jn;rw [if_pos ha];obtain ⟨h1, h2⟩ := List.getElem?_eq_some_iff.1 hr;refine List.findIdx?_eq_some_iff_getElem.2 ⟨h1, by rw [h2]; exact h, fun j hj => ?_⟩;rw [hn j _ hj (List.getElem?_eq_getElem (by omega))];decide
 unfold zgq; rw [e]
theorem yix {at_ : Nat} {r : LReg} (h : ¬ (r.fr ≤ (at_ : Int) ∧ (at_ : Int) < r.to)) : hReg at_ r = false := by
 unfold hReg;rcases Classical.em (r.fr ≤ (at_ : Int)) with h1 | h1
 · have : ¬ (at_ : Int) < r.to := fun h2 => h ⟨h1, h2⟩;simp [h1]; omega
 · simp [h1]
theorem hReg_yes {at_ : Nat} {r : LReg} (h : r.fr ≤ (at_ : Int) ∧ (at_ : Int) < r.to) : hReg at_ r = true := by
 unfold hReg; simp [h.1, h.2]
theorem yhv {f : LFn} {at_ k : Nat} {r : LReg} (hr : f.rgs[k]? = some r) (hn : ∀ (j : Nat) r', j < k → f.rgs[j]? = some r' → hReg at_ r' = false) (h : hReg at_ r = false) : ∀ (j : Nat) r', j < k + 1 → f.rgs[j]? = some r' → hReg at_ r' = false := fun j r' hj hr' => by
 rcases Nat.lt_or_ge j k with h1 | h1
 · exact hn j r' h1 hr'
 · obtain rfl : j = k := by omega
   rw [hr] at hr';obtain rfl := Option.some.inj hr';exact h
theorem zek {xs : List Int} {n : Int} {k : Nat} {y : Int} (hy : xs[k]? = some y) (h : ¬ (0 ≤ y ∧ y < n)) : vy xs n = false := by
 cases hi : vy xs n with
 | false => rfl
 | true => exact absurd (ziq hi (List.mem_of_getElem? hy)) h
theorem zvv {xs : List Int} {n : Int} (h : ∀ (k : Nat) y, xs[k]? = some y → 0 ≤ y ∧ y < n) : vy xs n = true := by
 unfold vy;refine List.all_eq_true.2 fun x hx => ?_;obtain ⟨k, hk, e⟩ := List.getElem_of_mem hx;have := h k x (by rw [← e]; exact List.getElem?_eq_getElem hk);simp [this.1, this.2]
theorem in_step {xs : List Int} {n : Int} {k : Nat} {y : Int} (hy : xs[k]? = some y) (hn : ∀ (j : Nat) y, j < k → xs[j]? = some y → 0 ≤ y ∧ y < n) (h : 0 ≤ y ∧ y < n) : ∀ (j : Nat) y, j < k + 1 → xs[j]? = some y → 0 ≤ y ∧ y < n := fun j z hj hz => by
 rcases Nat.lt_or_ge j k with h1 | h1
 · exact hn j z h1 hz
 · obtain rfl : j = k := by omega
   rw [hy] at hz;obtain rfl := Option.some.inj hz;exact h
section
variable (w : World) (p : Pl) (f : LFn) (n0 : Nat) (hF : FnA n0 w p f)
include hF
theorem ygx (at_ : Nat) (x : LIns) (hx : f.ins[at_]? = some x) : Calls Tryd.prog 40 #[fnV p f, .int .i64 ((at_ : Nat) : Int)] w fun e w' => e = .returned (.int .i64 (zgq f at_ x)) ∧ Below w.heap.size w w' := by
 have hlt := (List.getElem?_eq_some_iff.1 hx).1;have hrl := hF.rgs.len;have hil := hF.ins.len;refine qs Tryd.func40 rfl Tryd.ntmps40 rfl ?_;have HF : Per (No) w (fun _ => True) := Per.true_;have LW := erx (No) w;have XLW := grx (No) w;have E := erx (No) w;replace HF := HF.on E;replace LW := LW.step E XLW;replace E := erx (No) w;replace HF := HF.and (Per.fnA hF (fun _ h => h.elim))
 refine srx (za rfl (vk rfl ?_));intro gb1 w2 Bb1 Eb1 Gb1;have Gb1 : _ ≤ gb1 := Nat.le_trans E.size Gb1;have GLb1 := Nat.le_trans LW.size Gb1;replace E := E.trans Eb1.no;replace HF := HF.cons (zz Gb1);replace E := E.cons (some gb1);replace XLW := Mut.grow XLW (fun k e => Or.inr (Nat.le_trans LW.size ((zz Gb1) k e)));replace HF := HF.on E;replace LW := LW.step E XLW
 have SB : ∀ q9, No q9 → Mut [(some gb1)] q9 := (Mut.skip Mut.nil_);replace HF := HF.less SB;replace XLW := fun k h => XLW k (SB k h);clear SB;replace E := erx (No) w2;replace HF := HF.and (Per.blkN Bb1 NotIn.nil);refine anx rfl (zp (srx (mvx rfl (za rfl (yy rfl rfl (mvx rfl (yx 9 rfl (fun h1 => ?_) (fun h1 => ?_))))))))
 ·
  replace h1 := of_decide_eq_true h1
  refine za rfl (zc rfl (za rfl (zc rfl (za rfl (zc rfl (za rfl (zc rfl (za rfl (zc rfl (za rfl (zx rfl rfl (mvx rfl (za rfl (zc rfl (za rfl (zc rfl (za rfl (zc rfl (za rfl (zc rfl (za rfl (zc rfl (za rfl (zc rfl (za rfl (zc rfl (za rfl (zc rfl (za rfl (zx rfl rfl (rnx (yr rfl (srx (anx rfl (zv (ze (zu (rs := [.tmp 4]) (vs := [_]) rfl ⟨rfl, trivial⟩ ?_)))))))))))))))))))))))))))))))))))))
  exfalso; omega
 replace h1 := of_decide_eq_false h1;refine onx rfl (zl rfl (onx rfl (zb Tryd.underlying27 rfl gz (by decide) rfl (onx rfl (zg Tryd.underlying24 rfl rfl (HF.on E).here.2 rfl (onx rfl (yw Tryd.underlying24 rfl (onx rfl (jd rfl rfl (za rfl (yd rfl rfl (mvx rfl (yx 16 rfl (fun h2 => ?_) (fun h2 => ?_))))))))))))))
 ·
  replace h2 := of_decide_eq_true h2;refine za rfl (zc rfl (za rfl (zc rfl (za rfl (zc rfl (za rfl (zc rfl (za rfl (zc rfl (za rfl (zc rfl (za rfl (zc rfl (za rfl (zc rfl (za rfl (zx rfl rfl (rnx (yr rfl (srx (anx rfl (zv (ze (zu (rs := [.tmp 4]) (vs := [_]) rfl ⟨rfl, trivial⟩ ?_))))))))))))))))))))))))
  exfalso; omega
 replace h2 := of_decide_eq_false h2;refine onx rfl (zb Tryd.underlying27 rfl gz (by decide) rfl (onx rfl (zg Tryd.underlying24 rfl rfl (HF.on E).here.2 rfl (onx rfl (zl rfl ?_)))));obtain ⟨g, o, hA, hg, hc⟩ := ((HF.on E).here.1.2).ins.row.at hx;obtain ⟨hI, B, cB, hcB, hl, hcells⟩ := hc
 refine onx rfl (yi (j := at_) Tryd.underlying24 vx (congrArg (fun z ↦ some (Value.slice z f.ins.length p.ci)) hA) rfl rfl hlt (onx rfl (zb Tryd.underlying41 rfl sz3 (by decide) rfl (onx rfl (zt Tryd.underlying3 rfl rfl (hcells 0 _ rfl) (onx rfl (yf en46 rfl ((allocs_any _ x.op).mono ?_))))))));rintro e w3 ⟨rfl, hb⟩;refine ⟨_, rfl, ?_⟩;replace E := blx E hb
 refine onx rfl (jg rfl (za rfl (yd rfl rfl (rnx (zr rfl (fun k1 => ?_) (fun k1 => ?_))))))
 ·
  refine zy 25 (.bool true) rfl (congrArg Value.bool k1) (srx (anx rfl (zv (ze (zu (rs := [.tmp 4]) (vs := [_]) rfl ⟨rfl, trivial⟩ ?_)))));exact ⟨by rw [hIdx_no (by simpa using k1)]; rfl, (LW.step E XLW).toBelow⟩
 refine zy 25 (.bool false) rfl (congrArg Value.bool k1) (zq (zh (zp (srx (za rfl (zb Tryd.underlying27 rfl ko (by decide) rfl (za rfl (zg Tryd.underlying25 rfl rfl (HF.on E).here.2 rfl (za rfl (yw Tryd.underlying25 rfl (mvx rfl (rnx (yb ?_)))))))))))));have ha : jy x.op = true := by simpa using k1
 replace HF := HF.on E;replace LW := LW.step E XLW;replace E := erx (No) w3
 refine qu (ι := Nat) (fun k => [(1, .int .i64 ((at_ : Nat) : Int)), (27, .slice p.ar f.rgs.length p.cr), (28, .int .i64 ((f.rgs.length : Nat) : Int)), (29, .int .i64 ((k : Nat) : Int))]) (fun k w' => Ext (No) w3 w' ∧ (k ≤ f.rgs.length ∧ ∀ (j : Nat) r, j < k → f.rgs[j]? = some r → hReg at_ r = false)) (fun k => f.rgs.length - k) 0 ⟨rfl, rfl, rfl, rfl, trivial⟩ ⟨Ext.refl _ _, ⟨Nat.zero_le _, fun j r h => by omega⟩⟩ ?_
 rintro k w5 ⟨M4, ⟨hk, hn⟩⟩;have XM4 := grx (No) w3;replace E := E.trans M4;replace HF := HF.on E;replace LW := LW.step E XLW;replace E := erx (No) w5;refine srx (za rfl (yy rfl rfl (rnx (zp (zr rfl (fun hq => ?_) (fun hq => ?_))))))
 ·
  have hq := of_decide_eq_true hq;obtain ⟨r, hr⟩ : ∃ r, f.rgs[k]? = some r := ⟨_, List.getElem?_eq_getElem (by omega)⟩;obtain ⟨gr, ro, hA, hg, hc⟩ := ((HF.on E).here.1.2).rgs.row.at hr
  refine zq (zh (zp (yb (srx (mvx rfl (za rfl (yi (j := k) Tryd.underlying25 ku (congrArg (fun z ↦ some (Value.slice z f.rgs.length p.cr)) hA) rfl rfl (by omega) (za rfl (jb (cs := (zqz r).toArray) Tryd.underlying50 rfl ku rfl rfl (fun j v hj ↦ hc j v (by simpa using hj)) (za rfl (qb zr50 ?_)))))))))));intro gb6 w7 Bb6 Eb6 Gb6
  have Gb6 : _ ≤ gb6 := Nat.le_trans E.size Gb6;have GLb6 := Nat.le_trans LW.size Gb6;replace E := E.trans Eb6.no;replace E := E.cons (some gb6);replace XLW := Mut.grow XLW (fun k e => Or.inr (Nat.le_trans LW.size ((zz Gb6) k e)));replace XM4 := Mut.grow XM4 (fun k e => Or.inr (Nat.le_trans M4.size ((zz Gb6) k e)));refine avx rfl (zw (qz ku rfl rfl Bb6 rfl rfl rfl ?_))
  intro w8 Bx Eb6;replace Bb6 : Blk w8 gb6 50 #[.int .i64 r.fr, .int .i64 r.to, .int .i64 r.tg, .int .i64 r.d] := Bx;replace E := E.step1 Eb6 Mut.head;refine rnx (srx (za rfl (zb Tryd.underlying50 rfl sz3 (by decide) rfl (za rfl (zg Tryd.underlying3 rfl rfl Bb6 rfl (mvx rfl (za rfl (ow_leq rfl rfl (mvx rfl (yx 38 rfl (fun t1 => ?_) (fun t1 => ?_)))))))))))
  ·
   replace t1 := of_decide_eq_true t1;refine onx rfl (zl rfl (onx rfl (zb Tryd.underlying50 rfl sz3 (by decide) rfl (onx rfl (zg Tryd.underlying3 rfl rfl Bb6 rfl (onx rfl (yy rfl rfl (za rfl (zx rfl rfl (rnx (zr rfl (fun t2 => ?_) (fun t2 => ?_))))))))))))
   ·
    refine zy 43 (.bool true) rfl (congrArg Value.bool t2) ?_;replace t2 := of_decide_eq_true t2;refine srx (mvx rfl (anx rfl (zv (zi (ze (ze (zi (ze (zu (rs := [.tmp 4]) (vs := [_]) rfl ⟨rfl, trivial⟩ ?_)))))))));exact ⟨by rw [hIdx_some ha hr (hReg_yes (by omega)) hn]; rfl, (LW.step E XLW).toBelow⟩
   ·
    refine zy 43 (.bool false) rfl (congrArg Value.bool t2) ?_;replace t2 := of_decide_eq_false t2;refine zq (zf (zh (zj (za rfl (qc rfl rfl (yg (by omega)) (mvx rfl (yc ?_)))))))
    exact yt (k + 1) (by show f.rgs.length - (k + 1) < f.rgs.length - k; omega) ⟨rfl, rfl, rfl, rfl, trivial⟩ ⟨M4.step E XM4, ⟨by omega, yhv hr hn (yix (by omega))⟩⟩
  ·
   replace t1 := of_decide_eq_false t1;refine za rfl (zc rfl (za rfl (zc rfl (za rfl (zc rfl (za rfl (zc rfl (za rfl (yd rfl rfl (rnx (qp rfl (zq (zf (zh (zj (za rfl (qc rfl rfl (yg (by omega)) (mvx rfl (yc ?_)))))))))))))))))))
   exact yt (k + 1) (by show f.rgs.length - (k + 1) < f.rgs.length - k; omega) ⟨rfl, rfl, rfl, rfl, trivial⟩ ⟨M4.step E XM4, ⟨by omega, yhv hr hn (yix (by omega))⟩⟩
 ·
  have hq := of_decide_eq_false hq;refine qe (zm (zm (ya (zh (srx (anx rfl (zv (zu (rs := [.tmp 4]) (vs := [_]) rfl ⟨rfl, trivial⟩ ?_))))))));exact ⟨by rw [hIdx_none (fun j r hr => hn j r (by have := (List.getElem?_eq_some_iff.1 hr).1; omega) hr)]; rfl, (LW.step E XLW).toBelow⟩
theorem oh (at_ : Nat) (x : LIns) (hx : f.ins[at_]? = some x) : Calls Tryd.prog 47 #[fnV p f, .int .i64 ((at_ : Nat) : Int)] w fun e w' => e = .returned (.int .i64 (zgq f at_ x)) ∧ Below w.heap.size w w' := by
 have hlt := (List.getElem?_eq_some_iff.1 hx).1;have hrl := hF.rgs.len;have hil := hF.ins.len;refine qs Tryd.func47 rfl Tryd.ntmps47 rfl ?_;have HF : Per (No) w (fun _ => True) := Per.true_;have LW := erx (No) w;have XLW := grx (No) w;have E := erx (No) w;replace HF := HF.on E;replace LW := LW.step E XLW;replace E := erx (No) w;replace HF := HF.and (Per.fnA hF (fun _ h => h.elim))
 refine srx (za rfl (vk rfl ?_));intro gb1 w2 Bb1 Eb1 Gb1;have Gb1 : _ ≤ gb1 := Nat.le_trans E.size Gb1;have GLb1 := Nat.le_trans LW.size Gb1;replace E := E.trans Eb1.no;replace HF := HF.cons (zz Gb1);replace E := E.cons (some gb1);replace XLW := Mut.grow XLW (fun k e => Or.inr (Nat.le_trans LW.size ((zz Gb1) k e)));replace HF := HF.on E;replace LW := LW.step E XLW
 have SB : ∀ q9, No q9 → Mut [(some gb1)] q9 := (Mut.skip Mut.nil_);replace HF := HF.less SB;replace XLW := fun k h => XLW k (SB k h);clear SB;replace E := erx (No) w2;replace HF := HF.and (Per.blkN Bb1 NotIn.nil);refine anx rfl (zp (srx (mvx rfl (za rfl (yy rfl rfl (mvx rfl (yx 8 rfl (fun h1 => ?_) (fun h1 => ?_))))))))
 ·
  replace h1 := of_decide_eq_true h1
  refine za rfl (zc rfl (za rfl (zc rfl (za rfl (zc rfl (za rfl (zc rfl (za rfl (zc rfl (za rfl (zx rfl rfl (mvx rfl (za rfl (zc rfl (za rfl (zc rfl (za rfl (zc rfl (za rfl (zc rfl (za rfl (zc rfl (za rfl (zc rfl (za rfl (zc rfl (za rfl (zc rfl (za rfl (zx rfl rfl (rnx (yr rfl (srx (anx rfl (zv (ze (zu (rs := [.tmp 4]) (vs := [_]) rfl ⟨rfl, trivial⟩ ?_)))))))))))))))))))))))))))))))))))))
  exfalso; omega
 replace h1 := of_decide_eq_false h1;refine onx rfl (zl rfl (onx rfl (zb Tryd.underlying27 rfl gz (by decide) rfl (onx rfl (zg Tryd.underlying24 rfl rfl (HF.on E).here.2 rfl (onx rfl (yw Tryd.underlying24 rfl (onx rfl (jd rfl rfl (za rfl (yd rfl rfl (mvx rfl (yx 15 rfl (fun h2 => ?_) (fun h2 => ?_))))))))))))))
 ·
  replace h2 := of_decide_eq_true h2;refine za rfl (zc rfl (za rfl (zc rfl (za rfl (zc rfl (za rfl (zc rfl (za rfl (zc rfl (za rfl (zc rfl (za rfl (zc rfl (za rfl (zc rfl (za rfl (zx rfl rfl (rnx (yr rfl (srx (anx rfl (zv (ze (zu (rs := [.tmp 4]) (vs := [_]) rfl ⟨rfl, trivial⟩ ?_))))))))))))))))))))))))
  exfalso; omega
 replace h2 := of_decide_eq_false h2;refine onx rfl (zb Tryd.underlying27 rfl gz (by decide) rfl (onx rfl (zg Tryd.underlying24 rfl rfl (HF.on E).here.2 rfl (onx rfl (zl rfl ?_)))));obtain ⟨g, o, hA, hg, hc⟩ := ((HF.on E).here.1.2).ins.row.at hx;obtain ⟨hI, B, cB, hcB, hl, hcells⟩ := hc
 refine onx rfl (yi (j := at_) Tryd.underlying24 vx (congrArg (fun z ↦ some (Value.slice z f.ins.length p.ci)) hA) rfl rfl hlt (onx rfl (zb Tryd.underlying41 rfl sz3 (by decide) rfl (onx rfl (zt Tryd.underlying3 rfl rfl (hcells 0 _ rfl) (onx rfl (yf en49 rfl ((rallocs_any _ x.op).mono ?_))))))));rintro e w3 ⟨rfl, hb⟩;refine ⟨_, rfl, ?_⟩;replace E := blx E hb
 refine onx rfl (jg rfl (za rfl (yd rfl rfl (rnx (zr rfl (fun k1 => ?_) (fun k1 => ?_))))))
 ·
  refine zy 24 (.bool true) rfl (congrArg Value.bool k1) (srx (anx rfl (zv (ze (zu (rs := [.tmp 4]) (vs := [_]) rfl ⟨rfl, trivial⟩ ?_)))));exact ⟨by rw [hIdx_no (by simpa using k1)]; rfl, (LW.step E XLW).toBelow⟩
 refine zy 24 (.bool false) rfl (congrArg Value.bool k1) (zq (zh (zp (srx (anx rfl (yb ?_))))));have ha : jy x.op = true := by simpa using k1
 replace HF := HF.on E;replace LW := LW.step E XLW;replace E := erx (No) w3
 refine qu (ι := Nat) (fun k => [(1, .int .i64 ((at_ : Nat) : Int)), (2, .pointer (some ⟨gb1, 0, none⟩)), (5, .int .i64 ((k : Nat) : Int))]) (fun k w' => Ext (No) w3 w' ∧ (k ≤ f.rgs.length ∧ ∀ (j : Nat) r, j < k → f.rgs[j]? = some r → hReg at_ r = false)) (fun k => f.rgs.length - k) 0 ⟨rfl, rfl, rfl, trivial⟩ ⟨Ext.refl _ _, ⟨Nat.zero_le _, fun j r h => by omega⟩⟩ ?_
 rintro k w5 ⟨M4, ⟨hk, hn⟩⟩;have XM4 := grx (No) w3;replace E := E.trans M4;replace HF := HF.on E;replace LW := LW.step E XLW;replace E := erx (No) w5
 refine zp (srx (mvx rfl (za rfl (zb Tryd.underlying27 rfl ko (by decide) rfl (za rfl (zg Tryd.underlying25 rfl rfl (HF.on E).here.2 rfl (za rfl (yw Tryd.underlying25 rfl (za rfl (yy rfl rfl (rnx (zr rfl (fun hq => ?_) (fun hq => ?_)))))))))))))
 ·
  have hq := of_decide_eq_true hq;obtain ⟨r, hr⟩ : ∃ r, f.rgs[k]? = some r := ⟨_, List.getElem?_eq_getElem (by omega)⟩;obtain ⟨gr, ro, hA, hg, hc⟩ := ((HF.on E).here.1.2).rgs.row.at hr
  refine zq (zh (zp (yb (srx (za rfl (zb Tryd.underlying27 rfl ko (by decide) rfl (za rfl (zg Tryd.underlying25 rfl rfl (HF.on E).here.2 rfl (mvx rfl (za rfl (yi (j := k) Tryd.underlying25 ku (congrArg (fun z ↦ some (Value.slice z f.rgs.length p.cr)) hA) rfl rfl (by omega) (za rfl (zb Tryd.underlying50 rfl sz3 (by decide) rfl (za rfl (zt Tryd.underlying3 rfl rfl (hc 0 _ rfl) (mvx rfl (za rfl (ow_leq rfl rfl (mvx rfl (yx 40 rfl (fun t1 => ?_) (fun t1 => ?_)))))))))))))))))))))
  ·
   have t1 := of_decide_eq_true t1
   refine onx rfl (zl rfl (onx rfl (zb Tryd.underlying27 rfl ko (by decide) rfl (onx rfl (zg Tryd.underlying25 rfl rfl (HF.on E).here.2 rfl (onx rfl (zl rfl (onx rfl (yi (j := k) Tryd.underlying25 ku (congrArg (fun z ↦ some (Value.slice z f.rgs.length p.cr)) hA) rfl rfl (by omega) (onx rfl (zb Tryd.underlying50 rfl sz3 (by decide) rfl (onx rfl (zt Tryd.underlying3 rfl rfl (hc 1 _ rfl) (onx rfl (yy rfl rfl (za rfl (zx rfl rfl (rnx (zr rfl (fun t1 => ?_) (fun t1 => ?_))))))))))))))))))))
   ·
    refine zy 49 (.bool true) rfl (congrArg Value.bool t1) ?_;replace t1 := of_decide_eq_true t1;refine srx (mvx rfl (anx rfl (zv (zi (ze (ze (zi (ze (zu (rs := [.tmp 4]) (vs := [_]) rfl ⟨rfl, trivial⟩ ?_)))))))));exact ⟨by rw [hIdx_some ha hr (hReg_yes (by omega)) hn]; rfl, (LW.step E XLW).toBelow⟩
   ·
    refine zy 49 (.bool false) rfl (congrArg Value.bool t1) ?_;replace t1 := of_decide_eq_false t1;refine zq (zf (zh (zj (mvx rfl (za rfl (qc rfl rfl (yg (by omega)) (avx rfl (yc ?_))))))))
    exact yt (k + 1) (by show f.rgs.length - (k + 1) < f.rgs.length - k; omega) ⟨rfl, rfl, rfl, trivial⟩ ⟨M4.step E XM4, ⟨by omega, yhv hr hn (yix (by omega))⟩⟩
  ·
   have t1 := of_decide_eq_false t1
   refine za rfl (zc rfl (za rfl (zc rfl (za rfl (zc rfl (za rfl (zc rfl (za rfl (zc rfl (za rfl (zc rfl (za rfl (zc rfl (za rfl (zc rfl (za rfl (yd rfl rfl (rnx (qp rfl (zq (zf (zh (zj (mvx rfl (za rfl (qc rfl rfl (yg (by omega)) (avx rfl (yc ?_))))))))))))))))))))))))))))
   exact yt (k + 1) (by show f.rgs.length - (k + 1) < f.rgs.length - k; omega) ⟨rfl, rfl, rfl, trivial⟩ ⟨M4.step E XM4, ⟨by omega, yhv hr hn (yix (by omega))⟩⟩
 ·
  have hq := of_decide_eq_false hq;refine qe (zm (zm (ya (zh (srx (anx rfl (zv (zu (rs := [.tmp 4]) (vs := [_]) rfl ⟨rfl, trivial⟩ ?_))))))));exact ⟨by rw [hIdx_none (fun j r hr => hn j r (by have := (List.getElem?_eq_some_iff.1 hr).1; omega) hr)]; rfl, (LW.step E XLW).toBelow⟩
end
section
variable (w : World) (A : Option Addr) (c n0 : Nat) (xs : List Int) (hx : IntsA n0 w A xs)
include hx
theorem inside_any (n : Int) : Calls Tryd.prog 27 #[.slice A xs.length c, .int .i64 n] w fun e w' => e = .returned (.bool (vy xs n)) ∧ Below w.heap.size w w' := by
 have hll := hx.len;refine qs Tryd.func27 rfl Tryd.ntmps27 rfl ?_;have HF : Per (No) w (fun _ => True) := Per.true_;have LW := erx (No) w;have XLW := grx (No) w;have E := erx (No) w;replace HF := HF.on E;replace LW := LW.step E XLW;replace E := erx (No) w;replace HF := HF.and (Per.ints hx (fun _ h => h.elim));refine srx (anx rfl (zp (srx (anx rfl (yb ?_)))));replace HF := HF.on E
 replace LW := LW.step E XLW;replace E := erx (No) w;refine qu (ι := Nat) (fun k => [(0, .slice A xs.length c), (1, .int .i64 n), (5, .int .i64 ((k : Nat) : Int))]) (fun k w' => Ext (No) w w' ∧ (k ≤ xs.length ∧ ∀ (j : Nat) y, j < k → xs[j]? = some y → 0 ≤ y ∧ y < n)) (fun k => xs.length - k) 0 ⟨rfl, rfl, rfl, trivial⟩ ⟨Ext.refl _ _, ⟨Nat.zero_le _, fun j r h => by omega⟩⟩ ?_
 rintro k w2 ⟨M1, ⟨hk, hn⟩⟩;have XM1 := grx (No) w;replace E := E.trans M1;replace HF := HF.on E;replace LW := LW.step E XLW;replace E := erx (No) w2;refine zp (srx (mvx rfl (mvx rfl (za rfl (yw Tryd.underlying28 rfl (za rfl (yy rfl rfl (rnx (zr rfl (fun hq => ?_) (fun hq => ?_))))))))))
 ·
  have hq := of_decide_eq_true hq;obtain ⟨y, hy⟩ : ∃ y, xs[k]? = some y := ⟨_, List.getElem?_eq_getElem (by omega)⟩;obtain ⟨g, o, hA, hg, hc⟩ := ((HF.on E).here.2).cell hy
  refine zq (zh (zp (yb (srx (mvx rfl (mvx rfl (za rfl (zk (j := k) Tryd.underlying28 sz3 (congrArg (fun z ↦ some (Value.slice z xs.length c)) hA) rfl rfl (by omega) (za rfl (zt Tryd.underlying3 rfl rfl hc (za rfl (yy rfl rfl (mvx rfl (yx 17 rfl (fun t1 => ?_) (fun t1 => ?_)))))))))))))))
  ·
   have t1 := of_decide_eq_true t1;refine za rfl (zc rfl (za rfl (zc rfl (za rfl (zc rfl (za rfl (zc rfl (za rfl (zc rfl (za rfl (zc rfl (za rfl (zx rfl rfl (rnx (yr rfl (srx (anx rfl (zv (zi (ze (ze (zi (ze (zu (rs := [.tmp 4]) (vs := [_]) rfl ⟨rfl, trivial⟩ ?_))))))))))))))))))))))))
   exact ⟨by rw [zek hy (by omega)]; rfl, (LW.step E XLW).toBelow⟩
  ·
   have t1 := of_decide_eq_false t1
   refine onx rfl (zl rfl (onx rfl (zl rfl (onx rfl (zk (j := k) Tryd.underlying28 sz3 (congrArg (fun z ↦ some (Value.slice z xs.length c)) hA) rfl rfl (by omega) (onx rfl (zt Tryd.underlying3 rfl rfl hc (onx rfl (zl rfl (onx rfl (jd rfl rfl (za rfl (yd rfl rfl (rnx (zr rfl (fun t1 => ?_) (fun t1 => ?_))))))))))))))))
   ·
    refine zy 24 (.bool true) rfl (congrArg Value.bool t1) ?_;replace t1 := of_decide_eq_true t1;refine srx (anx rfl (zv (zi (ze (ze (zi (ze (zu (rs := [.tmp 4]) (vs := [_]) rfl ⟨rfl, trivial⟩ ?_))))))));exact ⟨by rw [zek hy (by omega)]; rfl, (LW.step E XLW).toBelow⟩
   ·
    refine zy 24 (.bool false) rfl (congrArg Value.bool t1) ?_;replace t1 := of_decide_eq_false t1;refine zq (zf (zh (zj (mvx rfl (za rfl (qc rfl rfl (yg (by omega)) (avx rfl (yc ?_))))))));exact yt (k + 1) (by show xs.length - (k + 1) < xs.length - k; omega) ⟨rfl, rfl, rfl, trivial⟩ ⟨M1.step E XM1, ⟨by omega, in_step hy hn (by omega)⟩⟩
 ·
  have hq := of_decide_eq_false hq;refine qe (zm (zm (ya (zh (srx (anx rfl (zv (zu (rs := [.tmp 4]) (vs := [_]) rfl ⟨rfl, trivial⟩ ?_))))))));exact ⟨by rw [zvv (fun j y hy => hn j y (by have := (List.getElem?_eq_some_iff.1 hy).1; omega) hy)]; rfl, (LW.step E XLW).toBelow⟩
end
end Go.Proofs.YtppdgjlmeahimaaDoor
namespace Go.Proofs.YtppdgjlmeahimaaDoor
open Go.RowKit
set_option maxRecDepth 100000
def lastOK (l : List Oper) (m : Nat) : Bool := Nat.beq (m + 1) l.length && zdv 0 (l.take m) [] && (l.take m).all fun o => match o.guard with
 | some (g, _) => Nat.blt g m
 | none => true
section
variable {P : Program} {N : Nat} {Q : Exit → Act → World → Prop} {σ : Env} {w : World} {l : List Oper}
theorem any_prefixZ {m : Nat} (hg : lastOK l m = true) : ∀ (f : Nat) (ls : List Bool) (a : Act) (w : World), ls.length = m → ls.count false = f →
 (∀ i, Ran ls.toArray i → ∀ j ∈ vf l.toArray i, Ran ls.toArray j) →
 wpAny P .any (l.take m).toArray Q f ls.toArray a w →
 wpAny P .any l.toArray Q f (ls ++ [true]).toArray a w := by
 unfold lastOK at hg;simp only [Bool.and_eq_true] at hg
 obtain ⟨⟨hml, hrow⟩, hgd⟩ := hg;have hml1 := Nat.eq_of_beq_eq_true hml;have hml : m ≤ l.length := by omega
 have htk : ∀ i, i < m → (l.take m).toArray[i]? = l.toArray[i]? := fun i hi => by simp [List.getElem?_take, hi]
 have hget : ∀ (ls : List Bool) (i : Nat) (d : Bool), ls.length = m → i < m → (ls ++ [true]).toArray.getD i d = ls.toArray.getD i d := by
  intro ls i d hl hi;simp [Array.getD_eq_getD_getElem?, List.getElem?_append, hl, hi]
 have hget2 : ∀ (ls : List Bool) (i : Nat), ls.length = m → m ≤ i → (ls ++ [true]).toArray.getD i true = true := by
  intro ls i hl hi;rcases Nat.lt_or_ge m i with h | h
  · simp [Array.getD_eq_getD_getElem?, List.getElem?_append, hl, show ¬ i < m by omega, show ¬ i - m = 0 by omega]
  · obtain rfl : i = m := by omega
    simp [Array.getD_eq_getD_getElem?, List.getElem?_append, hl]
 have hfull : ∀ ls : List Bool, ls.length = m → (∀ i, i < m → Ran ls.toArray i) → ls.count false = 0 := by
  intro ls hl h;refine List.count_eq_zero.2 fun hf => ?_;obtain ⟨i, hi, he⟩ := List.getElem_of_mem hf;have := h i (by omega);unfold Ran at this;simp [hi, he] at this
 intro f;induction f with
 | zero =>
  intro ls a w hl hc hd h;have hall : ls = List.replicate m true := by
   refine List.eq_replicate_iff.2 ⟨hl, fun b hb => ?_⟩;cases b with
   | true => rfl
   | false => exact absurd hb (List.count_eq_zero.1 hc)
  refine ⟨List.eq_nil_iff_forall_not_mem.2 fun i hi => ?_, h.2⟩;obtain ⟨h0, o, ho, _⟩ := mem_ready.1 hi;rcases Nat.lt_or_ge i m with h1 | h1
  · rw [hget ls i true hl h1, hall] at h0;simp [h1] at h0
  · rw [hget2 ls i hl h1] at h0;cases h0
 | succ f ih =>
  intro ls a w hl hc hd h;refine ⟨fun hr => ?_, fun i hi => ?_⟩
  · exfalso
    have hall : ∀ i, i < m → Ran ls.toArray i := by
     intro i;induction i using Nat.strongRecOn with
     | _ i ihi =>
      intro him;rcases Classical.em (Ran ls.toArray i) with h' | h'
      · exact h'
      · exfalso
        have : i ∈ Region.ready .any l.toArray (ls ++ [true]).toArray := by
         have hil : i < l.length := by omega
         refine mem_ready.2 ⟨?_, l[i], by simp [hil], fun e he hb => ?_⟩
         · rw [hget ls i true hl him];unfold Ran at h';have : i < ls.length := by omega
           simp [this] at h' ⊢
           exact h'
         · have hlt := (kw hrow (i := i) (o := l[i]) (by simp [List.getElem?_take, him, hil])).1 e.on (kh (by simpa using he) hb);have hei : e.on < i := by omega
           rw [hget ls e.on false hl (by omega)];exact ihi e.on hei (by omega)
        rw [hr] at this;cases this
    have := hfull ls hl hall;omega
  · obtain ⟨h0, o, ho, hdep⟩ := mem_ready.1 hi;rcases Nat.lt_or_ge i m with him | him
    · have hdl : ∀ j ∈ vf l.toArray i, Ran ls.toArray j := by
       intro j hj;have ho' : l[i]? = some o := by simpa using ho
       unfold vf at hj;rw [ho] at hj;obtain ⟨e, he, hb, rfl⟩ := kq hj;have hlt := (kw hrow (i := i) (o := o) (by simp [List.getElem?_take, him, ho'])).1 e.on (kh he hb);have := hdep e (by simpa using he) hb;rwa [hget ls e.on false hl (by omega)] at this
      rw [hget ls i true hl him] at h0;have hi1 : i ∈ Region.ready .any (l.take m).toArray ls.toArray := by
       refine mem_ready.2 ⟨h0, o, by rw [htk i him]; exact ho, fun e he hb => ?_⟩;refine hdl e.on ?_;unfold vf;rw [ho];exact kh (by simpa using he) hb
      have h1 := h.2 i hi1;have hset : ((ls ++ [true]).toArray.setIfInBounds i true) = (ls.set i true ++ [true]).toArray := by
       apply Array.toList_inj.1
       rw [Array.toList_setIfInBounds];simp [List.set_append, hl, him]
      have hset1 : ls.toArray.setIfInBounds i true = (ls.set i true).toArray := by
       apply Array.toList_inj.1
       rw [Array.toList_setIfInBounds]
      rw [hset1] at h1;rw [hset];have hlsi : ls[i]? = some false := by
       have hil : i < ls.length := by omega
       have e : ls[i] = false := by simpa [hil] using h0
       simp [hil, e]
      have hK : ∀ a w, wpAny P .any (l.take m).toArray Q f (ls.set i true).toArray a w →
       wpAny P .any l.toArray Q f (ls.set i true ++ [true]).toArray a w := by
       intro a w h;refine ih (ls.set i true) a w (by simpa using hl) (by have := zev ls i hlsi; omega) ?_ h;have hup : ∀ j, Ran ls.toArray j → Ran (ls.set i true).toArray j := by
        intro j hj;unfold Ran at hj ⊢;rw [← hset1];exact getD_set_true hj
       intro j hj k hk;rcases Classical.em (j = i) with rfl | hji
       · exact hup k (hdl k hk)
       · refine hup k (hd j ?_ k hk);unfold Ran at hj ⊢;rw [← hset1, getD_set_ne false (Ne.symm hji)] at hj;exact hj
      unfold wpOp at h1 ⊢;rw [htk i him, ho] at h1;rw [ho];simp only [] at h1 ⊢
      have hy : Region.wanted o (yielded (l.take m).toArray a.tmps) = Region.wanted o (yielded l.toArray a.tmps) := by
       unfold Region.wanted;cases hgo : o.guard with
       | none => rfl
       | some gw =>
        obtain ⟨g, want⟩ := gw;have hmem : o ∈ l.take m := by
         have ho' : l[i]? = some o := by simpa using ho
         exact List.mem_of_getElem? (i := i) (by simp [List.getElem?_take, him, ho'])
        have := (List.all_eq_true.1 hgd) o hmem;rw [hgo] at this;have hgm : g < m := Nat.le_of_ble_eq_true this;simp only [yielded, htk g hgm]
      rw [← hy];split
      · rename_i hw
        rw [if_pos hw] at h1;rcases h1 with h1 | ⟨h1, h2⟩
        · exact .inl (Oper.wp_mono hK h1)
        · exact .inr ⟨h1, h2⟩
      · rename_i hw
        rw [if_neg hw] at h1;exact hK _ _ h1
    · exfalso
      rw [hget2 ls i hl him] at h0;cases h0
theorem ak_last {m d : Nat} {v : Value} {ty : TypeId} {pos : String} {af : Array Edge} (hg : (lastOK l m && Region.noSelect l.toArray && (Nat.blt d N && (Region.free .any l.toArray (Array.replicate l.length false) m && memN m (Region.ready .any l.toArray (Array.replicate l.length false))))) = true) (ho : l[m]? = some ⟨some d, .move (.const v), ty, pos, af, none⟩)
 (hQ : ∀ c (a : Act) d v w, Q (.panic c) (a.put d v) w → Q (.panic c) a w) (h : AK P N 0 (l.take m) Q ((d, v) :: σ) w) : AK P N 0 l Q σ w := fun a ha => by
 simp only [Bool.and_eq_true] at hg
 obtain ⟨⟨hg, hns⟩, hd, hfr, hrd⟩ := hg;have hlen : l.length = m + 1 := by
  unfold lastOK at hg;simp only [Bool.and_eq_true] at hg
  exact (Nat.eq_of_beq_eq_true hg.1.1).symm
 have htk : (l.take m).length = m := by rw [List.length_take]; omega
 have h1 := h (a.put (some d) v) (ha.put hd v);have h2 := any_prefixZ hg m (List.replicate m false) (a.put (some d) v) w (by simp) (by simp) (fun i hi => by
  unfold Ran at hi;by_cases h' : i < m <;> simp [h'] at hi) (by
   unfold trL at h1;rw [htk] at h1;simpa using h1)
 have e0 : trL 0 l.length = Array.replicate l.length false := by simp [trL]
 have e1 : (Array.replicate l.length false).setIfInBounds m true = (List.replicate m false ++ [true]).toArray := by
  apply Array.toList_inj.1
  rw [Array.toList_setIfInBounds, hlen];simp [List.replicate_succ', List.set_append]
 rw [Nat.sub_zero, e0];have hfu : l.length = m + 1 := hlen;rw [← e1] at h2;rw [hfu] at h2 ⊢ hfr hrd;exact wpAny_take (i := m) (v := v) (by simpa using ho) hns hfr (by simpa using gk.1 hrd) (fun c a w h => hQ c a _ _ w h) (.inl ⟨by simp [Region.wanted], fun w => by simp [execOp, Act.eval, go_sem]⟩) h2
end
end Go.Proofs.YtppdgjlmeahimaaDoor
namespace Go.Proofs.YtppdgjlmeahimaaDoor
open Go.RowKit
set_option maxRecDepth 100000
attribute [local irreducible] OW RS
theorem Per.ownsI {X : Nat → Prop} {w : World} {base base' c : Nat} {A : Option Addr} {xs : List Int} (h : OwnsI w base A c xs) (hX : ∀ k, X k → k < base) (hb : base' ≤ base) : Per X w (fun b => OwnsI b base' A c xs) := fun z hz => by
 refine ⟨h.1, ?_⟩;rcases h.2 with h2 | ⟨g, cap, cur, hv, hg, hh, r⟩
 · exact Or.inl h2
 · have hlt : g < w.heap.size := (Array.getElem?_eq_some_iff.1 hh).1;exact Or.inr ⟨g, cap, cur, hv, by omega, (hz.block g hlt (fun hx => by have := hX g hx; omega)).trans hh, r⟩
theorem ints_app {w : World} {base c : Nat} {A : Option Addr} {a b : List Int} (h : w.ownsRow base 3 1 (.slice A (a.length + b.length) c) (a.length + b.length) (yz a ++ yz b)) (hl : 8 * (a ++ b).length ≤ 140737488355000) (hi : ∀ x ∈ a ++ b, I64 x) : IntsA w.heap.size w A (a ++ b) := by
 have e1 : (a ++ b).length = a.length + b.length := List.length_append;have e2 : yz (a ++ b) = yz a ++ yz b := by simp [yz]
 refine OwnsI.ints (base := base) (c := c) ?_ hl hi;unfold OwnsI;rw [e1, e2];exact h
theorem ycq {n : Nat} {w : World} {B : Option Addr} {i : LIns} (hi : InsI i) (hl : IntsA n w B i.l) : ∀ y ∈ yu i, I64 y := by
 intro y hy;have h1 := hi.a;have h2 := hi.b;unfold yu at hy;rcases List.mem_append.1 hy with hy | hy
 · split at hy <;> simp at hy; subst hy; exact h1
 · rcases List.mem_append.1 hy with hy | hy
   · split at hy <;> simp at hy; subst hy; exact h2
   · split at hy
     · exact hl.in_ y hy
     · cases hy
theorem zhv {n : Nat} {w : World} {B : Option Addr} {i : LIns} (hi : InsI i) (hl : IntsA n w B i.l) : ∀ y ∈ yj i, I64 y := by
 intro y hy;have h1 := hi.d;unfold yj at hy;(repeat' split at hy) <;> first | exact hl.in_ y hy | (simp at hy; subst hy; exact h1) | (simp at hy)
theorem zmx {n : Nat} {w : World} {B : Option Addr} {i : LIns} (hl : IntsA n w B i.l) : 8 * (yj i).length ≤ 140737488355000 := by
 have := hl.len;unfold yj;(repeat' split) <;> simp <;> omega
theorem rw_len {i : LIns} : (yu i).length + (yj i).length ≤ i.l.length + 3 := by
 have key : ∀ {a b c d : List Int}, a.length ≤ 1 → b.length ≤ 1 → c.length ≤ i.l.length → d.length ≤ 1 → (a ++ (b ++ c)).length + d.length ≤ i.l.length + 3 := fun h1 h2 h3 h4 => by simp only [List.length_append]; omega
 by_cases h35 : i.op = 35
 · have e : yu i = (if uA i.op = true then [i.a] else []) ++ ((if uB i.op = true then [i.b] else []) ++ []) := by
    unfold yu;rw [h35]; simp
   have e2 : yj i = i.l := by unfold yj; rw [if_pos h35]
   rw [e, e2];simp only [List.length_append, List.length_nil]
   (repeat' split) <;> simp <;> omega
 · have e2 : yj i = if uD i.op = true then [i.d] else [] := by unfold yj; rw [if_neg h35]
   rw [e2];unfold yu;refine key ?_ ?_ ?_ ?_ <;> split <;> simp
theorem zck (i : LIns) (z : Int) : (yo i z).length ≤ 2 := by
 unfold yo;(repeat' split) <;> simp
theorem next_i64 {z : Int} (h : I64 z) : I64 (od z) := by
 obtain ⟨h1, h2⟩ := h;unfold od I64;split <;> omega
theorem zzk {i : LIns} {z : Int} (hi : InsI i) (hz : I64 z) : ∀ y ∈ yo i z, I64 y := by
 intro y hy;have h1 := next_i64 hz;have h2 := hi.t;unfold yo at hy;(repeat' split at hy) <;> simp at hy <;> first | (subst hy; assumption) | (rcases hy with rfl | rfl <;> assumption)
theorem xq {f : LFn} (h : ¬ (0 ≤ f.regs ∧ f.regs ≤ 65536 ∧ 0 ≤ f.params ∧ f.params ≤ f.regs ∧ f.ins.length ≠ 0)) : vh f = false := by
 cases hs : vh f with
 | false => rfl
 | true =>
  obtain ⟨h1, h2, h3, h4, h5⟩ := gl hs;exact absurd ⟨h1, h2, h3, h4, fun e => h5 (List.length_eq_zero_iff.1 e)⟩ h
theorem zaz {f : LFn} {k : Nat} {x : LIns} (hx : f.ins[k]? = some x) (h : xg f k x = false) : vh f = false := by
 cases hs : vh f with
 | false => rfl
 | true =>
  unfold vh at hs;simp only [Bool.and_eq_true] at hs
  have := ydq hs.2.1 hx;rw [Nat.zero_add, h] at this;cases this
theorem jt {f : LFn} {r : LReg} (hr : r ∈ f.rgs) (h : zfk f r = false) : vh f = false := by
 cases hs : vh f with
 | false => rfl
 | true =>
  unfold vh at hs;simp only [Bool.and_eq_true] at hs
  have := List.all_eq_true.1 hs.2.2 r hr;rw [h] at this;cases this
theorem insAll_of {f : LFn} : ∀ {l : List LIns} {n : Nat}, (∀ (j : Nat) x, l[j]? = some x → xg f (n + j) x = true) → zrz f n l = true
 | [], _, _ => rfl
 | x :: l, n, h => by
  unfold zrz;rw [show xg f n x = true from h 0 x rfl, insAll_of (fun j y hj => by have := h (j + 1) y (by simpa using hj); rwa [show n + 1 + j = n + (j + 1) by omega])];rfl
theorem sound_yes {f : LFn} (h : 0 ≤ f.regs ∧ f.regs ≤ 65536 ∧ 0 ≤ f.params ∧ f.params ≤ f.regs ∧ f.ins.length ≠ 0) (hi : ∀ (j : Nat) x, f.ins[j]? = some x → xg f j x = true) (hr : ∀ (j : Nat) r, f.rgs[j]? = some r → zfk f r = true) : vh f = true := by
 unfold vh headOK;obtain ⟨h1, h2, h3, h4, h5⟩ := h;have e5 : f.ins ≠ [] := fun e => h5 (by rw [e]; rfl);have e6 : f.rgs.all (zfk f) = true := List.all_eq_true.2 fun r hm => by
  obtain ⟨j, hj, e⟩ := List.getElem_of_mem hm;exact hr j r (by rw [← e]; exact List.getElem?_eq_getElem hj)
 have e7 : zrz f 0 f.ins = true := insAll_of fun j x hj => by rw [Nat.zero_add]; exact hi j x hj
 rw [e6, e7];simp [h1, h2, h3, h4, e5]
theorem insOK_of {f : LFn} {k : Nat} {x : LIns} (h1 : vy (yu x ++ yj x) f.regs = true) (h2 : vy (yo x (k : Int)) f.ins.length = true) : xg f k x = true := by
 unfold xg;rw [h2];unfold vy at h1 ⊢;rw [List.all_append, Bool.and_eq_true] at h1;rw [h1.1, h1.2]; rfl
theorem zzq {f : LFn} {k : Nat} {x : LIns} (h : vy (yu x ++ yj x) f.regs = false ∨ vy (yo x (k : Int)) f.ins.length = false) : xg f k x = false := by
 cases hs : xg f k x with
 | false => rfl
 | true =>
  unfold xg at hs;simp only [Bool.and_eq_true] at hs
  have e : vy (yu x ++ yj x) f.regs = true := by
   unfold vy;rw [List.all_append];have h1 := hs.1;have h2 := hs.2.1;unfold vy at h1 h2;rw [h1, h2]; rfl
  rcases h with h | h
  · rw [e] at h; cases h
  · rw [hs.2.2] at h; cases h
theorem ok_step {f : LFn} {k : Nat} {x : LIns} (hx : f.ins[k]? = some x) (hn : ∀ (j : Nat) x, j < k → f.ins[j]? = some x → xg f j x = true) (h : xg f k x = true) : ∀ (j : Nat) x, j < k + 1 → f.ins[j]? = some x → xg f j x = true := fun j z hj hz => by
 rcases Nat.lt_or_ge j k with h1 | h1
 · exact hn j z h1 hz
 · obtain rfl : j = k := by omega
   rw [hx] at hz;obtain rfl := Option.some.inj hz;exact h
theorem okr_step {f : LFn} {k : Nat} {x : LReg} (hx : f.rgs[k]? = some x) (hn : ∀ (j : Nat) x, j < k → f.rgs[j]? = some x → zfk f x = true) (h : zfk f x = true) : ∀ (j : Nat) x, j < k + 1 → f.rgs[j]? = some x → zfk f x = true := fun j z hj hz => by
 rcases Nat.lt_or_ge j k with h1 | h1
 · exact hn j z h1 hz
 · obtain rfl : j = k := by omega
   rw [hx] at hz;obtain rfl := Option.some.inj hz;exact h
theorem regOK_of {f : LFn} {r : LReg} (h : 0 ≤ r.fr ∧ r.fr ≤ r.to ∧ r.to ≤ (f.ins.length : Int) ∧ 0 ≤ r.tg ∧ r.tg < (f.ins.length : Int) ∧ 0 ≤ r.d ∧ r.d < f.regs) : zfk f r = true := by
 unfold zfk; simp [h]
theorem kv {f : LFn} {r : LReg} (h : ¬ (0 ≤ r.fr ∧ r.fr ≤ r.to ∧ r.to ≤ (f.ins.length : Int) ∧ 0 ≤ r.tg ∧ r.tg < (f.ins.length : Int) ∧ 0 ≤ r.d ∧ r.d < f.regs)) : zfk f r = false := by
 cases hs : zfk f r with
 | false => rfl
 | true => unfold zfk at hs; exact absurd (by simpa using hs) h
theorem ky (w : World) (A : Option Addr) (c n0 : Nat) (xs : List Int) (hx : IntsA n0 w A xs) (n : Int) (b : Bool) (h : vy xs n = b) : Calls Tryd.prog 27 #[.slice A xs.length c, .int .i64 n] w fun e w' => e = .returned (.bool b) ∧ Below w.heap.size w w' := by
 subst h;exact inside_any w A c n0 xs hx n
theorem zkk {w : World} {g : Nat} {y : Int} (h : Blk w g 3 #[.int .i64 y]) (hy : I64 y) : IntsA w.heap.size w (some ⟨g, 0, none⟩) [y] := ⟨by simp, fun z hz => by simp at hz; subst hz; exact hy, fun _ => ⟨g, 0, rfl, h.lt, fun j z hj => by
 cases j with
 | zero => simp at hj; subst hj; exact (h.cell 0).trans rfl
 | succ j => simp at hj⟩⟩
theorem inside_blk (w : World) (g : Nat) (y : Int) (h : Blk w g 3 #[.int .i64 y]) (hy : I64 y) (n : Int) : Calls Tryd.prog 27 #[.slice (some ⟨g, 0, none⟩) 1 1, .int .i64 n] w fun e w' => e = .returned (.bool (decide (0 ≤ y ∧ y < n))) ∧ Below w.heap.size w w' :=
 ky w _ 1 _ [y] (zkk h hy) n _ (by unfold vy; by_cases h1 : 0 ≤ y <;> by_cases h2 : y < n <;> simp [h1, h2])
section
variable (w : World) (p : Pl) (f : LFn) (n0 : Nat) (hF : FnA n0 w p f)
include hF
theorem sound_any : Calls Tryd.prog 34 #[fnV p f] w fun e w' => e = .returned (.bool (vh f)) ∧ Below w.heap.size w w' := by
 have hrl := hF.rgs.len;have hil := hF.ins.len;have hn := hF.size;have hpi := hF.params;have hri := hF.regs;refine qs Tryd.func34 rfl Tryd.ntmps34 rfl ?_;have HF : Per (No) w (fun _ => True) := Per.true_;have LW := erx (No) w;have XLW := grx (No) w;have E := erx (No) w;replace HF := HF.on E;replace LW := LW.step E XLW;replace E := erx (No) w
 replace HF := HF.and (Per.fnA hF (fun _ h => h.elim));refine srx (za rfl (vk rfl ?_));intro gb1 w2 Bb1 Eb1 Gb1;have Gb1 : _ ≤ gb1 := Nat.le_trans E.size Gb1;have GLb1 := Nat.le_trans LW.size Gb1;replace E := E.trans Eb1.no;replace HF := HF.cons (zz Gb1);replace E := E.cons (some gb1);replace XLW := Mut.grow XLW (fun k e => Or.inr (Nat.le_trans LW.size ((zz Gb1) k e)))
 replace HF := HF.on E;replace LW := LW.step E XLW;have SB : ∀ q9, No q9 → Mut [(some gb1)] q9 := (Mut.skip Mut.nil_);replace HF := HF.less SB;replace XLW := fun k h => XLW k (SB k h);clear SB;replace E := erx (No) w2;replace HF := HF.and (Per.blkN Bb1 NotIn.nil)
 refine anx rfl (zp (srx (za rfl (zb Tryd.underlying27 rfl sz3 (by decide) rfl (za rfl (zg Tryd.underlying3 rfl rfl (HF.on E).here.2 rfl (za rfl (yy rfl rfl (mvx rfl (yx 14 rfl (fun h1 => ?_) (fun h1 => ?_)))))))))))
 ·
  replace h1 := of_decide_eq_true h1
  refine za rfl (zc rfl (za rfl (zc rfl (za rfl (zc rfl (za rfl (zx rfl rfl (mvx rfl (za rfl (zc rfl (za rfl (zc rfl (za rfl (zc rfl (za rfl (zx rfl rfl (mvx rfl (za rfl (zc rfl (za rfl (zc rfl (za rfl (zc rfl (za rfl (zc rfl (za rfl (zc rfl (za rfl (zx rfl rfl (mvx rfl (za rfl (zc rfl (za rfl (zc rfl (za rfl (zc rfl (za rfl (zc rfl (za rfl (zx rfl rfl (rnx (yr rfl (srx (anx rfl (zv (ze (zu (rs := [.tmp 2]) (vs := [_]) rfl ⟨rfl, trivial⟩ ?_)))))))))))))))))))))))))))))))))))))))))))))))
  exact ⟨by rw [xq (by omega)]; rfl, (LW.step E XLW).toBelow⟩
 replace h1 := of_decide_eq_false h1;refine onx rfl (zb Tryd.underlying27 rfl sz3 (by decide) rfl (onx rfl (zg Tryd.underlying3 rfl rfl (HF.on E).here.2 rfl (onx rfl (xb rfl rfl (za rfl (yd rfl rfl (mvx rfl (yx 19 rfl (fun h2 => ?_) (fun h2 => ?_))))))))))
 ·
  replace h2 := of_decide_eq_true h2
  refine za rfl (zc rfl (za rfl (zc rfl (za rfl (zc rfl (za rfl (zx rfl rfl (mvx rfl (za rfl (zc rfl (za rfl (zc rfl (za rfl (zc rfl (za rfl (zc rfl (za rfl (zc rfl (za rfl (zx rfl rfl (mvx rfl (za rfl (zc rfl (za rfl (zc rfl (za rfl (zc rfl (za rfl (zc rfl (za rfl (zx rfl rfl (rnx (yr rfl (srx (anx rfl (zv (ze (zu (rs := [.tmp 2]) (vs := [_]) rfl ⟨rfl, trivial⟩ ?_))))))))))))))))))))))))))))))))))))))
  exact ⟨by rw [xq (by omega)]; rfl, (LW.step E XLW).toBelow⟩
 replace h2 := of_decide_eq_false h2;refine onx rfl (zb Tryd.underlying27 rfl sz3 (by decide) rfl (onx rfl (zg Tryd.underlying3 rfl rfl (HF.on E).here.2 rfl (onx rfl (yy rfl rfl (za rfl (yd rfl rfl (mvx rfl (yx 24 rfl (fun h3 => ?_) (fun h3 => ?_))))))))))
 ·
  replace h3 := of_decide_eq_true h3
  refine za rfl (zc rfl (za rfl (zc rfl (za rfl (zc rfl (za rfl (zc rfl (za rfl (zc rfl (za rfl (zx rfl rfl (mvx rfl (za rfl (zc rfl (za rfl (zc rfl (za rfl (zc rfl (za rfl (zc rfl (za rfl (zx rfl rfl (rnx (yr rfl (srx (anx rfl (zv (ze (zu (rs := [.tmp 2]) (vs := [_]) rfl ⟨rfl, trivial⟩ ?_)))))))))))))))))))))))))))))
  exact ⟨by rw [xq (by omega)]; rfl, (LW.step E XLW).toBelow⟩
 replace h3 := of_decide_eq_false h3
 refine onx rfl (zb Tryd.underlying27 rfl sz3 (by decide) rfl (onx rfl (zg Tryd.underlying3 rfl rfl (HF.on E).here.2 rfl (onx rfl (zb Tryd.underlying27 rfl sz3 (by decide) rfl (onx rfl (zg Tryd.underlying3 rfl rfl (HF.on E).here.2 rfl (onx rfl (xb rfl rfl (za rfl (yd rfl rfl (mvx rfl (yx 31 rfl (fun h4 => ?_) (fun h4 => ?_))))))))))))))
 ·
  replace h4 := of_decide_eq_true h4;refine za rfl (zc rfl (za rfl (zc rfl (za rfl (zc rfl (za rfl (zc rfl (za rfl (zx rfl rfl (rnx (yr rfl (srx (anx rfl (zv (ze (zu (rs := [.tmp 2]) (vs := [_]) rfl ⟨rfl, trivial⟩ ?_))))))))))))))));exact ⟨by rw [xq (by omega)]; rfl, (LW.step E XLW).toBelow⟩
 replace h4 := of_decide_eq_false h4;refine onx rfl (zb Tryd.underlying27 rfl gz (by decide) rfl (onx rfl (zg Tryd.underlying24 rfl rfl (HF.on E).here.2 rfl (onx rfl (yw Tryd.underlying24 rfl (onx rfl (yn rfl rfl (za rfl (yd rfl rfl (rnx (zr rfl (fun h5 => ?_) (fun h5 => ?_))))))))))))
 ·
  refine zy 36 (.bool true) rfl (congrArg Value.bool h5) ?_;replace h5 := eq_of_beq h5;refine srx (anx rfl (zv (ze (zu (rs := [.tmp 2]) (vs := [_]) rfl ⟨rfl, trivial⟩ ?_))));exact ⟨by rw [xq (by omega)]; rfl, (LW.step E XLW).toBelow⟩
 refine zy 36 (.bool false) rfl (congrArg Value.bool h5) ?_;replace h5 := beq_eq_false_iff_ne.1 h5;refine zq (zh (zp (srx (za rfl (zb Tryd.underlying27 rfl gz (by decide) rfl (za rfl (zg Tryd.underlying24 rfl rfl (HF.on E).here.2 rfl (za rfl (yw Tryd.underlying24 rfl (mvx rfl (rnx (yb ?_))))))))))))
 have hhead : 0 ≤ f.regs ∧ f.regs ≤ 65536 ∧ 0 ≤ f.params ∧ f.params ≤ f.regs ∧ f.ins.length ≠ 0 := by omega
 replace HF := HF.on E;replace LW := LW.step E XLW;replace E := erx (No) w2
 refine qu (ι := Nat) (fun k => [(1, .pointer (some ⟨gb1, 0, none⟩)), (38, .slice p.ai f.ins.length p.ci), (39, .int .i64 ((f.ins.length : Nat) : Int)), (40, .int .i64 ((k : Nat) : Int))]) (fun k w' => Ext (No) w2 w' ∧ (k ≤ f.ins.length ∧ ∀ (j : Nat) x, j < k → f.ins[j]? = some x → xg f j x = true)) (fun k => f.ins.length - k) 0 ⟨rfl, rfl, rfl, rfl, trivial⟩ ⟨Ext.refl _ _, ⟨Nat.zero_le _, fun j x h => by omega⟩⟩ ?_
 rintro k w4 ⟨M3, ⟨hk, hok⟩⟩;have XM3 := grx (No) w2;replace E := E.trans M3;replace HF := HF.on E;replace LW := LW.step E XLW;replace E := erx (No) w4;refine srx (za rfl (yy rfl rfl (rnx (zp (zr rfl (fun hq => ?_) (fun hq => ?_))))))
 ·
  have hq := of_decide_eq_true hq;obtain ⟨x, hx⟩ : ∃ x, f.ins[k]? = some x := ⟨_, List.getElem?_eq_getElem (by omega)⟩;obtain ⟨g, o, hA, hg, hc⟩ := ((HF.on E).here.1.2).ins.row.at hx;obtain ⟨hI, B, cB, hcB, hl, hcells⟩ := hc;have hll := hl.len;have hrw := rw_len (i := x);have hgl := zck x ((k : Nat) : Int);have hri64 := ycq hI hl;have hwi64 := zhv hI hl;have hwl := hl.len
  replace HF := HF.on E;replace LW := LW.step E XLW;replace M3 := M3.step E XM3;replace E := erx (No) w4;replace HF := HF.and (Per.ints hl (fun _ h => h.elim));have HFs := HF;have SLW := LW;have SXLW := XLW;have SM3 := M3;have SXM3 := XM3;have Es := E
  refine zq (zh (zp (yb (srx (mvx rfl (za rfl (yi (j := k) Tryd.underlying24 vx (congrArg (fun z ↦ some (Value.slice z f.ins.length p.ci)) hA) rfl rfl (by omega) (za rfl (jb (cs := (jr x B cB).toArray) Tryd.underlying41 rfl vx rfl rfl (fun j v hj ↦ hcells j v (by simpa using hj)) (za rfl (qb zpk ?_)))))))))));intro gb5 w6 Bb5 Eb5 Gb5
  have Gb5 : _ ≤ gb5 := Nat.le_trans E.size Gb5;have GLb5 := Nat.le_trans LW.size Gb5;replace E := E.trans Eb5.no;replace HF := HF.cons (zz Gb5);replace E := E.cons (some gb5);replace XLW := Mut.grow XLW (fun k e => Or.inr (Nat.le_trans LW.size ((zz Gb5) k e)));refine avx rfl (zw (qz vx rfl rfl Bb5 rfl rfl rfl ?_));intro w7 Bx Eb5
  replace Bb5 : Blk w7 gb5 41 #[.int .i64 x.op, .int .i64 x.d, .int .i64 x.a, .int .i64 x.b, .int .i64 x.t, .int .i64 x.k, .slice B x.l.length cB] := Bx;replace E := E.step1 Eb5 Mut.head;refine rnx (zp (zp ?_));have hq5 := Bb5.lt;have OY : ∀ q9, (Mut (znx [])) q9 → q9 < (World.drew w7).heap.size → (Mut [(some gb5)]) q9 := fun k h _ => (Mut.none_) k h
  refine kr je (ak_last (m := 6) (by kernel_rfl) rfl (fun _ _ d_ _ _ h => by cases d_ <;> exact h) (kt 4 rfl ?_));refine vv (Mut [(some gb5)]) (Mut.grow Mut.none_ (vd Bb5.lt)) [] [] (kl [Fx.of (.agg #[.int .i64 x.op, .int .i64 x.d, .int .i64 x.a, .int .i64 x.b, .int .i64 x.t, .int .i64 x.k, .slice B x.l.length cB]),
   ⟨(Option Addr × Nat), fun (A1, c1) => .slice A1 (yu x).length c1, fun (A1, c1) b => (OwnsI b w.heap.size A1 c1 (yu x) ∧ ∀ k, (Value.slice A1 (yu x).length c1).ownBlock = some k → gb5 < k)⟩,
   Fx.of (.agg #[.int .i64 x.op, .int .i64 x.d, .int .i64 x.a, .int .i64 x.b, .int .i64 x.t, .int .i64 x.k, .slice B x.l.length cB]),
   ⟨(Option Addr × Nat), fun (A2, c2) => .slice A2 (yj x).length c2, fun (A2, c2) b => (OwnsI b w.heap.size A2 c2 (yj x))⟩]) rfl trivial (fun _ h => by cases h) ?_ ?_
  · refine ⟨?_, ?_, ?_, ?_, trivial⟩
    · intro vs X wq K;have LE := K.1;exact zo Tryd.underlying41 rfl vx rfl (Bb5.drew.extN LE NotIn.nil) rfl ⟨Below.refl _ _, Left.of rfl⟩
    · intro vs X wq K;have LE := K.1;have XN := K.2.1;have SQ := Nat.le_trans LW.size (Nat.le_trans E.size LE.size);obtain ⟨_, e0, k0⟩ := K.dep 0 rfl rfl rfl
      refine zd 45 (.agg #[.int .i64 x.op, .int .i64 x.d, .int .i64 x.a, .int .i64 x.b, .int .i64 x.t, .int .i64 x.k, .slice B x.l.length cB]) rfl e0 (yf en35 rfl ((ztz _ x B cB n0 (HF.on (E.drew.trans (LE.mono OY))).here.2 (Nat.le_trans hn SQ)).mono ?_));rintro e w2 ⟨A1, c1, rfl, o1, hb⟩
      exact ⟨_, rfl, hb, ⟨(A1, c1), rfl, (Per.ownsI o1 XN SQ).and (fun _ _ k hk => Nat.lt_of_lt_of_le hq5 (Nat.le_trans LE.size (jj o1 k hk)))⟩⟩
    · intro vs X wq K;have LE := K.1;exact zo Tryd.underlying41 rfl vx rfl (Bb5.drew.extN LE NotIn.nil) rfl ⟨Below.refl _ _, Left.of rfl⟩
    · intro vs X wq K;have LE := K.1;have XN := K.2.1;have SQ := Nat.le_trans LW.size (Nat.le_trans E.size LE.size);obtain ⟨_, e2, k2⟩ := K.dep 2 rfl rfl rfl
      refine zd 47 (.agg #[.int .i64 x.op, .int .i64 x.d, .int .i64 x.a, .int .i64 x.b, .int .i64 x.t, .int .i64 x.k, .slice B x.l.length cB]) rfl e2 (yf en39 rfl ((zmz _ x B cB n0 (HF.on (E.drew.trans (LE.mono OY))).here.2 (Nat.le_trans hn SQ)).mono ?_));rintro e w2 ⟨A2, c2, rfl, o2, hb⟩;exact ⟨_, rfl, hb, ⟨(A2, c2), rfl, Per.ownsI o2 XN SQ⟩⟩
  intro vs w8 LE AO AL AF AA;have LBb5 := Bb5;replace Bb5 := Bb5.drew.extN LE NotIn.nil;replace E := E.drew.trans (LE.mono OY);have Ed := E;obtain ⟨⟨A1, c1⟩, e1, k1⟩ := AL.2.1;obtain ⟨⟨A2, c2⟩, e3, k3⟩ := AL.2.2.2.1;replace HF := HF.on E;replace LW := LW.step E XLW;replace E := erx (Mut [(some gb5)]) w8
  replace HF := HF.and ((k1.map (fun _ h => h) : Per (Mut [(some gb5)]) w8 (fun b => OwnsI b w.heap.size A1 c1 (yu x) ∧ ∀ k, (Value.slice A1 (yu x).length c1).ownBlock = some k → gb5 < k)));replace HF := HF.on E;replace LW := LW.step E XLW;replace E := erx (Mut [(some gb5)]) w8
  replace HF := HF.and ((k3.map (fun _ h => h) : Per (Mut [(some gb5)]) w8 (fun b => OwnsI b w.heap.size A2 c2 (yj x))));refine vq (τ := [(1, _), (3, _), (4, _), (38, _), (39, _), (40, _), (46, .slice A1 (yu x).length c1), (48, .slice A2 (yj x).length c2), (51, _)]) ⟨rfl, rfl, rfl, rfl, rfl, rfl, congrArg some e1, congrArg some e3, rfl, trivial⟩ ?_
  clear AL AF AA LE AO OY e1 e3 k1 k3 LBb5;refine ol (ji (by kernel_rfl) (fun _ _ d_ _ _ h => by cases d_ <;> exact h) ?_);have hw2 := zmx (i := x) hl;have o1 := ((HF.on E).here.1.2).1;have n5 := ((HF.on E).here.1.2).2;have o2 := (HF.on E).here.2;have hb5 := Bb5;have hSE := Nat.le_trans LW.size E.size
  refine za rfl (qw (news := yz (yj x)) Tryd.underlying28 ou rfl (by decide) rfl o1 rfl ((OwnsI.ints o2 hw2 hwi64).reads (Nat.le_refl _)) kj (by unfold maxLen; omega) (by omega) (by exact hSE) ?_);rintro v0 wD On En KN;obtain ⟨A3, c3, rfl⟩ := qk On;have hEd : Ext No _ wD := Ext.of_below ((Ext.step Ed En (fun i h => Or.inr (by
   rcases h with h | h
   · have := n5 i h.symm;have := Gb5;omega
   · exact h.elim))).below (fun i h => by
   rcases h with h | h
   · have := Option.some.inj h;have := Gb5;omega
   · exact h.elim)) No
  have h5D := Blk.ext hb5 En (fun h => by
   rcases h with h | h
   · have := n5 _ h.symm;omega
   · exact h.elim)
  have h3D : IntsA wD.heap.size wD A3 (yu x ++ yj x) := ints_app On (by rw [List.length_append]; omega) (fun y hy => (List.mem_append.1 hy).elim (hri64 y) (hwi64 y));replace HF := HFs;replace E : Ext No w4 wD := hEd;replace LW := SLW;replace XLW := SXLW;replace M3 := SM3;replace XM3 := SXM3;replace HF := HF.on E;replace LW := LW.step E XLW;replace M3 := M3.step E XM3
  replace E := erx (No) wD;replace HF := HF.and (Per.blk h5D (fun h => h.elim));replace HF := HF.on E;replace LW := LW.step E XLW;replace M3 := M3.step E XM3;replace E := erx (No) wD;replace HF := HF.and (Per.ints h3D (fun _ h => h.elim));have hlen3 : (yu x ++ yj x).length = (yu x).length + (yj x).length := List.length_append
  refine za rfl (yw Tryd.underlying28 rfl (rnx (yb ?_)));replace HF := HF.on E;replace LW := LW.step E XLW;replace M3 := M3.step E XM3;replace E := erx (No) wD
  refine qu (ι := Nat) (fun m => [(1, .pointer (some ⟨gb1, 0, none⟩)), (3, .int .i64 ((k : Nat) : Int)), (4, .pointer (some ⟨gb5, 0, none⟩)), (38, .slice p.ai f.ins.length p.ci), (39, .int .i64 ((f.ins.length : Nat) : Int)), (40, .int .i64 ((k : Nat) : Int)), (49, .slice A3 ((yu x).length + (yj x).length) c3), (50, .int .i64 (((yu x).length + (yj x).length : Nat) : Int)), (51, .int .i64 ((m : Nat) : Int))]) (fun m w' => Ext (No) wD w' ∧ (m ≤ (yu x).length + (yj x).length ∧ ∀ (j : Nat) y, j < m → (yu x ++ yj x)[j]? = some y → 0 ≤ y ∧ y < f.regs)) (fun m => (yu x).length + (yj x).length - m) 0 ⟨rfl, rfl, rfl, rfl, rfl, rfl, rfl, rfl, rfl, trivial⟩ ⟨Ext.refl _ _, ⟨Nat.zero_le _, fun j x h => by omega⟩⟩ ?_
  rintro m w10 ⟨M9, ⟨hm, hin⟩⟩;have XM9 := grx (No) wD;replace E := E.trans M9;replace HF := HF.on E;replace LW := LW.step E XLW;replace M3 := M3.step E XM3;replace E := erx (No) w10;refine srx (za rfl (yy rfl rfl (rnx (zp (zr rfl (fun hq2 => ?_) (fun hq2 => ?_))))))
  ·
   have hq2 := of_decide_eq_true hq2;obtain ⟨y, hy⟩ : ∃ y, (yu x ++ yj x)[m]? = some y := ⟨_, List.getElem?_eq_getElem (by omega)⟩;obtain ⟨gy, oy, hAy, _, hcy⟩ := ((HF.on E).here.2).cell hy
   refine zq (zh (zp (yb (srx (za rfl (zk (j := m) Tryd.underlying28 sz3 (congrArg (fun z ↦ some (Value.slice z ((yu x).length + (yj x).length) c3)) hAy) rfl rfl (by omega) (za rfl (zt Tryd.underlying3 rfl rfl hcy (anx rfl (srx (mvx rfl (za rfl (yy rfl rfl (mvx rfl (yx 57 rfl (fun t1 => ?_) (fun t1 => ?_))))))))))))))))
   ·
    replace t1 := of_decide_eq_true t1
    refine za rfl (zc rfl (za rfl (zc rfl (za rfl (zc rfl (za rfl (zc rfl (za rfl (zx rfl rfl (rnx (yr rfl (srx (anx rfl (zv (zi (ze (ze (zi (ze (zi (ze (ze (zi (ze (zu (rs := [.tmp 2]) (vs := [_]) rfl ⟨rfl, trivial⟩ ?_)))))))))))))))))))))))))
    exact ⟨by rw [zaz hx (zzq (Or.inl (zek hy (by omega))))]; rfl, (LW.step E XLW).toBelow⟩
   ·
    replace t1 := of_decide_eq_false t1;refine onx rfl (zl rfl (onx rfl (zb Tryd.underlying27 rfl sz3 (by decide) rfl (onx rfl (zg Tryd.underlying3 rfl rfl (HF.on E).here.1.1.1.2 rfl (onx rfl (jd rfl rfl (za rfl (yd rfl rfl (rnx (zr rfl (fun t2 => ?_) (fun t2 => ?_))))))))))))
    ·
     refine zy 62 (.bool true) rfl (congrArg Value.bool t2) ?_;replace t2 := of_decide_eq_true t2;refine srx (anx rfl (zv (zi (ze (ze (zi (ze (zi (ze (ze (zi (ze (zu (rs := [.tmp 2]) (vs := [_]) rfl ⟨rfl, trivial⟩ ?_)))))))))))))
     exact ⟨by rw [zaz hx (zzq (Or.inl (zek hy (by omega))))]; rfl, (LW.step E XLW).toBelow⟩
    ·
     refine zy 62 (.bool false) rfl (congrArg Value.bool t2) ?_;replace t2 := of_decide_eq_false t2;refine zq (zf (zh (zj (za rfl (qc rfl rfl (yg (by omega)) (mvx rfl (yc ?_)))))))
     exact yt (m + 1) (by show (yu x).length + (yj x).length - (m + 1) < (yu x).length + (yj x).length - m; omega) ⟨rfl, rfl, rfl, rfl, rfl, rfl, rfl, rfl, rfl, trivial⟩ ⟨M9.step E XM9, ⟨by omega, in_step hy hin (by omega)⟩⟩
  ·
   have hq2 := of_decide_eq_false hq2;have hins : vy (yu x ++ yj x) f.regs = true := zvv (fun j y hy => hin j y (by have := (List.getElem?_eq_some_iff.1 hy).1; omega) hy)
   refine qe (zm (zm (ya (zh (srx (za rfl (zo Tryd.underlying41 rfl vx rfl (HF.on E).here.1.2 rfl (mvx rfl (za rfl (yf en38 rfl ((zlz _ x B cB ((k : Nat) : Int) (by unfold I64; omega)).mono ?_)))))))))));rintro e w11 ⟨A6, c6, rfl, o6, hb⟩;refine ⟨_, rfl, ?_⟩;replace E := blx E hb;replace HF := HF.on E;replace LW := LW.step E XLW
   replace M3 := M3.step E XM3;replace E := erx (No) w11;replace HF := HF.and (Per.ints (OwnsI.ints o6 (by omega) (zzk hI (by unfold I64; omega))) (fun _ h => h.elim));refine za rfl (yw Tryd.underlying28 rfl (mvx rfl (rnx (yb ?_))));replace HF := HF.on E;replace LW := LW.step E XLW;replace M3 := M3.step E XM3;replace E := erx (No) w11
   refine qu (ι := Nat) (fun m => [(1, .pointer (some ⟨gb1, 0, none⟩)), (38, .slice p.ai f.ins.length p.ci), (39, .int .i64 ((f.ins.length : Nat) : Int)), (40, .int .i64 ((k : Nat) : Int)), (66, .slice A6 (yo x ((k : Nat) : Int)).length c6), (67, .int .i64 (((yo x ((k : Nat) : Int)).length : Nat) : Int)), (68, .int .i64 ((m : Nat) : Int))]) (fun m w' => Ext (No) w11 w' ∧ (m ≤ (yo x ((k : Nat) : Int)).length ∧ ∀ (j : Nat) y, j < m → (yo x ((k : Nat) : Int))[j]? = some y → 0 ≤ y ∧ y < (f.ins.length : Int))) (fun m => (yo x ((k : Nat) : Int)).length - m) 0 ⟨rfl, rfl, rfl, rfl, rfl, rfl, rfl, trivial⟩ ⟨Ext.refl _ _, ⟨Nat.zero_le _, fun j x h => by omega⟩⟩ ?_
   rintro m w13 ⟨M12, ⟨hm, hin⟩⟩;have XM12 := grx (No) w11;replace E := E.trans M12;replace HF := HF.on E;replace LW := LW.step E XLW;replace M3 := M3.step E XM3;replace E := erx (No) w13;refine srx (za rfl (yy rfl rfl (rnx (zp (zr rfl (fun hq3 => ?_) (fun hq3 => ?_))))))
   ·
    have hq3 := of_decide_eq_true hq3;obtain ⟨y, hy⟩ : ∃ y, (yo x ((k : Nat) : Int))[m]? = some y := ⟨_, List.getElem?_eq_getElem (by omega)⟩;obtain ⟨gy, oy, hAy, _, hcy⟩ := ((HF.on E).here.2).cell hy
    refine zq (zh (zp (yb (srx (za rfl (zk (j := m) Tryd.underlying28 sz3 (congrArg (fun z ↦ some (Value.slice z (yo x ((k : Nat) : Int)).length c6)) hAy) rfl rfl (by omega) (za rfl (zt Tryd.underlying3 rfl rfl hcy (anx rfl (srx (mvx rfl (za rfl (yy rfl rfl (mvx rfl (yx 74 rfl (fun t1 => ?_) (fun t1 => ?_))))))))))))))))
    ·
     replace t1 := of_decide_eq_true t1
     refine za rfl (zc rfl (za rfl (zc rfl (za rfl (zc rfl (za rfl (zc rfl (za rfl (zc rfl (za rfl (zx rfl rfl (rnx (yr rfl (srx (anx rfl (zv (zi (ze (ze (zi (zi (ze (ze (zi (ze (zu (rs := [.tmp 2]) (vs := [_]) rfl ⟨rfl, trivial⟩ ?_))))))))))))))))))))))))))
     exact ⟨by rw [zaz hx (zzq (Or.inr (zek hy (by omega))))]; rfl, (LW.step E XLW).toBelow⟩
    ·
     replace t1 := of_decide_eq_false t1;refine onx rfl (zl rfl (onx rfl (zb Tryd.underlying27 rfl gz (by decide) rfl (onx rfl (zg Tryd.underlying24 rfl rfl (HF.on E).here.1.1.1.1.2 rfl (onx rfl (yw Tryd.underlying24 rfl (onx rfl (jd rfl rfl (za rfl (yd rfl rfl (rnx (zr rfl (fun t2 => ?_) (fun t2 => ?_))))))))))))))
     ·
      refine zy 80 (.bool true) rfl (congrArg Value.bool t2) ?_;replace t2 := of_decide_eq_true t2;refine srx (anx rfl (zv (zi (ze (ze (zi (zi (ze (ze (zi (ze (zu (rs := [.tmp 2]) (vs := [_]) rfl ⟨rfl, trivial⟩ ?_))))))))))))
      exact ⟨by rw [zaz hx (zzq (Or.inr (zek hy (by omega))))]; rfl, (LW.step E XLW).toBelow⟩
     ·
      refine zy 80 (.bool false) rfl (congrArg Value.bool t2) ?_;replace t2 := of_decide_eq_false t2;refine zq (zf (zh (zj (za rfl (qc rfl rfl (yg (by omega)) (mvx rfl (yc ?_)))))))
      exact yt (m + 1) (by show (yo x ((k : Nat) : Int)).length - (m + 1) < (yo x ((k : Nat) : Int)).length - m; omega) ⟨rfl, rfl, rfl, rfl, rfl, rfl, rfl, trivial⟩ ⟨M12.step E XM12, ⟨by omega, in_step hy hin (by omega)⟩⟩
   ·
    have hq3 := of_decide_eq_false hq3;have hgo : vy (yo x ((k : Nat) : Int)) f.ins.length = true := zvv (fun j y hy => hin j y (by have := (List.getElem?_eq_some_iff.1 hy).1; omega) hy);refine qe (zm (zm (ya (zf (zh (zj (za rfl (qc rfl rfl (yg (by omega)) (mvx rfl (yc ?_))))))))))
    exact yt (k + 1) (by show f.ins.length - (k + 1) < f.ins.length - k; omega) ⟨rfl, rfl, rfl, rfl, trivial⟩ ⟨M3.step E XM3, ⟨by omega, ok_step hx hok (insOK_of hins hgo)⟩⟩
 ·
  have hq := of_decide_eq_false hq;have hall : ∀ (j : Nat) x, f.ins[j]? = some x → xg f j x = true := fun j x hx => hok j x (by have := (List.getElem?_eq_some_iff.1 hx).1; omega) hx;clear hok
  refine qe (zm (zm (ya (zh (zp (srx (za rfl (zb Tryd.underlying27 rfl ko (by decide) rfl (za rfl (zg Tryd.underlying25 rfl rfl (HF.on E).here.2 rfl (za rfl (yw Tryd.underlying25 rfl (mvx rfl (rnx (yb ?_)))))))))))))));replace HF := HF.on E;replace LW := LW.step E XLW;replace E := erx (No) w4
  refine qu (ι := Nat) (fun k => [(1, .pointer (some ⟨gb1, 0, none⟩)), (84, .slice p.ar f.rgs.length p.cr), (85, .int .i64 ((f.rgs.length : Nat) : Int)), (86, .int .i64 ((k : Nat) : Int))]) (fun k w' => Ext (No) w4 w' ∧ (k ≤ f.rgs.length ∧ ∀ (j : Nat) x, j < k → f.rgs[j]? = some x → zfk f x = true)) (fun k => f.rgs.length - k) 0 ⟨rfl, rfl, rfl, rfl, trivial⟩ ⟨Ext.refl _ _, ⟨Nat.zero_le _, fun j x h => by omega⟩⟩ ?_
  rintro k w15 ⟨M14, ⟨hk, hok⟩⟩;have XM14 := grx (No) w4;replace E := E.trans M14;replace HF := HF.on E;replace LW := LW.step E XLW;replace E := erx (No) w15;refine srx (za rfl (yy rfl rfl (rnx (zp (zr rfl (fun hq4 => ?_) (fun hq4 => ?_))))))
  ·
   have hq4 := of_decide_eq_true hq4;obtain ⟨r, hr⟩ : ∃ r, f.rgs[k]? = some r := ⟨_, List.getElem?_eq_getElem (by omega)⟩;obtain ⟨gr, ro, hAr, hgr, hcr⟩ := ((HF.on E).here.1.2).rgs.row.at hr;have hmr := List.mem_of_getElem? hr
   refine zq (zh (zp (yb (srx (za rfl (yi (j := k) Tryd.underlying25 ku (congrArg (fun z ↦ some (Value.slice z f.rgs.length p.cr)) hAr) rfl rfl (by omega) (za rfl (jb (cs := (zqz r).toArray) Tryd.underlying50 rfl ku rfl rfl (fun j v hj ↦ hcr j v (by simpa using hj)) (za rfl (qb zr50 ?_))))))))));intro gb16 w17 Bb16 Eb16 Gb16
   have Gb16 : _ ≤ gb16 := Nat.le_trans E.size Gb16;have GLb16 := Nat.le_trans LW.size Gb16;replace E := E.trans Eb16.no;replace HF := HF.cons (zz Gb16);replace E := E.cons (some gb16);replace XLW := Mut.grow XLW (fun k e => Or.inr (Nat.le_trans LW.size ((zz Gb16) k e)));replace XM14 := Mut.grow XM14 (fun k e => Or.inr (Nat.le_trans M14.size ((zz Gb16) k e)))
   refine zw (qz ku rfl rfl Bb16 rfl rfl rfl ?_);intro w18 Bx Eb16;replace Bb16 : Blk w18 gb16 50 #[.int .i64 r.fr, .int .i64 r.to, .int .i64 r.tg, .int .i64 r.d] := Bx;replace E := E.step1 Eb16 Mut.head
   refine rnx (srx (za rfl (zb Tryd.underlying50 rfl sz3 (by decide) rfl (za rfl (zg Tryd.underlying3 rfl rfl Bb16 rfl (za rfl (yy rfl rfl (mvx rfl (yx 93 rfl (fun t1 => ?_) (fun t1 => ?_))))))))))
   ·
    replace t1 := of_decide_eq_true t1
    refine za rfl (zc rfl (za rfl (zc rfl (za rfl (zc rfl (za rfl (zc rfl (za rfl (zc rfl (za rfl (zx rfl rfl (mvx rfl (za rfl (zc rfl (za rfl (zc rfl (za rfl (zc rfl (za rfl (zc rfl (za rfl (zc rfl (za rfl (zc rfl (za rfl (zx rfl rfl (mvx rfl (za rfl (zc rfl (za rfl (zc rfl (za rfl (zc rfl (za rfl (zx rfl rfl (mvx rfl (za rfl (zc rfl (za rfl (zc rfl (za rfl (zc rfl (za rfl (zc rfl (za rfl (zc rfl (za rfl (zc rfl (za rfl (zx rfl rfl (mvx rfl (za rfl (zc rfl (za rfl (zc rfl (za rfl (zc rfl (za rfl (zx rfl rfl (mvx rfl (za rfl (zc rfl (za rfl (zc rfl (za rfl (zc rfl (za rfl (zc rfl (za rfl (zc rfl (za rfl (zx rfl rfl (yc ?_)))))))))))))))))))))))))))))))))))))))))))))))))))))))))))))))))))))))))
    refine zh (yr rfl (srx (anx rfl (zv (zi (ze (ze (zi (ze (zu (rs := [.tmp 2]) (vs := [_]) rfl ⟨rfl, trivial⟩ ?_))))))))));exact ⟨by rw [jt hmr (kv (by omega))]; rfl, (LW.step E XLW).toBelow⟩
   ·
    replace t1 := of_decide_eq_false t1
    refine onx rfl (zb Tryd.underlying50 rfl sz3 (by decide) rfl (onx rfl (zg Tryd.underlying3 rfl rfl Bb16 rfl (onx rfl (zb Tryd.underlying50 rfl sz3 (by decide) rfl (onx rfl (zg Tryd.underlying3 rfl rfl Bb16 rfl (onx rfl (xb rfl rfl (za rfl (yd rfl rfl (mvx rfl (yx 100 rfl (fun t2 => ?_) (fun t2 => ?_))))))))))))))
    ·
     replace t2 := of_decide_eq_true t2
     refine za rfl (zc rfl (za rfl (zc rfl (za rfl (zc rfl (za rfl (zc rfl (za rfl (zc rfl (za rfl (zc rfl (za rfl (zx rfl rfl (mvx rfl (za rfl (zc rfl (za rfl (zc rfl (za rfl (zc rfl (za rfl (zx rfl rfl (mvx rfl (za rfl (zc rfl (za rfl (zc rfl (za rfl (zc rfl (za rfl (zc rfl (za rfl (zc rfl (za rfl (zc rfl (za rfl (zx rfl rfl (mvx rfl (za rfl (zc rfl (za rfl (zc rfl (za rfl (zc rfl (za rfl (zx rfl rfl (mvx rfl (za rfl (zc rfl (za rfl (zc rfl (za rfl (zc rfl (za rfl (zc rfl (za rfl (zc rfl (za rfl (zx rfl rfl (rnx (yr rfl (srx (anx rfl ?_)))))))))))))))))))))))))))))))))))))))))))))))))))))))))))))))
     refine zv (zi (ze (ze (zi (ze (zu (rs := [.tmp 2]) (vs := [_]) rfl ⟨rfl, trivial⟩ ?_))))));exact ⟨by rw [jt hmr (kv (by omega))]; rfl, (LW.step E XLW).toBelow⟩
    ·
     replace t2 := of_decide_eq_false t2
     refine onx rfl (zb Tryd.underlying50 rfl sz3 (by decide) rfl (onx rfl (zg Tryd.underlying3 rfl rfl Bb16 rfl (onx rfl (zb Tryd.underlying27 rfl gz (by decide) rfl (onx rfl (zg Tryd.underlying24 rfl rfl (HF.on E).here.2 rfl (onx rfl (yw Tryd.underlying24 rfl (onx rfl (xb rfl rfl (za rfl (yd rfl rfl (mvx rfl (yx 108 rfl (fun t3 => ?_) (fun t3 => ?_))))))))))))))))
     ·
      replace t3 := of_decide_eq_true t3
      refine za rfl (zc rfl (za rfl (zc rfl (za rfl (zc rfl (za rfl (zx rfl rfl (mvx rfl (za rfl (zc rfl (za rfl (zc rfl (za rfl (zc rfl (za rfl (zc rfl (za rfl (zc rfl (za rfl (zc rfl (za rfl (zx rfl rfl (mvx rfl (za rfl (zc rfl (za rfl (zc rfl (za rfl (zc rfl (za rfl (zx rfl rfl (mvx rfl (za rfl (zc rfl (za rfl (zc rfl (za rfl (zc rfl (za rfl (zc rfl (za rfl (zc rfl (za rfl (zx rfl rfl (rnx (yr rfl (srx (anx rfl (zv (zi (ze (ze (zi (ze (zu (rs := [.tmp 2]) (vs := [_]) rfl ⟨rfl, trivial⟩ ?_)))))))))))))))))))))))))))))))))))))))))))))))))))))))
      exact ⟨by rw [jt hmr (kv (by omega))]; rfl, (LW.step E XLW).toBelow⟩
     ·
      replace t3 := of_decide_eq_false t3;refine onx rfl (zb Tryd.underlying50 rfl sz3 (by decide) rfl (onx rfl (zg Tryd.underlying3 rfl rfl Bb16 rfl (onx rfl (yy rfl rfl (za rfl (yd rfl rfl (mvx rfl (yx 113 rfl (fun t4 => ?_) (fun t4 => ?_))))))))))
      ·
       replace t4 := of_decide_eq_true t4
       refine za rfl (zc rfl (za rfl (zc rfl (za rfl (zc rfl (za rfl (zc rfl (za rfl (zc rfl (za rfl (zc rfl (za rfl (zx rfl rfl (mvx rfl (za rfl (zc rfl (za rfl (zc rfl (za rfl (zc rfl (za rfl (zx rfl rfl (mvx rfl (za rfl (zc rfl (za rfl (zc rfl (za rfl (zc rfl (za rfl (zc rfl (za rfl (zc rfl (za rfl (zx rfl rfl (rnx (yr rfl (srx (anx rfl (zv (zi (ze (ze (zi (ze (zu (rs := [.tmp 2]) (vs := [_]) rfl ⟨rfl, trivial⟩ ?_))))))))))))))))))))))))))))))))))))))))))))))
       exact ⟨by rw [jt hmr (kv (by omega))]; rfl, (LW.step E XLW).toBelow⟩
      ·
       replace t4 := of_decide_eq_false t4
       refine onx rfl (zb Tryd.underlying50 rfl sz3 (by decide) rfl (onx rfl (zg Tryd.underlying3 rfl rfl Bb16 rfl (onx rfl (zb Tryd.underlying27 rfl gz (by decide) rfl (onx rfl (zg Tryd.underlying24 rfl rfl (HF.on E).here.2 rfl (onx rfl (yw Tryd.underlying24 rfl (onx rfl (jd rfl rfl (za rfl (yd rfl rfl (mvx rfl (yx 121 rfl (fun t5 => ?_) (fun t5 => ?_))))))))))))))))
       ·
        replace t5 := of_decide_eq_true t5
        refine za rfl (zc rfl (za rfl (zc rfl (za rfl (zc rfl (za rfl (zx rfl rfl (mvx rfl (za rfl (zc rfl (za rfl (zc rfl (za rfl (zc rfl (za rfl (zc rfl (za rfl (zc rfl (za rfl (zx rfl rfl (rnx (yr rfl (srx (anx rfl (zv (zi (ze (ze (zi (ze (zu (rs := [.tmp 2]) (vs := [_]) rfl ⟨rfl, trivial⟩ ?_)))))))))))))))))))))))))))))))
        exact ⟨by rw [jt hmr (kv (by omega))]; rfl, (LW.step E XLW).toBelow⟩
       ·
        replace t5 := of_decide_eq_false t5;refine onx rfl (zb Tryd.underlying50 rfl sz3 (by decide) rfl (onx rfl (zg Tryd.underlying3 rfl rfl Bb16 rfl (onx rfl (yy rfl rfl (za rfl (yd rfl rfl (mvx rfl (yx 126 rfl (fun t6 => ?_) (fun t6 => ?_))))))))))
        ·
         replace t6 := of_decide_eq_true t6;refine za rfl (zc rfl (za rfl (zc rfl (za rfl (zc rfl (za rfl (zc rfl (za rfl (zc rfl (za rfl (zx rfl rfl (rnx (yr rfl (srx (anx rfl (zv (zi (ze (ze (zi (ze (zu (rs := [.tmp 2]) (vs := [_]) rfl ⟨rfl, trivial⟩ ?_))))))))))))))))))))))
         exact ⟨by rw [jt hmr (kv (by omega))]; rfl, (LW.step E XLW).toBelow⟩
        ·
         replace t6 := of_decide_eq_false t6
         refine onx rfl (zb Tryd.underlying50 rfl sz3 (by decide) rfl (onx rfl (zg Tryd.underlying3 rfl rfl Bb16 rfl (onx rfl (zb Tryd.underlying27 rfl sz3 (by decide) rfl (onx rfl (zg Tryd.underlying3 rfl rfl (HF.on E).here.2 rfl (onx rfl (jd rfl rfl (za rfl (yd rfl rfl (rnx (zr rfl (fun t7 => ?_) (fun t7 => ?_))))))))))))))
         ·
          refine zy 132 (.bool true) rfl (congrArg Value.bool t7) ?_;replace t7 := of_decide_eq_true t7;refine srx (anx rfl (zv (zi (ze (ze (zi (ze (zu (rs := [.tmp 2]) (vs := [_]) rfl ⟨rfl, trivial⟩ ?_))))))));exact ⟨by rw [jt hmr (kv (by omega))]; rfl, (LW.step E XLW).toBelow⟩
         ·
          refine zy 132 (.bool false) rfl (congrArg Value.bool t7) ?_;replace t7 := of_decide_eq_false t7;refine zq (zf (zh (zj (za rfl (qc rfl rfl (yg (by omega)) (mvx rfl (yc ?_)))))))
          exact yt (k + 1) (by show f.rgs.length - (k + 1) < f.rgs.length - k; omega) ⟨rfl, rfl, rfl, rfl, trivial⟩ ⟨M14.step E XM14, ⟨by omega, okr_step hr hok (regOK_of (by omega))⟩⟩
  ·
   have hq4 := of_decide_eq_false hq4;refine qe (zm (zm (ya (zh (srx (anx rfl (zv (zu (rs := [.tmp 2]) (vs := [_]) rfl ⟨rfl, trivial⟩ ?_))))))));exact ⟨by rw [sound_yes hhead hall (fun j r hr => hok j r (by have := (List.getElem?_eq_some_iff.1 hr).1; omega) hr)]; rfl, (LW.step E XLW).toBelow⟩
theorem rsound_any : Calls Tryd.prog 12 #[fnV p f] w fun e w' => e = .returned (.bool (vh f)) ∧ Below w.heap.size w w' := by
 have hrl := hF.rgs.len;have hil := hF.ins.len;have hn := hF.size;have hpi := hF.params;have hri := hF.regs;refine qs Tryd.func12 rfl Tryd.ntmps12 rfl ?_;have HF : Per (No) w (fun _ => True) := Per.true_;have LW := erx (No) w;have XLW := grx (No) w;have E := erx (No) w;replace HF := HF.on E;replace LW := LW.step E XLW;replace E := erx (No) w
 replace HF := HF.and (Per.fnA hF (fun _ h => h.elim));refine srx (za rfl (vk rfl ?_));intro gb1 w2 Bb1 Eb1 Gb1;have Gb1 : _ ≤ gb1 := Nat.le_trans E.size Gb1;have GLb1 := Nat.le_trans LW.size Gb1;replace E := E.trans Eb1.no;replace HF := HF.cons (zz Gb1);replace E := E.cons (some gb1);replace XLW := Mut.grow XLW (fun k e => Or.inr (Nat.le_trans LW.size ((zz Gb1) k e)))
 replace HF := HF.on E;replace LW := LW.step E XLW;have SB : ∀ q9, No q9 → Mut [(some gb1)] q9 := (Mut.skip Mut.nil_);replace HF := HF.less SB;replace XLW := fun k h => XLW k (SB k h);clear SB;replace E := erx (No) w2;replace HF := HF.and (Per.blkN Bb1 NotIn.nil)
 refine anx rfl (srx (za rfl (zb Tryd.underlying27 rfl gz (by decide) rfl (za rfl (zg Tryd.underlying24 rfl rfl (HF.on E).here.2 rfl (za rfl (yw Tryd.underlying24 rfl (anx rfl (zp (srx (za rfl (zb Tryd.underlying27 rfl sz3 (by decide) rfl (za rfl (zg Tryd.underlying3 rfl rfl (HF.on E).here.2 rfl (za rfl (yy rfl rfl (mvx rfl (yx 14 rfl (fun h1 => ?_) (fun h1 => ?_)))))))))))))))))))
 ·
  replace h1 := of_decide_eq_true h1
  refine za rfl (zc rfl (za rfl (zc rfl (za rfl (zc rfl (za rfl (zx rfl rfl (mvx rfl (za rfl (zc rfl (za rfl (zc rfl (za rfl (zc rfl (za rfl (zx rfl rfl (mvx rfl (za rfl (zc rfl (za rfl (zc rfl (za rfl (zc rfl (za rfl (zc rfl (za rfl (zc rfl (za rfl (zx rfl rfl (mvx rfl (za rfl (zc rfl (za rfl (zc rfl (za rfl (zx rfl rfl (rnx (yr rfl (srx (anx rfl (zv (ze (zu (rs := [.tmp 2]) (vs := [_]) rfl ⟨rfl, trivial⟩ ?_)))))))))))))))))))))))))))))))))))))))))))
  exact ⟨by rw [xq (by omega)]; rfl, (LW.step E XLW).toBelow⟩
 replace h1 := of_decide_eq_false h1;refine onx rfl (zb Tryd.underlying27 rfl sz3 (by decide) rfl (onx rfl (zg Tryd.underlying3 rfl rfl (HF.on E).here.2 rfl (onx rfl (xb rfl rfl (za rfl (yd rfl rfl (mvx rfl (yx 19 rfl (fun h2 => ?_) (fun h2 => ?_))))))))))
 ·
  replace h2 := of_decide_eq_true h2
  refine za rfl (zc rfl (za rfl (zc rfl (za rfl (zc rfl (za rfl (zx rfl rfl (mvx rfl (za rfl (zc rfl (za rfl (zc rfl (za rfl (zc rfl (za rfl (zc rfl (za rfl (zc rfl (za rfl (zx rfl rfl (mvx rfl (za rfl (zc rfl (za rfl (zc rfl (za rfl (zx rfl rfl (rnx (yr rfl (srx (anx rfl (zv (ze (zu (rs := [.tmp 2]) (vs := [_]) rfl ⟨rfl, trivial⟩ ?_))))))))))))))))))))))))))))))))))
  exact ⟨by rw [xq (by omega)]; rfl, (LW.step E XLW).toBelow⟩
 replace h2 := of_decide_eq_false h2;refine onx rfl (zb Tryd.underlying27 rfl sz3 (by decide) rfl (onx rfl (zg Tryd.underlying3 rfl rfl (HF.on E).here.2 rfl (onx rfl (yy rfl rfl (za rfl (yd rfl rfl (mvx rfl (yx 24 rfl (fun h3 => ?_) (fun h3 => ?_))))))))))
 ·
  replace h3 := of_decide_eq_true h3
  refine za rfl (zc rfl (za rfl (zc rfl (za rfl (zc rfl (za rfl (zc rfl (za rfl (zc rfl (za rfl (zx rfl rfl (mvx rfl (za rfl (zc rfl (za rfl (zc rfl (za rfl (zx rfl rfl (rnx (yr rfl (srx (anx rfl (zv (ze (zu (rs := [.tmp 2]) (vs := [_]) rfl ⟨rfl, trivial⟩ ?_)))))))))))))))))))))))))
  exact ⟨by rw [xq (by omega)]; rfl, (LW.step E XLW).toBelow⟩
 replace h3 := of_decide_eq_false h3
 refine onx rfl (zb Tryd.underlying27 rfl sz3 (by decide) rfl (onx rfl (zg Tryd.underlying3 rfl rfl (HF.on E).here.2 rfl (onx rfl (zb Tryd.underlying27 rfl sz3 (by decide) rfl (onx rfl (zg Tryd.underlying3 rfl rfl (HF.on E).here.2 rfl (onx rfl (xb rfl rfl (za rfl (yd rfl rfl (mvx rfl (yx 31 rfl (fun h4 => ?_) (fun h4 => ?_))))))))))))))
 ·
  replace h4 := of_decide_eq_true h4;refine za rfl (zc rfl (za rfl (zc rfl (za rfl (zx rfl rfl (rnx (yr rfl (srx (anx rfl (zv (ze (zu (rs := [.tmp 2]) (vs := [_]) rfl ⟨rfl, trivial⟩ ?_))))))))))));exact ⟨by rw [xq (by omega)]; rfl, (LW.step E XLW).toBelow⟩
 replace h4 := of_decide_eq_false h4;refine onx rfl (zl rfl (onx rfl (yn rfl rfl (za rfl (yd rfl rfl (rnx (zr rfl (fun h5 => ?_) (fun h5 => ?_))))))))
 ·
  refine zy 34 (.bool true) rfl (congrArg Value.bool h5) ?_;replace h5 := eq_of_beq h5;refine srx (anx rfl (zv (ze (zu (rs := [.tmp 2]) (vs := [_]) rfl ⟨rfl, trivial⟩ ?_))));exact ⟨by rw [xq (by omega)]; rfl, (LW.step E XLW).toBelow⟩
 refine zy 34 (.bool false) rfl (congrArg Value.bool h5) ?_;replace h5 := beq_eq_false_iff_ne.1 h5;refine zq (zh (zp (srx (anx rfl (yb ?_)))));have hhead : 0 ≤ f.regs ∧ f.regs ≤ 65536 ∧ 0 ≤ f.params ∧ f.params ≤ f.regs ∧ f.ins.length ≠ 0 := by omega
 replace HF := HF.on E;replace LW := LW.step E XLW;replace E := erx (No) w2
 refine qu (ι := Nat) (fun k => [(1, .pointer (some ⟨gb1, 0, none⟩)), (3, .int .i64 ((f.ins.length : Nat) : Int)), (4, .int .i64 ((k : Nat) : Int))]) (fun k w' => Ext (No) w2 w' ∧ (k ≤ f.ins.length ∧ ∀ (j : Nat) x, j < k → f.ins[j]? = some x → xg f j x = true)) (fun k => f.ins.length - k) 0 ⟨rfl, rfl, rfl, trivial⟩ ⟨Ext.refl _ _, ⟨Nat.zero_le _, fun j x h => by omega⟩⟩ ?_
 rintro k w4 ⟨M3, ⟨hk, hok⟩⟩;have XM3 := grx (No) w2;replace E := E.trans M3;replace HF := HF.on E;replace LW := LW.step E XLW;replace E := erx (No) w4;refine zp (srx (mvx rfl (mvx rfl (za rfl (yy rfl rfl (rnx (zr rfl (fun hq => ?_) (fun hq => ?_))))))))
 ·
  have hq := of_decide_eq_true hq;obtain ⟨x, hx⟩ : ∃ x, f.ins[k]? = some x := ⟨_, List.getElem?_eq_getElem (by omega)⟩;obtain ⟨g, o, hA, hg, hc⟩ := ((HF.on E).here.1.2).ins.row.at hx;obtain ⟨hI, B, cB, hcB, hl, hcells⟩ := hc;have hrw := rw_len (i := x);have hgl := zck x ((k : Nat) : Int);have hri64 := ycq hI hl;have hwi64 := zhv hI hl
  have hgi64 := zzk hI (z := ((k : Nat) : Int)) (by unfold I64; omega);have hr8 : 8 * (yu x).length ≤ 140737488355000 := by omega
  have hw8 : 8 * (yj x).length ≤ 140737488355000 := by omega
  have hg8 : 8 * (yo x ((k : Nat) : Int)).length ≤ 140737488355000 := by omega
  replace HF := HF.on E;replace LW := LW.step E XLW;replace M3 := M3.step E XM3;replace E := erx (No) w4;replace HF := HF.and (Per.ints hl (fun _ h => h.elim))
  refine zq (zh (zp (yb (srx (za rfl (zb Tryd.underlying27 rfl gz (by decide) rfl (za rfl (zg Tryd.underlying24 rfl rfl (HF.on E).here.1.2 rfl (mvx rfl (za rfl (yi (j := k) Tryd.underlying24 vx (congrArg (fun z ↦ some (Value.slice z f.ins.length p.ci)) hA) rfl rfl (by omega) (za rfl (jb (cs := (jr x B cB).toArray) Tryd.underlying41 rfl vx rfl rfl (fun j v hj ↦ hcells j v (by simpa using hj)) (za rfl (qb zpk ?_)))))))))))))))
  intro gb5 w6 Bb5 Eb5 Gb5;have Gb5 : _ ≤ gb5 := Nat.le_trans E.size Gb5;have GLb5 := Nat.le_trans LW.size Gb5;replace E := E.trans Eb5.no;replace HF := HF.cons (zz Gb5);replace E := E.cons (some gb5);replace XLW := Mut.grow XLW (fun k e => Or.inr (Nat.le_trans LW.size ((zz Gb5) k e)));replace XM3 := Mut.grow XM3 (fun k e => Or.inr (Nat.le_trans M3.size ((zz Gb5) k e)))
  refine zw (qz vx rfl rfl Bb5 rfl rfl rfl ?_);intro w7 Bx Eb5;replace Bb5 : Blk w7 gb5 41 #[.int .i64 x.op, .int .i64 x.d, .int .i64 x.a, .int .i64 x.b, .int .i64 x.t, .int .i64 x.k, .slice B x.l.length cB] := Bx;replace E := E.step1 Eb5 Mut.head;refine rnx (zp ?_);by_cases h1 : vy (yu x) f.regs = true
  ·
   by_cases h2 : vy (yj x) f.regs = true
   ·
    by_cases h3 : vy (yo x ((k : Nat) : Int)) f.ins.length = true
    ·
     have OY : ∀ q9, (Mut (znx [])) q9 → q9 < (World.drew w7).heap.size → (Mut [(some gb5)]) q9 := fun k h _ => (Mut.none_) k h;refine jx (Mut [(some gb5)]) (Mut.grow Mut.none_ (vd Bb5.lt)) [] [] (kl [Fx.of (.agg #[.int .i64 x.op, .int .i64 x.d, .int .i64 x.a, .int .i64 x.b, .int .i64 x.t, .int .i64 x.k, .slice B x.l.length cB]),
      ⟨(Option Addr × Nat), fun (A1, c1) => .slice A1 (yu x).length c1, fun (A1, c1) b => (OwnsI b w.heap.size A1 c1 (yu x))⟩,
      Fx.of (.pointer (some ⟨gb1, 2, none⟩)),
      Fx.of (.int .i64 f.regs),
      Fx.of (.bool true),
      Fx.of (.bool false),
      Fx.of (.bool false),
      Fx.of (.agg #[.int .i64 x.op, .int .i64 x.d, .int .i64 x.a, .int .i64 x.b, .int .i64 x.t, .int .i64 x.k, .slice B x.l.length cB]),
      ⟨(Option Addr × Nat), fun (A2, c2) => .slice A2 (yj x).length c2, fun (A2, c2) b => (OwnsI b w.heap.size A2 c2 (yj x))⟩,
      Fx.of (.pointer (some ⟨gb1, 2, none⟩)),
      Fx.of (.int .i64 f.regs),
      Fx.of (.bool true),
      Fx.of (.bool false),
      Fx.of (.bool false),
      Fx.of (.bool false),
      Fx.of (.agg #[.int .i64 x.op, .int .i64 x.d, .int .i64 x.a, .int .i64 x.b, .int .i64 x.t, .int .i64 x.k, .slice B x.l.length cB]),
      Fx.of (.int .i64 ((k : Nat) : Int)),
      ⟨(Option Addr × Nat), fun (A3, c3) => .slice A3 (yo x ((k : Nat) : Int)).length c3, fun (A3, c3) b => (OwnsI b w.heap.size A3 c3 (yo x ((k : Nat) : Int)))⟩,
      Fx.of (.int .i64 ((f.ins.length : Nat) : Int)),
      Fx.of (.bool true),
      Fx.of (.bool false),
      Fx.of (.bool false)]) je rfl trivial (fun _ h => by cases h) ?_ ?_
     · refine ⟨?_, ?_, ?_, ?_, ?_, ?_, ?_, ?_, ?_, ?_, ?_, ?_, ?_, ?_, ?_, ?_, ?_, ?_, ?_, ?_, ?_, ?_, trivial⟩
       · intro vs X wq K;have LE := K.1;exact zo Tryd.underlying41 rfl vx rfl (Bb5.drew.extN LE NotIn.nil) rfl ⟨Below.refl _ _, Left.of rfl⟩
       · intro vs X wq K;have LE := K.1;have XN := K.2.1;have SQ := Nat.le_trans LW.size (Nat.le_trans E.size LE.size);obtain ⟨_, e0, k0⟩ := K.dep 0 rfl rfl rfl
         refine zd 45 (.agg #[.int .i64 x.op, .int .i64 x.d, .int .i64 x.a, .int .i64 x.b, .int .i64 x.t, .int .i64 x.k, .slice B x.l.length cB]) rfl e0 (yf en28 rfl ((zfq _ x B cB n0 (HF.on (E.drew.trans (LE.mono OY))).here.2 (Nat.le_trans hn SQ)).mono ?_));rintro e w2 ⟨A1, c1, rfl, o1, hb⟩;exact ⟨_, rfl, hb, ⟨(A1, c1), rfl, Per.ownsI o1 XN SQ⟩⟩
       · intro vs X wq K;exact zb Tryd.underlying27 rfl sz3 (by decide) rfl ⟨Below.refl _ _, Left.of rfl⟩
       · intro vs X wq K;have LE := K.1;obtain ⟨_, e2, k2⟩ := K.dep 2 rfl rfl rfl;refine zd 47 (.pointer (some ⟨gb1, 2, none⟩)) rfl e2 ?_;exact zg Tryd.underlying3 rfl rfl (HF.on (E.drew.trans (LE.mono OY))).here.1.2 rfl ⟨Below.refl _ _, Left.of rfl⟩
       · intro vs X wq K;obtain ⟨⟨A1, c1⟩, e1, k1⟩ := K.dep 1 rfl rfl rfl;refine zd 46 (.slice A1 (yu x).length c1) rfl e1 ?_;obtain ⟨_, e3, k3⟩ := K.dep 3 rfl rfl rfl;refine zd 48 (.int .i64 f.regs) rfl e3 (yf en27 rfl ((ky _ A1 c1 _ (yu x) (OwnsI.ints (k1.here) hr8 hri64) f.regs true h1).mono ?_));rintro e w2 ⟨rfl, hb⟩;exact ⟨_, rfl, hb, Left.of rfl⟩
       · intro vs X wq K;obtain ⟨_, e4, k4⟩ := K.dep 4 rfl rfl rfl;refine zd 49 (.bool true) rfl e4 ?_;exact jg rfl ⟨Below.refl _ _, Left.of rfl⟩
       · intro vs X wq K;obtain ⟨_, e5, k5⟩ := K.dep 5 rfl rfl rfl;refine zd 50 (.bool false) rfl e5 ?_;exact zl rfl ⟨Below.refl _ _, Left.of rfl⟩
       · intro vs X wq K;have LE := K.1;obtain ⟨_, e6, k6⟩ := K.dep 6 rfl rfl rfl;refine zd 51 (.bool false) rfl e6 ?_;exact qq rfl (zo Tryd.underlying41 rfl vx rfl (Bb5.drew.extN LE NotIn.nil) rfl ⟨Below.refl _ _, Left.of rfl⟩)
       · intro vs X wq K;have LE := K.1;have XN := K.2.1;have SQ := Nat.le_trans LW.size (Nat.le_trans E.size LE.size);obtain ⟨_, e7, k7⟩ := K.dep 7 rfl rfl rfl;refine zd 52 (.agg #[.int .i64 x.op, .int .i64 x.d, .int .i64 x.a, .int .i64 x.b, .int .i64 x.t, .int .i64 x.k, .slice B x.l.length cB]) rfl e7 ?_;obtain ⟨_, e6, k6⟩ := K.dep 6 rfl rfl rfl
         refine zd 51 (.bool false) rfl e6 (qq rfl (yf en29 rfl ((zbv _ x B cB n0 (HF.on (E.drew.trans (LE.mono OY))).here.2 (Nat.le_trans hn SQ)).mono ?_)));rintro e w2 ⟨A2, c2, rfl, o2, hb⟩;exact ⟨_, rfl, hb, ⟨(A2, c2), rfl, Per.ownsI o2 XN SQ⟩⟩
       · intro vs X wq K;obtain ⟨_, e6, k6⟩ := K.dep 6 rfl rfl rfl;refine zd 51 (.bool false) rfl e6 ?_;exact qq rfl (zb Tryd.underlying27 rfl sz3 (by decide) rfl ⟨Below.refl _ _, Left.of rfl⟩)
       · intro vs X wq K;have LE := K.1;obtain ⟨_, e9, k9⟩ := K.dep 9 rfl rfl rfl;refine zd 54 (.pointer (some ⟨gb1, 2, none⟩)) rfl e9 ?_;obtain ⟨_, e6, k6⟩ := K.dep 6 rfl rfl rfl;refine zd 51 (.bool false) rfl e6 ?_;exact qq rfl (zg Tryd.underlying3 rfl rfl (HF.on (E.drew.trans (LE.mono OY))).here.1.2 rfl ⟨Below.refl _ _, Left.of rfl⟩)
       · intro vs X wq K;obtain ⟨⟨A2, c2⟩, e8, k8⟩ := K.dep 8 rfl rfl rfl;refine zd 53 (.slice A2 (yj x).length c2) rfl e8 ?_;obtain ⟨_, e10, k10⟩ := K.dep 10 rfl rfl rfl;refine zd 55 (.int .i64 f.regs) rfl e10 ?_;obtain ⟨_, e6, k6⟩ := K.dep 6 rfl rfl rfl
         refine zd 51 (.bool false) rfl e6 (qq rfl (yf en27 rfl ((ky _ A2 c2 _ (yj x) (OwnsI.ints (k8.here) hw8 hwi64) f.regs true h2).mono ?_)));rintro e w2 ⟨rfl, hb⟩;exact ⟨_, rfl, hb, Left.of rfl⟩
       · intro vs X wq K;obtain ⟨_, e11, k11⟩ := K.dep 11 rfl rfl rfl;refine zd 56 (.bool true) rfl e11 ?_;obtain ⟨_, e6, k6⟩ := K.dep 6 rfl rfl rfl;refine zd 51 (.bool false) rfl e6 ?_;exact qq rfl (jg rfl ⟨Below.refl _ _, Left.of rfl⟩)
       · intro vs X wq K;obtain ⟨_, e6, k6⟩ := K.dep 6 rfl rfl rfl;refine zd 51 (.bool false) rfl e6 ?_;obtain ⟨_, e12, k12⟩ := K.dep 12 rfl rfl rfl;refine zd 57 (.bool false) rfl e12 ?_;exact yd rfl rfl ⟨Below.refl _ _, Left.of rfl⟩
       · intro vs X wq K;obtain ⟨_, e13, k13⟩ := K.dep 13 rfl rfl rfl;refine zd 58 (.bool false) rfl e13 ?_;exact zl rfl ⟨Below.refl _ _, Left.of rfl⟩
       · intro vs X wq K;have LE := K.1;obtain ⟨_, e14, k14⟩ := K.dep 14 rfl rfl rfl;refine zd 59 (.bool false) rfl e14 ?_;exact qq rfl (zo Tryd.underlying41 rfl vx rfl (Bb5.drew.extN LE NotIn.nil) rfl ⟨Below.refl _ _, Left.of rfl⟩)
       · intro vs X wq K;obtain ⟨_, e14, k14⟩ := K.dep 14 rfl rfl rfl;refine zd 59 (.bool false) rfl e14 ?_;exact qq rfl (zl rfl ⟨Below.refl _ _, Left.of rfl⟩)
       · intro vs X wq K;have LE := K.1;have XN := K.2.1;have SQ := Nat.le_trans LW.size (Nat.le_trans E.size LE.size);obtain ⟨_, e15, k15⟩ := K.dep 15 rfl rfl rfl;refine zd 60 (.agg #[.int .i64 x.op, .int .i64 x.d, .int .i64 x.a, .int .i64 x.b, .int .i64 x.t, .int .i64 x.k, .slice B x.l.length cB]) rfl e15 ?_;obtain ⟨_, e16, k16⟩ := K.dep 16 rfl rfl rfl
         refine zd 61 (.int .i64 ((k : Nat) : Int)) rfl e16 ?_;obtain ⟨_, e14, k14⟩ := K.dep 14 rfl rfl rfl;refine zd 59 (.bool false) rfl e14 (qq rfl (yf en30 rfl ((ycz _ x B cB ((k : Nat) : Int) (by unfold I64; omega)).mono ?_)));rintro e w2 ⟨A3, c3, rfl, o3, hb⟩;exact ⟨_, rfl, hb, ⟨(A3, c3), rfl, Per.ownsI o3 XN SQ⟩⟩
       · intro vs X wq K;obtain ⟨_, e14, k14⟩ := K.dep 14 rfl rfl rfl;refine zd 59 (.bool false) rfl e14 ?_;exact qq rfl (zl rfl ⟨Below.refl _ _, Left.of rfl⟩)
       · intro vs X wq K;obtain ⟨⟨A3, c3⟩, e17, k17⟩ := K.dep 17 rfl rfl rfl;refine zd 62 (.slice A3 (yo x ((k : Nat) : Int)).length c3) rfl e17 ?_;obtain ⟨_, e18, k18⟩ := K.dep 18 rfl rfl rfl;refine zd 63 (.int .i64 ((f.ins.length : Nat) : Int)) rfl e18 ?_;obtain ⟨_, e14, k14⟩ := K.dep 14 rfl rfl rfl
         refine zd 59 (.bool false) rfl e14 (qq rfl (yf en27 rfl ((ky _ A3 c3 _ (yo x ((k : Nat) : Int)) (OwnsI.ints (k17.here) hg8 hgi64) f.ins.length true h3).mono ?_)));rintro e w2 ⟨rfl, hb⟩;exact ⟨_, rfl, hb, Left.of rfl⟩
       · intro vs X wq K;obtain ⟨_, e19, k19⟩ := K.dep 19 rfl rfl rfl;refine zd 64 (.bool true) rfl e19 ?_;obtain ⟨_, e14, k14⟩ := K.dep 14 rfl rfl rfl;refine zd 59 (.bool false) rfl e14 ?_;exact qq rfl (jg rfl ⟨Below.refl _ _, Left.of rfl⟩)
       · intro vs X wq K;obtain ⟨_, e14, k14⟩ := K.dep 14 rfl rfl rfl;refine zd 59 (.bool false) rfl e14 ?_;obtain ⟨_, e20, k20⟩ := K.dep 20 rfl rfl rfl;refine zd 65 (.bool false) rfl e20 ?_;exact yd rfl rfl ⟨Below.refl _ _, Left.of rfl⟩
     intro vs w8 LE AO AL AF AA;have LBb5 := Bb5;replace Bb5 := Bb5.drew.extN LE NotIn.nil;replace E := E.drew.trans (LE.mono OY);obtain ⟨_, e21, k21⟩ := AL.2.2.2.2.2.2.2.2.2.2.2.2.2.2.2.2.2.2.2.2.2.1;refine vq (τ := [(1, _), (3, _), (4, _), (66, .bool false)]) ⟨rfl, rfl, rfl, congrArg some e21, trivial⟩ ?_;clear AL AF AA LE AO OY e21 k21 LBb5
     refine zh (qp rfl (zq (zf (zh (zj (mvx rfl (za rfl (qc rfl rfl (yg (by omega)) (avx rfl (yc ?_))))))))));exact yt (k + 1) (by show f.ins.length - (k + 1) < f.ins.length - k; omega) ⟨rfl, rfl, rfl, trivial⟩ ⟨M3.step E XM3, ⟨by omega, ok_step hx hok (by unfold xg; rw [h1, h2, h3]; rfl)⟩⟩
    ·
     have h3 := Bool.eq_false_iff.2 h3;have OY : ∀ q9, (Mut (znx [])) q9 → q9 < (World.drew w7).heap.size → (Mut [(some gb5)]) q9 := fun k h _ => (Mut.none_) k h;refine jx (Mut [(some gb5)]) (Mut.grow Mut.none_ (vd Bb5.lt)) [] [] (kl [Fx.of (.agg #[.int .i64 x.op, .int .i64 x.d, .int .i64 x.a, .int .i64 x.b, .int .i64 x.t, .int .i64 x.k, .slice B x.l.length cB]),
      ⟨(Option Addr × Nat), fun (A1, c1) => .slice A1 (yu x).length c1, fun (A1, c1) b => (OwnsI b w.heap.size A1 c1 (yu x))⟩,
      Fx.of (.pointer (some ⟨gb1, 2, none⟩)),
      Fx.of (.int .i64 f.regs),
      Fx.of (.bool true),
      Fx.of (.bool false),
      Fx.of (.bool false),
      Fx.of (.agg #[.int .i64 x.op, .int .i64 x.d, .int .i64 x.a, .int .i64 x.b, .int .i64 x.t, .int .i64 x.k, .slice B x.l.length cB]),
      ⟨(Option Addr × Nat), fun (A2, c2) => .slice A2 (yj x).length c2, fun (A2, c2) b => (OwnsI b w.heap.size A2 c2 (yj x))⟩,
      Fx.of (.pointer (some ⟨gb1, 2, none⟩)),
      Fx.of (.int .i64 f.regs),
      Fx.of (.bool true),
      Fx.of (.bool false),
      Fx.of (.bool false),
      Fx.of (.bool false),
      Fx.of (.agg #[.int .i64 x.op, .int .i64 x.d, .int .i64 x.a, .int .i64 x.b, .int .i64 x.t, .int .i64 x.k, .slice B x.l.length cB]),
      Fx.of (.int .i64 ((k : Nat) : Int)),
      ⟨(Option Addr × Nat), fun (A3, c3) => .slice A3 (yo x ((k : Nat) : Int)).length c3, fun (A3, c3) b => (OwnsI b w.heap.size A3 c3 (yo x ((k : Nat) : Int)))⟩,
      Fx.of (.int .i64 ((f.ins.length : Nat) : Int)),
      Fx.of (.bool false),
      Fx.of (.bool true),
      Fx.of (.bool true)]) je rfl trivial (fun _ h => by cases h) ?_ ?_
     · refine ⟨?_, ?_, ?_, ?_, ?_, ?_, ?_, ?_, ?_, ?_, ?_, ?_, ?_, ?_, ?_, ?_, ?_, ?_, ?_, ?_, ?_, ?_, trivial⟩
       · intro vs X wq K;have LE := K.1;exact zo Tryd.underlying41 rfl vx rfl (Bb5.drew.extN LE NotIn.nil) rfl ⟨Below.refl _ _, Left.of rfl⟩
       · intro vs X wq K;have LE := K.1;have XN := K.2.1;have SQ := Nat.le_trans LW.size (Nat.le_trans E.size LE.size);obtain ⟨_, e0, k0⟩ := K.dep 0 rfl rfl rfl
         refine zd 45 (.agg #[.int .i64 x.op, .int .i64 x.d, .int .i64 x.a, .int .i64 x.b, .int .i64 x.t, .int .i64 x.k, .slice B x.l.length cB]) rfl e0 (yf en28 rfl ((zfq _ x B cB n0 (HF.on (E.drew.trans (LE.mono OY))).here.2 (Nat.le_trans hn SQ)).mono ?_));rintro e w2 ⟨A1, c1, rfl, o1, hb⟩;exact ⟨_, rfl, hb, ⟨(A1, c1), rfl, Per.ownsI o1 XN SQ⟩⟩
       · intro vs X wq K;exact zb Tryd.underlying27 rfl sz3 (by decide) rfl ⟨Below.refl _ _, Left.of rfl⟩
       · intro vs X wq K;have LE := K.1;obtain ⟨_, e2, k2⟩ := K.dep 2 rfl rfl rfl;refine zd 47 (.pointer (some ⟨gb1, 2, none⟩)) rfl e2 ?_;exact zg Tryd.underlying3 rfl rfl (HF.on (E.drew.trans (LE.mono OY))).here.1.2 rfl ⟨Below.refl _ _, Left.of rfl⟩
       · intro vs X wq K;obtain ⟨⟨A1, c1⟩, e1, k1⟩ := K.dep 1 rfl rfl rfl;refine zd 46 (.slice A1 (yu x).length c1) rfl e1 ?_;obtain ⟨_, e3, k3⟩ := K.dep 3 rfl rfl rfl;refine zd 48 (.int .i64 f.regs) rfl e3 (yf en27 rfl ((ky _ A1 c1 _ (yu x) (OwnsI.ints (k1.here) hr8 hri64) f.regs true h1).mono ?_));rintro e w2 ⟨rfl, hb⟩;exact ⟨_, rfl, hb, Left.of rfl⟩
       · intro vs X wq K;obtain ⟨_, e4, k4⟩ := K.dep 4 rfl rfl rfl;refine zd 49 (.bool true) rfl e4 ?_;exact jg rfl ⟨Below.refl _ _, Left.of rfl⟩
       · intro vs X wq K;obtain ⟨_, e5, k5⟩ := K.dep 5 rfl rfl rfl;refine zd 50 (.bool false) rfl e5 ?_;exact zl rfl ⟨Below.refl _ _, Left.of rfl⟩
       · intro vs X wq K;have LE := K.1;obtain ⟨_, e6, k6⟩ := K.dep 6 rfl rfl rfl;refine zd 51 (.bool false) rfl e6 ?_;exact qq rfl (zo Tryd.underlying41 rfl vx rfl (Bb5.drew.extN LE NotIn.nil) rfl ⟨Below.refl _ _, Left.of rfl⟩)
       · intro vs X wq K;have LE := K.1;have XN := K.2.1;have SQ := Nat.le_trans LW.size (Nat.le_trans E.size LE.size);obtain ⟨_, e7, k7⟩ := K.dep 7 rfl rfl rfl;refine zd 52 (.agg #[.int .i64 x.op, .int .i64 x.d, .int .i64 x.a, .int .i64 x.b, .int .i64 x.t, .int .i64 x.k, .slice B x.l.length cB]) rfl e7 ?_;obtain ⟨_, e6, k6⟩ := K.dep 6 rfl rfl rfl
         refine zd 51 (.bool false) rfl e6 (qq rfl (yf en29 rfl ((zbv _ x B cB n0 (HF.on (E.drew.trans (LE.mono OY))).here.2 (Nat.le_trans hn SQ)).mono ?_)));rintro e w2 ⟨A2, c2, rfl, o2, hb⟩;exact ⟨_, rfl, hb, ⟨(A2, c2), rfl, Per.ownsI o2 XN SQ⟩⟩
       · intro vs X wq K;obtain ⟨_, e6, k6⟩ := K.dep 6 rfl rfl rfl;refine zd 51 (.bool false) rfl e6 ?_;exact qq rfl (zb Tryd.underlying27 rfl sz3 (by decide) rfl ⟨Below.refl _ _, Left.of rfl⟩)
       · intro vs X wq K;have LE := K.1;obtain ⟨_, e9, k9⟩ := K.dep 9 rfl rfl rfl;refine zd 54 (.pointer (some ⟨gb1, 2, none⟩)) rfl e9 ?_;obtain ⟨_, e6, k6⟩ := K.dep 6 rfl rfl rfl;refine zd 51 (.bool false) rfl e6 ?_;exact qq rfl (zg Tryd.underlying3 rfl rfl (HF.on (E.drew.trans (LE.mono OY))).here.1.2 rfl ⟨Below.refl _ _, Left.of rfl⟩)
       · intro vs X wq K;obtain ⟨⟨A2, c2⟩, e8, k8⟩ := K.dep 8 rfl rfl rfl;refine zd 53 (.slice A2 (yj x).length c2) rfl e8 ?_;obtain ⟨_, e10, k10⟩ := K.dep 10 rfl rfl rfl;refine zd 55 (.int .i64 f.regs) rfl e10 ?_;obtain ⟨_, e6, k6⟩ := K.dep 6 rfl rfl rfl
         refine zd 51 (.bool false) rfl e6 (qq rfl (yf en27 rfl ((ky _ A2 c2 _ (yj x) (OwnsI.ints (k8.here) hw8 hwi64) f.regs true h2).mono ?_)));rintro e w2 ⟨rfl, hb⟩;exact ⟨_, rfl, hb, Left.of rfl⟩
       · intro vs X wq K;obtain ⟨_, e11, k11⟩ := K.dep 11 rfl rfl rfl;refine zd 56 (.bool true) rfl e11 ?_;obtain ⟨_, e6, k6⟩ := K.dep 6 rfl rfl rfl;refine zd 51 (.bool false) rfl e6 ?_;exact qq rfl (jg rfl ⟨Below.refl _ _, Left.of rfl⟩)
       · intro vs X wq K;obtain ⟨_, e6, k6⟩ := K.dep 6 rfl rfl rfl;refine zd 51 (.bool false) rfl e6 ?_;obtain ⟨_, e12, k12⟩ := K.dep 12 rfl rfl rfl;refine zd 57 (.bool false) rfl e12 ?_;exact yd rfl rfl ⟨Below.refl _ _, Left.of rfl⟩
       · intro vs X wq K;obtain ⟨_, e13, k13⟩ := K.dep 13 rfl rfl rfl;refine zd 58 (.bool false) rfl e13 ?_;exact zl rfl ⟨Below.refl _ _, Left.of rfl⟩
       · intro vs X wq K;have LE := K.1;obtain ⟨_, e14, k14⟩ := K.dep 14 rfl rfl rfl;refine zd 59 (.bool false) rfl e14 ?_;exact qq rfl (zo Tryd.underlying41 rfl vx rfl (Bb5.drew.extN LE NotIn.nil) rfl ⟨Below.refl _ _, Left.of rfl⟩)
       · intro vs X wq K;obtain ⟨_, e14, k14⟩ := K.dep 14 rfl rfl rfl;refine zd 59 (.bool false) rfl e14 ?_;exact qq rfl (zl rfl ⟨Below.refl _ _, Left.of rfl⟩)
       · intro vs X wq K;have LE := K.1;have XN := K.2.1;have SQ := Nat.le_trans LW.size (Nat.le_trans E.size LE.size);obtain ⟨_, e15, k15⟩ := K.dep 15 rfl rfl rfl;refine zd 60 (.agg #[.int .i64 x.op, .int .i64 x.d, .int .i64 x.a, .int .i64 x.b, .int .i64 x.t, .int .i64 x.k, .slice B x.l.length cB]) rfl e15 ?_;obtain ⟨_, e16, k16⟩ := K.dep 16 rfl rfl rfl
         refine zd 61 (.int .i64 ((k : Nat) : Int)) rfl e16 ?_;obtain ⟨_, e14, k14⟩ := K.dep 14 rfl rfl rfl;refine zd 59 (.bool false) rfl e14 (qq rfl (yf en30 rfl ((ycz _ x B cB ((k : Nat) : Int) (by unfold I64; omega)).mono ?_)));rintro e w2 ⟨A3, c3, rfl, o3, hb⟩;exact ⟨_, rfl, hb, ⟨(A3, c3), rfl, Per.ownsI o3 XN SQ⟩⟩
       · intro vs X wq K;obtain ⟨_, e14, k14⟩ := K.dep 14 rfl rfl rfl;refine zd 59 (.bool false) rfl e14 ?_;exact qq rfl (zl rfl ⟨Below.refl _ _, Left.of rfl⟩)
       · intro vs X wq K;obtain ⟨⟨A3, c3⟩, e17, k17⟩ := K.dep 17 rfl rfl rfl;refine zd 62 (.slice A3 (yo x ((k : Nat) : Int)).length c3) rfl e17 ?_;obtain ⟨_, e18, k18⟩ := K.dep 18 rfl rfl rfl;refine zd 63 (.int .i64 ((f.ins.length : Nat) : Int)) rfl e18 ?_;obtain ⟨_, e14, k14⟩ := K.dep 14 rfl rfl rfl
         refine zd 59 (.bool false) rfl e14 (qq rfl (yf en27 rfl ((ky _ A3 c3 _ (yo x ((k : Nat) : Int)) (OwnsI.ints (k17.here) hg8 hgi64) f.ins.length false h3).mono ?_)));rintro e w2 ⟨rfl, hb⟩;exact ⟨_, rfl, hb, Left.of rfl⟩
       · intro vs X wq K;obtain ⟨_, e19, k19⟩ := K.dep 19 rfl rfl rfl;refine zd 64 (.bool false) rfl e19 ?_;obtain ⟨_, e14, k14⟩ := K.dep 14 rfl rfl rfl;refine zd 59 (.bool false) rfl e14 ?_;exact qq rfl (jg rfl ⟨Below.refl _ _, Left.of rfl⟩)
       · intro vs X wq K;obtain ⟨_, e14, k14⟩ := K.dep 14 rfl rfl rfl;refine zd 59 (.bool false) rfl e14 ?_;obtain ⟨_, e20, k20⟩ := K.dep 20 rfl rfl rfl;refine zd 65 (.bool true) rfl e20 ?_;exact yd rfl rfl ⟨Below.refl _ _, Left.of rfl⟩
     intro vs w9 LE AO AL AF AA;have LBb5 := Bb5;replace Bb5 := Bb5.drew.extN LE NotIn.nil;replace E := E.drew.trans (LE.mono OY);obtain ⟨_, e21, k21⟩ := AL.2.2.2.2.2.2.2.2.2.2.2.2.2.2.2.2.2.2.2.2.2.1;refine vq (τ := [(1, _), (3, _), (4, _), (66, .bool true)]) ⟨rfl, rfl, rfl, congrArg some e21, trivial⟩ ?_;clear AL AF AA LE AO OY e21 k21 LBb5
     refine zh (yr rfl (srx (anx rfl (zv (zi (ze (ze (zi (ze (zu (rs := [.tmp 2]) (vs := [_]) rfl ⟨rfl, trivial⟩ ?_))))))))));exact ⟨by rw [zaz hx (by unfold xg; rw [h1, h2, h3]; rfl)]; rfl, (LW.step E XLW).toBelow⟩
   ·
    have h2 := Bool.eq_false_iff.2 h2;have OY : ∀ q9, (Mut (znx [])) q9 → q9 < (World.drew w7).heap.size → (Mut [(some gb5)]) q9 := fun k h _ => (Mut.none_) k h;refine jx (Mut [(some gb5)]) (Mut.grow Mut.none_ (vd Bb5.lt)) [] [] (kl [Fx.of (.agg #[.int .i64 x.op, .int .i64 x.d, .int .i64 x.a, .int .i64 x.b, .int .i64 x.t, .int .i64 x.k, .slice B x.l.length cB]),
     ⟨(Option Addr × Nat), fun (A1, c1) => .slice A1 (yu x).length c1, fun (A1, c1) b => (OwnsI b w.heap.size A1 c1 (yu x))⟩,
     Fx.of (.pointer (some ⟨gb1, 2, none⟩)),
     Fx.of (.int .i64 f.regs),
     Fx.of (.bool true),
     Fx.of (.bool false),
     Fx.of (.bool false),
     Fx.of (.agg #[.int .i64 x.op, .int .i64 x.d, .int .i64 x.a, .int .i64 x.b, .int .i64 x.t, .int .i64 x.k, .slice B x.l.length cB]),
     ⟨(Option Addr × Nat), fun (A2, c2) => .slice A2 (yj x).length c2, fun (A2, c2) b => (OwnsI b w.heap.size A2 c2 (yj x))⟩,
     Fx.of (.pointer (some ⟨gb1, 2, none⟩)),
     Fx.of (.int .i64 f.regs),
     Fx.of (.bool false),
     Fx.of (.bool true),
     Fx.of (.bool true),
     Fx.of (.bool true),
     Fx.of undef,
     Fx.of undef,
     Fx.of undef,
     Fx.of undef,
     Fx.of undef,
     Fx.of undef,
     Fx.of (.bool true)]) je rfl trivial (fun _ h => by cases h) ?_ ?_
    · refine ⟨?_, ?_, ?_, ?_, ?_, ?_, ?_, ?_, ?_, ?_, ?_, ?_, ?_, ?_, ?_, ?_, ?_, ?_, ?_, ?_, ?_, ?_, trivial⟩
      · intro vs X wq K;have LE := K.1;exact zo Tryd.underlying41 rfl vx rfl (Bb5.drew.extN LE NotIn.nil) rfl ⟨Below.refl _ _, Left.of rfl⟩
      · intro vs X wq K;have LE := K.1;have XN := K.2.1;have SQ := Nat.le_trans LW.size (Nat.le_trans E.size LE.size);obtain ⟨_, e0, k0⟩ := K.dep 0 rfl rfl rfl
        refine zd 45 (.agg #[.int .i64 x.op, .int .i64 x.d, .int .i64 x.a, .int .i64 x.b, .int .i64 x.t, .int .i64 x.k, .slice B x.l.length cB]) rfl e0 (yf en28 rfl ((zfq _ x B cB n0 (HF.on (E.drew.trans (LE.mono OY))).here.2 (Nat.le_trans hn SQ)).mono ?_));rintro e w2 ⟨A1, c1, rfl, o1, hb⟩;exact ⟨_, rfl, hb, ⟨(A1, c1), rfl, Per.ownsI o1 XN SQ⟩⟩
      · intro vs X wq K;exact zb Tryd.underlying27 rfl sz3 (by decide) rfl ⟨Below.refl _ _, Left.of rfl⟩
      · intro vs X wq K;have LE := K.1;obtain ⟨_, e2, k2⟩ := K.dep 2 rfl rfl rfl;refine zd 47 (.pointer (some ⟨gb1, 2, none⟩)) rfl e2 ?_;exact zg Tryd.underlying3 rfl rfl (HF.on (E.drew.trans (LE.mono OY))).here.1.2 rfl ⟨Below.refl _ _, Left.of rfl⟩
      · intro vs X wq K;obtain ⟨⟨A1, c1⟩, e1, k1⟩ := K.dep 1 rfl rfl rfl;refine zd 46 (.slice A1 (yu x).length c1) rfl e1 ?_;obtain ⟨_, e3, k3⟩ := K.dep 3 rfl rfl rfl;refine zd 48 (.int .i64 f.regs) rfl e3 (yf en27 rfl ((ky _ A1 c1 _ (yu x) (OwnsI.ints (k1.here) hr8 hri64) f.regs true h1).mono ?_));rintro e w2 ⟨rfl, hb⟩;exact ⟨_, rfl, hb, Left.of rfl⟩
      · intro vs X wq K;obtain ⟨_, e4, k4⟩ := K.dep 4 rfl rfl rfl;refine zd 49 (.bool true) rfl e4 ?_;exact jg rfl ⟨Below.refl _ _, Left.of rfl⟩
      · intro vs X wq K;obtain ⟨_, e5, k5⟩ := K.dep 5 rfl rfl rfl;refine zd 50 (.bool false) rfl e5 ?_;exact zl rfl ⟨Below.refl _ _, Left.of rfl⟩
      · intro vs X wq K;have LE := K.1;obtain ⟨_, e6, k6⟩ := K.dep 6 rfl rfl rfl;refine zd 51 (.bool false) rfl e6 ?_;exact qq rfl (zo Tryd.underlying41 rfl vx rfl (Bb5.drew.extN LE NotIn.nil) rfl ⟨Below.refl _ _, Left.of rfl⟩)
      · intro vs X wq K;have LE := K.1;have XN := K.2.1;have SQ := Nat.le_trans LW.size (Nat.le_trans E.size LE.size);obtain ⟨_, e7, k7⟩ := K.dep 7 rfl rfl rfl;refine zd 52 (.agg #[.int .i64 x.op, .int .i64 x.d, .int .i64 x.a, .int .i64 x.b, .int .i64 x.t, .int .i64 x.k, .slice B x.l.length cB]) rfl e7 ?_;obtain ⟨_, e6, k6⟩ := K.dep 6 rfl rfl rfl
        refine zd 51 (.bool false) rfl e6 (qq rfl (yf en29 rfl ((zbv _ x B cB n0 (HF.on (E.drew.trans (LE.mono OY))).here.2 (Nat.le_trans hn SQ)).mono ?_)));rintro e w2 ⟨A2, c2, rfl, o2, hb⟩;exact ⟨_, rfl, hb, ⟨(A2, c2), rfl, Per.ownsI o2 XN SQ⟩⟩
      · intro vs X wq K;obtain ⟨_, e6, k6⟩ := K.dep 6 rfl rfl rfl;refine zd 51 (.bool false) rfl e6 ?_;exact qq rfl (zb Tryd.underlying27 rfl sz3 (by decide) rfl ⟨Below.refl _ _, Left.of rfl⟩)
      · intro vs X wq K;have LE := K.1;obtain ⟨_, e9, k9⟩ := K.dep 9 rfl rfl rfl;refine zd 54 (.pointer (some ⟨gb1, 2, none⟩)) rfl e9 ?_;obtain ⟨_, e6, k6⟩ := K.dep 6 rfl rfl rfl;refine zd 51 (.bool false) rfl e6 ?_;exact qq rfl (zg Tryd.underlying3 rfl rfl (HF.on (E.drew.trans (LE.mono OY))).here.1.2 rfl ⟨Below.refl _ _, Left.of rfl⟩)
      · intro vs X wq K;obtain ⟨⟨A2, c2⟩, e8, k8⟩ := K.dep 8 rfl rfl rfl;refine zd 53 (.slice A2 (yj x).length c2) rfl e8 ?_;obtain ⟨_, e10, k10⟩ := K.dep 10 rfl rfl rfl;refine zd 55 (.int .i64 f.regs) rfl e10 ?_;obtain ⟨_, e6, k6⟩ := K.dep 6 rfl rfl rfl
        refine zd 51 (.bool false) rfl e6 (qq rfl (yf en27 rfl ((ky _ A2 c2 _ (yj x) (OwnsI.ints (k8.here) hw8 hwi64) f.regs false h2).mono ?_)));rintro e w2 ⟨rfl, hb⟩;exact ⟨_, rfl, hb, Left.of rfl⟩
      · intro vs X wq K;obtain ⟨_, e11, k11⟩ := K.dep 11 rfl rfl rfl;refine zd 56 (.bool false) rfl e11 ?_;obtain ⟨_, e6, k6⟩ := K.dep 6 rfl rfl rfl;refine zd 51 (.bool false) rfl e6 ?_;exact qq rfl (jg rfl ⟨Below.refl _ _, Left.of rfl⟩)
      · intro vs X wq K;obtain ⟨_, e6, k6⟩ := K.dep 6 rfl rfl rfl;refine zd 51 (.bool false) rfl e6 ?_;obtain ⟨_, e12, k12⟩ := K.dep 12 rfl rfl rfl;refine zd 57 (.bool true) rfl e12 ?_;exact yd rfl rfl ⟨Below.refl _ _, Left.of rfl⟩
      · intro vs X wq K;obtain ⟨_, e13, k13⟩ := K.dep 13 rfl rfl rfl;refine zd 58 (.bool true) rfl e13 ?_;exact zl rfl ⟨Below.refl _ _, Left.of rfl⟩
      · intro vs X wq K;obtain ⟨_, e14, k14⟩ := K.dep 14 rfl rfl rfl;refine zd 59 (.bool true) rfl e14 ?_;exact zc rfl ⟨Below.refl _ _, Left.of rfl⟩
      · intro vs X wq K;obtain ⟨_, e14, k14⟩ := K.dep 14 rfl rfl rfl;refine zd 59 (.bool true) rfl e14 ?_;exact zc rfl ⟨Below.refl _ _, Left.of rfl⟩
      · intro vs X wq K;obtain ⟨_, e15, k15⟩ := K.dep 15 rfl rfl rfl;refine zd 60 (undef) rfl e15 ?_;obtain ⟨_, e16, k16⟩ := K.dep 16 rfl rfl rfl;refine zd 61 (undef) rfl e16 ?_;obtain ⟨_, e14, k14⟩ := K.dep 14 rfl rfl rfl;refine zd 59 (.bool true) rfl e14 ?_;exact zc rfl ⟨Below.refl _ _, Left.of rfl⟩
      · intro vs X wq K;obtain ⟨_, e14, k14⟩ := K.dep 14 rfl rfl rfl;refine zd 59 (.bool true) rfl e14 ?_;exact zc rfl ⟨Below.refl _ _, Left.of rfl⟩
      · intro vs X wq K;obtain ⟨_, e17, k17⟩ := K.dep 17 rfl rfl rfl;refine zd 62 (undef) rfl e17 ?_;obtain ⟨_, e18, k18⟩ := K.dep 18 rfl rfl rfl;refine zd 63 (undef) rfl e18 ?_;obtain ⟨_, e14, k14⟩ := K.dep 14 rfl rfl rfl;refine zd 59 (.bool true) rfl e14 ?_;exact zc rfl ⟨Below.refl _ _, Left.of rfl⟩
      · intro vs X wq K;obtain ⟨_, e19, k19⟩ := K.dep 19 rfl rfl rfl;refine zd 64 (undef) rfl e19 ?_;obtain ⟨_, e14, k14⟩ := K.dep 14 rfl rfl rfl;refine zd 59 (.bool true) rfl e14 ?_;exact zc rfl ⟨Below.refl _ _, Left.of rfl⟩
      · intro vs X wq K;obtain ⟨_, e14, k14⟩ := K.dep 14 rfl rfl rfl;refine zd 59 (.bool true) rfl e14 ?_;obtain ⟨_, e20, k20⟩ := K.dep 20 rfl rfl rfl;refine zd 65 (undef) rfl e20 ?_;exact zx rfl rfl ⟨Below.refl _ _, Left.of rfl⟩
    intro vs w10 LE AO AL AF AA;have LBb5 := Bb5;replace Bb5 := Bb5.drew.extN LE NotIn.nil;replace E := E.drew.trans (LE.mono OY);obtain ⟨_, e21, k21⟩ := AL.2.2.2.2.2.2.2.2.2.2.2.2.2.2.2.2.2.2.2.2.2.1;refine vq (τ := [(1, _), (3, _), (4, _), (66, .bool true)]) ⟨rfl, rfl, rfl, congrArg some e21, trivial⟩ ?_;clear AL AF AA LE AO OY e21 k21 LBb5
    refine zh (yr rfl (srx (anx rfl (zv (zi (ze (ze (zi (ze (zu (rs := [.tmp 2]) (vs := [_]) rfl ⟨rfl, trivial⟩ ?_))))))))));exact ⟨by rw [zaz hx (by unfold xg; rw [h1, h2]; rfl)]; rfl, (LW.step E XLW).toBelow⟩
  ·
   have h1 := Bool.eq_false_iff.2 h1;have OY : ∀ q9, (Mut (znx [])) q9 → q9 < (World.drew w7).heap.size → (Mut [(some gb5)]) q9 := fun k h _ => (Mut.none_) k h;refine jx (Mut [(some gb5)]) (Mut.grow Mut.none_ (vd Bb5.lt)) [] [] (kl [Fx.of (.agg #[.int .i64 x.op, .int .i64 x.d, .int .i64 x.a, .int .i64 x.b, .int .i64 x.t, .int .i64 x.k, .slice B x.l.length cB]),
    ⟨(Option Addr × Nat), fun (A1, c1) => .slice A1 (yu x).length c1, fun (A1, c1) b => (OwnsI b w.heap.size A1 c1 (yu x))⟩,
    Fx.of (.pointer (some ⟨gb1, 2, none⟩)),
    Fx.of (.int .i64 f.regs),
    Fx.of (.bool false),
    Fx.of (.bool true),
    Fx.of (.bool true),
    Fx.of undef,
    Fx.of undef,
    Fx.of undef,
    Fx.of undef,
    Fx.of undef,
    Fx.of undef,
    Fx.of (.bool true),
    Fx.of (.bool true),
    Fx.of undef,
    Fx.of undef,
    Fx.of undef,
    Fx.of undef,
    Fx.of undef,
    Fx.of undef,
    Fx.of (.bool true)]) je rfl trivial (fun _ h => by cases h) ?_ ?_
   · refine ⟨?_, ?_, ?_, ?_, ?_, ?_, ?_, ?_, ?_, ?_, ?_, ?_, ?_, ?_, ?_, ?_, ?_, ?_, ?_, ?_, ?_, ?_, trivial⟩
     · intro vs X wq K;have LE := K.1;exact zo Tryd.underlying41 rfl vx rfl (Bb5.drew.extN LE NotIn.nil) rfl ⟨Below.refl _ _, Left.of rfl⟩
     · intro vs X wq K;have LE := K.1;have XN := K.2.1;have SQ := Nat.le_trans LW.size (Nat.le_trans E.size LE.size);obtain ⟨_, e0, k0⟩ := K.dep 0 rfl rfl rfl
       refine zd 45 (.agg #[.int .i64 x.op, .int .i64 x.d, .int .i64 x.a, .int .i64 x.b, .int .i64 x.t, .int .i64 x.k, .slice B x.l.length cB]) rfl e0 (yf en28 rfl ((zfq _ x B cB n0 (HF.on (E.drew.trans (LE.mono OY))).here.2 (Nat.le_trans hn SQ)).mono ?_));rintro e w2 ⟨A1, c1, rfl, o1, hb⟩;exact ⟨_, rfl, hb, ⟨(A1, c1), rfl, Per.ownsI o1 XN SQ⟩⟩
     · intro vs X wq K;exact zb Tryd.underlying27 rfl sz3 (by decide) rfl ⟨Below.refl _ _, Left.of rfl⟩
     · intro vs X wq K;have LE := K.1;obtain ⟨_, e2, k2⟩ := K.dep 2 rfl rfl rfl;refine zd 47 (.pointer (some ⟨gb1, 2, none⟩)) rfl e2 ?_;exact zg Tryd.underlying3 rfl rfl (HF.on (E.drew.trans (LE.mono OY))).here.1.2 rfl ⟨Below.refl _ _, Left.of rfl⟩
     · intro vs X wq K;obtain ⟨⟨A1, c1⟩, e1, k1⟩ := K.dep 1 rfl rfl rfl;refine zd 46 (.slice A1 (yu x).length c1) rfl e1 ?_;obtain ⟨_, e3, k3⟩ := K.dep 3 rfl rfl rfl;refine zd 48 (.int .i64 f.regs) rfl e3 (yf en27 rfl ((ky _ A1 c1 _ (yu x) (OwnsI.ints (k1.here) hr8 hri64) f.regs false h1).mono ?_));rintro e w2 ⟨rfl, hb⟩;exact ⟨_, rfl, hb, Left.of rfl⟩
     · intro vs X wq K;obtain ⟨_, e4, k4⟩ := K.dep 4 rfl rfl rfl;refine zd 49 (.bool false) rfl e4 ?_;exact jg rfl ⟨Below.refl _ _, Left.of rfl⟩
     · intro vs X wq K;obtain ⟨_, e5, k5⟩ := K.dep 5 rfl rfl rfl;refine zd 50 (.bool true) rfl e5 ?_;exact zl rfl ⟨Below.refl _ _, Left.of rfl⟩
     · intro vs X wq K;obtain ⟨_, e6, k6⟩ := K.dep 6 rfl rfl rfl;refine zd 51 (.bool true) rfl e6 ?_;exact zc rfl ⟨Below.refl _ _, Left.of rfl⟩
     · intro vs X wq K;obtain ⟨_, e7, k7⟩ := K.dep 7 rfl rfl rfl;refine zd 52 (undef) rfl e7 ?_;obtain ⟨_, e6, k6⟩ := K.dep 6 rfl rfl rfl;refine zd 51 (.bool true) rfl e6 ?_;exact zc rfl ⟨Below.refl _ _, Left.of rfl⟩
     · intro vs X wq K;obtain ⟨_, e6, k6⟩ := K.dep 6 rfl rfl rfl;refine zd 51 (.bool true) rfl e6 ?_;exact zc rfl ⟨Below.refl _ _, Left.of rfl⟩
     · intro vs X wq K;obtain ⟨_, e9, k9⟩ := K.dep 9 rfl rfl rfl;refine zd 54 (undef) rfl e9 ?_;obtain ⟨_, e6, k6⟩ := K.dep 6 rfl rfl rfl;refine zd 51 (.bool true) rfl e6 ?_;exact zc rfl ⟨Below.refl _ _, Left.of rfl⟩
     · intro vs X wq K;obtain ⟨_, e8, k8⟩ := K.dep 8 rfl rfl rfl;refine zd 53 (undef) rfl e8 ?_;obtain ⟨_, e10, k10⟩ := K.dep 10 rfl rfl rfl;refine zd 55 (undef) rfl e10 ?_;obtain ⟨_, e6, k6⟩ := K.dep 6 rfl rfl rfl;refine zd 51 (.bool true) rfl e6 ?_;exact zc rfl ⟨Below.refl _ _, Left.of rfl⟩
     · intro vs X wq K;obtain ⟨_, e11, k11⟩ := K.dep 11 rfl rfl rfl;refine zd 56 (undef) rfl e11 ?_;obtain ⟨_, e6, k6⟩ := K.dep 6 rfl rfl rfl;refine zd 51 (.bool true) rfl e6 ?_;exact zc rfl ⟨Below.refl _ _, Left.of rfl⟩
     · intro vs X wq K;obtain ⟨_, e6, k6⟩ := K.dep 6 rfl rfl rfl;refine zd 51 (.bool true) rfl e6 ?_;obtain ⟨_, e12, k12⟩ := K.dep 12 rfl rfl rfl;refine zd 57 (undef) rfl e12 ?_;exact zx rfl rfl ⟨Below.refl _ _, Left.of rfl⟩
     · intro vs X wq K;obtain ⟨_, e13, k13⟩ := K.dep 13 rfl rfl rfl;refine zd 58 (.bool true) rfl e13 ?_;exact zl rfl ⟨Below.refl _ _, Left.of rfl⟩
     · intro vs X wq K;obtain ⟨_, e14, k14⟩ := K.dep 14 rfl rfl rfl;refine zd 59 (.bool true) rfl e14 ?_;exact zc rfl ⟨Below.refl _ _, Left.of rfl⟩
     · intro vs X wq K;obtain ⟨_, e14, k14⟩ := K.dep 14 rfl rfl rfl;refine zd 59 (.bool true) rfl e14 ?_;exact zc rfl ⟨Below.refl _ _, Left.of rfl⟩
     · intro vs X wq K;obtain ⟨_, e15, k15⟩ := K.dep 15 rfl rfl rfl;refine zd 60 (undef) rfl e15 ?_;obtain ⟨_, e16, k16⟩ := K.dep 16 rfl rfl rfl;refine zd 61 (undef) rfl e16 ?_;obtain ⟨_, e14, k14⟩ := K.dep 14 rfl rfl rfl;refine zd 59 (.bool true) rfl e14 ?_;exact zc rfl ⟨Below.refl _ _, Left.of rfl⟩
     · intro vs X wq K;obtain ⟨_, e14, k14⟩ := K.dep 14 rfl rfl rfl;refine zd 59 (.bool true) rfl e14 ?_;exact zc rfl ⟨Below.refl _ _, Left.of rfl⟩
     · intro vs X wq K;obtain ⟨_, e17, k17⟩ := K.dep 17 rfl rfl rfl;refine zd 62 (undef) rfl e17 ?_;obtain ⟨_, e18, k18⟩ := K.dep 18 rfl rfl rfl;refine zd 63 (undef) rfl e18 ?_;obtain ⟨_, e14, k14⟩ := K.dep 14 rfl rfl rfl;refine zd 59 (.bool true) rfl e14 ?_;exact zc rfl ⟨Below.refl _ _, Left.of rfl⟩
     · intro vs X wq K;obtain ⟨_, e19, k19⟩ := K.dep 19 rfl rfl rfl;refine zd 64 (undef) rfl e19 ?_;obtain ⟨_, e14, k14⟩ := K.dep 14 rfl rfl rfl;refine zd 59 (.bool true) rfl e14 ?_;exact zc rfl ⟨Below.refl _ _, Left.of rfl⟩
     · intro vs X wq K;obtain ⟨_, e14, k14⟩ := K.dep 14 rfl rfl rfl;refine zd 59 (.bool true) rfl e14 ?_;obtain ⟨_, e20, k20⟩ := K.dep 20 rfl rfl rfl;refine zd 65 (undef) rfl e20 ?_;exact zx rfl rfl ⟨Below.refl _ _, Left.of rfl⟩
   intro vs w11 LE AO AL AF AA;have LBb5 := Bb5;replace Bb5 := Bb5.drew.extN LE NotIn.nil;replace E := E.drew.trans (LE.mono OY);obtain ⟨_, e21, k21⟩ := AL.2.2.2.2.2.2.2.2.2.2.2.2.2.2.2.2.2.2.2.2.2.1;refine vq (τ := [(1, _), (3, _), (4, _), (66, .bool true)]) ⟨rfl, rfl, rfl, congrArg some e21, trivial⟩ ?_;clear AL AF AA LE AO OY e21 k21 LBb5
   refine zh (yr rfl (srx (anx rfl (zv (zi (ze (ze (zi (ze (zu (rs := [.tmp 2]) (vs := [_]) rfl ⟨rfl, trivial⟩ ?_))))))))));exact ⟨by rw [zaz hx (by unfold xg; rw [h1]; rfl)]; rfl, (LW.step E XLW).toBelow⟩
 ·
  have hq := of_decide_eq_false hq;have hall : ∀ (j : Nat) x, f.ins[j]? = some x → xg f j x = true := fun j x hx => hok j x (by have := (List.getElem?_eq_some_iff.1 hx).1; omega) hx;clear hok;refine qe (zm (zm (ya (zh (zp (srx (anx rfl (yb ?_))))))));replace HF := HF.on E;replace LW := LW.step E XLW;replace E := erx (No) w4
  refine qu (ι := Nat) (fun k => [(1, .pointer (some ⟨gb1, 0, none⟩)), (3, .int .i64 ((f.ins.length : Nat) : Int)), (6, .int .i64 ((k : Nat) : Int))]) (fun k w' => Ext (No) w4 w' ∧ (k ≤ f.rgs.length ∧ ∀ (j : Nat) x, j < k → f.rgs[j]? = some x → zfk f x = true)) (fun k => f.rgs.length - k) 0 ⟨rfl, rfl, rfl, trivial⟩ ⟨Ext.refl _ _, ⟨Nat.zero_le _, fun j x h => by omega⟩⟩ ?_
  rintro k w13 ⟨M12, ⟨hk, hok⟩⟩;have XM12 := grx (No) w4;replace E := E.trans M12;replace HF := HF.on E;replace LW := LW.step E XLW;replace E := erx (No) w13
  refine zp (srx (mvx rfl (za rfl (zb Tryd.underlying27 rfl ko (by decide) rfl (za rfl (zg Tryd.underlying25 rfl rfl (HF.on E).here.2 rfl (za rfl (yw Tryd.underlying25 rfl (za rfl (yy rfl rfl (rnx (zr rfl (fun hq4 => ?_) (fun hq4 => ?_)))))))))))))
  ·
   have hq4 := of_decide_eq_true hq4;obtain ⟨r, hr⟩ : ∃ r, f.rgs[k]? = some r := ⟨_, List.getElem?_eq_getElem (by omega)⟩;obtain ⟨gr, ro, hAr, hgr, hcr⟩ := ((HF.on E).here.1.2).rgs.row.at hr;have hmr := List.mem_of_getElem? hr;have hrI := ((HF.on E).here.1.2).rgs.in_ r hmr
   refine zq (zh (zp (yb (srx (za rfl (zb Tryd.underlying27 rfl ko (by decide) rfl (za rfl (zg Tryd.underlying25 rfl rfl (HF.on E).here.2 rfl (mvx rfl (za rfl (yi (j := k) Tryd.underlying25 ku (congrArg (fun z ↦ some (Value.slice z f.rgs.length p.cr)) hAr) rfl rfl (by omega) (za rfl (jb (cs := (zqz r).toArray) Tryd.underlying50 rfl ku rfl rfl (fun j v hj ↦ hcr j v (by simpa using hj)) (za rfl (qb zr50 ?_)))))))))))))))
   intro gb14 w15 Bb14 Eb14 Gb14;have Gb14 : _ ≤ gb14 := Nat.le_trans E.size Gb14;have GLb14 := Nat.le_trans LW.size Gb14;replace E := E.trans Eb14.no;replace HF := HF.cons (zz Gb14);replace E := E.cons (some gb14);replace XLW := Mut.grow XLW (fun k e => Or.inr (Nat.le_trans LW.size ((zz Gb14) k e)))
   replace XM12 := Mut.grow XM12 (fun k e => Or.inr (Nat.le_trans M12.size ((zz Gb14) k e)));refine zw (qz ku rfl rfl Bb14 rfl rfl rfl ?_);intro w16 Bx Eb14;replace Bb14 : Blk w16 gb14 50 #[.int .i64 r.fr, .int .i64 r.to, .int .i64 r.tg, .int .i64 r.d] := Bx;replace E := E.step1 Eb14 Mut.head
   refine rnx (srx (za rfl (zb Tryd.underlying50 rfl sz3 (by decide) rfl (za rfl (zg Tryd.underlying3 rfl rfl Bb14 rfl (za rfl (yy rfl rfl (mvx rfl (yx 82 rfl (fun t1 => ?_) (fun t1 => ?_))))))))))
   ·
    replace t1 := of_decide_eq_true t1
    refine za rfl (zc rfl (za rfl (zc rfl (za rfl (zc rfl (za rfl (zc rfl (za rfl (zc rfl (za rfl (zx rfl rfl (mvx rfl (za rfl (zc rfl (za rfl (zc rfl (za rfl (zc rfl (za rfl (zc rfl (za rfl (zx rfl rfl (mvx rfl (za rfl (zc rfl (za rfl (zc rfl (za rfl (zc rfl (za rfl (zc rfl (za rfl (zc rfl (za rfl (zc rfl (za rfl (zx rfl rfl (mvx rfl (za rfl (zc rfl (za rfl (zc rfl (za rfl (zc rfl (za rfl (zc rfl (za rfl (zc rfl (za rfl (zc rfl (za rfl (zc rfl (za rfl (zx rfl rfl (rnx (yr rfl (srx (anx rfl (zv (zi (ze ?_)))))))))))))))))))))))))))))))))))))))))))))))))))))))))))))
    refine ze (zi (ze (zu (rs := [.tmp 2]) (vs := [_]) rfl ⟨rfl, trivial⟩ ?_)));exact ⟨by rw [jt hmr (kv (by omega))]; rfl, (LW.step E XLW).toBelow⟩
   ·
    replace t1 := of_decide_eq_false t1
    refine onx rfl (zb Tryd.underlying50 rfl sz3 (by decide) rfl (onx rfl (zg Tryd.underlying3 rfl rfl Bb14 rfl (onx rfl (zb Tryd.underlying50 rfl sz3 (by decide) rfl (onx rfl (zg Tryd.underlying3 rfl rfl Bb14 rfl (onx rfl (xb rfl rfl (za rfl (yd rfl rfl (mvx rfl (yx 89 rfl (fun t2 => ?_) (fun t2 => ?_))))))))))))))
    ·
     replace t2 := of_decide_eq_true t2
     refine za rfl (zc rfl (za rfl (zc rfl (za rfl (zc rfl (za rfl (zc rfl (za rfl (zx rfl rfl (mvx rfl (za rfl (zc rfl (za rfl (zc rfl (za rfl (zc rfl (za rfl (zc rfl (za rfl (zc rfl (za rfl (zc rfl (za rfl (zx rfl rfl (mvx rfl (za rfl (zc rfl (za rfl (zc rfl (za rfl (zc rfl (za rfl (zc rfl (za rfl (zc rfl (za rfl (zc rfl (za rfl (zc rfl (za rfl (zx rfl rfl (rnx (yr rfl (srx (anx rfl (zv (zi (ze (ze (zi (ze (zu (rs := [.tmp 2]) (vs := [_]) rfl ⟨rfl, trivial⟩ ?_))))))))))))))))))))))))))))))))))))))))))))))))))))
     exact ⟨by rw [jt hmr (kv (by omega))]; rfl, (LW.step E XLW).toBelow⟩
    ·
     replace t2 := of_decide_eq_false t2;refine onx rfl (zb Tryd.underlying50 rfl sz3 (by decide) rfl (onx rfl (zg Tryd.underlying3 rfl rfl Bb14 rfl (onx rfl (zl rfl (onx rfl (xb rfl rfl (za rfl (yd rfl rfl (mvx rfl (yx 95 rfl (fun t3 => ?_) (fun t3 => ?_))))))))))))
     ·
      replace t3 := of_decide_eq_true t3
      refine za rfl (zc rfl (za rfl (zc rfl (za rfl (zc rfl (za rfl (zc rfl (za rfl (zc rfl (za rfl (zc rfl (za rfl (zx rfl rfl (mvx rfl (za rfl (zc rfl (za rfl (zc rfl (za rfl (zc rfl (za rfl (zc rfl (za rfl (zc rfl (za rfl (zc rfl (za rfl (zc rfl (za rfl (zx rfl rfl (rnx (yr rfl (srx (anx rfl (zv (zi (ze (ze (zi (ze (zu (rs := [.tmp 2]) (vs := [_]) rfl ⟨rfl, trivial⟩ ?_)))))))))))))))))))))))))))))))))))))))))
      exact ⟨by rw [jt hmr (kv (by omega))]; rfl, (LW.step E XLW).toBelow⟩
     ·
      replace t3 := of_decide_eq_false t3;refine onx rfl (zb Tryd.underlying50 rfl sz3 (by decide) rfl (onx rfl (zg Tryd.underlying3 rfl rfl Bb14 rfl (onx rfl (yl (cs := #[.int .i64 r.tg]) Tryd.underlying28 sz3 zr3 (by decide) rfl (by rw [ym]; rfl) ?_)))));intro gb17 w18 Bb17 Eb17 Gb17
      have Db17_b14 : Apart (some gb17) (some gb14) := Apart.of_lt (vd Bb14.lt) Gb17;have Db14_b17 := Db17_b14.symm;have Gb17 : _ ≤ gb17 := Nat.le_trans E.size Gb17;have GLb17 := Nat.le_trans LW.size Gb17;replace Bb14 := Bb14.extN Eb17 NotIn.nil;replace E := E.trans Eb17.no;replace HF := HF.cons (zz Gb17);replace E := E.cons (some gb17)
      replace XLW := Mut.grow XLW (fun k e => Or.inr (Nat.le_trans LW.size ((zz Gb17) k e)));replace XM12 := Mut.grow XM12 (fun k e => Or.inr (Nat.le_trans M12.size ((zz Gb17) k e)));replace HF := HF.on E;replace LW := LW.step E XLW;replace M12 := M12.step E XM12;have SB : ∀ q9, Mut [(some gb14)] q9 → Mut [(some gb17), (some gb14)] q9 := (Mut.skip (Mut.keep Mut.nil_))
      replace HF := HF.less SB;replace XLW := fun k h => XLW k (SB k h);replace XM12 := fun k h => XM12 k (SB k h);clear SB;replace E := erx (Mut [(some gb14)]) w18;replace HF := HF.and (Per.blkN Bb17 (NotIn.cons Db17_b14 NotIn.nil))
      refine onx rfl (zl rfl (onx rfl (yf en27 rfl ((inside_blk _ _ _ ((HF.on E).here.2) (by first | exact hrI.tg | exact hrI.d) ((f.ins.length : Nat) : Int)).mono ?_))));rintro e w19 ⟨rfl, hb⟩;refine ⟨_, rfl, ?_⟩;have Ec := Ext.of_below hb No;replace Bb14 := Bb14.extN Ec NotIn.nil;replace E := E.trans Ec.no
      refine onx rfl (jg rfl (za rfl (yd rfl rfl (mvx rfl (yx 103 rfl (fun t4 => ?_) (fun t4 => ?_))))))
      ·
       replace t4 := of_decide_eq_false (not_t t4)
       refine za rfl (zc rfl (za rfl (zc rfl (za rfl (zc rfl (za rfl (zc rfl (za rfl (zc rfl (za rfl (zc rfl (za rfl (zc rfl (za rfl (zx rfl rfl (rnx (yr rfl (srx (anx rfl (zv (zi (ze (ze (zi (ze (zu (rs := [.tmp 2]) (vs := [_]) rfl ⟨rfl, trivial⟩ ?_))))))))))))))))))))))))))
       exact ⟨by rw [jt hmr (kv (by omega))]; rfl, (LW.step E XLW).toBelow⟩
      ·
       replace t4 := of_decide_eq_true (not_f t4);refine onx rfl (zb Tryd.underlying50 rfl sz3 (by decide) rfl (onx rfl (zg Tryd.underlying3 rfl rfl Bb14 rfl (onx rfl (yl (cs := #[.int .i64 r.d]) Tryd.underlying28 sz3 zr3 (by decide) rfl (by rw [ym]; rfl) ?_)))));intro gb20 w21 Bb20 Eb20 Gb20
       have Db20_b14 : Apart (some gb20) (some gb14) := Apart.of_lt (vd Bb14.lt) Gb20;have Db14_b20 := Db20_b14.symm;have Gb20 : _ ≤ gb20 := Nat.le_trans E.size Gb20;have GLb20 := Nat.le_trans LW.size Gb20;replace Bb14 := Bb14.extN Eb20 NotIn.nil;replace E := E.trans Eb20.no;replace HF := HF.cons (zz Gb20);replace E := E.cons (some gb20)
       replace XLW := Mut.grow XLW (fun k e => Or.inr (Nat.le_trans LW.size ((zz Gb20) k e)));replace XM12 := Mut.grow XM12 (fun k e => Or.inr (Nat.le_trans M12.size ((zz Gb20) k e)));replace HF := HF.on E;replace LW := LW.step E XLW;replace M12 := M12.step E XM12;have SB : ∀ q9, Mut [(some gb14)] q9 → Mut [(some gb20), (some gb14)] q9 := (Mut.skip (Mut.keep Mut.nil_))
       replace HF := HF.less SB;replace XLW := fun k h => XLW k (SB k h);replace XM12 := fun k h => XM12 k (SB k h);clear SB;replace E := erx (Mut [(some gb14)]) w21;replace HF := HF.and (Per.blkN Bb20 (NotIn.cons Db20_b14 NotIn.nil))
       refine onx rfl (zb Tryd.underlying27 rfl sz3 (by decide) rfl (onx rfl (zg Tryd.underlying3 rfl rfl (HF.on E).here.1.1.2 rfl (onx rfl (yf en27 rfl ((inside_blk _ _ _ ((HF.on E).here.2) (by first | exact hrI.tg | exact hrI.d) f.regs).mono ?_))))));rintro e w22 ⟨rfl, hb⟩;refine ⟨_, rfl, ?_⟩;have Ec := Ext.of_below hb No;replace Bb14 := Bb14.extN Ec NotIn.nil
       replace E := E.trans Ec.no;refine onx rfl (jg rfl (za rfl (yd rfl rfl (rnx (zr rfl (fun t5 => ?_) (fun t5 => ?_))))))
       ·
        refine zy 111 (.bool true) rfl (congrArg Value.bool t5) ?_;replace t5 := of_decide_eq_false (not_t t5);refine srx (anx rfl (zv (zi (ze (ze (zi (ze (zu (rs := [.tmp 2]) (vs := [_]) rfl ⟨rfl, trivial⟩ ?_))))))));exact ⟨by rw [jt hmr (kv (by omega))]; rfl, (LW.step E XLW).toBelow⟩
       ·
        refine zy 111 (.bool false) rfl (congrArg Value.bool t5) ?_;replace t5 := of_decide_eq_true (not_f t5);refine zq (zf (zh (zj (mvx rfl (za rfl (qc rfl rfl (yg (by omega)) (avx rfl (yc ?_))))))))
        exact yt (k + 1) (by show f.rgs.length - (k + 1) < f.rgs.length - k; omega) ⟨rfl, rfl, rfl, trivial⟩ ⟨M12.step E XM12, ⟨by omega, okr_step hr hok (regOK_of (by omega))⟩⟩
  ·
   have hq4 := of_decide_eq_false hq4;refine qe (zm (zm (ya (zh (srx (anx rfl (zv (zu (rs := [.tmp 2]) (vs := [_]) rfl ⟨rfl, trivial⟩ ?_))))))));exact ⟨by rw [sound_yes hhead hall (fun j r hr => hok j r (by have := (List.getElem?_eq_some_iff.1 hr).1; omega) hr)]; rfl, (LW.step E XLW).toBelow⟩
end
end Go.Proofs.YtppdgjlmeahimaaDoor
namespace Go.Proofs.YtppdgjlmeahimaaDoor
open Go.RowKit
set_option maxRecDepth 100000
attribute [local irreducible] OW RS
structure U64A (n : Nat) (w : World) (A : Option Addr) (xs : List Nat) : Prop where
 len : 8 * xs.length ≤ 140737488355000
 in_ : ∀ x ∈ xs, x < 2 ^ 64
 row : RowS n w 1 (fun w g o (x : Nat) => w.cell? ⟨g, o, none⟩ = some (.int .u64 (x : Int))) A xs
theorem U64A.low {n : Nat} {X : Nat → Prop} {w w' : World} {A : Option Addr} {xs : List Nat} (h : U64A n w A xs) (k : Low n X w w') : U64A n w' A xs := ⟨h.len, h.in_, h.row.low fun _ _ _ hg hc => k.cell hg hc⟩
theorem Per.u64A {n : Nat} {X : Nat → Prop} {w : World} {A : Option Addr} {xs : List Nat} (h : U64A n w A xs) (hX : ∀ k, X k → n ≤ k) : Per X w (fun z => U64A n z A xs) := fun _ hb => h.low ⟨hb, hX⟩
theorem U64A.up {n m : Nat} {w : World} {A : Option Addr} {xs : List Nat} (h : U64A n w A xs) (hm : n ≤ m) : U64A m w A xs := ⟨h.len, h.in_, h.row.up hm fun _ _ _ hc => hc⟩
theorem U64A.cell {n : Nat} {w : World} {A : Option Addr} {xs : List Nat} (h : U64A n w A xs) {j : Nat} {x : Nat} (hj : xs[j]? = some x) : ∃ g o, A = some ⟨g, o, none⟩ ∧ g < n ∧ w.cell? ⟨g, o + j, none⟩ = some (.int .u64 (x : Int)) := by
 obtain ⟨g, o, e, hg, hc⟩ := h.row.at hj;exact ⟨g, o, e, hg, by rwa [Nat.mul_one] at hc⟩
theorem hasnt {xs : List Int} {n : Int} (h : ∀ (j : Nat) y, xs[j]? = some y → y ≠ n) : decide (n ∈ xs) = false := by
 refine decide_eq_false fun hm => ?_;obtain ⟨j, hj, e⟩ := List.getElem_of_mem hm;exact h j _ (List.getElem?_eq_getElem hj) e
theorem has_yes {xs : List Int} {n : Int} {k : Nat} {y : Int} (hy : xs[k]? = some y) (e : y = n) : decide (n ∈ xs) = true := decide_eq_true (e ▸ List.mem_of_getElem? hy)
theorem has_step {xs : List Int} {n : Int} {k : Nat} {y : Int} (hy : xs[k]? = some y) (hn : ∀ (j : Nat) y, j < k → xs[j]? = some y → y ≠ n) (h : y ≠ n) : ∀ (j : Nat) y, j < k + 1 → xs[j]? = some y → y ≠ n := fun j z hj hz => by
 rcases Nat.lt_or_ge j k with h1 | h1
 · exact hn j z h1 hz
 · obtain rfl : j = k := by omega
   rw [hy] at hz;obtain rfl := Option.some.inj hz;exact h
section
variable (w : World) (A : Option Addr) (c n0 : Nat) (xs : List Int) (hx : IntsA n0 w A xs)
include hx
theorem has_any (n : Int) : Calls Tryd.prog 48 #[.slice A xs.length c, .int .i64 n] w fun e w' => e = .returned (.bool (decide (n ∈ xs))) ∧ Below w.heap.size w w' := by
 have hll := hx.len;refine qs Tryd.func48 rfl Tryd.ntmps48 rfl ?_;have HF : Per (No) w (fun _ => True) := Per.true_;have LW := erx (No) w;have XLW := grx (No) w;have E := erx (No) w;replace HF := HF.on E;replace LW := LW.step E XLW;replace E := erx (No) w;replace HF := HF.and (Per.ints hx (fun _ h => h.elim));refine srx (anx rfl (zp (srx (anx rfl (yb ?_)))));replace HF := HF.on E
 replace LW := LW.step E XLW;replace E := erx (No) w;refine qu (ι := Nat) (fun k => [(0, .slice A xs.length c), (1, .int .i64 n), (5, .int .i64 ((k : Nat) : Int))]) (fun k w' => Ext (No) w w' ∧ (k ≤ xs.length ∧ ∀ (j : Nat) y, j < k → xs[j]? = some y → y ≠ n)) (fun k => xs.length - k) 0 ⟨rfl, rfl, rfl, trivial⟩ ⟨Ext.refl _ _, ⟨Nat.zero_le _, fun j r h => by omega⟩⟩ ?_
 rintro k w2 ⟨M1, ⟨hk, hn⟩⟩;have XM1 := grx (No) w;replace E := E.trans M1;replace HF := HF.on E;replace LW := LW.step E XLW;replace E := erx (No) w2;refine zp (srx (mvx rfl (mvx rfl (za rfl (yw Tryd.underlying28 rfl (za rfl (yy rfl rfl (rnx (zr rfl (fun hq => ?_) (fun hq => ?_))))))))))
 ·
  have hq := of_decide_eq_true hq;obtain ⟨y, hy⟩ : ∃ y, xs[k]? = some y := ⟨_, List.getElem?_eq_getElem (by omega)⟩;obtain ⟨g, o, hA, hg, hc⟩ := ((HF.on E).here.2).cell hy
  refine zq (zh (zp (yb (srx (mvx rfl (mvx rfl (za rfl (zk (j := k) Tryd.underlying28 sz3 (congrArg (fun z ↦ some (Value.slice z xs.length c)) hA) rfl rfl (by omega) (za rfl (zt Tryd.underlying3 rfl rfl hc (mvx rfl (za rfl (yn rfl rfl (rnx (zr rfl (fun h3 => ?_) (fun h3 => ?_))))))))))))))))
  ·
   have h3 := eq_of_beq h3;refine srx (anx rfl (zv (zi (ze (ze (zi (ze (zu (rs := [.tmp 4]) (vs := [_]) rfl ⟨rfl, trivial⟩ ?_))))))));exact ⟨by rw [has_yes hy h3]; rfl, (LW.step E XLW).toBelow⟩
  ·
   have h3 := beq_eq_false_iff_ne.1 h3;refine zq (zf (zh (zj (mvx rfl (za rfl (qc rfl rfl (yg (by omega)) (avx rfl (yc ?_))))))));exact yt (k + 1) (by show xs.length - (k + 1) < xs.length - k; omega) ⟨rfl, rfl, rfl, trivial⟩ ⟨M1.step E XM1, ⟨by omega, has_step hy hn h3⟩⟩
 ·
  have hq := of_decide_eq_false hq;refine qe (zm (zm (ya (zh (srx (anx rfl (zv (zu (rs := [.tmp 4]) (vs := [_]) rfl ⟨rfl, trivial⟩ ?_))))))));exact ⟨by rw [hasnt (fun j y hy => hn j y (by have := (List.getElem?_eq_some_iff.1 hy).1; omega) hy)]; rfl, (LW.step E XLW).toBelow⟩
end
theorem bit_out {ws : List Nat} {r : Nat} (h : ¬ r / 64 < ws.length) : gn ws r = false := by
 unfold gn;rw [List.getD_eq_getElem?_getD, List.getElem?_eq_none (by omega)];simp
theorem ot {x y : Nat} (hx : x < 2 ^ 64) (hy : y < 2 ^ 64) : IntKind.u64.wrap (BitVec.ofInt IntKind.u64.bits (x : Int) &&& BitVec.ofInt IntKind.u64.bits (y : Int)).toNat = ((x &&& y : Nat) : Int) := by
 have e : (BitVec.ofInt IntKind.u64.bits (x : Int) &&& BitVec.ofInt IntKind.u64.bits (y : Int)).toNat = x &&& y := by
  show (BitVec.ofInt 64 (x : Int) &&& BitVec.ofInt 64 (y : Int)).toNat = x &&& y
  rw [zsx, zsx, BitVec.toNat_and, BitVec.toNat_ofNat, BitVec.toNat_ofNat, Nat.mod_eq_of_lt (by omega), Nat.mod_eq_of_lt (by omega)]
 rw [e];have h1 : x &&& y ≤ x := Nat.and_le_left;have h2 : x < 18446744073709551616 := hx;exact xd (by omega)
theorem zxk {x k : Nat} (hk : k < 64) : ((x : Int).fdiv (2 ^ (min ((k : Nat) : Int).toNat IntKind.u64.bits)) : Int) = ((x >>> k : Nat) : Int) := by
 have e : min ((k : Nat) : Int).toNat IntKind.u64.bits = k := by
  show min k 64 = k
  omega
 rw [e, Nat.shiftRight_eq_div_pow, Int.fdiv_eq_ediv_of_nonneg _ (by exact Int.le_of_lt (Int.pow_pos (by decide)))];simp
theorem zgk (x k : Nat) : ((((x >>> k &&& 1 : Nat)) : Int) == 1) = x.testBit k := by
 unfold Nat.testBit;rw [Nat.and_comm 1];have h : x >>> k &&& 1 = 0 ∨ x >>> k &&& 1 = 1 := by
  have : x >>> k &&& 1 ≤ 1 := Nat.and_le_right;omega
 rcases h with h | h <;> rw [h] <;> rfl
section
variable (w : World) (A : Option Addr) (c n0 : Nat) (ws : List Nat) (hx : U64A n0 w A ws)
include hx
theorem is_any (r : Nat) (hr : r < 9223372036854775808) : Calls Tryd.prog 23 #[.slice A ws.length c, .int .i64 ((r : Nat) : Int)] w fun e w' => e = .returned (.bool (gn ws r)) ∧ Below w.heap.size w w' := by
 have hll := hx.len;refine qs Tryd.func23 rfl Tryd.ntmps23 rfl ?_;have HF : Per (No) w (fun _ => True) := Per.true_;have LW := erx (No) w;have XLW := grx (No) w;have E := erx (No) w;replace HF := HF.on E;replace LW := LW.step E XLW;replace E := erx (No) w;replace HF := HF.and (Per.u64A hx (fun _ h => h.elim))
 refine srx (anx rfl (srx (mvx rfl (za rfl (jd rfl rfl (mvx rfl (yx 7 rfl (fun h1 => ?_) (fun h1 => ?_))))))))
 ·
  refine onx rfl (zl rfl (onx rfl (xz rfl rfl (by decide) (show IntKind.i64.wrap (((r : Nat) : Int).tdiv 64) = ((r / 64 : Nat) : Int) from by rw [Int.tdiv_eq_ediv_of_nonneg (by omega)]; exact yg (by omega)) (onx rfl (zl rfl (onx rfl (yw Tryd.underlying55 rfl (onx rfl (yy rfl rfl (za rfl (zx rfl rfl (mvx rfl (yx 14 rfl (fun h2 => ?_) (fun h2 => ?_))))))))))))))
  ·
   have h2 := of_decide_eq_true h2;have hlt : r / 64 < ws.length := by omega
   obtain ⟨x, hy⟩ : ∃ x, ws[r / 64]? = some x := ⟨_, List.getElem?_eq_getElem hlt⟩;obtain ⟨g, o, hA, hg, hc⟩ := ((HF.on E).here.2).cell hy;have hx64 := hx.in_ x (List.mem_of_getElem? hy)
   refine onx rfl (zl rfl (onx rfl (zl rfl (onx rfl (xz rfl rfl (by decide) (show IntKind.i64.wrap (((r : Nat) : Int).tdiv 64) = ((r / 64 : Nat) : Int) from by rw [Int.tdiv_eq_ediv_of_nonneg (by omega)]; exact yg (by omega)) (onx rfl (zk (j := r / 64) Tryd.underlying55 zax (congrArg (fun z ↦ some (Value.slice z ws.length c)) hA) rfl rfl hlt (onx rfl (zt Tryd.underlying35 rfl rfl hc (onx rfl (zl rfl (onx rfl (zmv rfl rfl (by decide) (show (((r : Nat) : Int).tmod 64) = ((r % 64 : Nat) : Int) from by rw [Int.tmod_eq_emod_of_nonneg (by omega)]; rfl) (onx rfl (ow_conv Tryd.underlying84 Tryd.underlying3 rfl (xd (by omega)) (onx rfl (ow_shr rfl rfl (by omega) (zxk (by omega)) (onx rfl (kp rfl rfl (ot (y := 1) (by rw [Nat.shiftRight_eq_div_pow]; exact Nat.lt_of_le_of_lt (Nat.div_le_self _ _) hx64) (by decide)) ?_)))))))))))))))))))
   have e : gn ws r = x.testBit (r % 64) := by unfold gn; rw [List.getD_eq_getElem?_getD, hy]; rfl
   refine onx rfl (yn rfl rfl (za rfl (zx rfl rfl (anx rfl (zv (zu (rs := [.tmp 4]) (vs := [_]) rfl ⟨rfl, trivial⟩ ?_))))));exact ⟨by rw [e, ← zgk]; rfl, (LW.step E XLW).toBelow⟩
  ·
   have h2 := of_decide_eq_false h2
   refine za rfl (zc rfl (za rfl (zc rfl (za rfl (zc rfl (za rfl (zc rfl (za rfl (zc rfl (za rfl (zc rfl (za rfl (zc rfl (za rfl (zc rfl (za rfl (zc rfl (za rfl (zc rfl (za rfl (zc rfl (za rfl (yd rfl rfl (anx rfl (zv (zu (rs := [.tmp 4]) (vs := [_]) rfl ⟨rfl, trivial⟩ ?_))))))))))))))))))))))))))
   exact ⟨by rw [bit_out (by omega)]; rfl, (LW.step E XLW).toBelow⟩
 ·
  exact absurd (of_decide_eq_false h1) (by omega)
end
end Go.Proofs.YtppdgjlmeahimaaDoor
namespace Go.Proofs.YtppdgjlmeahimaaDoor
open Go.RowKit
set_option maxRecDepth 100000
instance decI64 (x : Int) : Decidable (I64 x) := by unfold I64; infer_instance
def kc (is : List (LIns × Option Addr × Nat)) : List Value := is.flatMap fun x => jr x.1 x.2.1 x.2.2
theorem zcq : ∀ {is : List (LIns × Option Addr × Nat)} {j i : Nat} {x : LIns × Option Addr × Nat} {v : Value}, is[j]? = some x → (jr x.1 x.2.1 x.2.2)[i]? = some v → (kc is)[j * 7 + i]? = some v
 | [], _, _, _, _, h, _ => by cases h
 | y :: is, 0, i, x, v, h, hv => by
  obtain rfl := Option.some.inj h;show (jr _ _ _ ++ kc is)[_]? = _
  have hi : i < (jr y.1 y.2.1 y.2.2).length := (List.getElem?_eq_some_iff.1 hv).1;rw [List.getElem?_append_left (by omega), Nat.zero_mul, Nat.zero_add, hv]
 | y :: is, j + 1, i, x, v, h, hv => by
  show (jr _ _ _ ++ kc is)[_]? = _
  have hl : (jr y.1 y.2.1 y.2.2).length = 7 := rfl;rw [List.getElem?_append_right (by omega), hl, show (j + 1) * 7 + i - 7 = j * 7 + i by omega];exact zcq (by simpa using h) hv
theorem insA_of {w : World} {n g : Nat} {is : List (LIns × Option Addr × Nat)} (hg : g < n) (hc : ∀ j v, (kc is)[j]? = some v → w.cell? ⟨g, j, none⟩ = some v) (hl : 72 * is.length ≤ 140737488351232) (hi : ∀ x ∈ is, InsI x.1 ∧ 8 * x.1.l.length ≤ 140737488351232 ∧ IntsA n w x.2.1 x.1.l) : InsA n w (some ⟨g, 0, none⟩) (is.map (·.1)) := by
 refine ⟨by rw [List.length_map]; exact hl, fun _ => ⟨g, 0, rfl, hg, fun j x hx => ?_⟩⟩;rw [List.getElem?_map] at hx;cases hy : is[j]? with
 | none => rw [hy] at hx; cases hx
 | some y =>
  rw [hy] at hx;obtain rfl := Option.some.inj hx;obtain ⟨h1, h2, h3⟩ := hi y (List.mem_of_getElem? hy);refine ⟨h1, y.2.1, y.2.2, h2, h3, fun i v hv => ?_⟩;rw [Nat.zero_add];exact hc _ _ (zcq hy hv)
theorem IntsA.nil (n : Nat) (w : World) (A : Option Addr) : IntsA n w A [] := ⟨by decide, fun x h => (by cases h), fun h => absurd rfl h⟩
theorem RegsA.nil (n : Nat) (w : World) (A : Option Addr) : RegsA n w A [] := ⟨by decide, fun x h => (by cases h), fun h => absurd rfl h⟩
theorem StrsA.nil (n : Nat) (w : World) (A : Option Addr) : StrsA n w A [] := ⟨by decide, fun x h => (by cases h), fun h => absurd rfl h⟩
theorem ConsA.nil (n : Nat) (w : World) (A : Option Addr) : ConsA n w A [] := ⟨by decide, fun x h => (by cases h), fun h => absurd rfl h⟩
theorem InsA.nil (n : Nat) (w : World) (A : Option Addr) : InsA n w A [] := ⟨by decide, fun h => absurd rfl h⟩
theorem cons_one {w : World} {n g : Nat} {k : Int} {s : ByteArray} (hg : g < n) (h : Blk w g 37 #[.int .i64 k, .string s]) (hk : I64 k) (hs : s.size ≤ maxLen) : ConsA n w (some ⟨g, 0, none⟩) [(k, s)] := by
 refine ⟨by rw [List.length_singleton]; decide, fun x hx => ?_, fun _ => ⟨g, 0, rfl, hg, fun j x hx => ?_⟩⟩
 · rw [List.mem_singleton] at hx; subst hx; exact ⟨hk, hs⟩
 · match j, hx with
   | 0, hx =>
    obtain rfl := Option.some.inj hx;intro i v hv;show w.cell? ⟨g, 0 + 0 * 2 + i, none⟩ = _
    rw [show 0 + 0 * 2 + i = i by omega, h.cell, List.getElem?_toArray];exact hv
   | j + 1, hx => cases hx
theorem gg {w : World} {base n c s : Nat} {e : TypeId} {A : Option Addr} {xs : List Value} (h : w.ownsRow base e s (.slice A n c) n xs) (h0 : 0 < n) : ∃ g, A = some ⟨g, 0, none⟩ ∧ base ≤ g ∧ g < w.heap.size ∧ ∀ j u, xs[j]? = some u → w.cell? ⟨g, j, none⟩ = some u := by
 rcases h.2 with ⟨_, rfl⟩ | ⟨g, cap, cur, hv, hg, hh, hn, _, hs, ht⟩
 · omega
 · cases hv
   refine ⟨g, rfl, hg, (Array.getElem?_eq_some_iff.1 hh).1, fun j u hj => ?_⟩;unfold World.cell?;simp only [hh, Option.isSome_none, Bool.false_eq_true, if_false]
   rw [← ht, List.getElem?_take] at hj;split at hj
   · rw [← hj, Array.getElem?_toList]
   · cases hj
theorem fill4x7 (a0 a1 a2 a3 a4 a5 a6 a7 a8 a9 a10 a11 a12 a13 a14 a15 a16 a17 a18 a19 a20 a21 a22 a23 a24 a25 a26 a27 : Value) : Instr.fill (fun i => some (i * 7, 7)) ((Array.range (4 * 7)).map ((if 4 * 7 = 0 then #[] else (Value.agg #[.int .i64 0, .int .i64 0, .int .i64 0, .int .i64 0, .int .i64 0, .int .i64 0, .slice none 0 0]).cells)[· % (if 4 * 7 = 0 then #[] else (Value.agg #[.int .i64 0, .int .i64 0, .int .i64 0, .int .i64 0, .int .i64 0, .int .i64 0, .slice none 0 0]).cells).size]!)) [(0, .agg #[a0, a1, a2, a3, a4, a5, a6]), (1, .agg #[a7, a8, a9, a10, a11, a12, a13]), (2, .agg #[a14, a15, a16, a17, a18, a19, a20]), (3, .agg #[a21, a22, a23, a24, a25, a26, a27])] = some #[a0, a1, a2, a3, a4, a5, a6, a7, a8, a9, a10, a11, a12, a13, a14, a15, a16, a17, a18, a19, a20, a21, a22, a23, a24, a25, a26, a27] := by
 rw [ym];kernel_rfl
theorem fill1x7 (a0 a1 a2 a3 a4 a5 a6 : Value) : Instr.fill (fun i => some (i * 7, 7)) ((Array.range (1 * 7)).map ((if 1 * 7 = 0 then #[] else (Value.agg #[.int .i64 0, .int .i64 0, .int .i64 0, .int .i64 0, .int .i64 0, .int .i64 0, .slice none 0 0]).cells)[· % (if 1 * 7 = 0 then #[] else (Value.agg #[.int .i64 0, .int .i64 0, .int .i64 0, .int .i64 0, .int .i64 0, .int .i64 0, .slice none 0 0]).cells).size]!)) [(0, .agg #[a0, a1, a2, a3, a4, a5, a6])] = some #[a0, a1, a2, a3, a4, a5, a6] := by
 rw [ym];kernel_rfl
def thrP (g3 g5 : Nat) : Pl := ⟨none, 0, some ⟨g3, 0, none⟩, 1, some ⟨g5, 0, none⟩, 4, none, 0⟩
def ThrB (w : World) (g3 g5 : Nat) : Prop := Blk w g3 37 #[.int .i64 1, .string ⟨#[49]⟩] ∧ Blk w g5 41 (kc (thrF.ins.map fun i => (i, none, 0))).toArray
theorem Per.thrB {X : Nat → Prop} {w : World} {g3 g5 : Nat} (h : ThrB w g3 g5) (h3 : ¬ X g3) (h5 : ¬ X g5) : Per X w (fun z => ThrB z g3 g5) := (Per.blk h.1 h3).and (Per.blk h.2 h5)
theorem thr_mem {w : World} {g3 g5 : Nat} (h3 : Blk w g3 37 #[.int .i64 1, .string ⟨#[49]⟩]) (h5 : Blk w g5 41 (kc (thrF.ins.map fun i => (i, none, 0))).toArray) : FnA w.heap.size w (thrP g3 g5) thrF := by
 refine ⟨by decide, by decide, by decide, by decide, by decide, StrsA.nil _ _ _, cons_one h3.lt h3 (by decide) (by decide), ?_, RegsA.nil _ _ _, Nat.le_refl _⟩;have h := insA_of (w := w) (n := w.heap.size) (g := g5) (is := thrF.ins.map fun i => (i, none, 0)) h5.lt (fun j v hv => by rw [h5.cell, List.getElem?_toArray]; exact hv) (by decide) (fun x hx => by
  simp only [thrF, List.map_cons, List.map_nil, List.mem_cons, List.not_mem_nil, or_false] at hx
  rcases hx with rfl | rfl | rfl | rfl <;> exact ⟨⟨by decide, by decide, by decide, by decide, by decide, by decide⟩, by decide, IntsA.nil _ _ _⟩)
 exact h
theorem ThrB.fn {w : World} {g3 g5 : Nat} (h : ThrB w g3 g5) : FnA w.heap.size w (thrP g3 g5) thrF := thr_mem h.1 h.2
theorem yfv {w : World} {g n : Nat} {xs : List Int} (hb : Blk w g 3 (yz xs).toArray) (hg : g < n) (hl : 8 * xs.length ≤ 140737488355000) (hi : ∀ x ∈ xs, I64 x) : IntsA n w (some ⟨g, 0, none⟩) xs :=
 ⟨hl, hi, fun _ => ⟨g, 0, rfl, hg, fun j x hx => by
  show w.cell? ⟨g, 0 + j * 1, none⟩ = _
  rw [hb.cell, List.getElem?_toArray, Nat.zero_add, Nat.mul_one];unfold yz;rw [List.getElem?_map, hx]; rfl⟩⟩
section
variable {P : Program} {N : Nat} {Q : Exit → Act → World → Prop} {σ : Env} {w0 : World} {l : List Oper} {F : Nat → Fx} {q : Nat} {Z : Nat → Prop}
def Known1 (ops : Array Oper) (Z : Nat → Prop) (F : Nat → Fx) (w0 : World) (vs : Nat → Value) (X : Nat → Prop) (w : World) (i : Nat) : Prop :=
 Ext Z w0 w ∧ (∀ k, X k → k < w.heap.size) ∧ ∀ j ∈ vf ops i, Left X w (F j) (vs j)
theorem Known1.dep {ops : Array Oper} {vs : Nat → Value} {X : Nat → Prop} {w : World} {i : Nat} (K : Known1 ops Z F w0 vs X w i) (j : Nat) (h : memN j (vf ops i) = true) (_ : True = True) (_ : True = True) : Left X w (F j) (vs j) := K.2.2 j (gk.1 h)
def Step1 (P : Program) (N : Nat) (ops : Array Oper) (Q : Exit → Act → World → Prop) (σ : Env) (q : Nat) (Z : Nat → Prop) (F : Nat → Fx) (w0 : World) (i : Nat) (o : Oper) : Prop :=
 ∀ vs X w, Known1 ops Z F w0 vs X w i → (Nat.beq i q = true → Ext No w0 w) → OW P N ops Q o (xm σ ops vs i) w (fun v w' => match Nat.beq i q with
  | true => Ext Z w w' ∧ Left No w' (F i) v
  | false => Below w.heap.size w w' ∧ Left X w' (F i) v)
def Steps1 (P : Program) (N : Nat) (ops : Array Oper) (Q : Exit → Act → World → Prop) (σ : Env) (q : Nat) (Z : Nat → Prop) (F : Nat → Fx) (w0 : World) : Nat → List Oper → Prop
 | _, [] => True
 | i, o :: l => Step1 P N ops Q σ q Z F w0 i o ∧ Steps1 P N ops Q σ q Z F w0 (i + 1) l
theorem steps1_at {ops : Array Oper} : ∀ {l : List Oper} {k : Nat}, Steps1 P N ops Q σ q Z F w0 k l → ∀ {i : Nat} {o : Oper}, l[i]? = some o → Step1 P N ops Q σ q Z F w0 (k + i) o
 | [], _, _, i, o, h => by simp at h
 | x :: l, k, hs, 0, o, h => by simp only [List.getElem?_cons_zero, Option.some.injEq] at h; subst h; exact hs.1
 | x :: l, k, hs, i + 1, o, h => by
  have := steps1_at hs.2 (i := i) (o := o) (by simpa using h);rwa [show k + 1 + i = k + (i + 1) by omega] at this
def Yet (listed : Array Bool) (q : Nat) (Z : Nat → Prop) (k : Nat) : Prop := ¬ Ran listed q ∧ Z k
structure Mid1 (N : Nat) (l : List Oper) (σ : Env) (w0 : World) (q : Nat) (Z : Nat → Prop) (F : Nat → Fx) (listed : Array Bool) (a : Act) (w : World) (vs : Nat → Value) : Prop where
 size : listed.size = l.length
 defers : a.defers = []
 tmps : a.tmps.size = N
 kept : ∀ t v, lk t (cutE (dstL l) σ) = some v → a.tmps[t]? = some v
 ran : ∀ i d, Ran listed i → zdk l.toArray i = some d → a.tmps[d]? = some (vs i)
 old : ∀ i d v, ¬ Ran listed i → zdk l.toArray i = some d → lk d σ = some v → a.tmps[d]? = some v
 down : ∀ i, Ran listed i → ∀ j ∈ vf l.toArray i, Ran listed j
 ext : Ext (fun k => Ran listed q ∧ Z k) w0 w
 facts : ∀ i, Ran listed i → Left (Yet listed q Z) w (F i) (vs i)
theorem Mid1.at_ {listed : Array Bool} {a : Act} {w : World} {vs : Nat → Value} (m : Mid1 N l σ w0 q Z F listed a w vs) {i : Nat} (hi : ¬ Ran listed i) (hd : ∀ j ∈ vf l.toArray i, Ran listed j) : At N (xm σ l.toArray vs i) a := by
 refine ⟨m.defers, m.tmps, fun t v h => ?_⟩;rcases oe h with h | h
 · obtain ⟨j, hj, hjd, rfl⟩ := znk h;exact m.ran j t (hd j hj) hjd
 · rcases oe h with h | h
   · obtain ⟨j, _, hjd, hji, hv⟩ := zyv h;exact m.old j t v (fun hr => hi (m.down j hr i hji)) hjd hv
   · exact m.kept t v h
theorem Mid1.step (hrow : zdv 0 l [] = true) {listed : Array Bool} {a : Act} {w w' : World} {vs : Nat → Value} (m : Mid1 N l σ w0 q Z F listed a w vs) {i : Nat} {o : Oper} (ho : l[i]? = some o) (hi : ¬ Ran listed i) (hd : ∀ j ∈ vf l.toArray i, Ran listed j)
 (hN : ∀ d, o.dst = some d → d < N) (v : Value) (hext : Ext (fun k => Ran (listed.setIfInBounds i true) q ∧ Z k) w0 w')
 (hfacts : ∀ j, Ran listed j → Left (Yet (listed.setIfInBounds i true) q Z) w' (F j) (vs j)) (hfact : Left (Yet (listed.setIfInBounds i true) q Z) w' (F i) v) :
 Mid1 N l σ w0 q Z F (listed.setIfInBounds i true) (a.put o.dst v) w' (fun j => if j = i then v else vs j) := by
 have hil : i < listed.size := by rw [m.size]; exact (List.getElem?_eq_some_iff.1 ho).1
 have hne : ∀ {j}, Ran listed j → j ≠ i := fun h e => hi (e ▸ h);have hput : ∀ t, o.dst ≠ some t → ∀ v', a.tmps[t]? = some v' → (a.put o.dst v).tmps[t]? = some v' := by
  intro t ht v' h;cases hd : o.dst with
  | none => exact h
  | some d =>
   have : d ≠ t := fun e => ht (by rw [hd, e]);simpa [Act.put, Array.getElem?_setIfInBounds_ne this] using h
 refine ⟨by simpa using m.size, ?_, ?_, ?_, ?_, ?_, ?_, hext, ?_⟩
 · cases hd : o.dst <;> exact m.defers
 · cases hd : o.dst
   · exact m.tmps
   · simpa [Act.put] using m.tmps
 · intro t u h;refine hput t (fun e => ?_) u (m.kept t u h);exact (znv h).2 (mem_dstL (List.mem_of_getElem? ho) e)
 · intro j d hj hjd;rcases (jf hil).1 hj with rfl | hj
   · rw [zkq ho] at hjd;have hlt := hN d hjd;rw [if_pos rfl, hjd];have : d < a.tmps.size := by rw [m.tmps]; exact hlt
     simp [Act.put, this]
   · rw [if_neg (hne hj)];refine hput d (fun e => hne hj ?_) _ (m.ran j d hj hjd);exact yax hrow hjd (by rw [zkq ho]; exact e)
 · intro j d u hj hjd hu;have hj' : ¬ Ran listed j := fun h => hj ((jf hil).2 (Or.inr h));have hji : j ≠ i := fun e => hj ((jf hil).2 (Or.inl e));refine hput d (fun e => hji ?_) _ (m.old j d u hj' hjd hu);exact yax hrow hjd (by rw [zkq ho]; exact e)
 · intro j hj k hk;refine (jf hil).2 (Or.inr ?_);rcases (jf hil).1 hj with rfl | hj
   · exact hd k hk
   · exact m.down j hj k hk
 · intro j hj;rcases (jf hil).1 hj with rfl | hj
   · rw [if_pos rfl]; exact hfact
   · rw [if_neg (hne hj)]; exact hfacts j hj
theorem wpAny_mid1 (hrow : zdv 0 l [] = true) (hdl : ∀ (i : Nat) (o : Oper) (d : Nat), l[i]? = some o → o.dst = some d → d < N) (hZ : ∀ k, Z k → k < w0.heap.size)
 (hsteps : Steps1 P N l.toArray Q σ q Z F w0 0 l) (hend : ∀ listed a w vs, (∀ i, i < l.length → Ran listed i) → Mid1 N l σ w0 q Z F listed a w vs → Q .normal a w) :
 ∀ (fuel : Nat) (listed : Array Bool) (a : Act) (w : World) (vs : Nat → Value), listed.toList.count false ≤ fuel → Mid1 N l σ w0 q Z F listed a w vs → wpAny P .any l.toArray Q fuel listed a w := by
 have hall : ∀ (listed : Array Bool) (a : Act) (w : World) (vs : Nat → Value), Mid1 N l σ w0 q Z F listed a w vs → Region.ready .any l.toArray listed = [] → Q .normal a w := by
  intro listed a w vs m hr;refine hend listed a w vs (fun i hi => ?_) m;induction i using Nat.strongRecOn with
  | _ i ih =>
   rcases Classical.em (Ran listed i) with h | h
   · exact h
   · exfalso
     have hil : i < listed.size := by rw [m.size]; exact hi
     have : i ∈ Region.ready .any l.toArray listed := by
      refine mem_ready.2 ⟨?_, l[i], by simp [hi], fun e he hb => ?_⟩
      · unfold Ran at h;simp [hil] at h ⊢
        exact h
      · have hlt := (kw hrow (i := i) (o := l[i]) (by simp [hi])).1 e.on (kh (by simpa using he) hb);exact ih e.on (by omega) (by omega)
     rw [hr] at this;cases this
 intro fuel;induction fuel with
 | zero =>
  intro listed a w vs hc m;have hr : Region.ready .any l.toArray listed = [] := by
   apply List.eq_nil_iff_forall_not_mem.2
   intro j hj;have h0 := (mem_ready.1 hj).1;have hlt := (yhk h0).2;have : false ∈ listed.toList := by
    have e : listed[j] = false := by simpa [hlt] using h0
    rw [← e]; exact Array.getElem_mem_toList hlt
   have := List.count_pos_iff.2 this;omega
  exact ⟨hr, hall listed a w vs m hr⟩
 | succ fuel ih =>
  intro listed a w vs hc m;refine ⟨hall listed a w vs m, fun i hi => ?_⟩;obtain ⟨h0, o, ho, hdep⟩ := mem_ready.1 hi;have ho' : l[i]? = some o := by simpa using ho
  obtain ⟨hni, hil⟩ := yhk h0;have hd : ∀ j ∈ vf l.toArray i, Ran listed j := by
   intro j hj;rw [opDeps_at ho'] at hj;obtain ⟨e, he, hb, rfl⟩ := kq hj;exact hdep e (by simpa using he) hb
  have hcount : (listed.setIfInBounds i true).toList.count false ≤ fuel := by
   have hf : listed.toList[i]? = some false := by
    have e : listed[i] = false := by simpa [hil] using h0
    simp [hil, e]
   have := zev listed.toList i hf;rw [Array.toList_setIfInBounds];omega
  have hat := m.at_ hni hd;have hs := steps1_at hsteps ho';rw [Nat.zero_add] at hs;have hless : ∀ k, Yet (listed.setIfInBounds i true) q Z k → Yet listed q Z k := fun k hk => ⟨fun h => hk.1 ((jf hil).2 (Or.inr h)), hk.2⟩;have hw := hs vs (Yet listed q Z) w ⟨m.ext.mono fun k hk _ => hk.2, fun k hk => Nat.lt_of_lt_of_le (hZ k hk.2) m.ext.size, fun j hj => m.facts j (hd j hj)⟩ (fun he => by
   have he := Nat.eq_of_beq_eq_true he;subst he;exact m.ext.mono fun k hk _ => absurd hk.1 hni) a hat
  have main : ∀ v w', (match Nat.beq i q with
   | true => Ext Z w w' ∧ Left No w' (F i) v
   | false => Below w.heap.size w w' ∧ Left (Yet listed q Z) w' (F i) v) → wpAny P .any l.toArray Q fuel (listed.setIfInBounds i true) (a.put o.dst v) w' := by
   intro v w' hp;split at hp
   · rename_i he
     have he := Nat.eq_of_beq_eq_true he;subst he;have hno : ∀ k, Yet (listed.setIfInBounds i true) i Z k → No k := fun k hk => hk.1 ((jf hil).2 (Or.inl rfl))
     refine ih _ _ _ _ hcount (m.step hrow ho' hni hd (fun d hd => hdl i o d ho' hd) v ((m.ext.mono (Y := fun k => Ran (listed.setIfInBounds i true) i ∧ Z k) fun k hk _ => absurd hk.1 hni).step hp.1 fun k hk => Or.inl ⟨(jf hil).2 (Or.inl rfl), hk⟩) (fun j hj => ?_) (hp.2.less hno));exact ((m.facts j hj).on (hp.1.mono fun k hk _ => ⟨hni, hk⟩)).less hless
   · refine ih _ _ _ _ hcount (m.step hrow ho' hni hd (fun d hd => hdl i o d ho' hd) v ((m.ext.mono (Y := fun k => Ran (listed.setIfInBounds i true) q ∧ Z k) fun k hk _ => ⟨(jf hil).2 (Or.inr hk.1), hk.2⟩).trans (Ext.of_below hp.1 _)) (fun j hj => ?_) (hp.2.less hless));exact ((m.facts j hj).on (Ext.of_below hp.1 _)).less hless
  unfold wpOp;rw [ho];simp only []
  split
  · rename_i hwn
    rw [if_pos hwn] at hw;left
    refine Oper.wp_mono ?_ hw;rintro a' w' ⟨v, rfl, hp⟩;exact main v w' hp
  · rename_i hwn
    rw [if_neg hwn] at hw;exact main _ _ hw
theorem aw_one (q : Nat) (Z : Nat → Prop) (hZ : ∀ k, Z k → k < w0.heap.size) (F : Nat → Fx) (hok : (zdv 0 l [] && dstOK N l) = true)
 (hsteps : Steps1 P N l.toArray Q σ q Z F w0 0 l)
 (hend : ∀ vs w', Ext Z w0 w' → True → zpz No [] F vs w' 0 l → True → True → EW N Q .normal (envEnd σ l vs) w') : AK P N 0 l Q σ w0 := by
 simp only [Bool.and_eq_true] at hok
 obtain ⟨hrow, hdl⟩ := hok;intro a ha;rw [show trL 0 l.length = Array.replicate l.toArray.size false by simp [trL]];have hno : ∀ i, ¬ Ran (Array.replicate l.toArray.size false) i := fun i h => by
  unfold Ran at h;by_cases hi : i < l.length <;> simp [hi] at h
 have m0 : Mid1 N l σ w0 q Z F (Array.replicate l.toArray.size false) a w0 (fun _ => undef) :=
  ⟨by simp, ha.defers, ha.size, fun t v h => ha.get t v (znv h).1, fun i d h => absurd h (hno i), fun i d v _ _ h => ha.get d v h, fun i h => absurd h (hno i), Ext.refl _ _, fun i h => absurd h (hno i)⟩
 refine wpAny_mid1 (l := l) hrow (yaz hdl) hZ hsteps ?_ _ _ _ _ _ ?_ m0
 · intro listed a w' vs hall m;have hlen : ∀ i (o : Oper), l[i]? = some o → Ran listed i := fun i o h => hall i (List.getElem?_eq_some_iff.1 h).1;refine hend vs w' (m.ext.mono fun k hk _ => hk.2) trivial ?_ trivial trivial a ?_
   · have key : ∀ (r : List Oper) (k : Nat), (∀ (i : Nat) (o : Oper), r[i]? = some o → l[k + i]? = some o) → zpz No [] F vs w' k r := by
      intro r;induction r with
      | nil => intro k _; trivial
      | cons o r ih =>
       intro k hk;exact ⟨(m.facts k (hlen k o (by simpa using hk 0 o rfl))).no, ih (k + 1) (fun i o' h => by have := hk (i + 1) o' (by simpa using h); rwa [show k + (i + 1) = k + 1 + i by omega] at this)⟩
     exact key l 0 (fun i o h => by simpa using h)
   · refine ⟨m.defers, m.tmps, fun t v h => ?_⟩;rcases oe h with h | h
     · obtain ⟨j, _, hjd, rfl⟩ := znk h;obtain ⟨o, ho, _⟩ := zqv hjd;exact m.ran j t (hlen j o ho) hjd
     · exact m.kept t v h
 · simp
end
end Go.Proofs.YtppdgjlmeahimaaDoor
namespace Go.Proofs.YtppdgjlmeahimaaDoor
open Go.RowKit
set_option maxRecDepth 100000
attribute [local irreducible] OW RS
theorem ycx (w : World) : Calls Tryd.prog 18 #[] w fun e w' => ∃ g3 g5, e = .returned (fnV (thrP g3 g5) thrF) ∧ ThrB w' g3 g5 ∧ w.heap.size ≤ g3 ∧ w.heap.size ≤ g5 ∧ Below w.heap.size w w' := by
 refine qs Tryd.func18 rfl Tryd.ntmps18 rfl ?_;have HF : Per (No) w (fun _ => True) := Per.true_;have LW := erx (No) w;have XLW := grx (No) w;have E := erx (No) w;refine srx (za rfl (qb zr27 ?_));intro gb1 w2 Bb1 Eb1 Gb1;have Gb1 : _ ≤ gb1 := Nat.le_trans E.size Gb1;have GLb1 := Nat.le_trans LW.size Gb1;replace E := E.trans Eb1.no;replace HF := HF.cons (zz Gb1)
 replace E := E.cons (some gb1);replace XLW := Mut.grow XLW (fun k e => Or.inr (Nat.le_trans LW.size ((zz Gb1) k e)));refine rnx (srx (za rfl (vo (cs := #[.int .i64 1, .string ⟨#[49]⟩]) pl37 zr37 rfl rfl (za rfl (yl (cs := #[.int .i64 1, .string ⟨#[49]⟩]) Tryd.underlying23 sz37 zr37 (by decide) rfl (by rw [ym]; rfl) ?_)))));intro gb3 w4 Bb3 Eb3 Gb3
 have Db3_b1 : Apart (some gb3) (some gb1) := Apart.of_lt (vd Bb1.lt) Gb3;have Db1_b3 := Db3_b1.symm;have Gb3 : _ ≤ gb3 := Nat.le_trans E.size Gb3;have GLb3 := Nat.le_trans LW.size Gb3;replace Bb1 := Bb1.extN Eb3 NotIn.nil;replace E := E.trans Eb3.no;replace HF := HF.cons (zz Gb3);replace E := E.cons (some gb3)
 replace XLW := Mut.grow XLW (fun k e => Or.inr (Nat.le_trans LW.size ((zz Gb3) k e)));replace HF := HF.on E;replace LW := LW.step E XLW;have SB : ∀ q9, Mut [(some gb1)] q9 → Mut [(some gb3), (some gb1)] q9 := (Mut.skip (Mut.keep Mut.nil_));replace HF := HF.less SB;replace XLW := fun k h => XLW k (SB k h);clear SB;replace E := erx (Mut [(some gb1)]) w4
 replace HF := HF.and (Per.blkN Bb3 (NotIn.cons Db3_b1 NotIn.nil))
 refine za rfl (vo (cs := #[.int .i64 3, .int .i64 0, .int .i64 0, .int .i64 0, .int .i64 0, .int .i64 0, .slice none 0 0]) pl41 zpk rfl rfl (za rfl (vo (cs := #[.int .i64 3, .int .i64 1, .int .i64 0, .int .i64 0, .int .i64 0, .int .i64 0, .slice none 0 0]) pl41 zpk rfl rfl (za rfl (vo (cs := #[.int .i64 14, .int .i64 2, .int .i64 0, .int .i64 1, .int .i64 0, .int .i64 1, .slice none 0 0]) pl41 zpk rfl rfl (za rfl (vo (cs := #[.int .i64 41, .int .i64 0, .int .i64 2, .int .i64 0, .int .i64 0, .int .i64 0, .slice none 0 0]) pl41 zpk rfl rfl (za rfl (yl (cs := #[.int .i64 3, .int .i64 0, .int .i64 0, .int .i64 0, .int .i64 0, .int .i64 0, .slice none 0 0, .int .i64 3, .int .i64 1, .int .i64 0, .int .i64 0, .int .i64 0, .int .i64 0, .slice none 0 0, .int .i64 14, .int .i64 2, .int .i64 0, .int .i64 1, .int .i64 0, .int .i64 1, .slice none 0 0, .int .i64 41, .int .i64 0, .int .i64 2, .int .i64 0, .int .i64 0, .int .i64 0, .slice none 0 0]) Tryd.underlying24 vx zpk (by decide) rfl (fill4x7 (.int .i64 3) (.int .i64 0) (.int .i64 0) (.int .i64 0) (.int .i64 0) (.int .i64 0) (.slice none 0 0) (.int .i64 3) (.int .i64 1) (.int .i64 0) (.int .i64 0) (.int .i64 0) (.int .i64 0) (.slice none 0 0) (.int .i64 14) (.int .i64 2) (.int .i64 0) (.int .i64 1) (.int .i64 0) (.int .i64 1) (.slice none 0 0) (.int .i64 41) (.int .i64 0) (.int .i64 2) (.int .i64 0) (.int .i64 0) (.int .i64 0) (.slice none 0 0)) ?_)))))))))
 intro gb5 w6 Bb5 Eb5 Gb5;have Db5_b1 : Apart (some gb5) (some gb1) := Apart.of_lt (vd Bb1.lt) Gb5;have Db1_b5 := Db5_b1.symm;have Gb5 : _ ≤ gb5 := Nat.le_trans E.size Gb5;have GLb5 := Nat.le_trans LW.size Gb5;replace Bb1 := Bb1.extN Eb5 NotIn.nil;replace E := E.trans Eb5.no;replace HF := HF.cons (zz Gb5);replace E := E.cons (some gb5)
 replace XLW := Mut.grow XLW (fun k e => Or.inr (Nat.le_trans LW.size ((zz Gb5) k e)));replace HF := HF.on E;replace LW := LW.step E XLW;have SB : ∀ q9, Mut [(some gb1)] q9 → Mut [(some gb5), (some gb1)] q9 := (Mut.skip (Mut.keep Mut.nil_));replace HF := HF.less SB;replace XLW := fun k h => XLW k (SB k h);clear SB;replace E := erx (Mut [(some gb1)]) w6
 replace HF := HF.and (Per.blkN Bb5 (NotIn.cons Db5_b1 NotIn.nil));refine za rfl (vo (cs := #[.string ⟨#[]⟩, .int .i64 0, .int .i64 3, .int .i64 0, .bool false, .int .i64 0, .slice none 0 0, .slice (some ⟨gb3, 0, none⟩) 1 1, .slice (some ⟨gb5, 0, none⟩) 4 4, .slice none 0 0]) pl27 zr27 rfl rfl (zw (qz jp rfl rfl Bb1 rfl rfl rfl ?_)));intro w7 Bx Eb1
 replace Bb1 : Blk w7 gb1 27 #[.string ⟨#[]⟩, .int .i64 0, .int .i64 3, .int .i64 0, .bool false, .int .i64 0, .slice none 0 0, .slice (some ⟨gb3, 0, none⟩) 1 1, .slice (some ⟨gb5, 0, none⟩) 4 4, .slice none 0 0] := Bx;replace E := E.step1 Eb1 Mut.head;replace HF := HF.on E;replace LW := LW.step E XLW;have SB : ∀ q9, No q9 → Mut [(some gb1)] q9 := (Mut.skip Mut.nil_);replace HF := HF.less SB
 replace XLW := fun k h => XLW k (SB k h);clear SB;replace E := erx (No) w7;replace HF := HF.and (Per.blkN Bb1 NotIn.nil);refine rnx (zv (zu (rs := [.cell 0 27]) (vs := [_]) rfl ⟨⟨_, rfl, qj Tryd.underlying27 rfl jp (HF.on E).here.2 rfl⟩, trivial⟩ ?_));exact ⟨_, _, rfl, ⟨(HF.on E).here.1.1.2, (HF.on E).here.1.2⟩, GLb3, GLb5, (LW.step E XLW).toBelow⟩
end Go.Proofs.YtppdgjlmeahimaaDoor
