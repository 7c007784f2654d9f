/- Texts of this claim. -/
import Derived.Test.YtjdcjdohghkcgaaGreatDoorX10
namespace Go.Proofs.YtjdcjdohghkcgaaGreatDoor
open Go.RowKit
set_option maxRecDepth 100000
def Ten (w : World) : Prop := ∃ cs, w.var? Tryz.prog "internal/strconv.pow10Tab" = some cs ∧ cs[728]? = some (.int .u64 10240000000000000000) ∧ cs[729]? = some (.int .u64 0)
theorem ten_named : Tryz.prog.globalNamed "internal/strconv.pow10Tab" = some 13 := by kernel_rfl
theorem Ten.lt {w : World} (h : Ten w) : 13 < w.heap.size := by
 obtain ⟨cs, h0, _⟩ := h;unfold World.var? at h0;rw [ten_named, Option.bind_some] at h0;rcases Nat.lt_or_ge 13 w.heap.size with h' | h'
 · exact h'
 · rw [Array.getElem?_eq_none h'] at h0; cases h0
theorem Ten.stays {w b : World} (h : Ten w) (hb : Below w.heap.size w b) : Ten b := by
 have hlt := h.lt;obtain ⟨cs, h0, h1⟩ := h;refine ⟨cs, ?_, h1⟩;unfold World.var? at h0 ⊢;rw [ten_named, Option.bind_some] at h0 ⊢;rw [hb.block _ hlt];exact h0
theorem Ten.all {w : World} (h : Ten w) (b : World) (hb : Below w.heap.size w b) : Ten16 b := by
 obtain ⟨cs, h0, h1, h2⟩ := h.stays hb;exact ⟨(World.var?_cell ten_named h0 728).trans h1, (World.var?_cell ten_named h0 729).trans h2⟩
theorem later {F : World → Prop} {w w1 : World} (ht : ∀ b, Below w.heap.size w b → F b) (h : Below w.heap.size w w1) : ∀ b, Below w1.heap.size w1 b → F b := fun b hb => ht b (h.trans (hb.mono h.size))
abbrev TabD (w : World) : Prop := Lib.TabIs Tryz.prog w "internal/strconv.uint64pow10" .u64 Lib.pow10Tab
theorem digits_o (w : World) (htab : TabD w) : Calls Tryz.prog 158 #[.int .u64 1000000000000000] w fun e w' => e = .returned (.int .i64 16) ∧ Below w.heap.size w w' := by
 have hn : Lib.nDigits 1000000000000000 = 16 := by kernel_rfl
 refine (Tryz.internal_strconv_numDigits 1000000000000000 (by decide) (by decide) w htab).mono fun e w' ⟨a, b⟩ => ⟨?_, b ▸ Below.refl _ _⟩;rw [a, hn];rfl
theorem cq155_1 : Gives 155 #[.int .u64 4503599627370496] (.int .i64 53) := by
 intro w;refine zo Tryz.func155 rfl Tryz.ntmps155 rfl ?_;have LW := erx (No) w;have XLW := grx (No) w;have E := erx (No) w
 refine srx (anx rfl (zb (srx (mvx rfl (za rfl (qz rfl rfl (rnx (zz rfl (srx (mvx rfl (za rfl (qd (z := 1048576) rfl rfl (by decide) (by kernel_rfl) (anx rfl (zh (anx rfl (zb (srx (mvx rfl (za rfl (qz rfl rfl (rnx (zz rfl (srx (mvx rfl (za rfl (qd (z := 16) rfl rfl (by decide) (by kernel_rfl) (anx rfl (zh ?_))))))))))))))))))))))))))))
 refine mvx rfl (za rfl (yb (z := 48) rfl rfl (by kernel_rfl) (anx rfl (zb (srx (mvx rfl (za rfl (qz rfl rfl (rnx (zj rfl (zf (zc (srx (mvx rfl (mvx rfl (za rfl (yx (z := 16) Tryz.underlying5 Tryz.underlying32 rfl (by kernel_rfl) (za rfl (yj (j := 16) (b := 5) Tryz.underlying9 rfl rfl rfl (by kernel_rfl) (za rfl (yx (z := 5) Tryz.underlying3 Tryz.underlying5 rfl (by kernel_rfl) (za rfl (yb (z := 53) rfl rfl (by kernel_rfl) (anx rfl (zt (zr (rs := [.tmp 2]) (vs := [.int .i64 53]) rfl ⟨rfl, trivial⟩ ?_))))))))))))))))))))))))))
 exact ⟨rfl, (LW.step E XLW).toBelow⟩
section
variable (w : World) (base : Nat) (A : Option Addr) (c : Nat) (HB : base ≤ w.heap.size) (ho : w.ownsRow base 5 1 (.slice A 0 c) 0 [])
include HB ho
theorem efg_oe (gs : Nat) (hB : Blk w gs 185 #[.int .u8 49, .int .u8 48, .int .u8 48, .int .u8 48, .int .u8 48, .int .u8 48, .int .u8 48, .int .u8 48, .int .u8 48, .int .u8 48, .int .u8 48, .int .u8 48, .int .u8 48, .int .u8 48, .int .u8 48, .int .u8 48, .int .u8 0, .int .u8 0, .int .u8 0, .int .u8 0, .int .u8 0, .int .u8 0, .int .u8 0, .int .u8 0, .int .u8 0, .int .u8 0, .int .u8 0, .int .u8 0, .int .u8 0, .int .u8 0, .int .u8 0, .int .u8 0]) (hne : ¬ Mut [(Value.slice A 0 c).ownBlock] gs) : Calls Tryz.prog 154 #[.slice A 0 c, .bool false, .slice (some ⟨gs, 0, none⟩) 32 32, .int .i64 1, .int .i64 1, .int .i64 0, .int .u8 101, .bool true] w (zjx w base (Value.slice A 0 c).ownBlock 5 [.int .u8 49, .int .u8 101, .int .u8 43, .int .u8 48, .int .u8 48]) := by
 refine zo Tryz.func154 rfl Tryz.ntmps154 rfl ?_;have Odst : World.ownsRow w base 5 1 (.slice A 0 c) 0 ([]) := ho;have HF : Per (Mut [((Value.slice A 0 c).ownBlock)]) w (fun _ => True) := Per.true_;have LW := erx (Mut [((Value.slice A 0 c).ownBlock)]) w;have XLW := grx (Mut [((Value.slice A 0 c).ownBlock)]) w;have E := erx (Mut [((Value.slice A 0 c).ownBlock)]) w;replace HF := HF.on E
 replace LW := LW.step E XLW;replace E := erx (Mut [((Value.slice A 0 c).ownBlock)]) w
 replace HF := HF.and ((Per.blk hB hne : Per (Mut [(Value.slice A 0 c).ownBlock]) w (fun b => Blk b gs 185 #[.int .u8 49, .int .u8 48, .int .u8 48, .int .u8 48, .int .u8 48, .int .u8 48, .int .u8 48, .int .u8 48, .int .u8 48, .int .u8 48, .int .u8 48, .int .u8 48, .int .u8 48, .int .u8 48, .int .u8 48, .int .u8 48, .int .u8 0, .int .u8 0, .int .u8 0, .int .u8 0, .int .u8 0, .int .u8 0, .int .u8 0, .int .u8 0, .int .u8 0, .int .u8 0, .int .u8 0, .int .u8 0, .int .u8 0, .int .u8 0, .int .u8 0, .int .u8 0])))
 refine srx (anx rfl (zb (srx (mvx rfl (za rfl (zx rfl rfl (mvx rfl (onx rfl (zi rfl (onx rfl (zx rfl rfl (za rfl (yi rfl rfl (rnx (zj rfl (zf (zc (zb (srx (mvx rfl (rnx (zw (zb (srx (za rfl (zx rfl rfl (anx rfl (zz rfl (zf (zc (zz rfl (zb (srx ?_)))))))))))))))))))))))))))))))))
 refine mvx rfl (rnx (zj rfl (zf (zc (srx (anx rfl (zb (srx (mvx rfl (za rfl (vw rfl rfl (rnx (zz rfl (zh (mvx rfl (za rfl (yn (j := 0) Tryz.underlying97 sz5 rfl rfl rfl (by decide) (za rfl (zy Tryz.underlying5 rfl rfl (HF.on E).here.2 rfl (anx rfl (srx (mvx rfl (mvx rfl (za rfl (vn (cs := #[.int .u8 49]) Tryz.underlying97 sz5 zr5 (by decide) rfl (by rw [jx]; rfl) ?_)))))))))))))))))))))))))
 intro gb1 w2 Bb1 Eb1 Gb1;have Db1_dst : Apart (some gb1) ((Value.slice A 0 c).ownBlock) := Apart.of_lt (jr Odst) Gb1;have Ddst_b1 := Db1_dst.symm;have Gb1 : _ ≤ gb1 := Nat.le_trans E.size Gb1;have GLb1 := Nat.le_trans LW.size Gb1;replace Odst := qp Odst Eb1 NotIn.nil;replace E := E.trans Eb1.no;replace HF := HF.cons (ye Gb1);replace E := E.cons (some gb1)
 replace XLW := Mut.grow XLW (fun k e => Or.inr (Nat.le_trans LW.size ((ye Gb1) k e)));replace HF := HF.on E;replace LW := LW.step E XLW;have SB : ∀ q9, Mut [((Value.slice A 0 c).ownBlock)] q9 → Mut [(some gb1), ((Value.slice A 0 c).ownBlock)] q9 := (Mut.skip (Mut.keep Mut.nil_));replace HF := HF.less SB;replace XLW := fun k h => XLW k (SB k h);clear SB
 replace E := erx (Mut [((Value.slice A 0 c).ownBlock)]) w2;replace HF := HF.and (Per.blkN Bb1 (NotIn.cons Db1_dst NotIn.nil))
 refine za rfl (gj (news := [.int .u8 49]) Tryz.underlying97 yaz rfl (by decide) rfl Odst rfl (gi (HF.on E).here.2 ((HF.on E).here.2).lt rfl) (by simp [Value.oneCell']) (by unfold maxLen; omega) (by omega) (by exact Nat.le_trans HB (Nat.le_trans LW.size E.size)) ?_);intro v0 w4 On En KN;obtain ⟨Aq3, cq3, rfl⟩ := jw On
 replace KN : ∀ q9, ((Value.slice Aq3 1 cq3).ownBlock) = some q9 → ((Value.slice A 0 c).ownBlock) = some q9 ∨ w2.heap.size ≤ q9 := KN;have HY : Gro (Mut [((Value.slice Aq3 1 cq3).ownBlock)]) (Mut [((Value.slice A 0 c).ownBlock)]) w2 := (Mut.grow Mut.none_ (fun k e => (KN k e).elim (fun e => Or.inl (Mut.head k e)) (fun h => Or.inr (Nat.le_trans E.size h))));replace E := E.step1 En Mut.head
 replace HF := HF.turn E HY;have XT := fun q9 (h : (Mut [((Value.slice Aq3 1 cq3).ownBlock)]) q9) => (HY q9 h).elim (XLW q9) (fun h => Or.inr (Nat.le_trans LW.size h));replace LW := LW.step E XLW;replace XLW := XT;replace E := erx (Mut [((Value.slice Aq3 1 cq3).ownBlock)]) w4;clear HY;replace Odst : World.ownsRow w4 base 5 1 (.slice Aq3 1 cq3) 1 ([.int .u8 49]) := by
  have e : (([]) : List Value) ++ ([.int .u8 49] : List Value) = [.int .u8 49] := rfl;rw [← e];exact On
 clear On KN En;refine anx rfl (zb (srx (mvx rfl (za rfl (qh rfl rfl (rnx (zj rfl (zf (zc (srx (mvx rfl (mvx rfl (za rfl (vn (cs := #[.int .u8 101]) Tryz.underlying97 sz5 zr5 (by decide) rfl (by rw [jx]; rfl) ?_))))))))))))));intro gb5 w6 Bb5 Eb5 Gb5;have Db5_dst : Apart (some gb5) ((Value.slice Aq3 1 cq3).ownBlock) := Apart.of_lt (jr Odst) Gb5
 have Ddst_b5 := Db5_dst.symm;have Gb5 : _ ≤ gb5 := Nat.le_trans E.size Gb5;have GLb5 := Nat.le_trans LW.size Gb5;replace Odst := qp Odst Eb5 NotIn.nil;replace E := E.trans Eb5.no;replace HF := HF.cons (ye Gb5);replace E := E.cons (some gb5);replace XLW := Mut.grow XLW (fun k e => Or.inr (Nat.le_trans LW.size ((ye Gb5) k e)));replace HF := HF.on E;replace LW := LW.step E XLW
 have SB : ∀ q9, Mut [((Value.slice Aq3 1 cq3).ownBlock)] q9 → Mut [(some gb5), ((Value.slice Aq3 1 cq3).ownBlock)] q9 := (Mut.skip (Mut.keep Mut.nil_));replace HF := HF.less SB;replace XLW := fun k h => XLW k (SB k h);clear SB;replace E := erx (Mut [((Value.slice Aq3 1 cq3).ownBlock)]) w6;replace HF := HF.and (Per.blkN Bb5 (NotIn.cons Db5_dst NotIn.nil))
 refine za rfl (gj (news := [.int .u8 101]) Tryz.underlying97 yaz rfl (by decide) rfl Odst rfl (gi (HF.on E).here.2 ((HF.on E).here.2).lt rfl) (by simp [Value.oneCell']) (by unfold maxLen; omega) (by omega) (by exact Nat.le_trans HB (Nat.le_trans LW.size E.size)) ?_);intro v0 w8 On En KN;obtain ⟨Aq7, cq7, rfl⟩ := jw On
 replace KN : ∀ q9, ((Value.slice Aq7 2 cq7).ownBlock) = some q9 → ((Value.slice Aq3 1 cq3).ownBlock) = some q9 ∨ w6.heap.size ≤ q9 := KN;have HY : Gro (Mut [((Value.slice Aq7 2 cq7).ownBlock)]) (Mut [((Value.slice Aq3 1 cq3).ownBlock)]) w6 := (Mut.grow Mut.none_ (fun k e => (KN k e).elim (fun e => Or.inl (Mut.head k e)) (fun h => Or.inr (Nat.le_trans E.size h))));replace E := E.step1 En Mut.head
 replace HF := HF.turn E HY;have XT := fun q9 (h : (Mut [((Value.slice Aq7 2 cq7).ownBlock)]) q9) => (HY q9 h).elim (XLW q9) (fun h => Or.inr (Nat.le_trans LW.size h));replace LW := LW.step E XLW;replace XLW := XT;replace E := erx (Mut [((Value.slice Aq7 2 cq7).ownBlock)]) w8;clear HY;replace Odst : World.ownsRow w8 base 5 1 (.slice Aq7 2 cq7) 2 ([.int .u8 49, .int .u8 101]) := by
  have e : (([.int .u8 49]) : List Value) ++ ([.int .u8 101] : List Value) = [.int .u8 49, .int .u8 101] := rfl;rw [← e];exact On
 clear On KN En
 refine anx rfl (srx (mvx rfl (za rfl (yd (z := 0) rfl rfl (by kernel_rfl) (anx rfl (zb (srx (mvx rfl (za rfl (zx rfl rfl (rnx (zj rfl (zf (zc (zb (srx (mvx rfl (za rfl (yp rfl rfl (rnx (zj rfl (zh (anx rfl (srx (mvx rfl (mvx rfl (za rfl (vn (cs := #[.int .u8 43]) Tryz.underlying97 sz5 zr5 (by decide) rfl (by rw [jx]; rfl) ?_))))))))))))))))))))))))))))
 intro gb9 w10 Bb9 Eb9 Gb9;have Db9_dst : Apart (some gb9) ((Value.slice Aq7 2 cq7).ownBlock) := Apart.of_lt (jr Odst) Gb9;have Ddst_b9 := Db9_dst.symm;have Gb9 : _ ≤ gb9 := Nat.le_trans E.size Gb9;have GLb9 := Nat.le_trans LW.size Gb9;replace Odst := qp Odst Eb9 NotIn.nil;replace E := E.trans Eb9.no;replace HF := HF.cons (ye Gb9);replace E := E.cons (some gb9)
 replace XLW := Mut.grow XLW (fun k e => Or.inr (Nat.le_trans LW.size ((ye Gb9) k e)));replace HF := HF.on E;replace LW := LW.step E XLW;have SB : ∀ q9, Mut [((Value.slice Aq7 2 cq7).ownBlock)] q9 → Mut [(some gb9), ((Value.slice Aq7 2 cq7).ownBlock)] q9 := (Mut.skip (Mut.keep Mut.nil_));replace HF := HF.less SB;replace XLW := fun k h => XLW k (SB k h);clear SB
 replace E := erx (Mut [((Value.slice Aq7 2 cq7).ownBlock)]) w10;replace HF := HF.and (Per.blkN Bb9 (NotIn.cons Db9_dst NotIn.nil))
 refine za rfl (gj (news := [.int .u8 43]) Tryz.underlying97 yaz rfl (by decide) rfl Odst rfl (gi (HF.on E).here.2 ((HF.on E).here.2).lt rfl) (by simp [Value.oneCell']) (by unfold maxLen; omega) (by omega) (by exact Nat.le_trans HB (Nat.le_trans LW.size E.size)) ?_);intro v0 w12 On En KN;obtain ⟨Aq11, cq11, rfl⟩ := jw On
 replace KN : ∀ q9, ((Value.slice Aq11 3 cq11).ownBlock) = some q9 → ((Value.slice Aq7 2 cq7).ownBlock) = some q9 ∨ w10.heap.size ≤ q9 := KN;have HY : Gro (Mut [((Value.slice Aq11 3 cq11).ownBlock)]) (Mut [((Value.slice Aq7 2 cq7).ownBlock)]) w10 := (Mut.grow Mut.none_ (fun k e => (KN k e).elim (fun e => Or.inl (Mut.head k e)) (fun h => Or.inr (Nat.le_trans E.size h))))
 replace E := E.step1 En Mut.head;replace HF := HF.turn E HY;have XT := fun q9 (h : (Mut [((Value.slice Aq11 3 cq11).ownBlock)]) q9) => (HY q9 h).elim (XLW q9) (fun h => Or.inr (Nat.le_trans LW.size h));replace LW := LW.step E XLW;replace XLW := XT;replace E := erx (Mut [((Value.slice Aq11 3 cq11).ownBlock)]) w12;clear HY
 replace Odst : World.ownsRow w12 base 5 1 (.slice Aq11 3 cq11) 3 ([.int .u8 49, .int .u8 101, .int .u8 43]) := by
  have e : (([.int .u8 49, .int .u8 101]) : List Value) ++ ([.int .u8 43] : List Value) = [.int .u8 49, .int .u8 101, .int .u8 43] := rfl;rw [← e];exact On
 clear On KN En
 refine anx rfl (zb (zw (srx (mvx rfl (za rfl (yp rfl rfl (anx rfl (zz rfl (zh (mvx rfl (mvx rfl (za rfl (yx (z := 0) Tryz.underlying5 Tryz.underlying3 rfl (by kernel_rfl) (za rfl (yb (z := 48) rfl rfl (by kernel_rfl) (za rfl (vn (cs := #[.int .u8 48, .int .u8 48]) Tryz.underlying97 sz5 zr5 (by decide) rfl (by rw [jx]; rfl) ?_)))))))))))))))))
 intro gb13 w14 Bb13 Eb13 Gb13;have Db13_dst : Apart (some gb13) ((Value.slice Aq11 3 cq11).ownBlock) := Apart.of_lt (jr Odst) Gb13;have Ddst_b13 := Db13_dst.symm;have Gb13 : _ ≤ gb13 := Nat.le_trans E.size Gb13;have GLb13 := Nat.le_trans LW.size Gb13;replace Odst := qp Odst Eb13 NotIn.nil;replace E := E.trans Eb13.no;replace HF := HF.cons (ye Gb13)
 replace E := E.cons (some gb13);replace XLW := Mut.grow XLW (fun k e => Or.inr (Nat.le_trans LW.size ((ye Gb13) k e)));replace HF := HF.on E;replace LW := LW.step E XLW;have SB : ∀ q9, Mut [((Value.slice Aq11 3 cq11).ownBlock)] q9 → Mut [(some gb13), ((Value.slice Aq11 3 cq11).ownBlock)] q9 := (Mut.skip (Mut.keep Mut.nil_));replace HF := HF.less SB;replace XLW := fun k h => XLW k (SB k h)
 clear SB;replace E := erx (Mut [((Value.slice Aq11 3 cq11).ownBlock)]) w14;replace HF := HF.and (Per.blkN Bb13 (NotIn.cons Db13_dst NotIn.nil))
 refine za rfl (gj (news := [.int .u8 48, .int .u8 48]) Tryz.underlying97 yaz rfl (by decide) rfl Odst rfl (gi (HF.on E).here.2 ((HF.on E).here.2).lt rfl) (by simp [Value.oneCell']) (by unfold maxLen; omega) (by omega) (by exact Nat.le_trans HB (Nat.le_trans LW.size E.size)) ?_);intro v0 w16 On En KN;obtain ⟨Aq15, cq15, rfl⟩ := jw On
 replace KN : ∀ q9, ((Value.slice Aq15 5 cq15).ownBlock) = some q9 → ((Value.slice Aq11 3 cq11).ownBlock) = some q9 ∨ w14.heap.size ≤ q9 := KN;have HY : Gro (Mut [((Value.slice Aq15 5 cq15).ownBlock)]) (Mut [((Value.slice Aq11 3 cq11).ownBlock)]) w14 := (Mut.grow Mut.none_ (fun k e => (KN k e).elim (fun e => Or.inl (Mut.head k e)) (fun h => Or.inr (Nat.le_trans E.size h))))
 replace E := E.step1 En Mut.head;have XT := fun q9 (h : (Mut [((Value.slice Aq15 5 cq15).ownBlock)]) q9) => (HY q9 h).elim (XLW q9) (fun h => Or.inr (Nat.le_trans LW.size h));replace LW := LW.step E XLW;replace XLW := XT;replace E := erx (Mut [((Value.slice Aq15 5 cq15).ownBlock)]) w16;clear HY
 replace Odst : World.ownsRow w16 base 5 1 (.slice Aq15 5 cq15) 5 ([.int .u8 49, .int .u8 101, .int .u8 43, .int .u8 48, .int .u8 48]) := by
  have e : (([.int .u8 49, .int .u8 101, .int .u8 43]) : List Value) ++ ([.int .u8 48, .int .u8 48] : List Value) = [.int .u8 49, .int .u8 101, .int .u8 43, .int .u8 48, .int .u8 48] := rfl;rw [← e];exact On
 clear On KN En;refine avx rfl (yg (zl (zc (srx (mvx rfl (anx rfl (zt (yo (zq (zr (rs := [.tmp 16]) (vs := [_]) rfl ⟨rfl, trivial⟩ ?_))))))))));exact ⟨_, _, rfl, Odst, (LW.step E XLW), yuz XLW⟩
theorem efg_of (gs : Nat) (hB : Blk w gs 185 #[.int .u8 49, .int .u8 48, .int .u8 48, .int .u8 48, .int .u8 48, .int .u8 48, .int .u8 48, .int .u8 48, .int .u8 48, .int .u8 48, .int .u8 48, .int .u8 48, .int .u8 48, .int .u8 48, .int .u8 48, .int .u8 48, .int .u8 0, .int .u8 0, .int .u8 0, .int .u8 0, .int .u8 0, .int .u8 0, .int .u8 0, .int .u8 0, .int .u8 0, .int .u8 0, .int .u8 0, .int .u8 0, .int .u8 0, .int .u8 0, .int .u8 0, .int .u8 0]) (hne : ¬ Mut [(Value.slice A 0 c).ownBlock] gs) : Calls Tryz.prog 154 #[.slice A 0 c, .bool false, .slice (some ⟨gs, 0, none⟩) 32 32, .int .i64 1, .int .i64 1, .int .i64 0, .int .u8 102, .bool true] w (zjx w base (Value.slice A 0 c).ownBlock 1 [.int .u8 49]) := by
 refine zo Tryz.func154 rfl Tryz.ntmps154 rfl ?_;have Odst : World.ownsRow w base 5 1 (.slice A 0 c) 0 ([]) := ho;have HF : Per (Mut [((Value.slice A 0 c).ownBlock)]) w (fun _ => True) := Per.true_;have LW := erx (Mut [((Value.slice A 0 c).ownBlock)]) w;have XLW := grx (Mut [((Value.slice A 0 c).ownBlock)]) w;have E := erx (Mut [((Value.slice A 0 c).ownBlock)]) w;replace HF := HF.on E
 replace LW := LW.step E XLW;replace E := erx (Mut [((Value.slice A 0 c).ownBlock)]) w
 replace HF := HF.and ((Per.blk hB hne : Per (Mut [(Value.slice A 0 c).ownBlock]) w (fun b => Blk b gs 185 #[.int .u8 49, .int .u8 48, .int .u8 48, .int .u8 48, .int .u8 48, .int .u8 48, .int .u8 48, .int .u8 48, .int .u8 48, .int .u8 48, .int .u8 48, .int .u8 48, .int .u8 48, .int .u8 48, .int .u8 48, .int .u8 48, .int .u8 0, .int .u8 0, .int .u8 0, .int .u8 0, .int .u8 0, .int .u8 0, .int .u8 0, .int .u8 0, .int .u8 0, .int .u8 0, .int .u8 0, .int .u8 0, .int .u8 0, .int .u8 0, .int .u8 0, .int .u8 0])))
 refine srx (anx rfl (zb (srx (mvx rfl (za rfl (zx rfl rfl (mvx rfl (onx rfl (zi rfl (onx rfl (zx rfl rfl (za rfl (yi rfl rfl (rnx (zj rfl (zf (zc (zb (srx (mvx rfl (rnx (zw (zb (srx (za rfl (zx rfl rfl (anx rfl (zj rfl (zh (za rfl (zx rfl rfl (anx rfl (zj rfl ?_)))))))))))))))))))))))))))))))))
 refine srx (za rfl (zx rfl rfl (anx rfl (zz rfl (zb (srx (mvx rfl (rnx (zj rfl (zf (zc (zb (srx (mvx rfl (za rfl (qh rfl rfl (rnx (zz rfl (srx (mvx rfl (mvx rfl (za rfl (ow_min rfl rfl (zv 186 (.int .i64 1) rfl (by kernel_rfl : (.int .i64 (if (1 : Int) < 1 then 1 else 1) : Value) = _) (anx rfl (zb (srx (mvx rfl (mvx rfl (za rfl (ow_sliceH (h := 1) Tryz.underlying97 sz5 rfl rfl rfl (by decide) (za rfl (gx Tryz.underlying97 rfl ?_)))))))))))))))))))))))))))))))))
 refine zv 190 (.int .i64 1) rfl (by kernel_rfl : (.int .i64 (1 : Nat) : Value) = _) (mvx rfl (rnx (zw (kf (srx (za rfl (yp rfl rfl (rnx (zb (zz rfl (zf (zc (zb (zw (srx (za rfl (yn (j := 0) Tryz.underlying97 sz5 rfl rfl rfl (by decide) (za rfl (zy Tryz.underlying5 rfl rfl (HF.on E).here.2 rfl (anx rfl (zh (mvx rfl (mvx rfl (za rfl (vn (cs := #[.int .u8 49]) Tryz.underlying97 sz5 zr5 (by decide) rfl (by rw [jx]; rfl) ?_)))))))))))))))))))))))))
 intro gb1 w2 Bb1 Eb1 Gb1;have Db1_dst : Apart (some gb1) ((Value.slice A 0 c).ownBlock) := Apart.of_lt (jr Odst) Gb1;have Ddst_b1 := Db1_dst.symm;have Gb1 : _ ≤ gb1 := Nat.le_trans E.size Gb1;have GLb1 := Nat.le_trans LW.size Gb1;replace Odst := qp Odst Eb1 NotIn.nil;replace E := E.trans Eb1.no;replace HF := HF.cons (ye Gb1);replace E := E.cons (some gb1)
 replace XLW := Mut.grow XLW (fun k e => Or.inr (Nat.le_trans LW.size ((ye Gb1) k e)));replace HF := HF.on E;replace LW := LW.step E XLW;have SB : ∀ q9, Mut [((Value.slice A 0 c).ownBlock)] q9 → Mut [(some gb1), ((Value.slice A 0 c).ownBlock)] q9 := (Mut.skip (Mut.keep Mut.nil_));replace HF := HF.less SB;replace XLW := fun k h => XLW k (SB k h);clear SB
 replace E := erx (Mut [((Value.slice A 0 c).ownBlock)]) w2;replace HF := HF.and (Per.blkN Bb1 (NotIn.cons Db1_dst NotIn.nil))
 refine za rfl (gj (news := [.int .u8 49]) Tryz.underlying97 yaz rfl (by decide) rfl Odst rfl (gi (HF.on E).here.2 ((HF.on E).here.2).lt rfl) (by simp [Value.oneCell']) (by unfold maxLen; omega) (by omega) (by exact Nat.le_trans HB (Nat.le_trans LW.size E.size)) ?_);intro v0 w4 On En KN;obtain ⟨Aq3, cq3, rfl⟩ := jw On
 replace KN : ∀ q9, ((Value.slice Aq3 1 cq3).ownBlock) = some q9 → ((Value.slice A 0 c).ownBlock) = some q9 ∨ w2.heap.size ≤ q9 := KN;have HY : Gro (Mut [((Value.slice Aq3 1 cq3).ownBlock)]) (Mut [((Value.slice A 0 c).ownBlock)]) w2 := (Mut.grow Mut.none_ (fun k e => (KN k e).elim (fun e => Or.inl (Mut.head k e)) (fun h => Or.inr (Nat.le_trans E.size h))));replace E := E.step1 En Mut.head
 have XT := fun q9 (h : (Mut [((Value.slice Aq3 1 cq3).ownBlock)]) q9) => (HY q9 h).elim (XLW q9) (fun h => Or.inr (Nat.le_trans LW.size h));replace LW := LW.step E XLW;replace XLW := XT;replace E := erx (Mut [((Value.slice Aq3 1 cq3).ownBlock)]) w4;clear HY;replace Odst : World.ownsRow w4 base 5 1 (.slice Aq3 1 cq3) 1 ([.int .u8 49]) := by
  have e : (([]) : List Value) ++ ([.int .u8 49] : List Value) = [.int .u8 49] := rfl;rw [← e];exact On
 clear On KN En
 refine avx rfl (yg (zl (zc (zh (za rfl (yb (z := 1) rfl rfl (by kernel_rfl) (mvx rfl (yg (vv (srx (za rfl (yp rfl rfl (rnx (zb (zj rfl (yr (zn (zn (ya (zc (srx (mvx rfl (mvx rfl (za rfl (yd (z := 0) rfl rfl (by kernel_rfl) (mvx rfl (rnx (zw (kf (srx (za rfl (yp rfl rfl (rnx (zb (zj rfl (yr (zn ?_)))))))))))))))))))))))))))))))))))))
 refine zn (ya (zc (zb (srx (mvx rfl (za rfl (qh rfl rfl (rnx (zj rfl (zf (zc (srx (mvx rfl (anx rfl (zt (yo (zq (zr (rs := [.tmp 16]) (vs := [_]) rfl ⟨rfl, trivial⟩ ?_))))))))))))))))));exact ⟨_, _, rfl, Odst, (LW.step E XLW), yuz XLW⟩
theorem ftoa_oe (hT : Per (Mut [(Value.slice A 0 c).ownBlock]) w Ten) (hD : Per (Mut [(Value.slice A 0 c).ownBlock]) w TabD) : Calls Tryz.prog 124 #[.slice A 0 c, .float .f64 4607182418800017408, .int .u8 101, .int .i64 (-1)] w (zjx w base (Value.slice A 0 c).ownBlock 5 [.int .u8 49, .int .u8 101, .int .u8 43, .int .u8 48, .int .u8 48]) := by
 refine zo Tryz.func124 rfl Tryz.ntmps124 rfl ?_;have Odst : World.ownsRow w base 5 1 (.slice A 0 c) 0 ([]) := ho;have HF : Per (Mut [((Value.slice A 0 c).ownBlock)]) w (fun _ => True) := Per.true_;have LW := erx (Mut [((Value.slice A 0 c).ownBlock)]) w;have XLW := grx (Mut [((Value.slice A 0 c).ownBlock)]) w;have E := erx (Mut [((Value.slice A 0 c).ownBlock)]) w;replace HF := HF.on E
 replace LW := LW.step E XLW;replace E := erx (Mut [((Value.slice A 0 c).ownBlock)]) w;replace HF := HF.and (hT);replace HF := HF.on E;replace LW := LW.step E XLW;replace E := erx (Mut [((Value.slice A 0 c).ownBlock)]) w;replace HF := HF.and (hD)
 refine srx (anx rfl (srx (anx rfl (srx (avx rfl (avx rfl (anx rfl (zb (zw (srx (za rfl (zx rfl rfl (anx rfl (zj rfl (srx (za rfl (zx rfl rfl (anx rfl (zz rfl (srx (mvx rfl (za rfl (ka ex151 rfl (anx rfl ?_))))))))))))))))))))))))
 refine srx (anx rfl (srx (anx rfl (zh (avx rfl (yg (zl (zc (srx (mvx rfl (mvx rfl (mvx rfl (za rfl (yb (z := 63) rfl rfl (by kernel_rfl) (za rfl (qd (z := 0) rfl rfl (by decide) (by kernel_rfl) (za rfl (vw rfl rfl (anx rfl (zb ?_))))))))))))))))))))
 have OY : ∀ q9, (Mut (gy [])) q9 → q9 < (World.drew w).heap.size → (Mut [((Value.slice A 0 c).ownBlock)]) q9 := fun k h _ => (Mut.none_) k h;refine qo (Mut [((Value.slice A 0 c).ownBlock)]) (Mut.grow Mut.none_ (jr Odst)) [] [] (kq [Fx.of (.int .u64 4607182418800017408),
  Fx.of (.int .i64 52),
  Fx.of (.int .u64 1023),
  Fx.of (.int .i64 1023),
  Fx.of (.int .i64 11),
  Fx.of (.int .i64 2048),
  Fx.of (.int .i64 2047),
  Fx.of (.int .i64 1023),
  Fx.of (.int .i64 1023)]) mixed rfl trivial (fun _ h => by cases h) ?_ ?_
 · refine ⟨?_, ?_, ?_, ?_, ?_, ?_, ?_, ?_, ?_, trivial⟩
   · intro vs X wq K;exact zi rfl ⟨Below.refl _ _, Left.of rfl⟩
   · intro vs X wq K;exact zi rfl ⟨Below.refl _ _, Left.of rfl⟩
   · intro vs X wq K;obtain ⟨_, e0, k0⟩ := K.dep 0 rfl rfl rfl;refine zd 50 (.int .u64 4607182418800017408) rfl e0 ?_;obtain ⟨_, e1, k1⟩ := K.dep 1 rfl rfl rfl;refine zd 51 (.int .i64 52) rfl e1 ?_;exact qd (z := 1023) rfl rfl (by decide) (by kernel_rfl) ⟨Below.refl _ _, Left.of rfl⟩
   · intro vs X wq K;obtain ⟨_, e2, k2⟩ := K.dep 2 rfl rfl rfl;refine zd 52 (.int .u64 1023) rfl e2 ?_;exact yx (z := 1023) Tryz.underlying3 Tryz.underlying32 rfl (by kernel_rfl) ⟨Below.refl _ _, Left.of rfl⟩
   · intro vs X wq K;exact zi rfl ⟨Below.refl _ _, Left.of rfl⟩
   · intro vs X wq K;obtain ⟨_, e4, k4⟩ := K.dep 4 rfl rfl rfl;refine zd 54 (.int .i64 11) rfl e4 ?_;exact qm (z := 2048) rfl rfl (by decide) (by kernel_rfl) ⟨Below.refl _ _, Left.of rfl⟩
   · intro vs X wq K;obtain ⟨_, e5, k5⟩ := K.dep 5 rfl rfl rfl;refine zd 55 (.int .i64 2048) rfl e5 ?_;exact yd (z := 2047) rfl rfl (by kernel_rfl) ⟨Below.refl _ _, Left.of rfl⟩
   · intro vs X wq K;obtain ⟨_, e3, k3⟩ := K.dep 3 rfl rfl rfl;refine zd 53 (.int .i64 1023) rfl e3 ?_;obtain ⟨_, e6, k6⟩ := K.dep 6 rfl rfl rfl;refine zd 56 (.int .i64 2047) rfl e6 ?_;exact vd (z := 1023) rfl rfl (by kernel_rfl) ⟨Below.refl _ _, Left.of rfl⟩
   · intro vs X wq K;obtain ⟨_, e7, k7⟩ := K.dep 7 rfl rfl rfl;refine zd 57 (.int .i64 1023) rfl e7 ?_;exact vc rfl ⟨Below.refl _ _, Left.of rfl⟩
 intro vs w1 LE AO AL AF AA;have LOdst := Odst;replace Odst := qp (w := World.drew _) Odst LE NotIn.nil;replace E := E.drew.trans (LE.mono OY);obtain ⟨_, e8, k8⟩ := AL.2.2.2.2.2.2.2.2.1;refine vj (τ := [(0, _), (2, _), (3, _), (8, _), (9, _), (10, _), (11, _), (12, _), (13, _), (14, .int .i64 1023)]) ⟨rfl, rfl, rfl, rfl, rfl, rfl, rfl, rfl, rfl, congrArg some e8, trivial⟩ ?_
 clear AL AF AA LE AO OY e8 k8 LOdst
 refine zc (srx (mvx rfl (mvx rfl (za rfl (qm (z := 4503599627370496) rfl rfl (by decide) (by kernel_rfl) (za rfl (yd (z := 4503599627370495) rfl rfl (by kernel_rfl) (za rfl (vd (z := 0) rfl rfl (by kernel_rfl) (anx rfl (zb (srx (mvx rfl (mvx rfl (za rfl (qm (z := 2048) rfl rfl (by decide) (by kernel_rfl) (za rfl (yd (z := 2047) rfl rfl (by kernel_rfl) (za rfl (zx rfl rfl (rnx (zj rfl (zf (zc (zb (srx (mvx rfl (za rfl (zx rfl rfl (rnx (zj rfl (zh (mvx rfl (mvx rfl (za rfl (qm (z := 4503599627370496) rfl rfl (by decide) (by kernel_rfl) (za rfl (kh (z := 4503599627370496) rfl rfl (by kernel_rfl) (anx rfl ?_)))))))))))))))))))))))))))))))))))))))
 refine srx (mvx rfl (mvx rfl (za rfl (yb (z := 0) rfl rfl (by kernel_rfl) (anx rfl (zb (srx (mvx rfl (za rfl (zx rfl rfl (rnx (zj rfl (zf (zc (zb (srx (mvx rfl (za rfl (zx rfl rfl (mvx rfl (onx rfl (zi rfl (onx rfl (zx rfl rfl (za rfl (yi rfl rfl (rnx (zj rfl (zf (zc (zb (srx (mvx rfl (za rfl (zx rfl rfl (rnx (zj rfl ?_)))))))))))))))))))))))))))))))))))))
 refine zf (zc (zb (srx (mvx rfl (za rfl (yp rfl rfl (rnx (zz rfl (srx (za rfl (qu zr185 ?_)))))))))));intro gb2 w3 Bb2 Eb2 Gb2;have Db2_dst : Apart (some gb2) ((Value.slice A 0 c).ownBlock) := Apart.of_lt (jr Odst) Gb2;have Ddst_b2 := Db2_dst.symm;have Gb2 : _ ≤ gb2 := Nat.le_trans E.size Gb2;have GLb2 := Nat.le_trans LW.size Gb2
 replace Odst := qp Odst Eb2 NotIn.nil;replace E := E.trans Eb2.no;replace HF := HF.cons (ye Gb2);replace E := E.cons (some gb2);replace XLW := Mut.grow XLW (fun k e => Or.inr (Nat.le_trans LW.size ((ye Gb2) k e)));refine rnx (srx (mvx rfl (za rfl (zg en155 rfl ((cq155_1 _).mono ?_)))));rintro e w4 ⟨rfl, hb⟩;refine ⟨_, rfl, ?_⟩;have Ec := Ext.of_below hb No
 replace Bb2 := Bb2.extN Ec NotIn.nil;replace Odst := qp Odst Ec NotIn.nil;replace E := E.trans Ec.no
 refine za rfl (yd (z := 11) rfl rfl (by kernel_rfl) (anx rfl (srx (mvx rfl (mvx rfl (za rfl (qm (z := 9223372036854775808) rfl rfl (by decide) (by kernel_rfl) (anx rfl (srx (mvx rfl (mvx rfl (za rfl (yd (z := (-11)) rfl rfl (by kernel_rfl) (anx rfl (srx (mvx rfl (mvx rfl (mvx rfl (za rfl (yd (z := (-63)) rfl rfl (by kernel_rfl) (za rfl (zg en164 rfl ((short_1 _ (Ten.all (HF.on E).here.1.2) (Ten.lt (HF.on E).here.1.2)).mono ?_)))))))))))))))))))))))
 rintro e w5 ⟨rfl, hb⟩;refine ⟨_, rfl, ?_⟩;have Ec := Ext.of_below hb No;replace Bb2 := Bb2.extN Ec NotIn.nil;replace Odst := qp Odst Ec NotIn.nil;replace E := E.trans Ec.no;refine mvx rfl (za rfl (zm rfl rfl (za rfl (zm rfl rfl (avx rfl (anx rfl (zb ?_)))))))
 have OY : ∀ q9, (Mut (gy [])) q9 → q9 < (World.drew w5).heap.size → (Mut [(some gb2), ((Value.slice A 0 c).ownBlock)]) q9 := fun k h _ => (Mut.none_) k h;refine cw_any mixed (ak_cut 5 rfl ?_);refine ykk (Mut [(some gb2), ((Value.slice A 0 c).ownBlock)]) (Mut.grow (Mut.grow Mut.none_ (jr Odst)) (yf Bb2.lt)) [] [] (kq [Fx.of (.slice (some ⟨gb2, 0, none⟩) 32 32),
  Fx.of (.int .u64 1000000000000000),
  Fx.of (.int .i64 (-15)),
  Fx.of (.int .u64 1000000000000000),
  Fx.of (.int .i64 16)]) rfl trivial (fun _ h => by cases h) ?_ ?_
 · refine ⟨?_, ?_, ?_, ?_, ?_, trivial⟩
   · intro vs X wq K;exact zgv Tryz.underlying185 sz5 rfl ⟨Below.refl _ _, Left.of rfl⟩
   · intro vs X wq K;exact zi rfl ⟨Below.refl _ _, Left.of rfl⟩
   · intro vs X wq K;exact zi rfl ⟨Below.refl _ _, Left.of rfl⟩
   · intro vs X wq K;exact zi rfl ⟨Below.refl _ _, Left.of rfl⟩
   · intro vs X wq K;have LE := K.1;obtain ⟨_, e3, k3⟩ := K.dep 3 rfl rfl rfl;refine zd 143 (.int .u64 1000000000000000) rfl e3 (zg en158 rfl ((digits_o _ (HF.on (E.drew.trans (LE.mono OY))).here.2).mono ?_));rintro e w2 ⟨rfl, hb⟩;exact ⟨_, rfl, hb, Left.of rfl⟩
 intro vs w6 LE AO AL AF AA;have LBb2 := Bb2;have LOdst := Odst;replace Bb2 := Bb2.drew.extN LE NotIn.nil;replace Odst := qp (w := World.drew _) Odst LE NotIn.nil;replace E := E.drew.trans (LE.mono OY);obtain ⟨_, e0, k0⟩ := AL.1;obtain ⟨_, e1, k1⟩ := AL.2.1;obtain ⟨_, e2, k2⟩ := AL.2.2.1;obtain ⟨_, e4, k4⟩ := AL.2.2.2.2.1
 refine vj (τ := [(0, _), (2, _), (3, _), (8, _), (11, _), (13, _), (14, _), (15, _), (16, _), (140, .slice (some ⟨gb2, 0, none⟩) 32 32), (141, .int .u64 1000000000000000), (142, .int .i64 (-15)), (144, .int .i64 16)]) ⟨rfl, rfl, rfl, rfl, rfl, rfl, rfl, rfl, rfl, congrArg some e0, congrArg some e1, congrArg some e2, congrArg some e4, trivial⟩ ?_
 clear AL AF AA LE AO OY e0 e1 e2 e4 k0 k1 k2 k4 LBb2 LOdst;refine ew_ak (ylx (by kernel_rfl) (fun _ _ d_ _ _ h => by cases d_ <;> exact h) (za rfl (zg en157 rfl ((set_1 _ gb2 Bb2).mono ?_))));rintro e w7 ⟨rfl, hB, hE⟩;refine ⟨_, rfl, ?_⟩;replace Bb2 := hB;clear hB;replace Odst := qp Odst hE (NotIn.cons Ddst_b2 NotIn.nil);replace E := E.step1 hE Mut.head;clear hE
 refine mvx rfl (za rfl (zm rfl rfl (za rfl (zm rfl rfl (avx rfl (anx rfl (zb (srx (mvx rfl (rnx (zw (zb (srx (za rfl (zx rfl rfl (anx rfl (zz rfl (zf (zc (zz rfl (zh (mvx rfl (za rfl (yd (z := 0) rfl rfl (by kernel_rfl) (za rfl (ypz rfl rfl (zv 154 (.int .i64 0) rfl (by kernel_rfl : (.int .i64 (if (0 : Int) > 0 then 0 else 0) : Value) = _) (avx rfl (yg (zl (zc (srx (mvx rfl (mvx rfl (za rfl (zgv Tryz.underlying185 sz5 rfl (mvx rfl ?_)))))))))))))))))))))))))))))))))))))
 refine mvx rfl (mvx rfl (mvx rfl ?_));replace HF := HF.on E;replace LW := LW.step E XLW;have SB : ∀ q9, Mut [((Value.slice A 0 c).ownBlock)] q9 → Mut [(some gb2), ((Value.slice A 0 c).ownBlock)] q9 := (Mut.skip (Mut.keep Mut.nil_));replace HF := HF.less SB;replace XLW := fun k h => XLW k (SB k h);clear SB;replace E := erx (Mut [((Value.slice A 0 c).ownBlock)]) w7
 replace HF := HF.and (Per.blkN Bb2 (NotIn.cons Db2_dst NotIn.nil));refine za rfl (zg en154 rfl ((efg_oe _ base A c (Nat.le_trans HB (Nat.le_trans LW.size E.size)) Odst gb2 (HF.on E).here.2 (NotIn.cons Db2_dst NotIn.nil _ rfl)).mono ?_));rintro e w8 ⟨A1, c1, rfl, On, En, KN⟩;refine ⟨_, rfl, ?_⟩
 replace KN : ∀ q9, ((Value.slice A1 5 c1).ownBlock) = some q9 → ((Value.slice A 0 c).ownBlock) = some q9 ∨ w7.heap.size ≤ q9 := KN;have HY : Gro (Mut [((Value.slice A1 5 c1).ownBlock)]) (Mut [((Value.slice A 0 c).ownBlock)]) w7 := (Mut.grow Mut.none_ (fun k e => (KN k e).elim (fun e => Or.inl (Mut.head k e)) (fun h => Or.inr (Nat.le_trans E.size h))));replace E := E.step1 En Mut.head
 have XT := fun q9 (h : (Mut [((Value.slice A1 5 c1).ownBlock)]) q9) => (HY q9 h).elim (XLW q9) (fun h => Or.inr (Nat.le_trans LW.size h));replace LW := LW.step E XLW;replace XLW := XT;replace E := erx (Mut [((Value.slice A1 5 c1).ownBlock)]) w8;clear HY;replace Odst : World.ownsRow w8 base 5 1 (.slice A1 5 c1) 5 ([.int .u8 49, .int .u8 101, .int .u8 43, .int .u8 48, .int .u8 48]) := On
 clear On KN En;refine anx rfl (zt (zq (zr (rs := [.tmp 8]) (vs := [_]) rfl ⟨rfl, trivial⟩ ?_)));exact ⟨_, _, rfl, Odst, (LW.step E XLW), yuz XLW⟩
theorem ftoa_of (hT : Per (Mut [(Value.slice A 0 c).ownBlock]) w Ten) (hD : Per (Mut [(Value.slice A 0 c).ownBlock]) w TabD) : Calls Tryz.prog 124 #[.slice A 0 c, .float .f64 4607182418800017408, .int .u8 102, .int .i64 (-1)] w (zjx w base (Value.slice A 0 c).ownBlock 1 [.int .u8 49]) := by
 refine zo Tryz.func124 rfl Tryz.ntmps124 rfl ?_;have Odst : World.ownsRow w base 5 1 (.slice A 0 c) 0 ([]) := ho;have HF : Per (Mut [((Value.slice A 0 c).ownBlock)]) w (fun _ => True) := Per.true_;have LW := erx (Mut [((Value.slice A 0 c).ownBlock)]) w;have XLW := grx (Mut [((Value.slice A 0 c).ownBlock)]) w;have E := erx (Mut [((Value.slice A 0 c).ownBlock)]) w;replace HF := HF.on E
 replace LW := LW.step E XLW;replace E := erx (Mut [((Value.slice A 0 c).ownBlock)]) w;replace HF := HF.and (hT);replace HF := HF.on E;replace LW := LW.step E XLW;replace E := erx (Mut [((Value.slice A 0 c).ownBlock)]) w;replace HF := HF.and (hD)
 refine srx (anx rfl (srx (anx rfl (srx (avx rfl (avx rfl (anx rfl (zb (zw (srx (za rfl (zx rfl rfl (anx rfl (zj rfl (srx (za rfl (zx rfl rfl (anx rfl (zz rfl (srx (mvx rfl (za rfl (ka ex151 rfl (anx rfl ?_))))))))))))))))))))))))
 refine srx (anx rfl (srx (anx rfl (zh (avx rfl (yg (zl (zc (srx (mvx rfl (mvx rfl (mvx rfl (za rfl (yb (z := 63) rfl rfl (by kernel_rfl) (za rfl (qd (z := 0) rfl rfl (by decide) (by kernel_rfl) (za rfl (vw rfl rfl (anx rfl (zb ?_))))))))))))))))))))
 have OY : ∀ q9, (Mut (gy [])) q9 → q9 < (World.drew w).heap.size → (Mut [((Value.slice A 0 c).ownBlock)]) q9 := fun k h _ => (Mut.none_) k h;refine qo (Mut [((Value.slice A 0 c).ownBlock)]) (Mut.grow Mut.none_ (jr Odst)) [] [] (kq [Fx.of (.int .u64 4607182418800017408),
  Fx.of (.int .i64 52),
  Fx.of (.int .u64 1023),
  Fx.of (.int .i64 1023),
  Fx.of (.int .i64 11),
  Fx.of (.int .i64 2048),
  Fx.of (.int .i64 2047),
  Fx.of (.int .i64 1023),
  Fx.of (.int .i64 1023)]) mixed rfl trivial (fun _ h => by cases h) ?_ ?_
 · refine ⟨?_, ?_, ?_, ?_, ?_, ?_, ?_, ?_, ?_, trivial⟩
   · intro vs X wq K;exact zi rfl ⟨Below.refl _ _, Left.of rfl⟩
   · intro vs X wq K;exact zi rfl ⟨Below.refl _ _, Left.of rfl⟩
   · intro vs X wq K;obtain ⟨_, e0, k0⟩ := K.dep 0 rfl rfl rfl;refine zd 50 (.int .u64 4607182418800017408) rfl e0 ?_;obtain ⟨_, e1, k1⟩ := K.dep 1 rfl rfl rfl;refine zd 51 (.int .i64 52) rfl e1 ?_;exact qd (z := 1023) rfl rfl (by decide) (by kernel_rfl) ⟨Below.refl _ _, Left.of rfl⟩
   · intro vs X wq K;obtain ⟨_, e2, k2⟩ := K.dep 2 rfl rfl rfl;refine zd 52 (.int .u64 1023) rfl e2 ?_;exact yx (z := 1023) Tryz.underlying3 Tryz.underlying32 rfl (by kernel_rfl) ⟨Below.refl _ _, Left.of rfl⟩
   · intro vs X wq K;exact zi rfl ⟨Below.refl _ _, Left.of rfl⟩
   · intro vs X wq K;obtain ⟨_, e4, k4⟩ := K.dep 4 rfl rfl rfl;refine zd 54 (.int .i64 11) rfl e4 ?_;exact qm (z := 2048) rfl rfl (by decide) (by kernel_rfl) ⟨Below.refl _ _, Left.of rfl⟩
   · intro vs X wq K;obtain ⟨_, e5, k5⟩ := K.dep 5 rfl rfl rfl;refine zd 55 (.int .i64 2048) rfl e5 ?_;exact yd (z := 2047) rfl rfl (by kernel_rfl) ⟨Below.refl _ _, Left.of rfl⟩
   · intro vs X wq K;obtain ⟨_, e3, k3⟩ := K.dep 3 rfl rfl rfl;refine zd 53 (.int .i64 1023) rfl e3 ?_;obtain ⟨_, e6, k6⟩ := K.dep 6 rfl rfl rfl;refine zd 56 (.int .i64 2047) rfl e6 ?_;exact vd (z := 1023) rfl rfl (by kernel_rfl) ⟨Below.refl _ _, Left.of rfl⟩
   · intro vs X wq K;obtain ⟨_, e7, k7⟩ := K.dep 7 rfl rfl rfl;refine zd 57 (.int .i64 1023) rfl e7 ?_;exact vc rfl ⟨Below.refl _ _, Left.of rfl⟩
 intro vs w1 LE AO AL AF AA;have LOdst := Odst;replace Odst := qp (w := World.drew _) Odst LE NotIn.nil;replace E := E.drew.trans (LE.mono OY);obtain ⟨_, e8, k8⟩ := AL.2.2.2.2.2.2.2.2.1;refine vj (τ := [(0, _), (2, _), (3, _), (8, _), (9, _), (10, _), (11, _), (12, _), (13, _), (14, .int .i64 1023)]) ⟨rfl, rfl, rfl, rfl, rfl, rfl, rfl, rfl, rfl, congrArg some e8, trivial⟩ ?_
 clear AL AF AA LE AO OY e8 k8 LOdst
 refine zc (srx (mvx rfl (mvx rfl (za rfl (qm (z := 4503599627370496) rfl rfl (by decide) (by kernel_rfl) (za rfl (yd (z := 4503599627370495) rfl rfl (by kernel_rfl) (za rfl (vd (z := 0) rfl rfl (by kernel_rfl) (anx rfl (zb (srx (mvx rfl (mvx rfl (za rfl (qm (z := 2048) rfl rfl (by decide) (by kernel_rfl) (za rfl (yd (z := 2047) rfl rfl (by kernel_rfl) (za rfl (zx rfl rfl (rnx (zj rfl (zf (zc (zb (srx (mvx rfl (za rfl (zx rfl rfl (rnx (zj rfl (zh (mvx rfl (mvx rfl (za rfl (qm (z := 4503599627370496) rfl rfl (by decide) (by kernel_rfl) (za rfl (kh (z := 4503599627370496) rfl rfl (by kernel_rfl) (anx rfl ?_)))))))))))))))))))))))))))))))))))))))
 refine srx (mvx rfl (mvx rfl (za rfl (yb (z := 0) rfl rfl (by kernel_rfl) (anx rfl (zb (srx (mvx rfl (za rfl (zx rfl rfl (rnx (zj rfl (zf (zc (zb (srx (mvx rfl (za rfl (zx rfl rfl (mvx rfl (onx rfl (zi rfl (onx rfl (zx rfl rfl (za rfl (yi rfl rfl (rnx (zj rfl (zf (zc (zb (srx (mvx rfl (za rfl (zx rfl rfl (rnx (zj rfl ?_)))))))))))))))))))))))))))))))))))))
 refine zf (zc (zb (srx (mvx rfl (za rfl (yp rfl rfl (rnx (zz rfl (srx (za rfl (qu zr185 ?_)))))))))));intro gb2 w3 Bb2 Eb2 Gb2;have Db2_dst : Apart (some gb2) ((Value.slice A 0 c).ownBlock) := Apart.of_lt (jr Odst) Gb2;have Ddst_b2 := Db2_dst.symm;have Gb2 : _ ≤ gb2 := Nat.le_trans E.size Gb2;have GLb2 := Nat.le_trans LW.size Gb2
 replace Odst := qp Odst Eb2 NotIn.nil;replace E := E.trans Eb2.no;replace HF := HF.cons (ye Gb2);replace E := E.cons (some gb2);replace XLW := Mut.grow XLW (fun k e => Or.inr (Nat.le_trans LW.size ((ye Gb2) k e)));refine rnx (srx (mvx rfl (za rfl (zg en155 rfl ((cq155_1 _).mono ?_)))));rintro e w4 ⟨rfl, hb⟩;refine ⟨_, rfl, ?_⟩;have Ec := Ext.of_below hb No
 replace Bb2 := Bb2.extN Ec NotIn.nil;replace Odst := qp Odst Ec NotIn.nil;replace E := E.trans Ec.no
 refine za rfl (yd (z := 11) rfl rfl (by kernel_rfl) (anx rfl (srx (mvx rfl (mvx rfl (za rfl (qm (z := 9223372036854775808) rfl rfl (by decide) (by kernel_rfl) (anx rfl (srx (mvx rfl (mvx rfl (za rfl (yd (z := (-11)) rfl rfl (by kernel_rfl) (anx rfl (srx (mvx rfl (mvx rfl (mvx rfl (za rfl (yd (z := (-63)) rfl rfl (by kernel_rfl) (za rfl (zg en164 rfl ((short_1 _ (Ten.all (HF.on E).here.1.2) (Ten.lt (HF.on E).here.1.2)).mono ?_)))))))))))))))))))))))
 rintro e w5 ⟨rfl, hb⟩;refine ⟨_, rfl, ?_⟩;have Ec := Ext.of_below hb No;replace Bb2 := Bb2.extN Ec NotIn.nil;replace Odst := qp Odst Ec NotIn.nil;replace E := E.trans Ec.no;refine mvx rfl (za rfl (zm rfl rfl (za rfl (zm rfl rfl (avx rfl (anx rfl (zb ?_)))))))
 have OY : ∀ q9, (Mut (gy [])) q9 → q9 < (World.drew w5).heap.size → (Mut [(some gb2), ((Value.slice A 0 c).ownBlock)]) q9 := fun k h _ => (Mut.none_) k h;refine cw_any mixed (ak_cut 5 rfl ?_);refine ykk (Mut [(some gb2), ((Value.slice A 0 c).ownBlock)]) (Mut.grow (Mut.grow Mut.none_ (jr Odst)) (yf Bb2.lt)) [] [] (kq [Fx.of (.slice (some ⟨gb2, 0, none⟩) 32 32),
  Fx.of (.int .u64 1000000000000000),
  Fx.of (.int .i64 (-15)),
  Fx.of (.int .u64 1000000000000000),
  Fx.of (.int .i64 16)]) rfl trivial (fun _ h => by cases h) ?_ ?_
 · refine ⟨?_, ?_, ?_, ?_, ?_, trivial⟩
   · intro vs X wq K;exact zgv Tryz.underlying185 sz5 rfl ⟨Below.refl _ _, Left.of rfl⟩
   · intro vs X wq K;exact zi rfl ⟨Below.refl _ _, Left.of rfl⟩
   · intro vs X wq K;exact zi rfl ⟨Below.refl _ _, Left.of rfl⟩
   · intro vs X wq K;exact zi rfl ⟨Below.refl _ _, Left.of rfl⟩
   · intro vs X wq K;have LE := K.1;obtain ⟨_, e3, k3⟩ := K.dep 3 rfl rfl rfl;refine zd 143 (.int .u64 1000000000000000) rfl e3 (zg en158 rfl ((digits_o _ (HF.on (E.drew.trans (LE.mono OY))).here.2).mono ?_));rintro e w2 ⟨rfl, hb⟩;exact ⟨_, rfl, hb, Left.of rfl⟩
 intro vs w6 LE AO AL AF AA;have LBb2 := Bb2;have LOdst := Odst;replace Bb2 := Bb2.drew.extN LE NotIn.nil;replace Odst := qp (w := World.drew _) Odst LE NotIn.nil;replace E := E.drew.trans (LE.mono OY);obtain ⟨_, e0, k0⟩ := AL.1;obtain ⟨_, e1, k1⟩ := AL.2.1;obtain ⟨_, e2, k2⟩ := AL.2.2.1;obtain ⟨_, e4, k4⟩ := AL.2.2.2.2.1
 refine vj (τ := [(0, _), (2, _), (3, _), (8, _), (11, _), (13, _), (14, _), (15, _), (16, _), (140, .slice (some ⟨gb2, 0, none⟩) 32 32), (141, .int .u64 1000000000000000), (142, .int .i64 (-15)), (144, .int .i64 16)]) ⟨rfl, rfl, rfl, rfl, rfl, rfl, rfl, rfl, rfl, congrArg some e0, congrArg some e1, congrArg some e2, congrArg some e4, trivial⟩ ?_
 clear AL AF AA LE AO OY e0 e1 e2 e4 k0 k1 k2 k4 LBb2 LOdst;refine ew_ak (ylx (by kernel_rfl) (fun _ _ d_ _ _ h => by cases d_ <;> exact h) (za rfl (zg en157 rfl ((set_1 _ gb2 Bb2).mono ?_))));rintro e w7 ⟨rfl, hB, hE⟩;refine ⟨_, rfl, ?_⟩;replace Bb2 := hB;clear hB;replace Odst := qp Odst hE (NotIn.cons Ddst_b2 NotIn.nil);replace E := E.step1 hE Mut.head;clear hE
 refine mvx rfl (za rfl (zm rfl rfl (za rfl (zm rfl rfl (avx rfl (anx rfl (zb (srx (mvx rfl (rnx (zw (zb (srx (za rfl (zx rfl rfl (anx rfl (zj rfl (zh (za rfl (zx rfl rfl (anx rfl (zj rfl (srx (za rfl (zx rfl rfl (anx rfl (zz rfl (zh (mvx rfl (mvx rfl (za rfl (yd (z := 0) rfl rfl (by kernel_rfl) (za rfl (ypz rfl rfl ?_))))))))))))))))))))))))))))))))))
 refine zv 160 (.int .i64 0) rfl (by kernel_rfl : (.int .i64 (if (0 : Int) > 0 then 0 else 0) : Value) = _) (avx rfl (yg (zl (zc (srx (mvx rfl (mvx rfl (za rfl (zgv Tryz.underlying185 sz5 rfl (mvx rfl (mvx rfl (mvx rfl (mvx rfl ?_)))))))))))));replace HF := HF.on E;replace LW := LW.step E XLW
 have SB : ∀ q9, Mut [((Value.slice A 0 c).ownBlock)] q9 → Mut [(some gb2), ((Value.slice A 0 c).ownBlock)] q9 := (Mut.skip (Mut.keep Mut.nil_));replace HF := HF.less SB;replace XLW := fun k h => XLW k (SB k h);clear SB;replace E := erx (Mut [((Value.slice A 0 c).ownBlock)]) w7;replace HF := HF.and (Per.blkN Bb2 (NotIn.cons Db2_dst NotIn.nil))
 refine za rfl (zg en154 rfl ((efg_of _ base A c (Nat.le_trans HB (Nat.le_trans LW.size E.size)) Odst gb2 (HF.on E).here.2 (NotIn.cons Db2_dst NotIn.nil _ rfl)).mono ?_));rintro e w8 ⟨A1, c1, rfl, On, En, KN⟩;refine ⟨_, rfl, ?_⟩;replace KN : ∀ q9, ((Value.slice A1 1 c1).ownBlock) = some q9 → ((Value.slice A 0 c).ownBlock) = some q9 ∨ w7.heap.size ≤ q9 := KN
 have HY : Gro (Mut [((Value.slice A1 1 c1).ownBlock)]) (Mut [((Value.slice A 0 c).ownBlock)]) w7 := (Mut.grow Mut.none_ (fun k e => (KN k e).elim (fun e => Or.inl (Mut.head k e)) (fun h => Or.inr (Nat.le_trans E.size h))));replace E := E.step1 En Mut.head;have XT := fun q9 (h : (Mut [((Value.slice A1 1 c1).ownBlock)]) q9) => (HY q9 h).elim (XLW q9) (fun h => Or.inr (Nat.le_trans LW.size h))
 replace LW := LW.step E XLW;replace XLW := XT;replace E := erx (Mut [((Value.slice A1 1 c1).ownBlock)]) w8;clear HY;replace Odst : World.ownsRow w8 base 5 1 (.slice A1 1 c1) 1 ([.int .u8 49]) := On;clear On KN En;refine anx rfl (zt (zq (zr (rs := [.tmp 8]) (vs := [_]) rfl ⟨rfl, trivial⟩ ?_)));exact ⟨_, _, rfl, Odst, (LW.step E XLW), yuz XLW⟩
end
theorem cq69_11 : Gives 69 #[.float .f64 4607182418800017408] (.float .f64 4607182418800017408) := by
 intro w;refine zo Tryz.func69 rfl Tryz.ntmps69 rfl ?_;have LW := erx (No) w;have XLW := grx (No) w;have E := erx (No) w
 refine srx (anx rfl (srx (mvx rfl (za rfl (ka ex46 rfl (za rfl (kp (z := 4607182418800017408) rfl rfl (by kernel_rfl) (za rfl (ym (b := 4607182418800017408) om rfl (anx rfl (zt (zr (rs := [.tmp 2]) (vs := [.float .f64 4607182418800017408]) rfl ⟨rfl, trivial⟩ ?_))))))))))));exact ⟨rfl, (LW.step E XLW).toBelow⟩
theorem cq49_11 : Gives 49 #[.float .f64 4607182418800017408, .int .i64 0] (.bool false) := by
 intro w;refine zo Tryz.func49 rfl Tryz.ntmps49 rfl ?_;have LW := erx (No) w;have XLW := grx (No) w;have E := erx (No) w;refine srx (anx rfl (zb (srx (mvx rfl (za rfl (zx rfl rfl (rnx (zz rfl (zh (mvx rfl (za rfl (zg en69 rfl ((cq69_11 _).mono ?_)))))))))))));rintro e w1 ⟨rfl, hb⟩;refine ⟨_, rfl, ?_⟩;replace E := blx E hb
 refine anx rfl (srx (mvx rfl (za rfl (zhx rfl rfl (zv 14 (.bool false) rfl (by kernel_rfl : (.bool (qy 4607182418800017408 9218868437227405311 == some .gt) : Value) = _) (anx rfl (zt (zr (rs := [.tmp 4]) (vs := [.bool false]) rfl ⟨rfl, trivial⟩ ?_))))))));exact ⟨rfl, (LW.step E XLW).toBelow⟩
theorem cq90_14 : Gives 90 #[.string ⟨#[49, 101, 43, 48, 48]⟩, .int .u8 101] (.int .i64 1) := by
 intro w;refine zo Tryz.func90 rfl Tryz.ntmps90 rfl ?_;have LW := erx (No) w;have XLW := grx (No) w;have E := erx (No) w
 refine srx (anx rfl (srx (mvx rfl (mvx rfl (za rfl (ztx ex125 rfl (run_indexByte_string _ _ _) (zv 7 (.int .i64 1) rfl (by kernel_rfl : (.int .i64 (firstIdx ⟨#[49, 101, 43, 48, 48]⟩ (101 : Int).toNat.toUInt8) : Value) = _) (anx rfl (zt (zr (rs := [.tmp 4]) (vs := [.int .i64 1]) rfl ⟨rfl, trivial⟩ ?_))))))))));exact ⟨rfl, (LW.step E XLW).toBelow⟩
theorem cq51_14 : Gives 51 #[.string ⟨#[49, 101, 43, 48, 48]⟩, .int .u8 101] (.int .i64 1) := by
 intro w;refine zo Tryz.func51 rfl Tryz.ntmps51 rfl ?_;have LW := erx (No) w;have XLW := grx (No) w;have E := erx (No) w;refine srx (anx rfl (srx (mvx rfl (mvx rfl (za rfl (zg en90 rfl ((cq90_14 _).mono ?_)))))));rintro e w1 ⟨rfl, hb⟩;refine ⟨_, rfl, ?_⟩;replace E := blx E hb;refine anx rfl (zt (zr (rs := [.tmp 4]) (vs := [.int .i64 1]) rfl ⟨rfl, trivial⟩ ?_))
 exact ⟨rfl, (LW.step E XLW).toBelow⟩
theorem cq91_16 : Gives 91 #[.string ⟨#[43, 48, 48]⟩] (.tuple #[.int .i64 0, .nilIface]) := by
 intro w;refine zo Tryz.func91 rfl Tryz.ntmps91 rfl ?_;have HF : Per (No) w (fun _ => True) := Per.true_;have LW := erx (No) w;have XLW := grx (No) w;have E := erx (No) w
 refine srx (avx rfl (anx rfl (srx (mvx rfl (za rfl (qr Tryz.underlying9 rfl (anx rfl (zb (srx (mvx rfl (za rfl (zu rfl (za rfl (zu rfl (za rfl (zu rfl (za rfl (vq rfl rfl (za rfl (vq rfl rfl (za rfl (zu rfl (za rfl (yi rfl rfl (mvx rfl (onx rfl (zi rfl (onx rfl (zi rfl (onx rfl (yp rfl rfl (onx rfl (zi rfl (onx rfl (zi rfl (onx rfl (yp rfl rfl (onx rfl (yk rfl rfl (onx rfl (yk rfl rfl (za rfl (yi rfl rfl (rnx (zz rfl (srx (mvx rfl ?_)))))))))))))))))))))))))))))))))))))))))))))))
 refine anx rfl (zb (srx (mvx rfl (za rfl (yj (j := 0) (b := 43) Tryz.underlying9 rfl rfl rfl (by kernel_rfl) (za rfl (zx rfl rfl (mvx rfl (onx rfl (zi rfl (onx rfl (yj (j := 0) (b := 43) Tryz.underlying9 rfl rfl rfl (by kernel_rfl) (onx rfl (zx rfl rfl (za rfl (yi rfl rfl (rnx (zz rfl (srx (mvx rfl (za rfl (kn (l := 1) (h := 3) Tryz.underlying9 rfl ⟨_, rfl⟩ rfl (by decide) (by decide) (zv 41 (.string ⟨#[48, 48]⟩) rfl (by kernel_rfl : (.string ((⟨#[43, 48, 48]⟩ : ByteArray).extract 1 3) : Value) = _) (anx rfl (srx (mvx rfl (za rfl (qr Tryz.underlying9 rfl (za rfl (yp rfl rfl (rnx (zj rfl (zf (zc (srx (anx rfl ?_))))))))))))))))))))))))))))))))))))
 refine zb (srx (mvx rfl (za rfl (ytk (n := 2) (xs := [.int .u8 48, .int .u8 48]) Tryz.underlying9 Tryz.underlying97 Tryz.underlying5 rfl rfl rfl ?_))));intro gb1 cb1 w2 Rb1 Eb1 Gb1;replace E := E.trans Eb1.no;replace HF := HF.on E;replace LW := LW.step E XLW;replace E := erx (No) w2;replace HF := HF.and (Per.rowL Rb1)
 refine za rfl (gx Tryz.underlying97 rfl (zv 48 (.int .i64 2) rfl (by kernel_rfl : (.int .i64 (2 : Nat) : Value) = _) (mvx rfl (rnx (zw (kf (srx (za rfl (yp rfl rfl (rnx (zb (zz rfl (zf (zc (zb (zw (srx (za rfl (yn (j := 0) Tryz.underlying97 sz5 rfl rfl rfl (by decide) (za rfl (yl Tryz.underlying5 rfl rfl ((HF.on E).here.2 0 _ rfl) (anx rfl (srx (mvx rfl (za rfl (yd (z := 0) rfl rfl (by kernel_rfl) (anx rfl (zb (srx (mvx rfl (za rfl (qh rfl rfl (rnx (zj rfl ?_))))))))))))))))))))))))))))))))))
 refine zf (zc (zh (mvx rfl (za rfl (qg (z := 0) rfl rfl (by kernel_rfl) (mvx rfl (za rfl (yx (z := 0) Tryz.underlying3 Tryz.underlying5 rfl (by kernel_rfl) (za rfl (yb (z := 0) rfl rfl (by kernel_rfl) (avx rfl (yg (zl (zc (zh (za rfl (yb (z := 1) rfl rfl (by kernel_rfl) (mvx rfl (yg (vv (srx (za rfl (yp rfl rfl (rnx (zb (zz rfl (zf (zc (zb (zw (srx (za rfl (yn (j := 1) Tryz.underlying97 sz5 rfl rfl rfl (by decide) (za rfl (yl Tryz.underlying5 rfl rfl ((HF.on E).here.2 1 _ rfl) (anx rfl (srx (mvx rfl (za rfl (yd (z := 0) rfl rfl (by kernel_rfl) (avx rfl ?_)))))))))))))))))))))))))))))))))))))))))
 refine rnx (zb (srx (mvx rfl (za rfl (qh rfl rfl (rnx (zj rfl (zf (zc (zh (mvx rfl (za rfl (qg (z := 0) rfl rfl (by kernel_rfl) (mvx rfl (za rfl (yx (z := 0) Tryz.underlying3 Tryz.underlying5 rfl (by kernel_rfl) (za rfl (yb (z := 0) rfl rfl (by kernel_rfl) (avx rfl (yg (zl (zc (zh (za rfl (yb (z := 2) rfl rfl (by kernel_rfl) (mvx rfl (yg (vv (srx (za rfl (yp rfl rfl (rnx (zb (zj rfl (yr (zn (zn (ya (zc (zb ?_))))))))))))))))))))))))))))))))))))))))
 refine srx (mvx rfl (za rfl (yj (j := 0) (b := 43) Tryz.underlying9 rfl rfl rfl (by kernel_rfl) (za rfl (zx rfl rfl (rnx (zj rfl (zf (zc (srx (mvx rfl (avx rfl (anx rfl (zt (zq (zr (rs := [.tmp 2, .tmp 3]) (vs := [.int .i64 0, .nilIface]) rfl ⟨rfl, rfl, trivial⟩ ?_))))))))))))))));exact ⟨rfl, (LW.step E XLW).toBelow⟩
theorem cq52_16 : Gives 52 #[.string ⟨#[43, 48, 48]⟩] (.tuple #[.int .i64 0, .nilIface]) := by
 intro w;refine zo Tryz.func52 rfl Tryz.ntmps52 rfl ?_;have LW := erx (No) w;have XLW := grx (No) w;have E := erx (No) w;refine srx (avx rfl (anx rfl (srx (mvx rfl (za rfl (zg en91 rfl ((cq91_16 _).mono ?_)))))));rintro e w1 ⟨rfl, hb⟩;refine ⟨_, rfl, ?_⟩;replace E := blx E hb
 refine mvx rfl (za rfl (zm rfl rfl (za rfl (zm rfl rfl (avx rfl (anx rfl (zb (srx (mvx rfl (za rfl (ow_neqN Tryz.underlying81 rfl (rnx (zj rfl (zf (zc (srx (mvx rfl (avx rfl (anx rfl (zt (zr (rs := [.tmp 2, .tmp 3]) (vs := [.int .i64 0, .nilIface]) rfl ⟨rfl, rfl, trivial⟩ ?_)))))))))))))))))))));exact ⟨rfl, (LW.step E XLW).toBelow⟩
theorem cq90_21 : Gives 90 #[.string ⟨#[49]⟩, .int .u8 46] (.int .i64 (-1)) := by
 intro w;refine zo Tryz.func90 rfl Tryz.ntmps90 rfl ?_;have LW := erx (No) w;have XLW := grx (No) w;have E := erx (No) w
 refine srx (anx rfl (srx (mvx rfl (mvx rfl (za rfl (ztx ex125 rfl (run_indexByte_string _ _ _) (zv 7 (.int .i64 (-1)) rfl (by kernel_rfl : (.int .i64 (firstIdx ⟨#[49]⟩ (46 : Int).toNat.toUInt8) : Value) = _) (anx rfl (zt (zr (rs := [.tmp 4]) (vs := [.int .i64 (-1)]) rfl ⟨rfl, trivial⟩ ?_))))))))));exact ⟨rfl, (LW.step E XLW).toBelow⟩
theorem cq127_21 : Gives 127 #[.string ⟨#[49]⟩, .string ⟨#[46]⟩] (.int .i64 (-1)) := by
 intro w;refine zo Tryz.func127 rfl Tryz.ntmps127 rfl ?_;have LW := erx (No) w;have XLW := grx (No) w;have E := erx (No) w
 refine srx (anx rfl (srx (mvx rfl (za rfl (qr Tryz.underlying9 rfl (anx rfl (zb (zw (srx (mvx rfl (za rfl (zx rfl rfl (mvx rfl (onx rfl (zi rfl (onx rfl (zi rfl (onx rfl (znz rfl rfl (zv 22 (.bool false) rfl (by simp only [xl]; rfl : (.bool ((⟨#[46]⟩ : ByteArray).toList == (⟨#[49]⟩ : ByteArray).toList) : Value) = _) (za rfl (yi rfl rfl (anx rfl (zj rfl (srx (mvx rfl (za rfl (zx rfl rfl (anx rfl (zz rfl (srx (mvx rfl (mvx rfl ?_)))))))))))))))))))))))))))))))))
 refine za rfl (yj (j := 0) (b := 46) Tryz.underlying9 rfl rfl rfl (by kernel_rfl) (za rfl (zg en90 rfl ((cq90_21 _).mono ?_))));rintro e w1 ⟨rfl, hb⟩;refine ⟨_, rfl, ?_⟩;replace E := blx E hb;refine anx rfl (zt (yo (zq (zr (rs := [.tmp 4]) (vs := [.int .i64 (-1)]) rfl ⟨rfl, trivial⟩ ?_))));exact ⟨rfl, (LW.step E XLW).toBelow⟩
theorem cq92_21 : Gives 92 #[.string ⟨#[49]⟩, .string ⟨#[46]⟩] (.int .i64 (-1)) := by
 intro w;refine zo Tryz.func92 rfl Tryz.ntmps92 rfl ?_;have LW := erx (No) w;have XLW := grx (No) w;have E := erx (No) w;refine srx (anx rfl (srx (mvx rfl (mvx rfl (za rfl (zg en127 rfl ((cq127_21 _).mono ?_)))))));rintro e w1 ⟨rfl, hb⟩;refine ⟨_, rfl, ?_⟩;replace E := blx E hb;refine anx rfl (zt (zr (rs := [.tmp 4]) (vs := [.int .i64 (-1)]) rfl ⟨rfl, trivial⟩ ?_))
 exact ⟨rfl, (LW.step E XLW).toBelow⟩
theorem cq53_21 : Gives 53 #[.string ⟨#[49]⟩, .string ⟨#[46]⟩] (.bool false) := by
 intro w;refine zo Tryz.func53 rfl Tryz.ntmps53 rfl ?_;have LW := erx (No) w;have XLW := grx (No) w;have E := erx (No) w;refine srx (anx rfl (srx (mvx rfl (mvx rfl (za rfl (zg en92 rfl ((cq92_21 _).mono ?_)))))));rintro e w1 ⟨rfl, hb⟩;refine ⟨_, rfl, ?_⟩;replace E := blx E hb
 refine za rfl (qz rfl rfl (anx rfl (zt (zr (rs := [.tmp 4]) (vs := [.bool false]) rfl ⟨rfl, trivial⟩ ?_))));exact ⟨rfl, (LW.step E XLW).toBelow⟩
section
variable (w : World) (hT : ∀ b, Below w.heap.size w b → Ten b) (hD : ∀ b, Below w.heap.size w b → TabD b)
include hT hD
theorem format_oe : Calls Tryz.prog 89 #[.float .f64 4607182418800017408, .int .u8 101, .int .i64 (-1), .int .i64 64] w fun e w' => e = .returned (.string ⟨#[49, 101, 43, 48, 48]⟩) ∧ Below w.heap.size w w' := by
 refine zo Tryz.func89 rfl Tryz.ntmps89 rfl ?_;have LW := erx (No) w;have XLW := grx (No) w;have E := erx (No) w
 refine srx (anx rfl (zb (srx (mvx rfl (za rfl (zx rfl rfl (rnx (zj rfl (zf (zc (zb (srx (mvx rfl (za rfl (zx rfl rfl (rnx (zz rfl (srx (mvx rfl (za rfl (yb (z := 3) rfl rfl (by kernel_rfl) (za rfl (ypz rfl rfl (zv 25 (.int .i64 24) rfl (by kernel_rfl : (.int .i64 (if (24 : Int) > 3 then 24 else 3) : Value) = _) ?_))))))))))))))))))))))))
 have XC : ∀ q9, (No) q9 → q9 < w.heap.size := Mut.none_;have SC := Nat.le_trans LW.size E.size;have SE := E.size;refine za rfl (yhz (n := 24) (base := w.heap.size) Tryz.underlying97 yaz rfl rfl rfl rfl (by decide) (by decide) SC (by decide) ?_);intro gmk1 w2 Nmk1 Emk1 Gmk1;replace E := E.trans Emk1.no;clear Emk1
 have Omk1 : World.ownsRow w2 w.heap.size 5 1 (.slice (some ⟨gmk1, 0, none⟩) 0 24) 0 ([]) := Nmk1;replace E := E.cons ((Value.slice (some ⟨gmk1, 0, none⟩) 0 24).ownBlock);replace XLW := Mut.grow XLW (fun k e => Or.inr (Nat.le_trans LW.size ((fun k e => Nat.le_trans SE ((ye Gmk1) k e)) k e)));clear XC
 refine mvx rfl (mvx rfl (mvx rfl (za rfl (zg en124 rfl ((ftoa_oe _ w.heap.size (some ⟨gmk1, 0, none⟩) 24 (Nat.le_trans LW.size E.size) Omk1 (fun b hb => hT b (LW.step (E.trans hb) XLW).toBelow) (fun b hb => hD b (LW.step (E.trans hb) XLW).toBelow)).mono ?_)))));rintro e w3 ⟨A1, c1, rfl, On, En, KN⟩;refine ⟨_, rfl, ?_⟩
 replace KN : ∀ q9, ((Value.slice A1 5 c1).ownBlock) = some q9 → ((Value.slice (some ⟨gmk1, 0, none⟩) 0 24).ownBlock) = some q9 ∨ w2.heap.size ≤ q9 := KN;have HY : Gro (Mut [((Value.slice A1 5 c1).ownBlock)]) (Mut [((Value.slice (some ⟨gmk1, 0, none⟩) 0 24).ownBlock)]) w := (Mut.grow Mut.none_ (fun k e => (KN k e).elim (fun e => Or.inl (Mut.head k e)) (fun h => Or.inr (Nat.le_trans E.size h))))
 replace E := E.step1 En Mut.head;have XT := fun q9 (h : (Mut [((Value.slice A1 5 c1).ownBlock)]) q9) => (HY q9 h).elim (XLW q9) (fun h => Or.inr (Nat.le_trans LW.size h));replace LW := LW.step E XLW;replace XLW := XT;replace E := erx (Mut [((Value.slice A1 5 c1).ownBlock)]) w3;clear HY
 replace Omk1 : World.ownsRow w3 w.heap.size 5 1 (.slice A1 5 c1) 5 ([.int .u8 49, .int .u8 101, .int .u8 43, .int .u8 48, .int .u8 48]) := On;clear On KN En;refine za rfl (zaq (l := [49, 101, 43, 48, 48]) Tryz.underlying97 Tryz.underlying5 Tryz.underlying9 rfl (zxq Omk1 rfl) (anx rfl (zt (zq (zr (rs := [.tmp 8]) (vs := [_]) rfl ⟨rfl, trivial⟩ ?_)))))
 exact ⟨rfl, (LW.step E XLW).toBelow⟩
theorem format_oe' : Calls Tryz.prog 50 #[.float .f64 4607182418800017408, .int .u8 101, .int .i64 (-1), .int .i64 64] w fun e w' => e = .returned (.string ⟨#[49, 101, 43, 48, 48]⟩) ∧ Below w.heap.size w w' := by
 refine zo Tryz.func50 rfl Tryz.ntmps50 rfl ?_;have LW := erx (No) w;have XLW := grx (No) w;have E := erx (No) w;refine srx (anx rfl (srx (mvx rfl (mvx rfl (mvx rfl (mvx rfl (za rfl (zg en89 rfl ((format_oe _ (later hT (LW.step E XLW).toBelow) (later hD (LW.step E XLW).toBelow)).mono ?_)))))))));rintro e w1 ⟨rfl, hb⟩;refine ⟨_, rfl, ?_⟩;replace E := blx E hb
 refine anx rfl (zt (zr (rs := [.tmp 8]) (vs := [_]) rfl ⟨rfl, trivial⟩ ?_));exact ⟨rfl, (LW.step E XLW).toBelow⟩
theorem format_of : Calls Tryz.prog 89 #[.float .f64 4607182418800017408, .int .u8 102, .int .i64 (-1), .int .i64 64] w fun e w' => e = .returned (.string ⟨#[49]⟩) ∧ Below w.heap.size w w' := by
 refine zo Tryz.func89 rfl Tryz.ntmps89 rfl ?_;have LW := erx (No) w;have XLW := grx (No) w;have E := erx (No) w
 refine srx (anx rfl (zb (srx (mvx rfl (za rfl (zx rfl rfl (rnx (zj rfl (zf (zc (zb (srx (mvx rfl (za rfl (zx rfl rfl (rnx (zz rfl (srx (mvx rfl (za rfl (yb (z := 3) rfl rfl (by kernel_rfl) (za rfl (ypz rfl rfl (zv 25 (.int .i64 24) rfl (by kernel_rfl : (.int .i64 (if (24 : Int) > 3 then 24 else 3) : Value) = _) ?_))))))))))))))))))))))))
 have XC : ∀ q9, (No) q9 → q9 < w.heap.size := Mut.none_;have SC := Nat.le_trans LW.size E.size;have SE := E.size;refine za rfl (yhz (n := 24) (base := w.heap.size) Tryz.underlying97 yaz rfl rfl rfl rfl (by decide) (by decide) SC (by decide) ?_);intro gmk1 w2 Nmk1 Emk1 Gmk1;replace E := E.trans Emk1.no;clear Emk1
 have Omk1 : World.ownsRow w2 w.heap.size 5 1 (.slice (some ⟨gmk1, 0, none⟩) 0 24) 0 ([]) := Nmk1;replace E := E.cons ((Value.slice (some ⟨gmk1, 0, none⟩) 0 24).ownBlock);replace XLW := Mut.grow XLW (fun k e => Or.inr (Nat.le_trans LW.size ((fun k e => Nat.le_trans SE ((ye Gmk1) k e)) k e)));clear XC
 refine mvx rfl (mvx rfl (mvx rfl (za rfl (zg en124 rfl ((ftoa_of _ w.heap.size (some ⟨gmk1, 0, none⟩) 24 (Nat.le_trans LW.size E.size) Omk1 (fun b hb => hT b (LW.step (E.trans hb) XLW).toBelow) (fun b hb => hD b (LW.step (E.trans hb) XLW).toBelow)).mono ?_)))));rintro e w3 ⟨A1, c1, rfl, On, En, KN⟩;refine ⟨_, rfl, ?_⟩
 replace KN : ∀ q9, ((Value.slice A1 1 c1).ownBlock) = some q9 → ((Value.slice (some ⟨gmk1, 0, none⟩) 0 24).ownBlock) = some q9 ∨ w2.heap.size ≤ q9 := KN;have HY : Gro (Mut [((Value.slice A1 1 c1).ownBlock)]) (Mut [((Value.slice (some ⟨gmk1, 0, none⟩) 0 24).ownBlock)]) w := (Mut.grow Mut.none_ (fun k e => (KN k e).elim (fun e => Or.inl (Mut.head k e)) (fun h => Or.inr (Nat.le_trans E.size h))))
 replace E := E.step1 En Mut.head;have XT := fun q9 (h : (Mut [((Value.slice A1 1 c1).ownBlock)]) q9) => (HY q9 h).elim (XLW q9) (fun h => Or.inr (Nat.le_trans LW.size h));replace LW := LW.step E XLW;replace XLW := XT;replace E := erx (Mut [((Value.slice A1 1 c1).ownBlock)]) w3;clear HY;replace Omk1 : World.ownsRow w3 w.heap.size 5 1 (.slice A1 1 c1) 1 ([.int .u8 49]) := On;clear On KN En
 refine za rfl (zaq (l := [49]) Tryz.underlying97 Tryz.underlying5 Tryz.underlying9 rfl (zxq Omk1 rfl) (anx rfl (zt (zq (zr (rs := [.tmp 8]) (vs := [_]) rfl ⟨rfl, trivial⟩ ?_)))));exact ⟨rfl, (LW.step E XLW).toBelow⟩
theorem format_of' : Calls Tryz.prog 50 #[.float .f64 4607182418800017408, .int .u8 102, .int .i64 (-1), .int .i64 64] w fun e w' => e = .returned (.string ⟨#[49]⟩) ∧ Below w.heap.size w w' := by
 refine zo Tryz.func50 rfl Tryz.ntmps50 rfl ?_;have LW := erx (No) w;have XLW := grx (No) w;have E := erx (No) w;refine srx (anx rfl (srx (mvx rfl (mvx rfl (mvx rfl (mvx rfl (za rfl (zg en89 rfl ((format_of _ (later hT (LW.step E XLW).toBelow) (later hD (LW.step E XLW).toBelow)).mono ?_)))))))));rintro e w1 ⟨rfl, hb⟩;refine ⟨_, rfl, ?_⟩;replace E := blx E hb
 refine anx rfl (zt (zr (rs := [.tmp 8]) (vs := [_]) rfl ⟨rfl, trivial⟩ ?_));exact ⟨rfl, (LW.step E XLW).toBelow⟩
theorem text_o : Calls Tryz.prog 15 #[.int .u64 4607182418800017408] w fun e w' => e = .returned (.string ⟨#[49, 46, 48]⟩) ∧ Below w.heap.size w w' := by
 refine zo Tryz.func15 rfl Tryz.ntmps15 rfl ?_;have LW := erx (No) w;have XLW := grx (No) w;have E := erx (No) w
 refine srx (anx rfl (srx (mvx rfl (za rfl (ym (b := 4607182418800017408) om rfl (anx rfl (zb (zw (srx (mvx rfl (mvx rfl (za rfl (jm rfl rfl (zv 13 (.bool false) rfl (by kernel_rfl : (.bool (qy 4607182418800017408 4607182418800017408 != some .eq) : Value) = _) (anx rfl (zj rfl (srx (mvx rfl (za rfl (zg zqv rfl ((cq49_11 _).mono ?_)))))))))))))))))))))
 rintro e w1 ⟨rfl, hb⟩;refine ⟨_, rfl, ?_⟩;replace E := blx E hb;refine anx rfl (zj rfl (zf (zl (zc (srx (mvx rfl (za rfl (zg en50 rfl ((format_oe' _ (later hT (LW.step E XLW).toBelow) (later hD (LW.step E XLW).toBelow)).mono ?_)))))))));rintro e w2 ⟨rfl, hb⟩;refine ⟨_, rfl, ?_⟩;replace E := blx E hb
 refine anx rfl (srx (mvx rfl (za rfl (zg en51 rfl ((cq51_14 _).mono ?_)))));rintro e w3 ⟨rfl, hb⟩;refine ⟨_, rfl, ?_⟩;replace E := blx E hb
 refine anx rfl (srx (mvx rfl (mvx rfl (za rfl (yb (z := 2) rfl rfl (by kernel_rfl) (za rfl (kn (l := 2) (h := 5) Tryz.underlying9 rfl ⟨_, rfl⟩ rfl (by decide) (by decide) (zv 27 (.string ⟨#[43, 48, 48]⟩) rfl (by kernel_rfl : (.string ((⟨#[49, 101, 43, 48, 48]⟩ : ByteArray).extract 2 5) : Value) = _) (za rfl (zg en52 rfl ((cq52_16 _).mono ?_)))))))))))
 rintro e w4 ⟨rfl, hb⟩;refine ⟨_, rfl, ?_⟩;replace E := blx E hb
 refine mvx rfl (za rfl (zm rfl rfl (za rfl (zm rfl rfl (avx rfl (anx rfl (zb (srx (mvx rfl (za rfl (yp rfl rfl (mvx rfl (onx rfl (zi rfl (onx rfl (qh rfl rfl (za rfl (yi rfl rfl (rnx (zj rfl (zf (zc (srx (mvx rfl (za rfl (zg en50 rfl ((format_of' _ (later hT (LW.step E XLW).toBelow) (later hD (LW.step E XLW).toBelow)).mono ?_)))))))))))))))))))))))))))
 rintro e w5 ⟨rfl, hb⟩;refine ⟨_, rfl, ?_⟩;replace E := blx E hb;refine anx rfl (zb (srx (mvx rfl (za rfl (zg en53 rfl ((cq53_21 _).mono ?_))))));rintro e w6 ⟨rfl, hb⟩;refine ⟨_, rfl, ?_⟩;replace E := blx E hb
 refine za rfl (jj rfl (rnx (zz rfl (zh (mvx rfl (za rfl (zhq rfl rfl (by decide) (zv 44 (.string ⟨#[49, 46, 48]⟩) rfl (by kernel_rfl : (.string ((⟨#[49]⟩ : ByteArray) ++ (⟨#[46, 48]⟩ : ByteArray)) : Value) = _) (anx rfl (srx (mvx rfl (anx rfl (zt (zr (rs := [.tmp 2]) (vs := [_]) rfl ⟨rfl, trivial⟩ ?_))))))))))))));exact ⟨rfl, (LW.step E XLW).toBelow⟩
end
section
variable {P : Program} {N : Nat} {ops : Array Oper} {Q : Exit → Act → World → Prop} {σ : Env} {w : World} {ty : TypeId} {pos : String} {af : Array Edge} {dst : Option Nat} {Post : Value → World → Prop}
theorem ow_mkI {T : TypeId} {x : Operand} {v : Value} (hc : P.concrete T = true) (hx : ev σ x = some v) (k : Post (.iface T v) w) : OW P N ops Q ⟨dst, .makeInterface T x, ty, pos, af, none⟩ σ w Post :=
 yv (fun ρ ha => by
  have h := run_makeInterface (P := P) w T v hc;simp only [execOp, ha hx, Sem.run_bind, h, Result.andThen_ok, Sem.run_pure]) k
end
/-! ### loops -/
inductive Ends {α : Type} (done : α → Bool) (step : α → α) : α → α → Prop
 | stop {s : α} : done s = true → Ends done step s s
 | next {s t : α} : done s = false → Ends done step (step s) t → Ends done step s t
noncomputable def vb {α : Type} (done : α → Bool) (step : α → α) (s : α) : α := @Classical.epsilon α ⟨s⟩ (Ends done step s)
theorem vk {α : Type} {done : α → Bool} {step : α → α} {s : α} (h : done s = false) : vb done step s = vb done step (step s) := by
 have e : Ends done step s = Ends done step (step s) := funext fun t => propext ⟨fun h' => by
  cases h' with
  | stop h1 => rw [h] at h1; cases h1
  | next _ h1 => exact h1, fun h' => .next h h'⟩
 unfold vb;rw [e]
theorem qn {α : Type} {done : α → Bool} {step : α → α} {s : α} (h : done s = true) : vb done step s = s := by
 have h1 : Ends done step s (vb done step s) := @Classical.epsilon_spec _ (Ends done step s) ⟨s, .stop h⟩;generalize vb done step s = t at h1
 cases h1 with
 | stop _ => rfl
 | next h2 _ => rw [h] at h2; cases h2
theorem bareN_num {m : Nat} (h : isN m = false) : ykq m = m := by rw [ykq, if_neg (by rw [h]; decide)]
section
variable (w : World)
/-! ### package real's -/
section
variable (a b : Nat) (ha : a < 18446744073709551616) (hb : b < 18446744073709551616) (hz : isZ b = false)
include ha hb hz
section
variable (hf : rg a < 9218868437227405312) (hn : isN b = false)
include hf hn
end
end
end
end Go.Proofs.YtjdcjdohghkcgaaGreatDoor
namespace Go.Proofs.YtjdcjdohghkcgaaGreatDoor
open Ieee
set_option maxRecDepth 100000
def wholeOr (z : Nat) : Prop := rg z = 9218868437227405312 ∨ (rg z < 9218868437227405312 ∧ isWh (rg z))
theorem num_or {d : Nat} (h : isN d = false) : rg d < 9218868437227405312 ∨ rg d = 9218868437227405312 := by have := of_decide_eq_false h; omega
section
variable {a b : Nat} (ha : a < 18446744073709551616) (hf : rg a < 9218868437227405312) (hb : b < 18446744073709551616) (hn : isN b = false) (h0 : rg b ≠ 0)
include ha hf hn h0
include hb
end
end Go.Proofs.YtjdcjdohghkcgaaGreatDoor
namespace Go.Proofs.YtjdcjdohghkcgaaGreatDoor
open Go.RowKit Ieee
set_option maxRecDepth 100000
structure Sgn (n : Bool) (b : Nat) : Prop where
 num : isN b = false
 sg : ng b = n
 lt : b < 18446744073709551616
theorem mul_sgn {a b : Nat} {n : Bool} (ha : Sgn n a) (hb : rg b < 9218868437227405312) (h0 : rg b ≠ 0) (hs : ng b = false) : ∃ z, fop .mul a b = some z ∧ Sgn n z := by
 have key : ∃ z, fop .mul a b = some z ∧ ng z = (ng a ^^ ng b) := by
  rcases num_or ha.num with hA | hA
  · simp only [fop, Format.mul, gg hA, gg hb, Datum.product]
    exact ⟨_, rfl, zox _ _ _⟩
  · simp only [fop, Format.mul, zaz hA, gg hb, Datum.product]
    rw [if_neg (mg_pos h0)];exact ⟨_, rfl, (jn _ _ (by rw [c3]; decide)).2.1⟩
 obtain ⟨z, h1, h2⟩ := key;exact ⟨z, h1, (yyq h1).1, by rw [h2, ha.sg, hs, Bool.xor_false], (yyq h1).2⟩
theorem quo_sgn {a b : Nat} {n : Bool} (ha : Sgn n a) (hb : rg b < 9218868437227405312) (h0 : rg b ≠ 0) (hs : ng b = false) : ∃ z, fop .quo a b = some z ∧ Sgn n z := by
 obtain ⟨z, h1, h2⟩ := quo_fin ha.num (jz hb) h0 (.inr hb);exact ⟨z, h1, (yyq h1).1, by rw [h2, ha.sg, hs, Bool.xor_false], (yyq h1).2⟩
end Go.Proofs.YtjdcjdohghkcgaaGreatDoor
namespace Go.Proofs.YtjdcjdohghkcgaaGreatDoor
open Go.RowKit
set_option maxRecDepth 100000
section
variable {P : Program} {Q : Exit → Act → World → Prop} {a : Act} {w : World} {body : Code}
theorem step_scope {b : Frame} {k : List Item} {cs : List Frame} : step P (lone (b.at a (.code (.scope body) :: k)) cs w) = .next (lone (b.at a (.code body :: .inScope body :: k)) cs w) :=
 step_lone_go (by simp [stepG, stepG.exec, Frame.at])
theorem yfq {b : Frame} {k : List Item} {cs : List Frame} : step P (lone (b.at a (.inScope body :: k)) cs w) = .next (lone (b.at a k) cs w) :=
 step_lone_go (by simp [stepG, stepG.exec, Frame.at])
def kl (P : Program) (body : Code) (Q : Exit → Act → World → Prop) : Nat → Exit → Act → World → Prop
 | 0, .goto l, a, w => findLabel body l = none ∧ Q (.goto l) a w
 | n + 1, .goto l, a, w => (findLabel body l = none ∧ Q (.goto l) a w) ∨ ∃ rest, findLabel body l = some rest ∧ rest.wp P (kl P body Q n) a w
 | _, e, a, w => Q e a w
theorem scope_key : ∀ (n : Nat) (c : Code) (a : Act) (w : World), c.wp P (kl P body Q n) a w → ∀ b k cs, ∃ e a' w', Q e a' w' ∧ Arrives P (lone (b.at a (.code c :: .inScope body :: k)) cs w) b k cs e a' w' := by
 intro n;induction n with
 | zero =>
  intro c a w h b k cs;obtain ⟨e, a₁, w₁, hq, harr⟩ := h b (.inScope body :: k) cs;cases e with
  | normal => exact ⟨.normal, a₁, w₁, hq, Steps.trans harr (.one yfq)⟩
  | exit id => exact ⟨.exit id, a₁, w₁, hq, fun k' hk => harr k' (by simp [exitTo, hk])⟩
  | goto l => exact ⟨_, a₁, w₁, hq.2, fun k' hk => harr k' (by simp [gotoIn, hq.1, hk])⟩
  | ret => exact ⟨_, a₁, w₁, hq, harr⟩
  | panic ch => exact ⟨_, a₁, w₁, hq, harr⟩
  | outgrown => exact ⟨_, a₁, w₁, hq, harr⟩
 | succ n ih =>
  intro c a w h b k cs;obtain ⟨e, a₁, w₁, hq, harr⟩ := h b (.inScope body :: k) cs;cases e with
  | normal => exact ⟨.normal, a₁, w₁, hq, Steps.trans harr (.one yfq)⟩
  | exit id => exact ⟨.exit id, a₁, w₁, hq, fun k' hk => harr k' (by simp [exitTo, hk])⟩
  | goto l =>
   rcases hq with ⟨h1, hq⟩ | ⟨rest, h1, h2⟩
   · exact ⟨_, a₁, w₁, hq, fun k' hk => harr k' (by simp [gotoIn, h1, hk])⟩
   · obtain ⟨e2, a2, w2, hq2, harr2⟩ := ih rest a₁ w₁ h2 b k cs;exact ⟨e2, a2, w2, hq2, .of_steps (harr _ (by simp [gotoIn, h1])) harr2⟩
  | ret => exact ⟨_, a₁, w₁, hq, harr⟩
  | panic ch => exact ⟨_, a₁, w₁, hq, harr⟩
  | outgrown => exact ⟨_, a₁, w₁, hq, harr⟩
theorem wp_scope (n : Nat) (h : body.wp P (kl P body Q n) a w) : (Code.scope body).wp P Q a w := fun b k cs =>
 let ⟨e, a', w', q, r⟩ := scope_key n body a w h b k cs
 ⟨e, a', w', q, .of_steps (.one step_scope) r⟩
end
section
variable {P : Program} {N : Nat} {Q : Exit → Act → World → Prop} {σ : Env} {w : World} {body : Code} {n : Nat}
theorem cw_scope (n : Nat) (h : CW P N body (kl P body Q n) σ w) : CW P N (.scope body) Q σ w := fun a ha => wp_scope n (h a ha)
theorem gq (h : EW N Q .ret σ w) : EW N (kl P body Q n) .ret σ w := by cases n <;> exact h
theorem ew_scope_goto {l : Nat} {rest : Code} (hl : findLabel body l = some rest) (h : CW P N rest (kl P body Q n) σ w) : EW N (kl P body Q (n + 1)) (.goto l) σ w := fun a ha => .inr ⟨rest, hl, h a ha⟩
theorem ziv {l : Nat} (h : EW N Q (.goto l) σ w) : CW P N (.goto l) Q σ w := fun a ha => wp_goto (h a ha)
theorem cw_label {l : Nat} (h : EW N Q .normal σ w) : CW P N (.label l) Q σ w := fun a ha => wp_label (h a ha)
theorem go {K : Act → World → Prop} {l : Nat} (h : EW N Q (.goto l) σ w) : EW N (Exit.then K Q) (.goto l) σ w := h
end
end Go.Proofs.YtjdcjdohghkcgaaGreatDoor
namespace Go.Proofs.YtjdcjdohghkcgaaGreatDoor
open Go.RowKit
set_option maxRecDepth 100000
theorem vu {α : Type} {done : α → Bool} {step : α → α} (I : α → Prop) (m : α → Nat) (hs : ∀ s, I s → done s = false → I (step s) ∧ m (step s) < m s) {s : α} (h : I s) :
 I (vb done step s) ∧ done (vb done step s) = true := by
 generalize hn : m s = n
 induction n using Nat.strongRecOn generalizing s with
 | _ n ih =>
  cases hd : done s with
  | true => rw [qn hd]; exact ⟨h, hd⟩
  | false =>
   rw [vk hd];obtain ⟨h1, h2⟩ := hs s h hd;exact ih (m (step s)) (by omega) h1 rfl
structure Dec where
 d : List Nat
 nd : Nat
 dp : Int
 neg : Bool
 tr : Bool
def dg (l : List Nat) (i : Nat) : Nat := l.getD i 48
theorem zvk {l : List Nat} {j b i : Nat} (hj : j < l.length) : dg (l.set j b) i = if i = j then b else dg l i := by
 unfold dg;rw [List.getD_eq_getElem?_getD, List.getD_eq_getElem?_getD, List.getElem?_set];split
 · rename_i h; subst h; rw [if_pos rfl]; simp [hj]
 · rename_i h; rw [if_neg (fun e => h e.symm)]
theorem dg_at {l : List Nat} {j : Nat} (hj : j < l.length) : l[j]? = some (dg l j) := by
 unfold dg;rw [List.getD_eq_getElem?_getD, List.getElem?_eq_getElem hj]; rfl
def decL (t : Dec) : List Value := t.d.map (fun b => (.int .u8 ((b : Nat) : Int) : Value)) ++ [.int .i64 ((t.nd : Nat) : Int), .int .i64 t.dp, .bool t.neg, .bool t.tr]
def yy (t : Dec) : Array Value := (decL t).toArray
section
variable {t : Dec} (h : t.d.length = 800)
include h
theorem dec_size : (yy t).size = 804 := by simp [yy, decL, h]
theorem decL_at {j : Nat} (hj : j < 800) : (decL t)[j]? = some (.int .u8 ((dg t.d j : Nat) : Int)) := by
 unfold decL;rw [List.getElem?_append_left (by simp [h]; exact hj), List.getElem?_map, dg_at (by rw [h]; exact hj)]; rfl
theorem dec_at {j : Nat} (hj : j < 800) : (yy t)[j]? = some (.int .u8 ((dg t.d j : Nat) : Int)) := by
 unfold yy;rw [List.getElem?_toArray];exact decL_at h hj
theorem zzz {j : Nat} : (decL t)[800 + j]? = ([.int .i64 ((t.nd : Nat) : Int), .int .i64 t.dp, .bool t.neg, .bool t.tr] : List Value)[j]? := by
 unfold decL;rw [List.getElem?_append_right (by simp [h])];simp [h]
theorem dec_nd : (yy t)[800]? = some (.int .i64 ((t.nd : Nat) : Int)) := by unfold yy; rw [List.getElem?_toArray]; exact zzz h (j := 0)
theorem dec_dp : (yy t)[801]? = some (.int .i64 t.dp) := by unfold yy; rw [List.getElem?_toArray]; exact zzz h (j := 1)
theorem dec_neg : (yy t)[802]? = some (.bool t.neg) := by unfold yy; rw [List.getElem?_toArray]; exact zzz h (j := 2)
theorem dec_tr : (yy t)[803]? = some (.bool t.tr) := by unfold yy; rw [List.getElem?_toArray]; exact zzz h (j := 3)
theorem set_d {j b : Nat} (hj : j < 800) : (yy t).setIfInBounds j (.int .u8 ((b : Nat) : Int)) = yy { t with d := t.d.set j b } := by
 unfold yy decL;rw [List.setIfInBounds_toArray, List.set_append_left _ _ (by simp [h]; exact hj), List.map_set]
theorem ygx {j : Nat} {v : Value} : (yy t).setIfInBounds (800 + j) v = (t.d.map (fun b => (.int .u8 ((b : Nat) : Int) : Value)) ++ ([.int .i64 ((t.nd : Nat) : Int), .int .i64 t.dp, .bool t.neg, .bool t.tr] : List Value).set j v).toArray := by
 unfold yy decL;rw [List.setIfInBounds_toArray, List.set_append_right _ _ (by simp [h])];simp [h]
theorem ynv (n : Nat) : (yy t).setIfInBounds 800 (.int .i64 ((n : Nat) : Int)) = yy { t with nd := n } := ygx h (j := 0)
theorem ydx (p : Int) : (yy t).setIfInBounds 801 (.int .i64 p) = yy { t with dp := p } := ygx h (j := 1)
theorem set_neg (b : Bool) : (yy t).setIfInBounds 802 (.bool b) = yy { t with neg := b } := ygx h (j := 2)
theorem ynk (b : Bool) : (yy t).setIfInBounds 803 (.bool b) = yy { t with tr := b } := ygx h (j := 3)
end
attribute [irreducible] yy
structure DecI (t : Dec) : Prop where
 len : t.d.length = 800
 hn : t.nd ≤ 800
 dig : ∀ i, i < t.nd → 48 ≤ dg t.d i ∧ dg t.d i ≤ 57
 lead : 0 < t.nd → 49 ≤ dg t.d 0
/-! ### noughts behind -/
def kd (d : List Nat) : Nat → Nat
 | 0 => 0
 | n + 1 => if dg d n = 48 then kd d n else n + 1
theorem trimN_le (d : List Nat) : ∀ n, kd d n ≤ n
 | 0 => Nat.le_refl _
 | n + 1 => by
  unfold kd;split
  · exact Nat.le_trans (trimN_le d n) (Nat.le_succ n)
  · exact Nat.le_refl _
theorem trimN_pos {d : List Nat} (h : 49 ≤ dg d 0) : ∀ {n}, 0 < n → 0 < kd d n
 | 0, h0 => absurd h0 (Nat.lt_irrefl _)
 | n + 1, _ => by
  unfold kd;split
  · rename_i h1
    rcases Nat.eq_zero_or_pos n with h2 | h2
    · subst h2; omega
    · exact trimN_pos h h2
  · exact Nat.succ_pos _
def yek (t : Dec) : Dec := { t with nd := kd t.d t.nd, dp := if kd t.d t.nd = 0 then 0 else t.dp }
theorem ysz {t : Dec} (h : DecI t) : DecI (yek t) := by
 have h1 := trimN_le t.d t.nd;have h2 := h.hn;exact ⟨h.len, by show kd t.d t.nd ≤ 800; omega, fun i hi => h.dig i (Nat.lt_of_lt_of_le hi h1), fun h0 => h.lead (Nat.lt_of_lt_of_le h0 h1)⟩
theorem ymk {t : Dec} (h : DecI t) (h0 : 0 < t.nd) : 0 < (yek t).nd := trimN_pos (h.lead h0) h0
theorem trimD_dp {t : Dec} (h : DecI t) (h0 : 0 < t.nd) : (yek t).dp = t.dp := by
 have := ymk h h0;show (if kd t.d t.nd = 0 then 0 else t.dp) = t.dp
 rw [if_neg (by intro e; rw [show (yek t).nd = kd t.d t.nd from rfl, e] at this; omega)]
/-! ### the shift to the right -/
structure RsS where
 r : Nat
 n : Nat
def znx (t : Dec) (k : Nat) (s : RsS) : Bool := decide (s.n / 2 ^ k ≠ 0 ∨ t.nd ≤ s.r)
def ywq (t : Dec) (s : RsS) : RsS := ⟨s.r + 1, s.n * 10 + (dg t.d s.r - 48)⟩
def zgq (k : Nat) (s : RsS) : Bool := decide (s.n / 2 ^ k ≠ 0)
def ygz (s : RsS) : RsS := ⟨s.r + 1, s.n * 10⟩
noncomputable def rsA (t : Dec) (k : Nat) : RsS := vb (znx t k) (ywq t) ⟨0, 0⟩
noncomputable def rsB (t : Dec) (k : Nat) : RsS := vb (zgq k) ygz (rsA t k)
structure RsC where
 d : List Nat
 r : Nat
 w : Nat
 n : Nat
def zwv (t : Dec) (s : RsC) : Bool := decide (t.nd ≤ s.r)
def ywz (k : Nat) (s : RsC) : RsC := ⟨s.d.set s.w (s.n / 2 ^ k + 48), s.r + 1, s.w + 1, s.n % 2 ^ k * 10 + (dg s.d s.r - 48)⟩
noncomputable def rsC (t : Dec) (k : Nat) : RsC := vb (zwv t) (ywz k) ⟨t.d, (rsB t k).r, 0, (rsB t k).n⟩
structure RsE where
 d : List Nat
 w : Nat
 n : Nat
 tr : Bool
def xu (s : RsE) : Bool := decide (s.n = 0)
def gz (k : Nat) (s : RsE) : RsE :=
 if s.w < 800 then ⟨s.d.set s.w (s.n / 2 ^ k + 48), s.w + 1, s.n % 2 ^ k * 10, s.tr⟩
 else ⟨s.d, s.w, s.n % 2 ^ k * 10, if 0 < s.n / 2 ^ k then true else s.tr⟩
noncomputable def rsE (t : Dec) (k : Nat) : RsE := vb xu (gz k) ⟨(rsC t k).d, (rsC t k).w, (rsC t k).n, t.tr⟩
noncomputable def ju (t : Dec) (k : Nat) : Dec := yek { t with d := (rsE t k).d, nd := (rsE t k).w, dp := t.dp - (((rsB t k).r : Nat) - 1), tr := (rsE t k).tr }
structure RsAI (t : Dec) (k : Nat) (s : RsS) : Prop where
 hr : s.r ≤ t.nd
 hn : s.n < 10 * 2 ^ k
 zero : s.r = 0 → s.n = 0
 pos : 0 < s.r → 0 < s.n
 one : s.r = 1 → s.n = dg t.d 0 - 48
theorem rsA_keeps {t : Dec} {k : Nat} {s : RsS} (ht : DecI t) (h : RsAI t k s) (hd : znx t k s = false) : RsAI t k (ywq t s) ∧ s.n < 2 ^ k ∧ s.r < t.nd := by
 have hd := of_decide_eq_false hd;have h1 : s.n / 2 ^ k = 0 := Classical.byContradiction fun e => hd (.inl e);have h2 : s.r < t.nd := Nat.lt_of_not_le fun e => hd (.inr e);have hp : 0 < 2 ^ k := Nat.two_pow_pos k;have h3 : s.n < 2 ^ k := (Nat.div_eq_zero_iff_lt hp).1 h1;have hg := ht.dig s.r h2;refine ⟨⟨h2, ?_, fun e => ?_, fun _ => ?_, fun e => ?_⟩, h3, h2⟩
 · show s.n * 10 + (dg t.d s.r - 48) < 10 * 2 ^ k; omega
 · exact absurd e (Nat.succ_ne_zero _)
 · show 0 < s.n * 10 + (dg t.d s.r - 48)
   rcases Nat.eq_zero_or_pos s.r with h4 | h4
   · rw [h4]; have := ht.lead (by omega); omega
   · have := h.pos h4; omega
 · have h4 : s.r = 0 := by have : s.r + 1 = 1 := e; omega
   show s.n * 10 + (dg t.d s.r - 48) = dg t.d 0 - 48
   rw [h.zero h4, h4]; omega
theorem rsA_start (t : Dec) (k : Nat) : RsAI t k ⟨0, 0⟩ := ⟨Nat.zero_le _, by have := Nat.two_pow_pos k; show 0 < 10 * 2 ^ k; omega, fun _ => rfl, fun h => absurd h (Nat.lt_irrefl _), fun h => absurd h (by decide)⟩
theorem rsA_ends {t : Dec} (k : Nat) (ht : DecI t) : RsAI t k (rsA t k) ∧ znx t k (rsA t k) = true := by
 refine vu (RsAI t k) (fun s => t.nd - s.r) (fun s h hd => ?_) (rsA_start t k);obtain ⟨h1, _, h2⟩ := rsA_keeps ht h hd;exact ⟨h1, by show t.nd - (s.r + 1) < t.nd - s.r; omega⟩
theorem rsA_some {t : Dec} {k : Nat} (ht : DecI t) (h0 : 0 < t.nd) : 0 < (rsA t k).r := by
 obtain ⟨h1, h2⟩ := rsA_ends k ht;rcases Nat.eq_zero_or_pos (rsA t k).r with h | h
 · have h2 := of_decide_eq_true h2;rw [h1.zero h, h, Nat.zero_div] at h2;omega
 · exact h
structure RsBI (t : Dec) (k : Nat) (s : RsS) : Prop where
 hn : s.n < 10 * 2 ^ k
 pos : 0 < s.n
 hr : 0 < s.r
 one : s.r = 1 → s.n = dg t.d 0 - 48
 far : s.r ≤ t.nd ∨ 10 ^ (s.r - t.nd) ≤ s.n
theorem rsB_keeps {t : Dec} {k : Nat} {s : RsS} (h : RsBI t k s) (hd : zgq k s = false) (hx : t.nd ≤ s.r) : RsBI t k (ygz s) ∧ s.n < 2 ^ k := by
 have hd := of_decide_eq_false hd;have hp : 0 < 2 ^ k := Nat.two_pow_pos k;have h3 : s.n < 2 ^ k := (Nat.div_eq_zero_iff_lt hp).1 (Classical.byContradiction fun e => hd e);have := h.pos;have := h.hr;refine ⟨⟨by show s.n * 10 < 10 * 2 ^ k; omega, by show 0 < s.n * 10; omega, Nat.succ_pos _, fun e => ?_, .inr ?_⟩, h3⟩
 · have : s.r + 1 = 1 := e; omega
 · show 10 ^ (s.r + 1 - t.nd) ≤ s.n * 10
   have e : s.r + 1 - t.nd = (s.r - t.nd) + 1 := by omega
   rw [e, Nat.pow_succ];rcases h.far with h4 | h4
   · have : s.r - t.nd = 0 := by omega
     rw [this]; omega
   · exact Nat.mul_le_mul_right 10 h4
theorem rsB_start {t : Dec} {k : Nat} (ht : DecI t) (h0 : 0 < t.nd) : RsBI t k (rsA t k) := by
 have h1 := (rsA_ends k ht).1;have h2 := rsA_some (k := k) ht h0;exact ⟨h1.hn, h1.pos h2, h2, h1.one, .inl h1.hr⟩
def RsBJ (t : Dec) (k : Nat) (s : RsS) : Prop := RsBI t k s ∧ (s.n / 2 ^ k ≠ 0 ∨ t.nd ≤ s.r)
theorem rsBJ_keeps {t : Dec} {k : Nat} {s : RsS} (h : RsBJ t k s) (hd : zgq k s = false) : RsBJ t k (ygz s) ∧ s.n < 2 ^ k := by
 have hx : t.nd ≤ s.r := h.2.resolve_left (of_decide_eq_false hd);obtain ⟨h1, h2⟩ := rsB_keeps h.1 hd hx;exact ⟨⟨h1, .inr (Nat.le_succ_of_le hx)⟩, h2⟩
theorem rsBJ_start {t : Dec} {k : Nat} (ht : DecI t) (h0 : 0 < t.nd) : RsBJ t k (rsA t k) := ⟨rsB_start ht h0, of_decide_eq_true (rsA_ends k ht).2⟩
theorem zkk {t : Dec} (k : Nat) (ht : DecI t) (h0 : 0 < t.nd) : RsBJ t k (rsB t k) ∧ zgq k (rsB t k) = true := by
 refine vu (RsBJ t k) (fun s => 2 ^ k - s.n) (fun s h hd => ?_) (rsBJ_start ht h0);obtain ⟨h1, h2⟩ := rsBJ_keeps h hd;have := h.1.pos;exact ⟨h1, by show 2 ^ k - s.n * 10 < 2 ^ k - s.n; omega⟩
theorem rsB_big {t : Dec} (k : Nat) (ht : DecI t) (h0 : 0 < t.nd) : 2 ^ k ≤ (rsB t k).n := by
 have h := of_decide_eq_true (zkk k ht h0).2;rcases Nat.lt_or_ge (rsB t k).n (2 ^ k) with h1 | h1
 · exact absurd (Nat.div_eq_of_lt h1) h
 · exact h1
theorem rsB_r {t : Dec} (k : Nat) (ht : DecI t) (h0 : 0 < t.nd) : (rsB t k).r ≤ t.nd + k + 1 := by
 have h := (zkk k ht h0).1.1;rcases h.far with h1 | h1
 · omega
 · have h2 : 10 ^ ((rsB t k).r - t.nd) < 10 ^ (k + 1) := by
    have h3 : 2 ^ k ≤ 10 ^ k := Nat.pow_le_pow_left (by decide) k;have := h.hn;rw [Nat.pow_succ]; omega
   have := (Nat.pow_lt_pow_iff_right (a := 10) (by decide)).1 h2;omega
structure RsCI (t : Dec) (k r0 : Nat) (s : RsC) : Prop where
 len : s.d.length = 800
 hw : s.r = s.w + r0
 hr : s.w = 0 ∨ s.r ≤ t.nd
 old : ∀ i, s.w ≤ i → dg s.d i = dg t.d i
 dig : ∀ i, i < s.w → 48 ≤ dg s.d i ∧ dg s.d i ≤ 57
 lead : 0 < s.w → 49 ≤ dg s.d 0 ∧ (r0 = 1 → dg s.d 0 < dg t.d 0)
 hn : s.n < 10 * 2 ^ k
 first : s.w = 0 → 2 ^ k ≤ s.n ∧ (r0 = 1 → s.n = dg t.d 0 - 48)
theorem yzx {n k : Nat} (h : n < 10 * 2 ^ k) : n / 2 ^ k ≤ 9 := by
 have := (Nat.div_lt_iff_lt_mul (Nat.two_pow_pos k)).2 h;omega
theorem put_lead {t : Dec} {k n r0 : Nat} (hk : 1 ≤ k) (h : 2 ^ k ≤ n ∧ (r0 = 1 → n = dg t.d 0 - 48)) : 49 ≤ n / 2 ^ k + 48 ∧ (r0 = 1 → n / 2 ^ k + 48 < dg t.d 0) := by
 have h1 : 1 ≤ n / 2 ^ k := (Nat.le_div_iff_mul_le (Nat.two_pow_pos k)).2 (by omega);refine ⟨by omega, fun e => ?_⟩;have h2 := h.2 e;have h3 : n / 2 ^ k < n := Nat.div_lt_self (by have := Nat.two_pow_pos k; omega) (Nat.one_lt_two_pow (by omega));omega
theorem rsC_keeps {t : Dec} {k r0 : Nat} {s : RsC} (ht : DecI t) (hk : 1 ≤ k) (hr0 : 1 ≤ r0) (h : RsCI t k r0 s) (hd : zwv t s = false) : RsCI t k r0 (ywz k s) := by
 have hd : ¬ t.nd ≤ s.r := of_decide_eq_false hd;have h1 := h.hw;have hn := ht.hn;have hl := h.len;have hw : s.w < s.d.length := by omega
 have hg := ht.dig s.r (by omega);rw [← h.old s.r (by omega)] at hg;have hq := yzx h.hn;have hq0 := Nat.zero_le (s.n / 2 ^ k);have hm := Nat.mod_lt s.n (Nat.two_pow_pos k)
 refine ⟨by show (s.d.set s.w _).length = 800; rw [List.length_set]; exact hl, by show s.r + 1 = s.w + 1 + r0; omega, .inr (by show s.r + 1 ≤ t.nd; omega), fun i hi => ?_, fun i hi => ?_, fun _ => ?_, ?_, fun e => absurd e (Nat.succ_ne_zero _)⟩
 · show dg (s.d.set s.w _) i = _
   have hi : s.w + 1 ≤ i := hi;rw [zvk hw, if_neg (by omega)];exact h.old i (by omega)
 · show 48 ≤ dg (s.d.set s.w _) i ∧ dg (s.d.set s.w _) i ≤ 57
   have hi : i < s.w + 1 := hi;rw [zvk hw];split
   · omega
   · exact h.dig i (by omega)
 · show 49 ≤ dg (s.d.set s.w _) 0 ∧ (r0 = 1 → dg (s.d.set s.w _) 0 < dg t.d 0)
   rw [zvk hw];split
   · rename_i e; exact put_lead hk (h.first e.symm)
   · exact h.lead (by omega)
 · show s.n % 2 ^ k * 10 + (dg s.d s.r - 48) < 10 * 2 ^ k
   omega
theorem rsC_start {t : Dec} {k : Nat} (ht : DecI t) (h0 : 0 < t.nd) : RsCI t k (rsB t k).r ⟨t.d, (rsB t k).r, 0, (rsB t k).n⟩ := by
 have h := (zkk k ht h0).1.1;exact ⟨ht.len, (Nat.zero_add _).symm, .inl rfl, fun _ _ => rfl, fun _ hi => absurd hi (Nat.not_lt_zero _), fun hi => absurd hi (Nat.lt_irrefl _), h.hn, fun _ => ⟨rsB_big k ht h0, h.one⟩⟩
theorem rsC_ends {t : Dec} {k : Nat} (ht : DecI t) (hk : 1 ≤ k) (h0 : 0 < t.nd) : RsCI t k (rsB t k).r (rsC t k) ∧ zwv t (rsC t k) = true := by
 have hr := (zkk k ht h0).1.1.hr;refine vu (RsCI t k (rsB t k).r) (fun s => t.nd - s.r) (fun s h hd => ⟨rsC_keeps ht hk hr h hd, ?_⟩) (rsC_start ht h0);have hd : ¬ t.nd ≤ s.r := of_decide_eq_false hd;show t.nd - (s.r + 1) < t.nd - s.r; omega
structure RsEI (t : Dec) (k r0 : Nat) (s : RsE) : Prop where
 len : s.d.length = 800
 hw : s.w ≤ 800
 dig : ∀ i, i < s.w → 48 ≤ dg s.d i ∧ dg s.d i ≤ 57
 lead : 0 < s.w → 49 ≤ dg s.d 0 ∧ (r0 = 1 → dg s.d 0 < dg t.d 0)
 hn : s.n < 10 * 2 ^ k
 first : s.w = 0 → 2 ^ k ≤ s.n ∧ (r0 = 1 → s.n = dg t.d 0 - 48)
theorem rsE_keeps {t : Dec} {k r0 : Nat} {s : RsE} (hk : 1 ≤ k) (h : RsEI t k r0 s) : RsEI t k r0 (gz k s) := by
 have hl := h.len;have hq := yzx h.hn;have hq0 := Nat.zero_le (s.n / 2 ^ k);have hm := Nat.mod_lt s.n (Nat.two_pow_pos k);have hn : s.n % 2 ^ k * 10 < 10 * 2 ^ k := by omega
 unfold gz;split
 · rename_i hw
   have hw' : s.w < s.d.length := by omega
   refine ⟨by show (s.d.set s.w _).length = 800; rw [List.length_set]; exact hl, hw, fun i hi => ?_, fun _ => ?_, hn, fun e => absurd e (Nat.succ_ne_zero _)⟩
   · show 48 ≤ dg (s.d.set s.w _) i ∧ dg (s.d.set s.w _) i ≤ 57
     have hi : i < s.w + 1 := hi;rw [zvk hw'];split
     · omega
     · exact h.dig i (by omega)
   · show 49 ≤ dg (s.d.set s.w _) 0 ∧ (r0 = 1 → dg (s.d.set s.w _) 0 < dg t.d 0)
     rw [zvk hw'];split
     · rename_i e; exact put_lead hk (h.first e.symm)
     · exact h.lead (by omega)
 · rename_i hw
   exact ⟨hl, h.hw, h.dig, h.lead, hn, fun e => absurd (show s.w = 0 from e) (by omega)⟩
theorem rsE_start {t : Dec} {k : Nat} (ht : DecI t) (hk : 1 ≤ k) (h0 : 0 < t.nd) : RsEI t k (rsB t k).r ⟨(rsC t k).d, (rsC t k).w, (rsC t k).n, t.tr⟩ := by
 have h := (rsC_ends ht hk h0).1;have hn := ht.hn;have hw := h.hw;refine ⟨h.len, ?_, h.dig, h.lead, h.hn, h.first⟩;show (rsC t k).w ≤ 800
 rcases h.hr with h1 | h1 <;> omega
theorem rsE_twos {k j : Nat} {s : RsE} (h : 2 ^ j ∣ s.n ∧ j ≤ k + 1 ∧ (j = k + 1 → s.n = 0)) (hd : xu s = false) : j ≤ k ∧ (2 ^ (j + 1) ∣ (gz k s).n ∧ j + 1 ≤ k + 1 ∧ (j + 1 = k + 1 → (gz k s).n = 0)) := by
 have hd : s.n ≠ 0 := of_decide_eq_false hd;obtain ⟨h1, h2, h3⟩ := h;have hj : j ≤ k := by
  rcases Nat.lt_or_ge k j with h4 | h4
  · exact absurd (h3 (by omega)) hd
  · exact h4
 have e : (gz k s).n = s.n % 2 ^ k * 10 := by unfold gz; split <;> rfl
 refine ⟨hj, ?_, by omega, fun ej => ?_⟩
 · rw [e, Nat.pow_succ];have h5 : 2 ^ j ∣ s.n % 2 ^ k := (Nat.dvd_mod_iff (Nat.pow_dvd_pow 2 hj)).2 h1;exact Nat.mul_dvd_mul h5 (by decide)
 · have : j = k := by omega
   subst this;rw [e, Nat.mod_eq_zero_of_dvd h1]
theorem rsE_ends {t : Dec} {k : Nat} (ht : DecI t) (hk : 1 ≤ k) (h0 : 0 < t.nd) : RsEI t k (rsB t k).r (rsE t k) ∧ xu (rsE t k) = true := by
 have key : ∀ (m j : Nat) (s : RsE), k + 1 - j = m → RsEI t k (rsB t k).r s → (2 ^ j ∣ s.n ∧ j ≤ k + 1 ∧ (j = k + 1 → s.n = 0)) → RsEI t k (rsB t k).r (vb xu (gz k) s) ∧ xu (vb xu (gz k) s) = true := by
  intro m;induction m with
  | zero =>
   intro j s hm h hj;have hd : xu s = true := decide_eq_true (hj.2.2 (by omega));rw [qn hd]; exact ⟨h, hd⟩
  | succ m ih =>
   intro j s hm h hj;cases hd : xu s with
   | true => rw [qn hd]; exact ⟨h, hd⟩
   | false =>
    rw [vk hd];obtain ⟨h1, h2⟩ := rsE_twos hj hd;exact ih (j + 1) _ (by omega) (rsE_keeps hk h) h2
 exact key (k + 1) 0 _ rfl (rsE_start ht hk h0) ⟨Nat.one_dvd _, by omega, fun e => absurd e (by omega)⟩
theorem xb {t : Dec} {k : Nat} (ht : DecI t) (hk : 1 ≤ k) (h0 : 0 < t.nd) :
 DecI (ju t k) ∧ 0 < (ju t k).nd ∧ t.dp - 801 - k ≤ (ju t k).dp ∧ ((ju t k).dp < t.dp ∨ ((ju t k).dp = t.dp ∧ dg (ju t k).d 0 < dg t.d 0)) ∧ (ju t k).neg = t.neg := by
 obtain ⟨h1, h2⟩ := rsE_ends ht hk h0;have h2 : (rsE t k).n = 0 := of_decide_eq_true h2;have hw : 0 < (rsE t k).w := by
  rcases Nat.eq_zero_or_pos (rsE t k).w with h | h
  · have := (h1.first h).1; have := Nat.two_pow_pos k; omega
  · exact h
 have hI : DecI { t with d := (rsE t k).d, nd := (rsE t k).w, dp := t.dp - (((rsB t k).r : Nat) - 1), tr := (rsE t k).tr } := ⟨h1.len, h1.hw, h1.dig, fun _ => (h1.lead hw).1⟩;have hdp : (ju t k).dp = t.dp - (((rsB t k).r : Nat) - 1) := trimD_dp hI hw;have hr := rsB_r k ht h0;have hr0 := (zkk k ht h0).1.1.hr;have hn := ht.hn
 refine ⟨ysz hI, ymk hI hw, by rw [hdp]; omega, ?_, rfl⟩;rw [hdp];rcases Nat.lt_or_ge 1 (rsB t k).r with h | h
 · exact .inl (by omega)
 · exact .inr ⟨by omega, (h1.lead hw).2 (by omega)⟩
end Go.Proofs.YtjdcjdohghkcgaaGreatDoor
namespace Go.Proofs.YtjdcjdohghkcgaaGreatDoor
open Go.RowKit
set_option maxRecDepth 100000
/-! ### the beginning beside the table's digits -/
def jl : List Nat → List Nat → Bool
 | _, [] => false
 | [], _ :: _ => true
 | b :: bs, c :: cs => if b = c then jl bs cs else decide (b < c)
def zfz : List Nat → Nat
 | [] => 0
 | c :: l => (c - 48) * 10 ^ l.length + zfz l
def Digs (l : List Nat) : Prop := ∀ c ∈ l, 48 ≤ c ∧ c ≤ 57
theorem yyv : ∀ {l : List Nat}, Digs l → zfz l < 10 ^ l.length
 | [], _ => by simp [zfz]
 | c :: l, h => by
  have h1 := h c (List.mem_cons_self ..);have h2 := yyv (fun x hx => h x (List.mem_cons_of_mem _ hx));show (c - 48) * 10 ^ l.length + zfz l < 10 ^ (l.length + 1)
  have h3 : (c - 48) * 10 ^ l.length ≤ 9 * 10 ^ l.length := Nat.mul_le_mul_right _ (by omega);rw [Nat.pow_succ]; omega
def Tail : List Nat → Prop
 | [] => True
 | [c] => 49 ≤ c
 | _ :: l => Tail l
theorem tail_next {c : Nat} {l : List Nat} (h : Tail (c :: l)) : Tail l := by
 cases l with
 | nil => trivial
 | cons x l => exact h
theorem tail_pos : ∀ {c : Nat} {l : List Nat}, Tail (c :: l) → 0 < zfz (c :: l)
 | c, [], h => by
  have h : 49 ≤ c := h;show 0 < (c - 48) * 10 ^ 0 + 0
  omega
 | c, x :: l, h => by
  have := tail_pos (c := x) (l := l) h;show 0 < (c - 48) * 10 ^ (l.length + 1) + zfz (x :: l)
  omega
theorem pre_step {a c p q u v : Nat} (h : a < c) (h1 : u < p) (hq : 0 < q) : (a * p + u) * (q * 10) < (c * q + v) * (p * 10) := by
 have h2 : a * p + u < (a + 1) * p := by rw [Nat.add_mul, Nat.one_mul]; omega
 have h3 : (a + 1) * p ≤ c * p := Nat.mul_le_mul_right p h;calc (a * p + u) * (q * 10) < (c * p) * (q * 10) := Nat.mul_lt_mul_of_pos_right (by omega) (by omega)
  _ = (c * q) * (p * 10) := by ac_rfl
  _ ≤ (c * q + v) * (p * 10) := Nat.mul_le_mul_right _ (Nat.le_add_right _ _)
theorem pre_both : ∀ {b s : List Nat}, Digs b → Digs s → Tail s →
 (jl b s = true → zfz b * 10 ^ s.length < zfz s * 10 ^ b.length) ∧ (jl b s = false → zfz s * 10 ^ b.length ≤ zfz b * 10 ^ s.length)
 | b, [], _, _, _ => by
  refine ⟨fun h => ?_, fun _ => ?_⟩
  · unfold jl at h; cases h
  · show 0 * _ ≤ _; rw [Nat.zero_mul]; exact Nat.zero_le _
 | [], c :: cs, _, _, ht => by
  refine ⟨fun _ => ?_, fun h => ?_⟩
  · have := tail_pos ht;show 0 * _ < zfz (c :: cs) * 1
    omega
  · unfold jl at h; cases h
 | x :: bs, c :: cs, hb, hs, ht => by
  have hx := hb x (List.mem_cons_self ..);have hc := hs c (List.mem_cons_self ..);have hbs : Digs bs := fun y hy => hb y (List.mem_cons_of_mem _ hy);have hcs : Digs cs := fun y hy => hs y (List.mem_cons_of_mem _ hy);have lb := yyv hbs;have lc := yyv hcs;have p1 : 0 < 10 ^ bs.length := Nat.pow_pos (by decide);have p2 : 0 < 10 ^ cs.length := Nat.pow_pos (by decide)
  show (jl (x :: bs) (c :: cs) = true → ((x - 48) * 10 ^ bs.length + zfz bs) * 10 ^ (cs.length + 1) < ((c - 48) * 10 ^ cs.length + zfz cs) * 10 ^ (bs.length + 1)) ∧
   (jl (x :: bs) (c :: cs) = false → ((c - 48) * 10 ^ cs.length + zfz cs) * 10 ^ (bs.length + 1) ≤ ((x - 48) * 10 ^ bs.length + zfz bs) * 10 ^ (cs.length + 1))
  unfold jl;rw [Nat.pow_succ, Nat.pow_succ];generalize hP : 10 ^ bs.length = P at *
  generalize hR : 10 ^ cs.length = R at *
  split
  · rename_i e
    subst e;obtain ⟨h1, h2⟩ := pre_both (b := bs) (s := cs) hbs hcs (tail_next ht);rw [hP, hR] at h1 h2;have e : (x - 48) * P * (R * 10) = (x - 48) * R * (P * 10) := by ac_rfl
    rw [Nat.add_mul, Nat.add_mul, e, ← Nat.mul_assoc (zfz bs), ← Nat.mul_assoc (zfz cs)];exact ⟨fun h => by have := h1 h; omega, fun h => by have := h2 h; omega⟩
  · rename_i e
    refine ⟨fun h => ?_, fun h => ?_⟩
    · have h := of_decide_eq_true h;exact pre_step (by omega) lb p2
    · have h := of_decide_eq_false h;exact Nat.le_of_lt (pre_step (by omega) lc p1)
/-! ### values of the last digits -/
def zqz (d : List Nat) (nd : Nat) : Nat → Nat
 | 0 => 0
 | m + 1 => (dg d (nd - 1 - m) - 48) * 10 ^ m + zqz d nd m
theorem lastV_drop {d : List Nat} {nd : Nat} (hn : nd ≤ d.length) : ∀ {m : Nat}, m ≤ nd → zqz d nd m = zfz ((d.take nd).drop (nd - m))
 | 0, _ => by
  rw [Nat.sub_zero, List.drop_eq_nil_of_le (by rw [List.length_take]; omega)]; rfl
 | m + 1, hm => by
  have hl : (d.take nd).length = nd := by rw [List.length_take]; omega
  have h1 : nd - (m + 1) < (d.take nd).length := by omega
  have e : nd - (m + 1) + 1 = nd - m := by omega
  rw [List.drop_eq_getElem_cons h1, e];have h2 : (d.take nd)[nd - (m + 1)] = dg d (nd - 1 - m) := by
   have : nd - (m + 1) = nd - 1 - m := by omega
   have h3 := dg_at (l := d) (j := nd - (m + 1)) (by omega);rw [← this];rw [List.getElem_take];exact Option.some.inj ((List.getElem?_eq_getElem (by omega)).symm.trans h3)
  show (dg d (nd - 1 - m) - 48) * 10 ^ m + zqz d nd m = (_ - 48) * 10 ^ ((d.take nd).drop (nd - m)).length + zfz _
  rw [h2, lastV_drop hn (by omega), List.length_drop, hl];have : nd - (nd - m) = m := by omega
  rw [this]
theorem lastV_all {d : List Nat} {nd : Nat} (hn : nd ≤ d.length) : zqz d nd nd = zfz (d.take nd) := by
 rw [lastV_drop hn (Nat.le_refl _), Nat.sub_self, List.drop_zero]
theorem digs_take {t : Dec} (ht : DecI t) : Digs (t.d.take t.nd) := by
 intro c hc;obtain ⟨i, hi, e⟩ := List.getElem_of_mem hc;rw [List.length_take] at hi;have h1 : i < t.nd := by omega
 rw [List.getElem_take] at e;have h2 := dg_at (l := t.d) (j := i) (by omega);rw [List.getElem?_eq_getElem (by omega), e] at h2;rw [Option.some.inj h2];exact ht.dig i h1
theorem lastV_lead {t : Dec} (ht : DecI t) (h0 : 0 < t.nd) : 10 ^ (t.nd - 1) ≤ zqz t.d t.nd t.nd := by
 obtain ⟨n, hn⟩ : ∃ n, t.nd = n + 1 := ⟨t.nd - 1, by omega⟩;rw [hn];show 10 ^ (n + 1 - 1) ≤ (dg t.d (n + 1 - 1 - n) - 48) * 10 ^ n + _
 have h1 := ht.lead h0;have e : n + 1 - 1 - n = 0 := by omega
 rw [e, Nat.add_sub_cancel];have : 1 * 10 ^ n ≤ (dg t.d 0 - 48) * 10 ^ n := Nat.mul_le_mul_right _ (by omega);omega
theorem lastV_lt {t : Dec} (ht : DecI t) : zqz t.d t.nd t.nd < 10 ^ t.nd := by
 have hn := ht.hn;have hl := ht.len;rw [lastV_all (by omega)];have h := yyv (digs_take ht);rwa [List.length_take, Nat.min_eq_left (by omega)] at h
def cy (t : Dec) (k m : Nat) : Nat := zqz t.d t.nd m * 2 ^ k / 10 ^ m
theorem cy_succ (t : Dec) (k m : Nat) : cy t k (m + 1) = (cy t k m + (dg t.d (t.nd - 1 - m) - 48) * 2 ^ k) / 10 := by
 unfold cy;show ((dg t.d (t.nd - 1 - m) - 48) * 10 ^ m + zqz t.d t.nd m) * 2 ^ k / 10 ^ (m + 1) = _
 generalize dg t.d (t.nd - 1 - m) - 48 = c
 generalize zqz t.d t.nd m = v
 have hp : 0 < 10 ^ m := Nat.pow_pos (by decide);rw [Nat.pow_succ, ← Nat.div_div_eq_div_mul];congr 1
 have e : (c * 10 ^ m + v) * 2 ^ k = v * 2 ^ k + c * 2 ^ k * 10 ^ m := by rw [Nat.add_mul, Nat.mul_right_comm]; omega
 rw [e, Nat.add_mul_div_right _ _ hp]
/-! ### the table -/
def lcD (k : Nat) : Nat := if k ≤ 3 then 1 else if k = 6 then 2 else if k = 9 then 3 else if k = 13 then 4 else if k = 16 then 5 else if k = 19 then 6 else if k = 23 then 7 else if k = 26 then 8 else if k = 27 then 9 else 16
def digB (n : Nat) : Nat → List Nat
 | 0 => []
 | m + 1 => (n / 10 ^ m % 10 + 48) :: digB n m
def lcL (k : Nat) : Nat := k + 1 - lcD k
def lcS (k : Nat) : List Nat := digB (5 ^ k) (lcL k)
def Shl (k : Nat) : Prop := k = 1 ∨ k = 3 ∨ k = 6 ∨ k = 9 ∨ k = 13 ∨ k = 16 ∨ k = 19 ∨ k = 23 ∨ k = 26 ∨ k = 27 ∨ k = 53
structure ShlI (k : Nat) : Prop where
 k1 : 1 ≤ k ∧ k ≤ 60
 d1 : 1 ≤ lcD k ∧ lcD k ≤ 16
 up : 2 ^ k ≤ 10 ^ lcD k
 lo : 10 ^ (lcD k - 1) ≤ 2 ^ k
 cut : 10 ^ (lcD k - 1) * 10 ^ (lcS k).length = zfz (lcS k) * 2 ^ k
 digs : Digs (lcS k)
 tail : Tail (lcS k)
instance (l : List Nat) : Decidable (Digs l) := inferInstanceAs (Decidable (∀ c ∈ l, 48 ≤ c ∧ c ≤ 57))
theorem shl_ok {k : Nat} (h : Shl k) : ShlI k := by
 rcases h with rfl | rfl | rfl | rfl | rfl | rfl | rfl | rfl | rfl | rfl | rfl <;>
 exact ⟨by decide, by decide, by decide +kernel, by decide +kernel, by decide +kernel, by decide +kernel, by simp [lcS, lcL, lcD, digB, Tail]⟩
def qw (t : Dec) (k : Nat) : Nat := if jl (t.d.take t.nd) (lcS k) then lcD k - 1 else lcD k
theorem zdz (a b c : Nat) : a * b * c = a * c * b := Nat.mul_right_comm a b c
theorem ykx {t : Dec} {k : Nat} (ht : DecI t) (h0 : 0 < t.nd) (hk : Shl k) :
 qw t k ≤ 16 ∧ zqz t.d t.nd t.nd * 2 ^ k < 10 ^ (qw t k + t.nd) ∧ (0 < qw t k → 10 ^ (qw t k - 1 + t.nd) ≤ zqz t.d t.nd t.nd * 2 ^ k) := by
 have q := shl_ok hk;have hn := ht.hn;have hl := ht.len;have hlen : (t.d.take t.nd).length = t.nd := by rw [List.length_take]; omega
 have hp := pre_both (digs_take ht) q.digs q.tail;rw [hlen, ← lastV_all (by omega)] at hp;have h1 := lastV_lt ht;have h2 := lastV_lead ht h0;have hd1 := q.d1;have hP : 0 < 2 ^ k := Nat.two_pow_pos k;generalize hN : zqz t.d t.nd t.nd = n at *
 have hL : 0 < 10 ^ (lcS k).length := Nat.pow_pos (by decide);unfold qw;cases hb : jl (t.d.take t.nd) (lcS k) with
 | true =>
  have h3 := hp.1 hb;rw [if_pos rfl];refine ⟨by omega, ?_, fun hpos => ?_⟩
  · refine Nat.lt_of_mul_lt_mul_right (a := 10 ^ (lcS k).length) ?_;rw [Nat.pow_add, zdz n, zdz (10 ^ (lcD k - 1)), q.cut, zdz (zfz (lcS k))];exact Nat.mul_lt_mul_of_pos_right h3 hP
  · have e : lcD k - 1 - 1 + t.nd = lcD k - 1 + (t.nd - 1) := by omega
    rw [e, Nat.pow_add, Nat.mul_comm];exact Nat.mul_le_mul h2 q.lo
 | false =>
  have h3 := hp.2 hb;rw [if_neg (by decide)];refine ⟨by omega, ?_, fun hpos => ?_⟩
  · rw [Nat.pow_add, Nat.mul_comm (10 ^ lcD k)];exact Nat.lt_of_lt_of_le (Nat.mul_lt_mul_of_pos_right h1 hP) (Nat.mul_le_mul_left _ q.up)
  · refine Nat.le_of_mul_le_mul_right (c := 10 ^ (lcS k).length) ?_ hL;rw [Nat.pow_add, zdz n, zdz (10 ^ (lcD k - 1)), q.cut, zdz (zfz (lcS k))];exact Nat.mul_le_mul_right _ h3
theorem cy_ok {t : Dec} {k : Nat} (ht : DecI t) (h0 : 0 < t.nd) (hk : Shl k) :
 cy t k t.nd < 10 ^ qw t k ∧ (0 < qw t k → 10 ^ (qw t k - 1) ≤ cy t k t.nd) := by
 obtain ⟨_, h1, h2⟩ := ykx ht h0 hk;have hp : 0 < 10 ^ t.nd := Nat.pow_pos (by decide);unfold cy;refine ⟨(Nat.div_lt_iff_lt_mul hp).2 (by rwa [← Nat.pow_add]), fun h => (Nat.le_div_iff_mul_le hp).2 (by rw [← Nat.pow_add]; exact h2 h)⟩
/-! ### the loops -/
structure LsA where
 d : List Nat
 r : Nat
 w : Nat
 n : Nat
 tr : Bool
def xp (d : List Nat) (w x : Nat) : List Nat := if w < 800 then d.set w (x + 48) else d
def lsTr (tr : Bool) (w x : Nat) : Bool := if w < 800 then tr else if x ≠ 0 then true else tr
def lsN (k : Nat) (s : LsA) : Nat := s.n + (dg s.d (s.r - 1) - 48) * 2 ^ k
def zyv (s : LsA) : Bool := decide (s.r = 0)
def yxv (k : Nat) (s : LsA) : LsA := ⟨xp s.d (s.w - 1) (lsN k s % 10), s.r - 1, s.w - 1, lsN k s / 10, lsTr s.tr (s.w - 1) (lsN k s % 10)⟩
def zyk (s : LsA) : Bool := decide (s.n = 0)
def yxk (s : LsA) : LsA := ⟨xp s.d (s.w - 1) (s.n % 10), s.r, s.w - 1, s.n / 10, lsTr s.tr (s.w - 1) (s.n % 10)⟩
noncomputable def lsA (t : Dec) (k : Nat) : LsA := vb zyv (yxv k) ⟨t.d, t.nd, t.nd + qw t k, 0, t.tr⟩
noncomputable def lsB (t : Dec) (k : Nat) : LsA := vb zyk yxk (lsA t k)
noncomputable def vp (t : Dec) (k : Nat) : Dec := yek { t with d := (lsB t k).d, nd := if 800 ≤ t.nd + qw t k then 800 else t.nd + qw t k, dp := t.dp + ((qw t k : Nat) : Int), tr := (lsB t k).tr }
theorem put_len {d : List Nat} {w x : Nat} (h : d.length = 800) : (xp d w x).length = 800 := by
 unfold xp; split
 · rw [List.length_set]; exact h
 · exact h
theorem put_at {d : List Nat} {w x i : Nat} (h : d.length = 800) (hi : i < 800) : dg (xp d w x) i = if i = w then x + 48 else dg d i := by
 unfold xp; split
 · rw [zvk (by omega)]
 · rw [if_neg (by omega)]
structure LsAI (t : Dec) (k : Nat) (s : LsA) : Prop where
 len : s.d.length = 800
 hw : s.w = s.r + qw t k
 hr : s.r ≤ t.nd
 old : ∀ i, i < s.r → dg s.d i = dg t.d i
 hn : s.n = cy t k (t.nd - s.r)
 small : s.n < 2 ^ k
 dig : ∀ i, s.w ≤ i → i < t.nd + qw t k → i < 800 → 48 ≤ dg s.d i ∧ dg s.d i ≤ 57
 last : s.r < t.nd → s.w < 800 → dg s.d s.w = (cy t k (t.nd - s.r - 1) + (dg t.d s.r - 48) * 2 ^ k) % 10 + 48
theorem lsA_keeps {t : Dec} {k : Nat} {s : LsA} (ht : DecI t) (h : LsAI t k s) (hd : zyv s = false) : LsAI t k (yxv k s) ∧ 0 < s.r ∧ lsN k s < 10 * 2 ^ k := by
 have hd : s.r ≠ 0 := of_decide_eq_false hd;have hr := h.hr;have hn := ht.hn;have hw := h.hw;have ho := h.old (s.r - 1) (by omega);have hg := ht.dig (s.r - 1) (by omega);have hs := h.small;have e1 : t.nd - 1 - (t.nd - s.r) = s.r - 1 := by omega
 have e2 : t.nd - (s.r - 1) = t.nd - s.r + 1 := by omega
 have hN : lsN k s = cy t k (t.nd - s.r) + (dg t.d (t.nd - 1 - (t.nd - s.r)) - 48) * 2 ^ k := by
  unfold lsN; rw [h.hn, ho, e1]
 have hlt : lsN k s < 10 * 2 ^ k := by
  unfold lsN; rw [ho];have : (dg t.d (s.r - 1) - 48) * 2 ^ k ≤ 9 * 2 ^ k := Nat.mul_le_mul_right _ (by omega);omega
 refine ⟨⟨put_len h.len, by show s.w - 1 = s.r - 1 + _; omega, by show s.r - 1 ≤ _; omega, fun i hi => ?_, ?_, ?_, fun i hi h1 h2 => ?_, fun h1 h2 => ?_⟩, by omega, hlt⟩
 · have hi : i < s.r - 1 := hi;show dg (xp s.d (s.w - 1) _) i = _
   rw [put_at h.len (by omega), if_neg (by omega)];exact h.old i (by omega)
 · show lsN k s / 10 = cy t k (t.nd - (s.r - 1))
   rw [e2, cy_succ, hN]
 · show lsN k s / 10 < 2 ^ k
   exact (Nat.div_lt_iff_lt_mul (by decide)).2 (by omega)
 · have hi : s.w - 1 ≤ i := hi;show 48 ≤ dg (xp s.d (s.w - 1) _) i ∧ dg (xp s.d (s.w - 1) _) i ≤ 57
   rw [put_at h.len h2];split
   · have := Nat.mod_lt (lsN k s) (show 0 < 10 by decide); omega
   · exact h.dig i (by omega) h1 h2
 · have h2 : s.w - 1 < 800 := h2;show dg (xp s.d (s.w - 1) _) (s.w - 1) = (cy t k (t.nd - (s.r - 1) - 1) + (dg t.d (s.r - 1) - 48) * 2 ^ k) % 10 + 48
   rw [put_at h.len h2, if_pos rfl, hN, e1, e2, Nat.add_sub_cancel]
theorem lsA_start {t : Dec} {k : Nat} (ht : DecI t) : LsAI t k ⟨t.d, t.nd, t.nd + qw t k, 0, t.tr⟩ := by
 refine ⟨ht.len, rfl, Nat.le_refl _, fun _ _ => rfl, ?_, Nat.two_pow_pos k, fun i hi h1 => absurd h1 (Nat.not_lt.2 hi), fun h1 => absurd h1 (Nat.lt_irrefl _)⟩;show 0 = cy t k (t.nd - t.nd)
 rw [Nat.sub_self];show 0 = 0 * 2 ^ k / 10 ^ 0
 rw [Nat.zero_mul, Nat.zero_div]
theorem lsA_ends {t : Dec} (k : Nat) (ht : DecI t) : LsAI t k (lsA t k) ∧ zyv (lsA t k) = true := by
 refine vu (LsAI t k) (fun s => s.r) (fun s h hd => ?_) (lsA_start ht);obtain ⟨h1, h2, _⟩ := lsA_keeps ht h hd;exact ⟨h1, by show s.r - 1 < s.r; omega⟩
structure LsBI (t : Dec) (k : Nat) (s : LsA) : Prop where
 len : s.d.length = 800
 hw : s.w ≤ qw t k
 hn : (s.w = 0 ∧ s.n = 0) ∨ (0 < s.w ∧ 10 ^ (s.w - 1) ≤ s.n ∧ s.n < 10 ^ s.w)
 small : s.n < 2 ^ k
 dig : ∀ i, s.w ≤ i → i < t.nd + qw t k → i < 800 → 48 ≤ dg s.d i ∧ dg s.d i ≤ 57
 lead : s.w = 0 → 49 ≤ dg s.d 0 ∧ (qw t k = 0 → dg t.d 0 < dg s.d 0)
theorem lsB_start {t : Dec} {k : Nat} (ht : DecI t) (h0 : 0 < t.nd) (hk : Shl k) : LsBI t k (lsA t k) := by
 obtain ⟨h1, h2⟩ := lsA_ends k ht;have h2 : (lsA t k).r = 0 := of_decide_eq_true h2;obtain ⟨c1, c2⟩ := cy_ok ht h0 hk;have hw := h1.hw;rw [h2, Nat.zero_add] at hw;have hn := h1.hn;rw [h2, Nat.sub_zero] at hn;have q := shl_ok hk;refine ⟨h1.len, by omega, ?_, h1.small, h1.dig, fun e => ?_⟩
 · rw [hn, hw];rcases Nat.eq_zero_or_pos (qw t k) with e | e
   · rw [e] at c1;exact .inl ⟨e, by simpa using c1⟩
   · exact .inr ⟨e, c2 e, c1⟩
 · have ed : qw t k = 0 := by omega
   have hl := h1.last (by omega) (by omega);rw [h2, Nat.sub_zero, e] at hl;rw [ed] at c1;obtain ⟨n, hnd⟩ : ∃ n, t.nd = n + 1 := ⟨t.nd - 1, by omega⟩;have hc := cy_succ t k n;rw [← hnd, show t.nd - 1 - n = 0 by omega] at hc;rw [show t.nd - 1 = n by omega] at hl;have hz : cy t k t.nd = 0 := by simpa using c1
   rw [hz] at hc;generalize hX : cy t k n + (dg t.d 0 - 48) * 2 ^ k = X at *
   have hX10 : X < 10 := by
    rcases Nat.lt_or_ge X 10 with h | h
    · exact h
    · have : 1 ≤ X / 10 := (Nat.le_div_iff_mul_le (by decide)).2 (by omega);omega
   rw [Nat.mod_eq_of_lt hX10] at hl;have hlead := ht.lead h0;have h2k : 2 ≤ 2 ^ k := by
    have : 2 ^ 1 ≤ 2 ^ k := Nat.pow_le_pow_right (by decide) q.k1.1;simpa using this
   have hm : (dg t.d 0 - 48) * 2 ≤ (dg t.d 0 - 48) * 2 ^ k := Nat.mul_le_mul_left _ h2k;rw [hl];exact ⟨by omega, fun _ => by omega⟩
theorem lsB_keeps {t : Dec} {k : Nat} {s : LsA} (ht : DecI t) (hk : Shl k) (h0 : 0 < t.nd) (h : LsBI t k s) (hd : zyk s = false) : LsBI t k (yxk s) ∧ 0 < s.w ∧ s.w ≤ 16 := by
 have hd : s.n ≠ 0 := of_decide_eq_false hd;have hd16 := (ykx ht h0 hk).1;have hw := h.hw;obtain ⟨h1, h2, h3⟩ := h.hn.resolve_left (fun e => hd e.2);have hs := h.small;have hq : s.n / 10 ≤ s.n := Nat.div_le_self _ _;have hl := h.len;refine ⟨⟨put_len h.len, by show s.w - 1 ≤ _; omega, ?_, by show s.n / 10 < _; omega, fun i hi h4 h5 => ?_, fun e => ?_⟩, h1, by omega⟩
 · show (s.w - 1 = 0 ∧ s.n / 10 = 0) ∨ (0 < s.w - 1 ∧ 10 ^ (s.w - 1 - 1) ≤ s.n / 10 ∧ s.n / 10 < 10 ^ (s.w - 1))
   rcases Nat.eq_zero_or_pos (s.w - 1) with e | e
   · have : s.w = 1 := by omega
     rw [this] at h3;exact .inl ⟨e, by simpa using h3⟩
   · refine .inr ⟨e, (Nat.le_div_iff_mul_le (by decide)).2 ?_, (Nat.div_lt_iff_lt_mul (by decide)).2 ?_⟩
     · rw [← Nat.pow_succ, show (s.w - 1 - 1).succ = s.w - 1 by omega]; exact h2
     · rw [← Nat.pow_succ, show (s.w - 1).succ = s.w by omega]; exact h3
 · have hi : s.w - 1 ≤ i := hi;show 48 ≤ dg (xp s.d (s.w - 1) _) i ∧ dg (xp s.d (s.w - 1) _) i ≤ 57
   rw [put_at hl h5];split
   · have := Nat.mod_lt s.n (show 0 < 10 by decide); omega
   · exact h.dig i (by omega) h4 h5
 · have e : s.w - 1 = 0 := e;have e1 : s.w = 1 := by omega
   rw [e1] at h2 h3;show 49 ≤ dg (xp s.d (s.w - 1) _) 0 ∧ (_ → dg t.d 0 < dg (xp s.d (s.w - 1) _) 0)
   rw [e, put_at hl (by decide), if_pos rfl, Nat.mod_eq_of_lt (by simpa using h3)];have : 1 ≤ s.n := by simpa using h2
   exact ⟨by omega, fun e2 => by omega⟩
theorem lsB_ends {t : Dec} {k : Nat} (ht : DecI t) (h0 : 0 < t.nd) (hk : Shl k) : LsBI t k (lsB t k) ∧ zyk (lsB t k) = true := by
 refine vu (LsBI t k) (fun s => s.w) (fun s h hd => ?_) (lsB_start ht h0 hk);obtain ⟨h1, h2, _⟩ := lsB_keeps ht hk h0 h hd;exact ⟨h1, by show s.w - 1 < s.w; omega⟩
theorem zoz {t : Dec} {k : Nat} (ht : DecI t) (h0 : 0 < t.nd) (hk : Shl k) :
 DecI (vp t k) ∧ 0 < (vp t k).nd ∧ t.dp ≤ (vp t k).dp ∧ (vp t k).dp ≤ t.dp + 16 ∧ (t.dp < (vp t k).dp ∨ ((vp t k).dp = t.dp ∧ dg t.d 0 < dg (vp t k).d 0)) ∧ (vp t k).neg = t.neg := by
 obtain ⟨h1, h2⟩ := lsB_ends ht h0 hk;have h2 : (lsB t k).n = 0 := of_decide_eq_true h2;have hd16 := (ykx ht h0 hk).1;have hw : (lsB t k).w = 0 := by
  rcases h1.hn with h | h
  · exact h.1
  · have : 0 < 10 ^ ((lsB t k).w - 1) := Nat.pow_pos (by decide);omega
 have hl := h1.lead hw;have hI : DecI { t with d := (lsB t k).d, nd := if 800 ≤ t.nd + qw t k then 800 else t.nd + qw t k, dp := t.dp + ((qw t k : Nat) : Int), tr := (lsB t k).tr } := by
  refine ⟨h1.len, ?_, fun i hi => ?_, fun _ => hl.1⟩
  · show (if 800 ≤ t.nd + qw t k then 800 else t.nd + qw t k) ≤ 800
    by_cases e : 800 ≤ t.nd + qw t k
    · rw [if_pos e]; exact Nat.le_refl _
    · rw [if_neg e]; omega
  · have hi : i < (if 800 ≤ t.nd + qw t k then 800 else t.nd + qw t k) := hi;refine h1.dig i (by omega) ?_ ?_
    · split at hi <;> omega
    · split at hi <;> omega
 have hpos : 0 < (if 800 ≤ t.nd + qw t k then 800 else t.nd + qw t k) := by split <;> omega
 have hdp : (vp t k).dp = t.dp + ((qw t k : Nat) : Int) := trimD_dp hI hpos;refine ⟨ysz hI, ymk hI hpos, by rw [hdp]; omega, by rw [hdp]; omega, ?_, rfl⟩;rw [hdp];rcases Nat.eq_zero_or_pos (qw t k) with e | e
 · exact .inr ⟨by omega, hl.2 e⟩
 · exact .inl (by omega)
def bAt (s : ByteArray) (i : Nat) : Nat := ((s.data[i]?).map (·.toNat)).getD 0
theorem qc {s : ByteArray} {i : Nat} (h : i < s.size) : (s.data[i]?).map (·.toNat) = some (bAt s i) := by
 have h1 : s.data[i]? = some s.data[i] := Array.getElem?_eq_getElem h;unfold bAt;rw [h1]; rfl
theorem bAt_lt (s : ByteArray) (i : Nat) : bAt s i < 256 := by
 unfold bAt;cases h : s.data[i]? with
 | none => decide
 | some c => exact c.toNat_lt
structure RdS where
 i : Nat
 m : Nat
 nd : Nat
 nm : Nat
 dp : Int
 dot : Bool
 dig : Bool
 tr : Bool
def isDg (c : Nat) : Bool := decide (48 ≤ c ∧ c ≤ 57)
def xv (s : ByteArray) (t : RdS) : Bool :=
 decide (s.size ≤ t.i) || (if bAt s t.i = 46 then t.dot else !isDg (bAt s t.i))
def jp (s : ByteArray) (t : RdS) : RdS :=
 if bAt s t.i = 46 then { t with i := t.i + 1, dot := true, dp := t.nd }
 else if bAt s t.i = 48 ∧ t.nd = 0 then { t with i := t.i + 1, dig := true, dp := t.dp - 1 }
 else if t.nm < 19 then { t with i := t.i + 1, dig := true, nd := t.nd + 1, nm := t.nm + 1, m := t.m * 10 + (bAt s t.i - 48) }
 else { t with i := t.i + 1, dig := true, nd := t.nd + 1, tr := t.tr || decide (bAt s t.i ≠ 48) }
structure RdI (s : ByteArray) (t : RdS) : Prop where
 hi : t.i ≤ s.size
 hm : t.m < 10 ^ t.nm
 hn : t.nm ≤ 19
 hd : t.nd ≤ t.i
 hp : -((t.i : Nat) : Int) ≤ t.dp ∧ t.dp ≤ ((t.i : Nat) : Int)
theorem rd_keeps {s : ByteArray} {t : RdS} (h : RdI s t) (hd : xv s t = false) : RdI s (jp s t) := by
 obtain ⟨h1, h2, h3, h4, h5⟩ := h;unfold xv at hd;rw [Bool.or_eq_false_iff] at hd;have hi := of_decide_eq_false hd.1;have hd2 := hd.2;unfold jp;split
 · exact ⟨by show t.i + 1 ≤ s.size; omega, h2, h3, by show t.nd ≤ t.i + 1; omega, by show -((t.i + 1 : Nat) : Int) ≤ ((t.nd : Nat) : Int) ∧ ((t.nd : Nat) : Int) ≤ ((t.i + 1 : Nat) : Int); omega⟩
 · rename_i hc
   rw [if_neg hc] at hd2;have hg : isDg (bAt s t.i) = true := by simpa using hd2
   have hg := of_decide_eq_true hg;split
   · exact ⟨by show t.i + 1 ≤ s.size; omega, h2, h3, by show t.nd ≤ t.i + 1; omega, by show -((t.i + 1 : Nat) : Int) ≤ t.dp - 1 ∧ t.dp - 1 ≤ ((t.i + 1 : Nat) : Int); omega⟩
   · split
     · refine ⟨by show t.i + 1 ≤ s.size; omega, ?_, by show t.nm + 1 ≤ 19; omega, by show t.nd + 1 ≤ t.i + 1; omega, by show -((t.i + 1 : Nat) : Int) ≤ t.dp ∧ t.dp ≤ ((t.i + 1 : Nat) : Int); omega⟩;show t.m * 10 + (bAt s t.i - 48) < 10 ^ (t.nm + 1)
       rw [Nat.pow_succ];omega
     · exact ⟨by show t.i + 1 ≤ s.size; omega, h2, h3, by show t.nd + 1 ≤ t.i + 1; omega, by show -((t.i + 1 : Nat) : Int) ≤ t.dp ∧ t.dp ≤ ((t.i + 1 : Nat) : Int); omega⟩
/-! ### how far to shift -/
def pt (i : Nat) : Nat := if i ≥ 9 then 27 else ([1, 3, 6, 9, 13, 16, 19, 23, 26] : List Nat).getD i 0
theorem pt_shl (i : Nat) : Shl (pt i) := by
 unfold pt;split
 · exact .inr (.inr (.inr (.inr (.inr (.inr (.inr (.inr (.inr (.inl rfl)))))))))
 · rename_i h
   have hi : i < 9 := by omega
   have key : ∀ j : Fin 9, Shl (([1, 3, 6, 9, 13, 16, 19, 23, 26] : List Nat).getD j.val 0) := by
    intro j;match j with
    | ⟨0, _⟩ => exact .inl rfl
    | ⟨1, _⟩ => exact .inr (.inl rfl)
    | ⟨2, _⟩ => exact .inr (.inr (.inl rfl))
    | ⟨3, _⟩ => exact .inr (.inr (.inr (.inl rfl)))
    | ⟨4, _⟩ => exact .inr (.inr (.inr (.inr (.inl rfl))))
    | ⟨5, _⟩ => exact .inr (.inr (.inr (.inr (.inr (.inl rfl)))))
    | ⟨6, _⟩ => exact .inr (.inr (.inr (.inr (.inr (.inr (.inl rfl))))))
    | ⟨7, _⟩ => exact .inr (.inr (.inr (.inr (.inr (.inr (.inr (.inl rfl)))))))
    | ⟨8, _⟩ => exact .inr (.inr (.inr (.inr (.inr (.inr (.inr (.inr (.inl rfl))))))))
   exact key ⟨i, hi⟩
theorem pt_le (i : Nat) : 1 ≤ pt i ∧ pt i ≤ 27 := by
 unfold pt;split
 · exact ⟨by decide, by decide⟩
 · rename_i h
   have key : ∀ j : Fin 9, 1 ≤ ([1, 3, 6, 9, 13, 16, 19, 23, 26] : List Nat).getD j.val 0 ∧ ([1, 3, 6, 9, 13, 16, 19, 23, 26] : List Nat).getD j.val 0 ≤ 27 := by decide
   exact key ⟨i, by omega⟩
structure FbS where
 t : Dec
 e : Int
def ziq (s : FbS) : Bool := decide (s.t.dp ≤ 0)
noncomputable def zix (s : FbS) : FbS := ⟨ju s.t (pt s.t.dp.toNat), s.e + ((pt s.t.dp.toNat : Nat) : Int)⟩
def zpz (s : FbS) : Bool := decide (¬ (s.t.dp < 0 ∨ (s.t.dp = 0 ∧ dg s.t.d 0 < 53)))
noncomputable def ziz (s : FbS) : FbS := ⟨vp s.t (pt (-s.t.dp).toNat), s.e - ((pt (-s.t.dp).toNat : Nat) : Int)⟩
structure FbI (s : FbS) : Prop where
 dec : DecI s.t
 pos : 0 < s.t.nd
def msR (t : Dec) : Nat := 10 * t.dp.toNat + (dg t.d 0 - 48)
structure FbRI (s : FbS) : Prop extends FbI s where
 dp : -830 ≤ s.t.dp ∧ s.t.dp ≤ 310
 e : 0 ≤ s.e ∧ s.e + 27 * ((msR s.t : Nat) : Int) ≤ 84000
theorem yqz {s : FbS} (h : FbRI s) (hd : ziq s = false) : FbRI (zix s) ∧ msR (zix s).t < msR s.t := by
 have hd : ¬ s.t.dp ≤ 0 := of_decide_eq_false hd;have hp := pt_le s.t.dp.toNat;obtain ⟨h1, h2, h3, h4, h5⟩ := xb (k := pt s.t.dp.toNat) h.dec hp.1 h.pos;have h6 := h.dp;have h7 := h.e;have h8 := (h1.dig 0 h2);have h9 := (h.dec.dig 0 h.pos);have ha := h.dec.lead h.pos;have hb := h1.lead h2;have hm : msR (zix s).t < msR s.t := by
  show 10 * (ju s.t (pt s.t.dp.toNat)).dp.toNat + (dg (ju s.t (pt s.t.dp.toNat)).d 0 - 48) < 10 * s.t.dp.toNat + (dg s.t.d 0 - 48)
  rcases h4 with h4 | ⟨h4, h4'⟩ <;> omega
 refine ⟨⟨⟨h1, h2⟩, ?_, ?_⟩, hm⟩
 · show -830 ≤ (ju s.t (pt s.t.dp.toNat)).dp ∧ (ju s.t (pt s.t.dp.toNat)).dp ≤ 310
   omega
 · show 0 ≤ s.e + ((pt s.t.dp.toNat : Nat) : Int) ∧ s.e + ((pt s.t.dp.toNat : Nat) : Int) + 27 * ((msR (zix s).t : Nat) : Int) ≤ 84000
   omega
theorem yqx {t : Dec} (h : DecI t) (h0 : 0 < t.nd) (hd : -330 ≤ t.dp ∧ t.dp ≤ 310) : FbRI ⟨t, 0⟩ := by
 have h9 := (h.dig 0 h0);refine ⟨⟨h, h0⟩, by show -830 ≤ t.dp ∧ t.dp ≤ 310; omega, Int.le_refl 0, ?_⟩;show (0 : Int) + 27 * ((msR t : Nat) : Int) ≤ 84000
 unfold msR; omega
noncomputable def fbR (t : Dec) : FbS := vb ziq zix ⟨t, 0⟩
theorem fbR_ends {t : Dec} (h : DecI t) (h0 : 0 < t.nd) (hd : -330 ≤ t.dp ∧ t.dp ≤ 310) : FbRI (fbR t) ∧ ziq (fbR t) = true :=
 vu FbRI (fun s => msR s.t) (fun _ h hd => yqz h hd) (yqx h h0 hd)
def msL (t : Dec) : Nat := 10 * (1 - t.dp).toNat + (57 - dg t.d 0)
structure FbLI (s : FbS) : Prop extends FbI s where
 dp : -830 ≤ s.t.dp ∧ s.t.dp ≤ 16
 e : s.e ≤ 84000 ∧ 27 * ((msL s.t : Nat) : Int) - 225000 ≤ s.e
theorem yqk {s : FbS} (h : FbLI s) (hd : zpz s = false) : FbLI (ziz s) ∧ msL (ziz s).t < msL s.t := by
 have hd : s.t.dp < 0 ∨ (s.t.dp = 0 ∧ dg s.t.d 0 < 53) := Classical.byContradiction fun e => (of_decide_eq_false hd) e;have hp := pt_le (-s.t.dp).toNat;obtain ⟨h1, h2, h3, h3', h4, h5⟩ := zoz (k := pt (-s.t.dp).toNat) h.dec h.pos (pt_shl _);have h6 := h.dp;have h7 := h.e;have h8 := (h1.dig 0 h2);have h9 := (h.dec.dig 0 h.pos);have ha := h.dec.lead h.pos;have hb := h1.lead h2
 have hm : msL (ziz s).t < msL s.t := by
  show 10 * (1 - (vp s.t (pt (-s.t.dp).toNat)).dp).toNat + (57 - dg (vp s.t (pt (-s.t.dp).toNat)).d 0) < 10 * (1 - s.t.dp).toNat + (57 - dg s.t.d 0)
  rcases h4 with h4 | ⟨h4, h4'⟩ <;> omega
 refine ⟨⟨⟨h1, h2⟩, ?_, ?_⟩, hm⟩
 · show -830 ≤ (vp s.t (pt (-s.t.dp).toNat)).dp ∧ (vp s.t (pt (-s.t.dp).toNat)).dp ≤ 16
   omega
 · show s.e - ((pt (-s.t.dp).toNat : Nat) : Int) ≤ 84000 ∧ 27 * ((msL (ziz s).t : Nat) : Int) - 225000 ≤ s.e - ((pt (-s.t.dp).toNat : Nat) : Int)
   omega
theorem yqq {s : FbS} (h : FbRI s) (hd : ziq s = true) : FbLI s := by
 have hd : s.t.dp ≤ 0 := of_decide_eq_true hd;have h1 := h.dp;have h2 := h.e;have h3 := h.dec.dig 0 h.pos;refine ⟨h.toFbI, by omega, by omega, ?_⟩;unfold msL; omega
noncomputable def fbL (t : Dec) : FbS := vb zpz ziz (fbR t)
theorem fbL_ends {t : Dec} (h : DecI t) (h0 : 0 < t.nd) (hd : -330 ≤ t.dp ∧ t.dp ≤ 310) : FbLI (fbL t) ∧ zpz (fbL t) = true := by
 obtain ⟨h1, h2⟩ := fbR_ends h h0 hd;exact vu FbLI (fun s => msL s.t) (fun _ h hd => yqk h hd) (yqq h1 h2)
/-! ### many places to the right -/
structure ShS where
 t : Dec
 k : Nat
def zsk (s : ShS) : Bool := decide (s.k ≤ 60)
noncomputable def ycv (s : ShS) : ShS := ⟨ju s.t 60, s.k - 60⟩
noncomputable def shA (t : Dec) (k : Nat) : ShS := vb zsk ycv ⟨t, k⟩
noncomputable def shrD (t : Dec) (k : Nat) : Dec := ju (shA t k).t (shA t k).k
structure ShI (s : ShS) : Prop where
 dec : DecI s.t
 pos : 0 < s.t.nd
 k1 : 1 ≤ s.k ∧ s.k ≤ 300000
 dp : -10000000 + 15 * ((s.k : Nat) : Int) ≤ s.t.dp ∧ s.t.dp ≤ 1000000
theorem sh_keeps {s : ShS} (h : ShI s) (hd : zsk s = false) : ShI (ycv s) ∧ (ycv s).k < s.k := by
 have hd : ¬ s.k ≤ 60 := of_decide_eq_false hd;obtain ⟨h1, h2, h3, h4, h5⟩ := xb (k := 60) h.dec (by decide) h.pos;have h6 := h.dp;have h7 := h.k1;refine ⟨⟨h1, h2, by show 1 ≤ s.k - 60 ∧ s.k - 60 ≤ 300000; omega, ?_⟩, by show s.k - 60 < s.k; omega⟩;show -10000000 + 15 * ((s.k - 60 : Nat) : Int) ≤ (ju s.t 60).dp ∧ (ju s.t 60).dp ≤ 1000000
 omega
theorem sh_ends {t : Dec} {k : Nat} (h : ShI ⟨t, k⟩) : ShI (shA t k) ∧ zsk (shA t k) = true :=
 vu ShI (fun s => s.k) (fun _ h hd => sh_keeps h hd) h
theorem shrD_keeps {t : Dec} {k : Nat} (h : ShI ⟨t, k⟩) : DecI (shrD t k) ∧ 0 < (shrD t k).nd ∧ -11000000 ≤ (shrD t k).dp ∧ (shrD t k).dp ≤ 1000000 := by
 obtain ⟨h1, h2⟩ := sh_ends h;have h2 : (shA t k).k ≤ 60 := of_decide_eq_true h2;obtain ⟨h3, h4, h5, h6, _⟩ := xb (k := (shA t k).k) h1.dec h1.k1.1 h1.pos;have h7 := h1.dp;refine ⟨h3, h4, ?_, ?_⟩ <;> unfold shrD <;> omega
/-! ### the whole part -/
def rup (t : Dec) (p : Int) : Bool :=
 if p < 0 ∨ ((t.nd : Nat) : Int) ≤ p then false
 else if dg t.d p.toNat = 53 ∧ p + 1 = ((t.nd : Nat) : Int) then (if t.tr then true else if 0 < p then decide ((dg t.d (p.toNat - 1) - 48) % 2 ≠ 0) else false)
 else decide (53 ≤ dg t.d p.toNat)
def zxx (t : Dec) (s : RsS) : Bool := decide (¬ (((s.r : Nat) : Int) < t.dp ∧ s.r < t.nd))
def ygk (t : Dec) (s : RsS) : RsS := ⟨s.r + 1, (s.n * 10 % 18446744073709551616 + (dg t.d s.r - 48)) % 18446744073709551616⟩
def ygv (t : Dec) (s : RsS) : Bool := decide (¬ ((s.r : Nat) : Int) < t.dp)
def ygq (s : RsS) : RsS := ⟨s.r + 1, s.n * 10 % 18446744073709551616⟩
noncomputable def riA (t : Dec) : RsS := vb (zxx t) (ygk t) ⟨0, 0⟩
noncomputable def riB (t : Dec) : RsS := vb (ygv t) ygq (riA t)
noncomputable def xh (t : Dec) : Nat := if 20 < t.dp then 18446744073709551615 else if rup t t.dp then ((riB t).n + 1) % 18446744073709551616 else (riB t).n
structure RiI (s : RsS) : Prop where
 hr : s.r ≤ 20
 hn : s.n < 18446744073709551616
theorem yok {t : Dec} {s : RsS} (hp : t.dp ≤ 20) (_ : RiI s) (hd : zxx t s = false) : RiI (ygk t s) := by
 have hd : ((s.r : Nat) : Int) < t.dp ∧ s.r < t.nd := Classical.byContradiction fun e => (of_decide_eq_false hd) e;exact ⟨by show s.r + 1 ≤ 20; omega, Nat.mod_lt _ (by decide)⟩
theorem yoq {t : Dec} {s : RsS} (hp : t.dp ≤ 20) (_ : RiI s) (hd : ygv t s = false) : RiI (ygq s) := by
 have hd : ((s.r : Nat) : Int) < t.dp := Classical.byContradiction fun e => (of_decide_eq_false hd) e;exact ⟨by show s.r + 1 ≤ 20; omega, Nat.mod_lt _ (by decide)⟩
theorem riA_ends {t : Dec} (hp : t.dp ≤ 20) : RiI (riA t) := by
 refine (vu RiI (fun s => 20 - s.r) (fun s h hd => ⟨yok hp h hd, ?_⟩) ⟨Nat.zero_le _, by decide⟩).1;have := (yok hp h hd).hr;have e : (ygk t s).r = s.r + 1 := rfl;omega
theorem riB_ends {t : Dec} (hp : t.dp ≤ 20) : RiI (riB t) := by
 refine (vu RiI (fun s => 20 - s.r) (fun s h hd => ⟨yoq hp h hd, ?_⟩) (riA_ends hp)).1;have := (yoq hp h hd).hr;have e : (ygq s).r = s.r + 1 := rfl;omega
theorem roundD_lt (t : Dec) : xh t < 18446744073709551616 := by
 unfold xh;split
 · decide
 · rename_i h
   split
   · exact Nat.mod_lt _ (by decide)
   · exact (riB_ends (by omega)).hn
/-! ### the float -/
def slowB (m e : Nat) (neg : Bool) : Nat := if neg then ((m &&& 4503599627370495) ||| (e * 4503599627370496)) ||| 9223372036854775808 else (m &&& 4503599627370495) ||| (e * 4503599627370496)
noncomputable def yvz (t : Dec) (e : Int) : Nat × Nat × Bool :=
 if xh t = 9007199254740992 then (if 1023 ≤ e then (0, 2047, true) else (4503599627370496, (e + 1 + 1023).toNat, false))
 else (xh t, if xh t &&& 4503599627370496 = 0 then 0 else (e + 1023).toNat, false)
noncomputable def fbMid (t : Dec) (e : Int) : Nat × Nat × Bool :=
 if e < -1022 then yvz (vp (shrD t (-1022 - e).toNat) 53) (-1022)
 else if 1024 ≤ e then (0, 2047, true)
 else yvz (vp t 53) e
noncomputable def oa (t : Dec) : Nat × Nat × Bool :=
 if t.nd = 0 then (0, 0, false)
 else if 310 < t.dp then (0, 2047, true)
 else if t.dp < -330 then (0, 0, false)
 else fbMid (fbL t).t ((fbL t).e - 1)
noncomputable def zgz (t : Dec) : Nat := slowB (oa t).1 (oa t).2.1 t.neg
structure Nm (s : ByteArray) (f p E q : Nat) : Prop where
 fp : f < p
 pE : p ≤ E
 hE : E ≤ s.size
 dig1 : ∀ i, f ≤ i → i < p → 48 ≤ bAt s i ∧ bAt s i ≤ 57
 dot : p < E → bAt s p = 46 ∧ p + 1 < E
 dig2 : ∀ i, p < i → i < E → 48 ≤ bAt s i ∧ bAt s i ≤ 57
 exp : E < s.size → bAt s E = 101 ∧ ((q = E + 1 ∧ bAt s (E + 1) ≠ 43 ∧ bAt s (E + 1) ≠ 45) ∨ (q = E + 2 ∧ (bAt s (E + 1) = 43 ∨ bAt s (E + 1) = 45))) ∧ q < s.size ∧ ∀ i, q ≤ i → i < s.size → 48 ≤ bAt s i ∧ bAt s i ≤ 57
theorem yik {c : Nat} (h : 48 ≤ c ∧ c ≤ 57) : isDg c = true := decide_eq_true h
theorem Nm.at_ {s : ByteArray} {f p E q i : Nat} (h : Nm s f p E q) (h1 : f ≤ i) (h2 : i < E) : (i ≠ p ∧ 48 ≤ bAt s i ∧ bAt s i ≤ 57) ∨ (i = p ∧ bAt s i = 46) := by
 rcases Nat.lt_trichotomy i p with h3 | h3 | h3
 · exact .inl ⟨by omega, h.dig1 i h1 h3⟩
 · subst h3; exact .inr ⟨rfl, (h.dot h2).1⟩
 · exact .inl ⟨by omega, h.dig2 i h3 h2⟩
/-! ### the first loop -/
structure RdN (s : ByteArray) (f p E q : Nat) (t : RdS) : Prop extends RdI s t where
 fi : f ≤ t.i
 iE : t.i ≤ E
 dt : t.dot = true → p < t.i
 dg : f < t.i → t.dig = true
theorem rdN_cont {s : ByteArray} {f p E q : Nat} {t : RdS} (hs : Nm s f p E q) (h : RdN s f p E q t) (hi : t.i < E) : xv s t = false := by
 have hE := hs.hE;unfold xv;rw [Bool.or_eq_false_iff];refine ⟨decide_eq_false (by omega), ?_⟩;rcases hs.at_ h.fi hi with ⟨_, h1⟩ | ⟨h1, h2⟩
 · rw [if_neg (by omega), yik h1]; rfl
 · rw [if_pos h2];cases hd : t.dot with
   | false => rfl
   | true => have := h.dt hd; omega
theorem rdN_keeps {s : ByteArray} {f p E q : Nat} {t : RdS} (hs : Nm s f p E q) (h : RdN s f p E q t) (hd : xv s t = false) : RdN s f p E q (jp s t) ∧ t.i < E := by
 have hi : t.i < E := by
  refine Nat.lt_of_not_le fun hge => ?_;have e : t.i = E := by have := h.iE; omega
  unfold xv at hd;rw [Bool.or_eq_false_iff] at hd;have h1 : ¬ s.size ≤ t.i := of_decide_eq_false hd.1;have h2 := (hs.exp (by omega)).1;rw [e, h2, if_neg (by decide)] at hd;exact absurd hd.2 (by decide)
 have hstep : (jp s t).i = t.i + 1 := by
  unfold jp;split
  · rfl
  · split
    · rfl
    · split <;> rfl
 have hk := rd_keeps h.toRdI hd;have hfi := h.fi;refine ⟨⟨hk, by rw [hstep]; omega, by rw [hstep]; omega, ?_, ?_⟩, hi⟩
 · rw [hstep];rcases hs.at_ h.fi hi with ⟨_, h1⟩ | ⟨h1, h2⟩
   · intro e;have hdt : (jp s t).dot = t.dot := by
      unfold jp;rw [if_neg (by omega)];split
      · rfl
      · split <;> rfl
     rw [hdt] at e;have := h.dt e; omega
   · intro _; omega
 · intro _;rcases hs.at_ h.fi hi with ⟨_, h1⟩ | ⟨h1, h2⟩
   · unfold jp;rw [if_neg (by omega)];split
     · rfl
     · split <;> rfl
   · have hp := hs.fp;unfold jp;rw [if_pos h2];exact h.dg (by omega)
theorem rdN_start {s : ByteArray} {f p E q : Nat} (hs : Nm s f p E q) : RdN s f p E q ⟨f, 0, 0, 0, 0, false, false, false⟩ := by
 have h1 := hs.fp;have h2 := hs.pE;have h3 := hs.hE;exact ⟨⟨by show f ≤ s.size; omega, by show 0 < 10 ^ 0; decide, Nat.zero_le _, Nat.zero_le _, by show -((f : Nat) : Int) ≤ 0 ∧ 0 ≤ ((f : Nat) : Int); omega⟩, Nat.le_refl _, by show f ≤ E; omega, fun e => (by cases e), fun e => absurd e (Nat.lt_irrefl _)⟩
noncomputable def rdA (s : ByteArray) (f : Nat) : RdS := vb (xv s) (jp s) ⟨f, 0, 0, 0, 0, false, false, false⟩
theorem rd_out {s : ByteArray} {f p E q : Nat} {t : RdS} (hs : Nm s f p E q) (h : RdN s f p E q t) (hd : xv s t = true) : t.i = E := by
 rcases Nat.lt_or_ge t.i E with h1 | h1
 · rw [rdN_cont hs h h1] at hd; cases hd
 · have := h.iE; omega
theorem rdA_ends {s : ByteArray} {f p E q : Nat} (hs : Nm s f p E q) : RdN s f p E q (rdA s f) ∧ (rdA s f).i = E := by
 have h := vu (done := xv s) (step := jp s) (RdN s f p E q) (fun t => E - t.i) (fun t h hd => ?_) (rdN_start hs)
 · exact ⟨h.1, rd_out hs h.1 h.2⟩
 · obtain ⟨h1, h2⟩ := rdN_keeps hs h hd;refine ⟨h1, ?_⟩;have hstep : (jp s t).i = t.i + 1 := by
    unfold jp;split
    · rfl
    · split
      · rfl
      · split <;> rfl
   omega
/-! ### the exponent's loop -/
structure ExS where
 i : Nat
 e : Nat
def xg (s : ByteArray) (t : ExS) : Bool := decide (s.size ≤ t.i) || !isDg (bAt s t.i)
def zcx (s : ByteArray) (t : ExS) : ExS := ⟨t.i + 1, if t.e < 10000 then t.e * 10 + (bAt s t.i - 48) else t.e⟩
structure ExI (s : ByteArray) (q : Nat) (t : ExS) : Prop where
 hi : q ≤ t.i ∧ t.i ≤ s.size
 he : t.e < 100000
theorem ex_keeps {s : ByteArray} {q : Nat} {t : ExS} (h : ExI s q t) (hd : xg s t = false) : ExI s q (zcx s t) ∧ t.i < s.size ∧ isDg (bAt s t.i) = true := by
 unfold xg at hd;rw [Bool.or_eq_false_iff] at hd;have h1 : ¬ s.size ≤ t.i := of_decide_eq_false hd.1;have h2 : isDg (bAt s t.i) = true := by simpa using hd.2
 have h3 := of_decide_eq_true h2;have h4 := h.hi;have h5 := h.he;refine ⟨⟨by show q ≤ t.i + 1 ∧ t.i + 1 ≤ s.size; omega, ?_⟩, by omega, h2⟩;show (if t.e < 10000 then t.e * 10 + (bAt s t.i - 48) else t.e) < 100000
 split <;> omega
noncomputable def exA (s : ByteArray) (q : Nat) : ExS := vb (xg s) (zcx s) ⟨q, 0⟩
theorem zuk {s : ByteArray} {q : Nat} (hq : q ≤ s.size) : ExI s q (exA s q) ∧ xg s (exA s q) = true :=
 vu (ExI s q) (fun t => s.size - t.i) (fun t h hd => by
  obtain ⟨h1, h2, _⟩ := ex_keeps h hd;exact ⟨h1, by show s.size - (t.i + 1) < s.size - t.i; omega⟩) ⟨⟨Nat.le_refl _, hq⟩, by show 0 < 100000; decide⟩
theorem ex_out {s : ByteArray} {q : Nat} {t : ExS} (hs : ∀ i, q ≤ i → i < s.size → 48 ≤ bAt s i ∧ bAt s i ≤ 57) (h : ExI s q t) (hd : xg s t = true) : t.i = s.size := by
 rcases Nat.lt_or_ge t.i s.size with h1 | h1
 · have h2 := hs t.i h.hi.1 h1;unfold xg at hd;rw [yik h2, decide_eq_false (by omega)] at hd;cases hd
 · have := h.hi; omega
noncomputable def zgx (s : ByteArray) (E : Nat) : Int :=
 if s.size ≤ E then 0
 else if bAt s (E + 1) = 45 then -(((exA s (E + 2)).e : Nat) : Int)
 else if bAt s (E + 1) = 43 then (((exA s (E + 2)).e : Nat) : Int)
 else (((exA s (E + 1)).e : Nat) : Int)
theorem yjq {s : ByteArray} {f p E q : Nat} (hs : Nm s f p E q) : -100000 ≤ zgx s E ∧ zgx s E ≤ 100000 := by
 unfold zgx;split
 · omega
 · rename_i h
   obtain ⟨_, h2, h3, _⟩ := hs.exp (by omega);split
   · have := (zuk (s := s) (q := E + 2) (by omega)).1.he; omega
   · split
     · have := (zuk (s := s) (q := E + 2) (by omega)).1.he; omega
     · have := (zuk (s := s) (q := E + 1) (by omega)).1.he; omega
noncomputable def rdP (s : ByteArray) (f : Nat) : Int := (if (rdA s f).dot then (rdA s f).dp else (((rdA s f).nd : Nat) : Int)) + zgx s (rdA s f).i
noncomputable def rdX (s : ByteArray) (f : Nat) : Int := if (rdA s f).m ≠ 0 then rdP s f - (((rdA s f).nm : Nat) : Int) else 0
/-! ### the decimal's loop -/
structure StS where
 i : Nat
 dot : Bool
 dig : Bool
 t : Dec
def og (s : ByteArray) (t : StS) : Bool := decide (s.size ≤ t.i) || (if bAt s t.i = 46 then t.dot else !isDg (bAt s t.i))
def ki (s : ByteArray) (a : StS) : StS :=
 if bAt s a.i = 46 then { a with i := a.i + 1, dot := true, t := { a.t with dp := ((a.t.nd : Nat) : Int) } }
 else if bAt s a.i = 48 ∧ a.t.nd = 0 then { a with i := a.i + 1, dig := true, t := { a.t with dp := a.t.dp - 1 } }
 else if a.t.nd < 800 then { a with i := a.i + 1, dig := true, t := { a.t with d := a.t.d.set a.t.nd (bAt s a.i), nd := a.t.nd + 1 } }
 else { a with i := a.i + 1, dig := true, t := { a.t with tr := if bAt s a.i ≠ 48 then true else a.t.tr } }
structure StN (s : ByteArray) (f p E q : Nat) (a : StS) : Prop where
 fi : f ≤ a.i
 iE : a.i ≤ E
 dt : a.dot = true → p < a.i
 dg : f < a.i → a.dig = true
 dec : DecI a.t
 hp : -((a.i : Nat) : Int) ≤ a.t.dp ∧ a.t.dp ≤ 800
theorem stN_cont {s : ByteArray} {f p E q : Nat} {t : StS} (hs : Nm s f p E q) (h : StN s f p E q t) (hi : t.i < E) : og s t = false := by
 have hE := hs.hE;unfold og;rw [Bool.or_eq_false_iff];refine ⟨decide_eq_false (by omega), ?_⟩;rcases hs.at_ h.fi hi with ⟨_, h1⟩ | ⟨h1, h2⟩
 · rw [if_neg (by omega), yik h1]; rfl
 · rw [if_pos h2];cases hd : t.dot with
   | false => rfl
   | true => have := h.dt hd; omega
theorem st_i (s : ByteArray) (a : StS) : (ki s a).i = a.i + 1 := by
 unfold ki;split
 · rfl
 · split
   · rfl
   · split <;> rfl
theorem ynz {s : ByteArray} {f p E q : Nat} {a : StS} (hs : Nm s f p E q) (h : StN s f p E q a) (hd : og s a = false) : StN s f p E q (ki s a) ∧ a.i < E := by
 have hi : a.i < E := by
  refine Nat.lt_of_not_le fun hge => ?_;have e : a.i = E := by have := h.iE; omega
  unfold og at hd;rw [Bool.or_eq_false_iff] at hd;have h1 : ¬ s.size ≤ a.i := of_decide_eq_false hd.1;have h2 := (hs.exp (by omega)).1;rw [e, h2, if_neg (by decide)] at hd;exact absurd hd.2 (by decide)
 have hfi := h.fi;have hp := h.hp;have hdec := h.dec;have hn := hdec.hn;refine ⟨?_, hi⟩;rcases hs.at_ h.fi hi with ⟨hne, h1⟩ | ⟨h1, h2⟩
 · have hno : bAt s a.i ≠ 46 := by omega
   have hdt : a.dot = true → p < a.i + 1 := fun e => by have := h.dt e; omega
   unfold ki;rw [if_neg hno];split
   · exact ⟨by show f ≤ a.i + 1; omega, by show a.i + 1 ≤ E; omega, hdt, fun _ => rfl, ⟨hdec.len, hdec.hn, hdec.dig, hdec.lead⟩, by show -((a.i + 1 : Nat) : Int) ≤ a.t.dp - 1 ∧ a.t.dp - 1 ≤ 800; omega⟩
   · rename_i hz
     split
     · rename_i hlt
       refine ⟨by show f ≤ a.i + 1; omega, by show a.i + 1 ≤ E; omega, hdt, fun _ => rfl, ⟨?_, by show a.t.nd + 1 ≤ 800; omega, fun i hi => ?_, fun _ => ?_⟩, by show -((a.i + 1 : Nat) : Int) ≤ a.t.dp ∧ a.t.dp ≤ 800; omega⟩
       · show (a.t.d.set _ _).length = 800
         rw [List.length_set]; exact hdec.len
       · have hi : i < a.t.nd + 1 := hi;show 48 ≤ dg (a.t.d.set a.t.nd (bAt s a.i)) i ∧ dg (a.t.d.set a.t.nd (bAt s a.i)) i ≤ 57
         rw [zvk (by rw [hdec.len]; exact hlt)];split
         · exact h1
         · exact hdec.dig i (by omega)
       · show 49 ≤ dg (a.t.d.set a.t.nd (bAt s a.i)) 0
         rw [zvk (by rw [hdec.len]; exact hlt)];split
         · rename_i e
           have : bAt s a.i ≠ 48 := fun e2 => hz ⟨e2, e.symm⟩;omega
         · exact hdec.lead (by omega)
     · exact ⟨by show f ≤ a.i + 1; omega, by show a.i + 1 ≤ E; omega, hdt, fun _ => rfl, ⟨hdec.len, hdec.hn, hdec.dig, hdec.lead⟩, by show -((a.i + 1 : Nat) : Int) ≤ a.t.dp ∧ a.t.dp ≤ 800; omega⟩
 · have hpp := hs.fp;unfold ki;rw [if_pos h2];exact ⟨by show f ≤ a.i + 1; omega, by show a.i + 1 ≤ E; omega, fun _ => by show p < a.i + 1; omega, fun _ => h.dg (by omega), ⟨hdec.len, hdec.hn, hdec.dig, hdec.lead⟩, by show -((a.i + 1 : Nat) : Int) ≤ ((a.t.nd : Nat) : Int) ∧ ((a.t.nd : Nat) : Int) ≤ 800; omega⟩
def zpk (neg : Bool) : Dec := ⟨List.replicate 800 0, 0, 0, neg, false⟩
theorem dec0_ok (neg : Bool) : DecI (zpk neg) := ⟨List.length_replicate, Nat.zero_le _, fun _ hi => absurd hi (Nat.not_lt_zero _), fun hi => absurd hi (Nat.lt_irrefl _)⟩
theorem ynx {s : ByteArray} {f p E q : Nat} (neg : Bool) (hs : Nm s f p E q) : StN s f p E q ⟨f, false, false, zpk neg⟩ := by
 have h1 := hs.fp;have h2 := hs.pE;exact ⟨Nat.le_refl _, by show f ≤ E; omega, fun e => (by cases e), fun e => absurd e (Nat.lt_irrefl _), dec0_ok neg, by show -((f : Nat) : Int) ≤ 0 ∧ (0 : Int) ≤ 800; omega⟩
noncomputable def stA (s : ByteArray) (f : Nat) (neg : Bool) : StS := vb (og s) (ki s) ⟨f, false, false, zpk neg⟩
theorem st_out {s : ByteArray} {f p E q : Nat} {t : StS} (hs : Nm s f p E q) (h : StN s f p E q t) (hd : og s t = true) : t.i = E := by
 rcases Nat.lt_or_ge t.i E with h1 | h1
 · rw [stN_cont hs h h1] at hd; cases hd
 · have := h.iE; omega
theorem stA_ends {s : ByteArray} {f p E q : Nat} (neg : Bool) (hs : Nm s f p E q) : StN s f p E q (stA s f neg) ∧ (stA s f neg).i = E := by
 have h := vu (done := og s) (step := ki s) (StN s f p E q) (fun t => E - t.i) (fun t h hd => ?_) (ynx neg hs)
 · exact ⟨h.1, st_out hs h.1 h.2⟩
 · obtain ⟨h1, h2⟩ := ynz hs h hd;refine ⟨h1, ?_⟩;rw [st_i];omega
noncomputable def setD (s : ByteArray) (f : Nat) (neg : Bool) : Dec :=
 { (stA s f neg).t with dp := (if (stA s f neg).dot then (stA s f neg).t.dp else (((stA s f neg).t.nd : Nat) : Int)) + zgx s (stA s f neg).i }
theorem setD_ok {s : ByteArray} {f p E q : Nat} (neg : Bool) (hs : Nm s f p E q) : DecI (setD s f neg) :=
 let h := (stA_ends neg hs).1.dec
 ⟨h.len, h.hn, h.dig, h.lead⟩
def ruDone (s : ByteArray) (i : Nat) : Bool := decide (s.size ≤ i) || !isDg (bAt s i)
noncomputable def runD (s : ByteArray) (a : Nat) : Nat := vb (ruDone s) (fun i => i + 1) a
structure RuI (s : ByteArray) (a i : Nat) : Prop where
 lo : a ≤ i
 hi : i ≤ s.size
 dig : ∀ j, a ≤ j → j < i → 48 ≤ bAt s j ∧ bAt s j ≤ 57
theorem bAt_end {s : ByteArray} {i : Nat} (h : s.size ≤ i) : bAt s i = 0 := by
 unfold bAt;have h1 : s.data[i]? = none := Array.getElem?_eq_none h;rw [h1]; rfl
theorem bAt_in {s : ByteArray} {i : Nat} (h : bAt s i ≠ 0) : i < s.size := by
 rcases Nat.lt_or_ge i s.size with h1 | h1
 · exact h1
 · exact absurd (bAt_end h1) h
noncomputable def nB (s : ByteArray) (a : Nat) : Nat := if bAt s a = 46 then runD s (a + 1) else a
def nQ (s : ByteArray) (b : Nat) : Nat := if bAt s (b + 1) = 43 ∨ bAt s (b + 1) = 45 then b + 2 else b + 1
noncomputable def nC (s : ByteArray) (b : Nat) : Nat := if bAt s b = 101 then runD s (nQ s b) else b
def Num3 (s : ByteArray) (b : Nat) : Prop := nC s b = s.size ∧ (bAt s b = 101 → nQ s b < nC s b)
def Num2 (s : ByteArray) (a : Nat) : Prop := (bAt s a = 46 → a + 1 < nB s a) ∧ Num3 s (nB s a)
def NumP (s : ByteArray) (f : Nat) : Prop := f < runD s f ∧ Num2 s (runD s f)
noncomputable def numB (s : ByteArray) (f : Nat) : Bool := @decide (NumP s f) (Classical.propDecidable _)
section
variable {P : Program} {N : Nat} {ops : Array Oper} {Q : Exit → Act → World → Prop} {σ : Env} {w : World} {ty : TypeId} {pos : String} {af : Array Edge} {dst : Option Nat} {Post : Value → World → Prop}
theorem qq {T T' : TypeId} {x y : Operand} {g o : Nat} {cs cs' : Array Value} {v : Value} (hs : vm P T 1) (hx : ev σ x = some (.pointer (some ⟨g, o, none⟩))) (hy : ev σ y = some v) (hb : Blk w g T' cs) (hv : v.cells = #[v]) (h1 : zak [v] = true) (hle : o < cs.size) (he : cs.setIfInBounds o v = cs')
 (k : ∀ w', Blk w' g T' cs' → Ext (Mut [some g]) w w' → Post undef w') : OW P N ops Q ⟨dst, .store T x y, ty, pos, af, none⟩ σ w Post := by
 refine qj hs hx hy hb (by rw [hv]; rfl) (by rw [hv]; exact h1) (by omega) (fun w' hb' he' => k w' ?_ he');rw [hv] at hb';rw [← he];exact hb'
end
section
variable {P : Program} {N : Nat} {ops : Array Oper} {Q : Exit → Act → World → Prop} {σ : Env} {w : World} {ty : TypeId} {pos : String} {af : Array Edge} {dst : Option Nat} {Post : Value → World → Prop}
theorem qx {x i : Operand} {T e : TypeId} {g n : Nat} {q : IntKind} {m : Int} {j : Nat} (hd : P.underlying T = some (.array n e)) (hs : vm P e 1) (hx : ev σ x = some (.pointer (some ⟨g, 0, none⟩))) (hi : ev σ i = some (.int q m)) (hm : m = (j : Int)) (hj : j < n)
 (k : Post (.pointer (some ⟨g, j, none⟩)) w) : OW P N ops Q ⟨dst, .indexAddr T x i, ty, pos, af, none⟩ σ w Post :=
 ko hd hs hx hi hm hj (by rw [Nat.mul_one, Nat.zero_add]; exact k)
theorem ybz {x i : Operand} {T e : TypeId} {g n c : Nat} {q : IntKind} {m : Int} {j : Nat} (hd : P.underlying T = some (.slice e)) (hs : vm P e 1) (hx : ev σ x = some (.slice (some ⟨g, 0, none⟩) n c)) (hi : ev σ i = some (.int q m)) (hm : m = (j : Int)) (hj : j < n)
 (k : Post (.pointer (some ⟨g, j, none⟩)) w) : OW P N ops Q ⟨dst, .indexAddr T x i, ty, pos, af, none⟩ σ w Post :=
 gb hd hs hx hi hm hj (by rw [Nat.mul_one, Nat.zero_add]; exact k)
theorem ow_sliceA0 {T e : TypeId} {x y z : Operand} {g n s h : Nat} {q q' : IntKind} {m : Int} (hd : P.underlying T = some (.array n e)) (hs : vm P e s) (hx : ev σ x = some (.pointer (some ⟨g, 0, none⟩))) (hz : ev σ z = some (.int q' ((0 : Nat) : Int))) (hy : ev σ y = some (.int q m)) (hm : m = (h : Int)) (hn : h ≤ n)
 (k : Post (.slice (some ⟨g, 0, none⟩) h n) w) : OW P N ops Q ⟨dst, .slice T x (some z) (some y) none, ty, pos, af, none⟩ σ w Post := by
 subst hm;exact yv (fun ρ ha => by
  simp only [execOp, Instr.sliceAt, Option.map_none, Option.map_some, ha hx, Sem.run_bind, run_underlying hd, Result.andThen_ok, Instr.sureAddr, Instr.sliceBounds, Sem.run_pure, jy hs, Option.isSome_none, Bool.false_eq_true, if_false, ot ha y q h n _ hy hn, ot ha z q' 0 h _ hz (Nat.zero_le _)]
  simp [Addr.add]) k
end
section
variable {P : Program} {N : Nat} {Q : Exit → Act → World → Prop} {σ : Env} {w : World} {body : Code} {n : Nat}
theorem inScope_up : ∀ (n : Nat) (e : Exit) (a : Act) (w : World), kl P body Q 0 e a w → kl P body Q n e a w
 | 0, _, _, _, h => h
 | n + 1, e, _, _, h => by
  cases e <;> first | exact h | exact .inl h
theorem cw_tail {l : Nat} {rest : Code} {ι : Type} (s : ι → Env) (R : ι → World → Prop) (_ : findLabel body l = some rest)
 (hb : (∀ i w, R i w → CW P N rest (kl P body Q 0) (s i) w) → CW P N body (kl P body Q n) σ w) (ht : ∀ i w, R i w → CW P N rest (kl P body Q 0) (s i) w) : CW P N body (kl P body Q n) σ w := hb ht
theorem zik {l k : Nat} {rest : Code} {ι : Type} {s : ι → Env} {R : ι → World → Prop} (hl : findLabel body l = some rest) (ht : ∀ i w, R i w → CW P N rest (kl P body Q 0) (s i) w) (i : ι) (hs : Sub σ (s i)) (hr : R i w) : EW N (kl P body Q (k + 1)) (.goto l) σ w :=
 ew_scope_goto hl (fun a ha => Code.wp_mono (fun e a w q => inScope_up k e a w q) (ht i w hr a (ha.weak (ypk hs))))
end
theorem cr69_6 : Gives 69 #[.float .f64 13840687554816376832] (.float .f64 4617315517961601024) := by
 intro w;refine zo Tryz.func69 rfl Tryz.ntmps69 rfl ?_;have LW := erx (No) w;have XLW := grx (No) w;have E := erx (No) w
 refine srx (anx rfl (srx (mvx rfl (za rfl (ka ex46 rfl (za rfl (kp (z := 4617315517961601024) rfl rfl (by kernel_rfl) (za rfl (ym (b := 4617315517961601024) om rfl (anx rfl (zt (zr (rs := [.tmp 2]) (vs := [.float .f64 4617315517961601024]) rfl ⟨rfl, trivial⟩ ?_))))))))))));exact ⟨rfl, (LW.step E XLW).toBelow⟩
theorem cr49_6 : Gives 49 #[.float .f64 13840687554816376832, .int .i64 0] (.bool false) := by
 intro w;refine zo Tryz.func49 rfl Tryz.ntmps49 rfl ?_;have LW := erx (No) w;have XLW := grx (No) w;have E := erx (No) w;refine srx (anx rfl (zb (srx (mvx rfl (za rfl (zx rfl rfl (rnx (zz rfl (zh (mvx rfl (za rfl (zg en69 rfl ((cr69_6 _).mono ?_)))))))))))));rintro e w1 ⟨rfl, hb⟩;refine ⟨_, rfl, ?_⟩;replace E := blx E hb
 refine anx rfl (srx (mvx rfl (za rfl (zhx rfl rfl (zv 14 (.bool false) rfl (by kernel_rfl : (.bool (qy 4617315517961601024 9218868437227405311 == some .gt) : Value) = _) (anx rfl (zt (zr (rs := [.tmp 4]) (vs := [.bool false]) rfl ⟨rfl, trivial⟩ ?_))))))));exact ⟨rfl, (LW.step E XLW).toBelow⟩
theorem cr129_7 : Gives 129 #[.float .f64 13840687554816376832] (.bool false) := by
 intro w;refine zo Tryz.func129 rfl Tryz.ntmps129 rfl ?_;have LW := erx (No) w;have XLW := grx (No) w;have E := erx (No) w
 refine srx (anx rfl (srx (mvx rfl (mvx rfl (za rfl (jm rfl rfl (zv 5 (.bool false) rfl (by kernel_rfl : (.bool (qy 13840687554816376832 13840687554816376832 != some .eq) : Value) = _) (anx rfl (zt (zr (rs := [.tmp 2]) (vs := [.bool false]) rfl ⟨rfl, trivial⟩ ?_))))))))));exact ⟨rfl, (LW.step E XLW).toBelow⟩
theorem cr129_8 : Gives 129 #[.float .f64 9218868437227405312] (.bool false) := by
 intro w;refine zo Tryz.func129 rfl Tryz.ntmps129 rfl ?_;have LW := erx (No) w;have XLW := grx (No) w;have E := erx (No) w
 refine srx (anx rfl (srx (mvx rfl (mvx rfl (za rfl (jm rfl rfl (zv 5 (.bool false) rfl (by kernel_rfl : (.bool (qy 9218868437227405312 9218868437227405312 != some .eq) : Value) = _) (anx rfl (zt (zr (rs := [.tmp 2]) (vs := [.bool false]) rfl ⟨rfl, trivial⟩ ?_))))))))));exact ⟨rfl, (LW.step E XLW).toBelow⟩
theorem cr69_9 : Gives 69 #[.float .f64 9218868437227405312] (.float .f64 9218868437227405312) := by
 intro w;refine zo Tryz.func69 rfl Tryz.ntmps69 rfl ?_;have LW := erx (No) w;have XLW := grx (No) w;have E := erx (No) w
 refine srx (anx rfl (srx (mvx rfl (za rfl (ka ex46 rfl (za rfl (kp (z := 9218868437227405312) rfl rfl (by kernel_rfl) (za rfl (ym (b := 9218868437227405312) om rfl (anx rfl (zt (zr (rs := [.tmp 2]) (vs := [.float .f64 9218868437227405312]) rfl ⟨rfl, trivial⟩ ?_))))))))))));exact ⟨rfl, (LW.step E XLW).toBelow⟩
theorem cr49_12 : Gives 49 #[.float .f64 9218868437227405312, .int .i64 0] (.bool true) := by
 intro w;refine zo Tryz.func49 rfl Tryz.ntmps49 rfl ?_;have LW := erx (No) w;have XLW := grx (No) w;have E := erx (No) w;refine srx (anx rfl (zb (srx (mvx rfl (za rfl (zx rfl rfl (rnx (zz rfl (zh (mvx rfl (za rfl (zg en69 rfl ((cr69_9 _).mono ?_)))))))))))));rintro e w1 ⟨rfl, hb⟩;refine ⟨_, rfl, ?_⟩;replace E := blx E hb
 refine anx rfl (srx (mvx rfl (za rfl (zhx rfl rfl (zv 14 (.bool true) rfl (by kernel_rfl : (.bool (qy 9218868437227405312 9218868437227405311 == some .gt) : Value) = _) (anx rfl (zt (zr (rs := [.tmp 4]) (vs := [.bool true]) rfl ⟨rfl, trivial⟩ ?_))))))));exact ⟨rfl, (LW.step E XLW).toBelow⟩
theorem cr96_12 : Gives 96 #[.float .f64 9218868437227405312] (.tuple #[.float .f64 9218868437227405312, .int .i64 0]) := by
 intro w;refine zo Tryz.func96 rfl Tryz.ntmps96 rfl ?_;have LW := erx (No) w;have XLW := grx (No) w;have E := erx (No) w
 refine srx (avx rfl (anx rfl (zb (zw (srx (mvx rfl (za rfl (xy rfl rfl (zv 7 (.bool false) rfl (by kernel_rfl : (.bool (qy 9218868437227405312 0 == some .eq) : Value) = _) (anx rfl (zj rfl (srx (mvx rfl (za rfl (zg zqv rfl ((cr49_12 _).mono ?_))))))))))))))));rintro e w1 ⟨rfl, hb⟩;refine ⟨_, rfl, ?_⟩;replace E := blx E hb
 refine mvx rfl (za rfl (zu rfl (za rfl (zu rfl (za rfl (yk rfl rfl (anx rfl (zz rfl (srx (mvx rfl (avx rfl (anx rfl (zt (yo (zq (zr (rs := [.tmp 2, .tmp 3]) (vs := [.float .f64 9218868437227405312, .int .i64 0]) rfl ⟨rfl, rfl, trivial⟩ ?_))))))))))))))));exact ⟨rfl, (LW.step E XLW).toBelow⟩
theorem cr59_12 : Gives 59 #[.float .f64 9218868437227405312] (.tuple #[.float .f64 9218868437227405312, .int .i64 0]) := by
 intro w;refine zo Tryz.func59 rfl Tryz.ntmps59 rfl ?_;have LW := erx (No) w;have XLW := grx (No) w;have E := erx (No) w;refine srx (avx rfl (anx rfl (zb (zj rfl (zf (zc (srx (mvx rfl (za rfl (zg en96 rfl ((cr96_12 _).mono ?_)))))))))));rintro e w1 ⟨rfl, hb⟩;refine ⟨_, rfl, ?_⟩;replace E := blx E hb
 refine za rfl (zm rfl rfl (za rfl (zm rfl rfl (avx rfl (anx rfl (zt (zr (rs := [.tmp 2, .tmp 3]) (vs := [.float .f64 9218868437227405312, .int .i64 0]) rfl ⟨rfl, rfl, trivial⟩ ?_)))))));exact ⟨rfl, (LW.step E XLW).toBelow⟩
theorem cr147_12 : Gives 147 #[.float .f64 13840687554816376832, .float .f64 9218868437227405312] (.float .f64 13840687554816376832) := by
 intro w;refine zo Tryz.func147 rfl Tryz.ntmps147 rfl ?_;have LW := erx (No) w;have XLW := grx (No) w;have E := erx (No) w;refine srx (anx rfl (zb (srx (mvx rfl (za rfl (xy rfl rfl (zv 11 (.bool false) rfl (by kernel_rfl : (.bool (qy 9218868437227405312 0 == some .eq) : Value) = _) (mvx rfl (onx rfl (zi rfl (onx rfl (zg zqv rfl ((cr49_6 _).mono ?_)))))))))))))
 rintro e w1 ⟨rfl, hb⟩;refine ⟨_, rfl, ?_⟩;replace E := blx E hb;refine za rfl (yi rfl rfl (mvx rfl (onx rfl (zi rfl (onx rfl (zg en129 rfl ((cr129_7 _).mono ?_)))))));rintro e w2 ⟨rfl, hb⟩;refine ⟨_, rfl, ?_⟩;replace E := blx E hb;refine za rfl (yi rfl rfl (mvx rfl (onx rfl (zi rfl (onx rfl (zg en129 rfl ((cr129_8 _).mono ?_)))))));rintro e w3 ⟨rfl, hb⟩
 refine ⟨_, rfl, ?_⟩;replace E := blx E hb;refine za rfl (yi rfl rfl (rnx (zj rfl (zf (zc (srx (mvx rfl (za rfl (zg en69 rfl ((cr69_9 _).mono ?_))))))))));rintro e w4 ⟨rfl, hb⟩;refine ⟨_, rfl, ?_⟩;replace E := blx E hb;refine anx rfl (srx (mvx rfl (za rfl (zg en59 rfl ((cr59_12 _).mono ?_)))));rintro e w5 ⟨rfl, hb⟩;refine ⟨_, rfl, ?_⟩
 replace E := blx E hb
 refine mvx rfl (za rfl (zm rfl rfl (za rfl (zm rfl rfl (avx rfl (anx rfl (srx (mvx rfl (anx rfl (zb (srx (mvx rfl (za rfl (xx rfl rfl (zv 34 (.bool true) rfl (by kernel_rfl : (.bool (qy 13840687554816376832 0 == some .lt) : Value) = _) (rnx (zz rfl (zh (mvx rfl (za rfl (ow_fneg rfl (zv 36 (.float .f64 4617315517961601024) rfl (by kernel_rfl : (.float .f64 (13840687554816376832 ^^^ 9223372036854775808) : Value) = _) (anx rfl (zb (zw (kf (zb (srx (mvx rfl (mvx rfl (za rfl (ow_fgeq rfl rfl (zv 39 (.bool false) rfl (by kernel_rfl : (.bool (qy 4617315517961601024 9218868437227405312 == some .gt || qy 4617315517961601024 9218868437227405312 == some .eq) : Value) = _) (yg ?_))))))))))))))))))))))))))))))))))
 refine zc (zj rfl (yr (zn (zn (ya (zc (zb (srx (mvx rfl (za rfl (xx rfl rfl (zv 58 (.bool true) rfl (by kernel_rfl : (.bool (qy 13840687554816376832 0 == some .lt) : Value) = _) (rnx (zz rfl (zh (mvx rfl (za rfl (ow_fneg rfl (zv 60 (.float .f64 13840687554816376832) rfl (by kernel_rfl : (.float .f64 (4617315517961601024 ^^^ 9223372036854775808) : Value) = _) (anx rfl (srx (mvx rfl (anx rfl (zt (zr (rs := [.tmp 4]) (vs := [.float .f64 13840687554816376832]) rfl ⟨rfl, trivial⟩ ?_)))))))))))))))))))))))))
 exact ⟨rfl, (LW.step E XLW).toBelow⟩
theorem cr121_12 : Gives 121 #[.float .f64 13840687554816376832, .float .f64 9218868437227405312] (.float .f64 13840687554816376832) := by
 intro w;refine zo Tryz.func121 rfl Tryz.ntmps121 rfl ?_;have LW := erx (No) w;have XLW := grx (No) w;have E := erx (No) w;refine srx (anx rfl (zb (zj rfl (zf (zc (srx (mvx rfl (mvx rfl (za rfl (zg en147 rfl ((cr147_12 _).mono ?_)))))))))));rintro e w1 ⟨rfl, hb⟩;refine ⟨_, rfl, ?_⟩;replace E := blx E hb
 refine anx rfl (zt (zr (rs := [.tmp 4]) (vs := [.float .f64 13840687554816376832]) rfl ⟨rfl, trivial⟩ ?_));exact ⟨rfl, (LW.step E XLW).toBelow⟩
theorem cr122_13 : Gives 122 #[.float .f64 13830554455654793216] (.float .f64 13830554455654793216) := by
 intro w;refine zo Tryz.func122 rfl Tryz.ntmps122 rfl ?_;have LW := erx (No) w;have XLW := grx (No) w;have E := erx (No) w
 refine srx (anx rfl (zb (zz rfl (srx (mvx rfl (za rfl (ow_round ex148 rfl (by kernel_rfl) (zv 4 (.float .f64 13830554455654793216) rfl (by kernel_rfl : (.float .f64 (kx .down 13830554455654793216) : Value) = _) (anx rfl (zt (zq (zr (rs := [.tmp 2]) (vs := [.float .f64 13830554455654793216]) rfl ⟨rfl, trivial⟩ ?_))))))))))))
 exact ⟨rfl, (LW.step E XLW).toBelow⟩
theorem cr88_13 : Gives 88 #[.float .f64 13840687554816376832, .float .f64 9218868437227405312] (.tuple #[.float .f64 13830554455654793216, .float .f64 9218868437227405312]) := by
 intro w;refine zo Tryz.func88 rfl Tryz.ntmps88 rfl ?_;have LW := erx (No) w;have XLW := grx (No) w;have E := erx (No) w;refine srx (avx rfl (anx rfl (srx (mvx rfl (mvx rfl (za rfl (zg en121 rfl ((cr121_12 _).mono ?_))))))));rintro e w1 ⟨rfl, hb⟩;refine ⟨_, rfl, ?_⟩;replace E := blx E hb
 refine anx rfl (srx (mvx rfl (mvx rfl (za rfl (ytv (z := 0) (.inr (.inl rfl)) rfl rfl (by kernel_rfl) (mvx rfl (za rfl (ytv (z := 0) (.inr (.inr (.inr rfl))) rfl rfl (by kernel_rfl) (anx rfl (zb (srx (mvx rfl (za rfl (jm rfl rfl (zv 18 (.bool true) rfl (by kernel_rfl : (.bool (qy 13840687554816376832 0 != some .eq) : Value) = _) (rnx (zz rfl (srx (mvx rfl (za rfl (xx rfl rfl (zv 20 (.bool true) rfl (by kernel_rfl : (.bool (qy 13840687554816376832 0 == some .lt) : Value) = _) (mvx rfl (za rfl (xx rfl rfl (zv 22 (.bool false) rfl (by kernel_rfl : (.bool (qy 9218868437227405312 0 == some .lt) : Value) = _) (za rfl (ow_neqB Tryz.underlying4 rfl rfl (rnx (zz rfl (srx (mvx rfl (mvx rfl (za rfl (ytv (z := 9218868437227405312) (.inl rfl) rfl rfl (by kernel_rfl) (avx rfl ?_))))))))))))))))))))))))))))))))))))
 refine rnx (zh (mvx rfl (za rfl (ytv (z := 13830554455654793216) (.inr (.inl rfl)) rfl rfl (by kernel_rfl) (anx rfl (zb (srx (mvx rfl (za rfl (xy rfl rfl (zv 32 (.bool false) rfl (by kernel_rfl : (.bool (qy 13830554455654793216 0 == some .eq) : Value) = _) (rnx (zj rfl (zf (zc (srx (mvx rfl (za rfl (zg en122 rfl ((cr122_13 _).mono ?_))))))))))))))))))))
 rintro e w2 ⟨rfl, hb⟩;refine ⟨_, rfl, ?_⟩;replace E := blx E hb
 refine anx rfl (zb (srx (mvx rfl (mvx rfl (za rfl (ytv (z := 0) (.inr (.inl rfl)) rfl rfl (by kernel_rfl) (za rfl (zhx rfl rfl (zv 43 (.bool false) rfl (by kernel_rfl : (.bool (qy 0 4602678819172646912 == some .gt) : Value) = _) (rnx (zj rfl (zf (zc (srx (mvx rfl (mvx rfl (avx rfl (anx rfl (zt (zr (rs := [.tmp 4, .tmp 5]) (vs := [.float .f64 13830554455654793216, .float .f64 9218868437227405312]) rfl ⟨rfl, rfl, trivial⟩ ?_))))))))))))))))))))
 exact ⟨rfl, (LW.step E XLW).toBelow⟩
theorem cr44_14 : Gives 44 #[.float .f64 9218868437227405312] (.int .u64 9218868437227405312) := by
 intro w;refine zo Tryz.func44 rfl Tryz.ntmps44 rfl ?_;have LW := erx (No) w;have XLW := grx (No) w;have E := erx (No) w
 refine srx (anx rfl (zb (srx (mvx rfl (mvx rfl (za rfl (jm rfl rfl (zv 5 (.bool false) rfl (by kernel_rfl : (.bool (qy 9218868437227405312 9218868437227405312 != some .eq) : Value) = _) (rnx (zj rfl (zf (zc (srx (mvx rfl (za rfl (ka ex46 rfl (anx rfl (zt (zr (rs := [.tmp 2]) (vs := [.int .u64 9218868437227405312]) rfl ⟨rfl, trivial⟩ ?_)))))))))))))))))))
 exact ⟨rfl, (LW.step E XLW).toBelow⟩
theorem cr47_14 : Gives 47 #[.int .u64 13840687554816376832, .int .u64 9218868437227405312] (.tuple #[.int .u64 9218868437227405312, .int .i64 0]) := by
 intro w;refine zo Tryz.func47 rfl Tryz.ntmps47 rfl ?_;have LW := erx (No) w;have XLW := grx (No) w;have E := erx (No) w
 refine srx (avx rfl (anx rfl (srx (mvx rfl (za rfl (ym (b := 9218868437227405312) om rfl (anx rfl (zb (srx (mvx rfl (za rfl (xy rfl rfl (zv 12 (.bool false) rfl (by kernel_rfl : (.bool (qy 9218868437227405312 0 == some .eq) : Value) = _) (rnx (zj rfl (zf (zc (srx (mvx rfl (za rfl (ym (b := 13840687554816376832) om rfl (mvx rfl (za rfl (zg en88 rfl ((cr88_13 _).mono ?_)))))))))))))))))))))))))
 rintro e w1 ⟨rfl, hb⟩;refine ⟨_, rfl, ?_⟩;replace E := blx E hb;refine mvx rfl (za rfl (zm rfl rfl (za rfl (zm rfl rfl (avx rfl (anx rfl (srx (mvx rfl (za rfl (zg en44 rfl ((cr44_14 _).mono ?_)))))))))));rintro e w2 ⟨rfl, hb⟩;refine ⟨_, rfl, ?_⟩;replace E := blx E hb
 refine avx rfl (anx rfl (zt (zr (rs := [.tmp 4, .tmp 5]) (vs := [.int .u64 9218868437227405312, .int .i64 0]) rfl ⟨rfl, rfl, trivial⟩ ?_)));exact ⟨rfl, (LW.step E XLW).toBelow⟩
theorem cr115_18 : Gives 115 #[.string ⟨#[45, 110, 97, 110]⟩, .string ⟨#[45]⟩] (.bool true) := by
 intro w;refine zo Tryz.func115 rfl Tryz.ntmps115 rfl ?_;have LW := erx (No) w;have XLW := grx (No) w;have E := erx (No) w
 refine srx (anx rfl (srx (mvx rfl (za rfl (qr Tryz.underlying9 rfl (mvx rfl (za rfl (qr Tryz.underlying9 rfl (za rfl (qz rfl rfl (mvx rfl (onx rfl (zi rfl (onx rfl (zi rfl (onx rfl (qr Tryz.underlying9 rfl (onx rfl (kn (l := 0) (h := 1) Tryz.underlying9 rfl rfl ⟨_, rfl⟩ (by decide) (by decide) (zv 14 (.string ⟨#[45]⟩) rfl (by kernel_rfl : (.string ((⟨#[45, 110, 97, 110]⟩ : ByteArray).extract 0 1) : Value) = _) (onx rfl (zi rfl (onx rfl (znz rfl rfl (zv 16 (.bool true) rfl (by simp only [xl]; rfl : (.bool ((⟨#[45]⟩ : ByteArray).toList == (⟨#[45]⟩ : ByteArray).toList) : Value) = _) (za rfl (yk rfl rfl (anx rfl (zt (zr (rs := [.tmp 4]) (vs := [.bool true]) rfl ⟨rfl, trivial⟩ ?_))))))))))))))))))))))))))))))
 exact ⟨rfl, (LW.step E XLW).toBelow⟩
theorem cr82_18 : Gives 82 #[.string ⟨#[45, 110, 97, 110]⟩, .string ⟨#[45]⟩] (.tuple #[.string ⟨#[110, 97, 110]⟩, .bool true]) := by
 intro w;refine zo Tryz.func82 rfl Tryz.ntmps82 rfl ?_;have LW := erx (No) w;have XLW := grx (No) w;have E := erx (No) w;refine srx (avx rfl (anx rfl (zb (srx (mvx rfl (mvx rfl (za rfl (zg en115 rfl ((cr115_18 _).mono ?_)))))))));rintro e w1 ⟨rfl, hb⟩;refine ⟨_, rfl, ?_⟩;replace E := blx E hb
 refine za rfl (jj rfl (rnx (zj rfl (zf (zc (srx (mvx rfl (mvx rfl (za rfl (qr Tryz.underlying9 rfl (za rfl (kn (l := 1) (h := 4) Tryz.underlying9 rfl ⟨_, rfl⟩ rfl (by decide) (by decide) (zv 14 (.string ⟨#[110, 97, 110]⟩) rfl (by kernel_rfl : (.string ((⟨#[45, 110, 97, 110]⟩ : ByteArray).extract 1 4) : Value) = _) (avx rfl (anx rfl (zt (zr (rs := [.tmp 4, .tmp 5]) (vs := [.string ⟨#[110, 97, 110]⟩, .bool true]) rfl ⟨rfl, rfl, trivial⟩ ?_)))))))))))))))))
 exact ⟨rfl, (LW.step E XLW).toBelow⟩
theorem cr39_18 : Gives 39 #[.string ⟨#[45, 110, 97, 110]⟩, .string ⟨#[45]⟩] (.tuple #[.string ⟨#[110, 97, 110]⟩, .bool true]) := by
 intro w;refine zo Tryz.func39 rfl Tryz.ntmps39 rfl ?_;have LW := erx (No) w;have XLW := grx (No) w;have E := erx (No) w;refine srx (avx rfl (anx rfl (srx (mvx rfl (mvx rfl (za rfl (zg en82 rfl ((cr82_18 _).mono ?_))))))));rintro e w1 ⟨rfl, hb⟩;refine ⟨_, rfl, ?_⟩;replace E := blx E hb
 refine za rfl (zm rfl rfl (za rfl (zm rfl rfl (avx rfl (anx rfl (zt (zr (rs := [.tmp 4, .tmp 5]) (vs := [.string ⟨#[110, 97, 110]⟩, .bool true]) rfl ⟨rfl, rfl, trivial⟩ ?_)))))));exact ⟨rfl, (LW.step E XLW).toBelow⟩
theorem cr12_18 : Gives 12 #[.string ⟨#[45, 110, 97, 110]⟩] (.tuple #[.int .u64 9221120237041090560, .int .i64 0]) := by
 intro w;refine zo Tryz.func12 rfl Tryz.ntmps12 rfl ?_;have LW := erx (No) w;have XLW := grx (No) w;have E := erx (No) w;refine srx (avx rfl (anx rfl (zb (srx (mvx rfl (za rfl (qr Tryz.underlying9 rfl (za rfl (qh rfl rfl (rnx (zj rfl (zf (zc (srx (mvx rfl (za rfl (zg en39 rfl ((cr39_18 _).mono ?_))))))))))))))))));rintro e w1 ⟨rfl, hb⟩
 refine ⟨_, rfl, ?_⟩;replace E := blx E hb
 refine mvx rfl (za rfl (zm rfl rfl (za rfl (zm rfl rfl (avx rfl (anx rfl (srx (anx rfl (zb (zw (srx (mvx rfl (za rfl (znz rfl rfl (zv 17 (.bool false) rfl (by simp only [xl]; rfl : (.bool ((⟨#[110, 97, 110]⟩ : ByteArray).toList == (⟨#[105, 110, 102]⟩ : ByteArray).toList) : Value) = _) (anx rfl (zj rfl (srx (mvx rfl (za rfl (znz rfl rfl (zv 21 (.bool true) rfl (by simp only [xl]; rfl : (.bool ((⟨#[110, 97, 110]⟩ : ByteArray).toList == (⟨#[110, 97, 110]⟩ : ByteArray).toList) : Value) = _) (anx rfl (zz rfl (srx (avx rfl (anx rfl (zt (yo ?_)))))))))))))))))))))))))))))
 refine zq (zr (rs := [.tmp 2, .tmp 3]) (vs := [.int .u64 9221120237041090560, .int .i64 0]) rfl ⟨rfl, rfl, trivial⟩ ?_);exact ⟨rfl, (LW.step E XLW).toBelow⟩
theorem known_any (w : World) (hT : ∀ b, Below w.heap.size w b → Ten b) (hD : ∀ b, Below w.heap.size w b → TabD b) : Calls Tryz.prog 14 #[] w fun e w' => e = .returned (.bool true) ∧ Below w.heap.size w w' := by
 refine zo Tryz.func14 rfl Tryz.ntmps14 rfl ?_;have LW := erx (No) w;have XLW := grx (No) w;have E := erx (No) w;refine srx (anx rfl (srx (za rfl (zg en47 rfl ((cr47_14 _).mono ?_)))));rintro e w1 ⟨rfl, hb⟩;refine ⟨_, rfl, ?_⟩;replace E := blx E hb
 refine mvx rfl (za rfl (zm rfl rfl (za rfl (zm rfl rfl (avx rfl (anx rfl (srx (za rfl (zg en12 rfl ((cr12_18 _).mono ?_))))))))));rintro e w2 ⟨rfl, hb⟩;refine ⟨_, rfl, ?_⟩;replace E := blx E hb
 refine mvx rfl (za rfl (zm rfl rfl (za rfl (zm rfl rfl (avx rfl (anx rfl (srx (mvx rfl (za rfl (zx rfl rfl (mvx rfl (onx rfl (zi rfl (onx rfl (zx rfl rfl (za rfl (yk rfl rfl (mvx rfl (onx rfl (zi rfl (onx rfl (zx rfl rfl (za rfl (yk rfl rfl (mvx rfl (onx rfl (zi rfl (onx rfl (zx rfl rfl (za rfl (yk rfl rfl (mvx rfl (onx rfl (zg en15 rfl ((text_z _).mono ?_)))))))))))))))))))))))))))))))))))
 rintro e w3 ⟨rfl, hb⟩;refine ⟨_, rfl, ?_⟩;replace E := blx E hb
 refine onx rfl (znz rfl rfl (zv 29 (.bool true) rfl (by simp only [xl]; rfl : (.bool ((⟨#[45, 48, 46, 48]⟩ : ByteArray).toList == (⟨#[45, 48, 46, 48]⟩ : ByteArray).toList) : Value) = _) (za rfl (yk rfl rfl (mvx rfl (onx rfl (zg en15 rfl ((text_o _ (later hT (LW.step E XLW).toBelow) (later hD (LW.step E XLW).toBelow)).mono ?_))))))));rintro e w4 ⟨rfl, hb⟩
 refine ⟨_, rfl, ?_⟩;replace E := blx E hb;refine onx rfl (znz rfl rfl (zv 33 (.bool true) rfl (by simp only [xl]; rfl : (.bool ((⟨#[49, 46, 48]⟩ : ByteArray).toList == (⟨#[49, 46, 48]⟩ : ByteArray).toList) : Value) = _) (za rfl (yk rfl rfl (anx rfl (zt (zr (rs := [.tmp 0]) (vs := [_]) rfl ⟨rfl, trivial⟩ ?_)))))));exact ⟨rfl, (LW.step E XLW).toBelow⟩
end Go.Proofs.YtjdcjdohghkcgaaGreatDoor
