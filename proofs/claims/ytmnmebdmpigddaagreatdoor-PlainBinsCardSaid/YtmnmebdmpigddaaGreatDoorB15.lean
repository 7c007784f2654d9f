/- Texts of this claim. -/
import Derived.Test.YtmnmebdmpigddaaGreatDoorB14
import Derived.Deep.RegionWith
set_option maxRecDepth 100000
set_option maxHeartbeats 20000000
namespace Go.Proofs.YtmnmebdmpigddaaGreatDoor
open Go.RowKit Proofs.Tryz
theorem vhv (A:Option Addr) (c:Nat) (i:Int) (w:World) :
 Calls prog 131 #[.agg #[.bool (decide (i<0)),.slice A (ah i).length c]] w fun e w'=>e= .returned (.bool (decide ((ah i).length≤540)))∧Below w.heap.size w w':=by
 have hd:decide (((ah i).length:Int)≤540)=decide ((ah i).length≤540):=by
  by_cases h:(ah i).length≤540
  · rw[decide_eq_true h,decide_eq_true om]
  · rw[decide_eq_false h,decide_eq_false om]
 go_enter func131,ntmps131
 go_wp2
 go_ret
 exact ⟨by first | rfl | rw[hd],(Below.refl _ _).alloc (Nat.le_refl _) _⟩
theorem yix (i:Int):(ah i).length≤540↔i.natAbs<av^30:=by
 rw[qa,vex];exact zz de _ (18*30)
def Two (w:World) (n1 n2:Bool) (A B:Option Addr) (c d:Nat) (xs ys:List Nat) (b:World):Prop:=
 (b.cell? ⟨w.heap.size,0,none⟩=some (.bool n1)∧b.cell? ⟨w.heap.size,1,none⟩=some (.slice A xs.length c)∧
 b.cell? ⟨w.heap.size+1,0,none⟩=some (.bool n2)∧b.cell? ⟨w.heap.size+1,1,none⟩=some (.slice B ys.length d))∧aA b A xs∧aA b B ys
def two (w:World) (n1 n2:Bool) (A B:Option Addr) (c d:Nat) (xs ys:List Nat):World:=
 (w.alloc (.cells #[.bool n1,.slice A xs.length c] 24)).alloc (.cells #[.bool n2,.slice B ys.length d] 24)
theorem qeq (w:World) (n1 n2:Bool) (A B:Option Addr) (c d:Nat) (xs ys:List Nat):Below w.heap.size w (two w n1 n2 A B c d xs ys):=
 ((Below.refl _ _).alloc (Nat.le_refl _) _).alloc (by simp) _
theorem MZ {w b:World} {n1 n2:Bool} {A B:Option Addr} {c d:Nat} {xs ys:List Nat} (hx:aA w A xs) (hy:aA w B ys) (hb:Below (two w n1 n2 A B c d xs ys).heap.size (two w n1 n2 A B c d xs ys) b):Two w n1 n2 A B c d xs ys b:=by
 have X:aB (two w n1 n2 A B c d xs ys) w.heap.size 24 #[.bool n1,.slice A xs.length c]:=(aB.new _ _ _).alloc _;have Y:aB (two w n1 n2 A B c d xs ys) (w.heap.size+1) 24 #[.bool n2,.slice B ys.length d]:=aB.new1 _ _ _ _;have x:=(X.below hb X.lt).two;have y:=(Y.below hb Y.lt).two;exact ⟨⟨x.1,x.2.1,y.1,y.2.1⟩,(hx.since (qeq w n1 n2 A B c d xs ys)).since hb,(hy.since (qeq w n1 n2 A B c d xs ys)).since hb⟩
def bd3 (g1 g2:Bool):Int:=if g1&&g2 then 0 else 3
def isW (w:World) (b1 b2:Bool) (A B:Option Addr) (c d n m:Nat):World:=
 (w.alloc (.cells #[.bool b1,.slice A n c] 24)).alloc (.cells #[.bool b2,.slice B m d] 48)
def bfx (W:World) (F:World→Prop):Prop:=∀b,Below W.heap.size W b→F b
def Box (g:Nat) (t:TypeId) (u v:Value) (b:World):Prop:=b.cell? ⟨g,0,none⟩=some u∧b.cell? ⟨g,1,none⟩=some v
def aG0 (W:World) (f:Int) (e:Ending) (w':World):Prop:=∃A c,e= .returned (.tuple #[.agg #[.bool false,.slice A 0 c],.int .i64 f])∧aA w' A []∧Below W.heap.size W w'
def ayz (W:World) (e:Ending) (w':World):Prop:=∃A c,e= .returned (.agg #[.bool false,.slice A 0 c])∧aA w' A []∧Below W.heap.size W w'
def aTj (W:World) (e:Ending) (w':World):Prop:=e= .returned (.bool true)∧Below W.heap.size W w'
theorem BN {P Q:Prop} (k:Q) (h:(Unit→Q)→P:=by
 intro zK;refine bodyPost_ret (v:=.agg #[.bool false,.slice A1 (ah (i+j)).length c1]) (by simp[results,Tryz.results74,go_sem,z0,z1]) rfl ?_;exact zK ()):P:=h fun _=>k
theorem Ui {P:Prop} (h:P:=by
 exact ⟨rfl,by first | exact (L.setCell (by show w.heap.size≤w.heap.size+1;omega) _).setCell (by show w.heap.size≤w.heap.size+1;omega) _ | exact ((Below.refl _ _).alloc (Nat.le_refl _) _).alloc (by simp) _⟩):P:=h
theorem yfx {w wz:World} {i:Int} {A:Option Addr} {c base g0:Nat} (hown:aM wz base A c (ah i)) (L:Below w.heap.size w wz) (hg:w.heap.size≤g0) (hgb:g0<base) (u v:Value) :
 Zh w i (.returned (.agg #[.bool (decide (i<0)),.slice A (ah i).length c])) ((wz.setCell ⟨g0,0,none⟩ u).setCell ⟨g0,1,none⟩ v):=
 ⟨A,c,rfl,((hown.aI hgb _).aI hgb _).mono om,(L.setCell hg _).setCell hg _⟩
def vxq (W:World) (A:Option Addr) (c:Nat) (i:Int) (e:Ending) (w':World):Prop:=e= .returned (.agg #[.bool (decide (-i<0)),.slice A (ah i).length c])∧Below W.heap.size W w'
set_option maxHeartbeats 1000000 in
theorem NJ (A:Option Addr) (c:Nat) (i:Int) (w:World) (hl:(ah i).length≤1048576) :
 Calls prog 52 #[.agg #[.bool (decide (i<0)),.slice A (ah i).length c]] w (vxq w A c i):=by
 have hpos:i≠0→0<(ah i).length:=fun h=>by rw[qa];exact RL de om
 have L:Below w.heap.size w ((w.alloc (.cells #[.bool (decide (i<0)),.slice A (ah i).length c] 48)).alloc (.cells #[.bool false,.slice none 0 0] 48)):=((Below.refl _ _).alloc (Nat.le_refl _) _).alloc (by simp) _;rcases Int.lt_trichotomy i 0 with h | h | h
 · have e1:decide (i<0)=true:=by simpa using h
   have e2:decide (-i<0)=false:=by simp;omega
   unfold vxq;rw[e2];rw[e1] at L ⊢;clear e1 e2 h hpos;go_enter func52,ntmps52
   go_wp2_with fail
   refine bodyPost_ret (v:=.agg #[.bool false,.slice A (ah i).length c]) (by simp[results,Tryz.results52,go_sem]) rfl ?_;exact Ui
 · subst h;have e1:ah 0= []:=bD;unfold vxq;rw[e1] at L ⊢;have e2:decide ((0:Int)<0)=false:=rfl;have e3:decide (-(0:Int)<0)=false:=rfl;rw[e3];rw[e2] at L ⊢;clear e1 e2 e3 hpos hl;go_enter func52,ntmps52
   go_wp2_with fail
   refine bodyPost_ret (v:=.agg #[.bool false,.slice A 0 c]) (by simp[results,Tryz.results52,go_sem]) rfl ?_;exact Ui
 · have e1:decide (i<0)=false:=by simp;omega
   have e2:decide (-i<0)=true:=by simpa using h
   have h0:=hpos om;unfold vxq;rw[e2];rw[e1] at L ⊢;clear e1 e2 h hpos;go_enter func52,ntmps52
   go_wp2_with fail
   refine bodyPost_ret (v:=.agg #[.bool true,.slice A (ah i).length c]) (by simp[results,Tryz.results52,go_sem]) rfl ?_;exact Ui
theorem kU (A B:Option Addr) (c d:Nat) (i j:Int) (w:World) (hx:aH w A (ah i)) (hy:aH w B (ah j)) (hl:(ah i).length≤1048576) (hl':(ah j).length≤1048576) :
 Calls prog 133 #[.slice A (ah i).length c,.slice B (ah j).length d] w fun e w'=>e= .returned (.int .i64 (xz i.natAbs j.natAbs))∧Below w.heap.size w w':=
 (BM A B c d i j w hx hy hl hl').mono fun _ _ ⟨he,n,hw⟩=>⟨he,by rw[hw];exact kd (Below.refl _ _) n⟩
def Three (w:World) (bi bj:Bool) (A B:Option Addr) (c d:Nat) (i j:Int) (b:World):Prop:=
 (b.cell? ⟨w.heap.size,0,none⟩=some (.bool bi)∧b.cell? ⟨w.heap.size,1,none⟩=some (.slice A (ah i).length c))∧
 (b.cell? ⟨w.heap.size+1,0,none⟩=some (.bool bj)∧b.cell? ⟨w.heap.size+1,1,none⟩=some (.slice B (ah j).length d))∧
 (b.cell? ⟨w.heap.size+1+1,0,none⟩=some (.bool false)∧b.cell? ⟨w.heap.size+1+1,1,none⟩=some (.slice none 0 0)∧b.frozen? ⟨w.heap.size+1+1,0,none⟩=false∧b.frozen? ⟨w.heap.size+1+1,1,none⟩=false)∧
 aH b A (ah i)∧aH b B (ah j)
def nY (w:World) (bi bj:Bool) (A B:Option Addr) (c d:Nat) (i j:Int):World:=
 ((w.alloc (.cells #[.bool bi,.slice A (ah i).length c] 48)).alloc (.cells #[.bool bj,.slice B (ah j).length d] 48)).alloc (.cells #[.bool false,.slice none 0 0] 48)
theorem zaz (w:World) (bi bj:Bool) (A B:Option Addr) (c d:Nat) (i j:Int):Below w.heap.size w (nY w bi bj A B c d i j):=
 (((Below.refl _ _).alloc (Nat.le_refl _) _).alloc (by simp) _).alloc (by simp;omega) _
theorem yoz (w:World) (bi bj:Bool) (A B:Option Addr) (c d:Nat) (i j:Int):(nY w bi bj A B c d i j).heap.size=w.heap.size+3:=by simp[nY]
theorem ydz {w b:World} {bi bj:Bool} {A B:Option Addr} {c d:Nat} {i j:Int} (hx:aH w A (ah i)) (hy:aH w B (ah j)) (hb:Below (nY w bi bj A B c d i j).heap.size (nY w bi bj A B c d i j) b):Three w bi bj A B c d i j b:=by
 have hs:=yoz w bi bj A B c d i j;have X:aB (nY w bi bj A B c d i j) w.heap.size 48 #[.bool bi,.slice A (ah i).length c]:=((aB.new _ _ _).alloc _).alloc _;have Y:aB (nY w bi bj A B c d i j) (w.heap.size+1) 48 #[.bool bj,.slice B (ah j).length d]:=(aB.new1 _ _ _ _).alloc _;have Z:aB (nY w bi bj A B c d i j) (w.heap.size+1+1) 48 #[.bool false,.slice none 0 0]:=aB.newAt (by simp);have x:=(X.below hb X.lt).two;have y:=(Y.below hb Y.lt).two;have z:=(Z.below hb Z.lt).two;exact ⟨⟨x.1,x.2.1⟩,⟨y.1,y.2.1⟩,z,(hx.since (zaz w bi bj A B c d i j)).since hb,(hy.since (zaz w bi bj A B c d i j)).since hb⟩
section
variable (A B:Option Addr) (c d:Nat) (i j:Int) (w:World)
set_option maxHeartbeats 1000000 in
theorem G9 (b:Bool) (hi:decide (i<0)=b) (hj:decide (j<0)=b) (hx:aH w A (ah i)) (hy:aH w B (ah j)) (hl:(ah i).length≤1000000) (hl':(ah j).length≤1000000) :
 Calls prog 74 #[.agg #[.bool b,.slice A (ah i).length c],.agg #[.bool b,.slice B (ah j).length d]] w (Zh w (i+j)):=by
 have hq:i.natAbs+j.natAbs=(i+j).natAbs:=by cases b<;>simp at hi hj<;>omega
 have hs:b=decide (i+j<0):=by cases b<;>simp at hi hj ⊢ <;>omega
 have HQ:=Lib.hid hq;have HS:=Lib.hid hs;have hbb:(b==b)=true:=by simp
 clear hq hs hi hj;obtain ⟨W0,hW0⟩:∃W0,W0=nY w b b A B c d i j:=⟨_,rfl⟩;have LW:Below w.heap.size w W0:=by rw[hW0];exact zaz ..
 have kC:Hid (W0.heap.size=w.heap.size+3):=by rw[hW0];exact yoz ..
 have HF:Hid (∀b1,Below W0.heap.size W0 b1→Three w b b A B c d i j b1):=fun b1 hb=>by rw[hW0] at hb;exact ydz hx hy hb
 clear hx hy;unfold nY at hW0;go_enter func74,ntmps74
 go_wp2_with fail
 rw[←hW0];clear hW0;have L:Below W0.heap.size W0 W0:=Below.refl _ _;obtain ⟨⟨x0,x1⟩,⟨y0,y1⟩,⟨z0,z1,z2,z3⟩,hx,hy⟩:=HF.out _ L;go_region_with (go_at_call 132;refine (qwx A B c d i j (i+j) _ (by first | exact hx | exact hx.drew) (by first | exact hy | exact hy.drew) hl hl' HQ.out).mono ?_;rintro e w1 ⟨A1,c1,rfl,ho1,hb⟩;have ho1:=ho1.mono (show W0.heap.size≤_ from L.size);have L:=jw L (by first | exact hb | exact vdx hb);clear x0 x1 y0 y1 z0 z1 z2 z3 hx hy hb;obtain ⟨⟨x0,x1⟩,⟨y0,y1⟩,⟨z0,z1,z2,z3⟩,hx,hy⟩:=HF.out _ L)
 all_goals
  go_wp2_with fail
  refine bodyPost_ret (v:=.agg #[.bool b,.slice A1 (ah (i+j)).length c1]) (by simp[results,Tryz.results74,go_sem,z0,z1]) rfl ?_;have h1:=HS.out;have h2:=kC.out;have h3:=yfx (w:=w) (g0:=w.heap.size+1+1) ho1 (LW.trans (L.mono LW.size)) om om (.bool b) (.slice A1 (ah (i+j)).length c1);rw[←h1] at h3;exact h3
set_option maxHeartbeats 1000000 in
theorem He (bi bj:Bool) (hne:bi≠bj) (hi:decide (i<0)=bi) (hj:decide (j<0)=bj) (hx:aH w A (ah i)) (hy:aH w B (ah j)) (hl:(ah i).length≤1000000) (hl':(ah j).length≤1000000) :
 Calls prog 74 #[.agg #[.bool bi,.slice A (ah i).length c],.agg #[.bool bj,.slice B (ah j).length d]] w (Zh w (i+j)):=by
 have hbb:(bi==bj)=false:=by simpa using hne
 obtain ⟨W0,hW0⟩:∃W0,W0=nY w bi bj A B c d i j:=⟨_,rfl⟩;have LW:Below w.heap.size w W0:=by rw[hW0];exact zaz ..
 have kC:Hid (W0.heap.size=w.heap.size+3):=by rw[hW0];exact yoz ..
 have HF:Hid (∀b1,Below W0.heap.size W0 b1→Three w bi bj A B c d i j b1):=fun b1 hb=>by rw[hW0] at hb;exact ydz hx hy hb
 clear hx hy;unfold nY at hW0;by_cases hle:j.natAbs≤i.natAbs
 · have hq:i.natAbs-j.natAbs=(i+j).natAbs:=by cases bi<;>cases bj<;>simp at hi hj hne<;>omega
   have hcmp:¬xz i.natAbs j.natAbs<0:=by unfold xz;rw[if_neg om];split<;>omega
   have aP6:0≤xz i.natAbs j.natAbs:=om;have hs:decide (i+j<0)=(bi&&decide (0<(ah (i+j)).length)):=by
    by_cases h0:i+j=0
    · rw[h0,bD];simp
    · have:0<(ah (i+j)).length:=by rw[qa];exact RL de om
      cases bi<;>cases bj<;>simp[this] at hi hj hne ⊢ <;>omega
   have HQ:=Lib.hid hq;have yO:=Lib.hid hle;have HS:=Lib.hid hs;clear hq hcmp hs hi hj hne hle;go_enter func74,ntmps74
   have L:Below W0.heap.size W0 W0:=Below.refl _ _;go_upto_region 1 with fail
   rw[←hW0];clear hW0;obtain ⟨⟨x0,x1⟩,⟨y0,y1⟩,⟨z0,z1,z2,z3⟩,hx,hy⟩:=HF.out _ L;go_wp2_with (go_at_call 133;refine (kU A B c d i j _ hx hy om om).mono ?_;rintro e w1 ⟨rfl,hb⟩;have L:=jw L hb;clear x0 x1 y0 y1 z0 z1 z2 z3 hx hy hb;obtain ⟨⟨x0,x1⟩,⟨y0,y1⟩,⟨z0,z1,z2,z3⟩,hx,hy⟩:=HF.out _ L;refine Hid.out ?_)
   refine Lib.hid ?_;go_wp2_with (go_at_call 134;refine (zqz A B c d i j (i+j) _ hx hy om om yO.out HQ.out).mono ?_;rintro e w1 ⟨A1,c1,rfl,ho1,hb⟩;have ho1:=ho1.mono (show W0.heap.size≤_ from L.size);have L:=jw L hb;clear x0 x1 y0 y1 z0 z1 z2 z3 hx hy hb;obtain ⟨⟨x0,x1⟩,⟨y0,y1⟩,⟨z0,z1,z2,z3⟩,hx,hy⟩:=HF.out _ L;refine Hid.out ?_)
   refine Lib.hid ?_;cases bi
   · go_wp2_with fail
     refine BN ?_;have h1:=HS.out;have h2:=kC.out;have h3:=yfx (w:=w) (g0:=w.heap.size+1+1) ho1 (LW.trans (L.mono LW.size)) om om (.bool false) (.slice A1 (ah (i+j)).length c1);rw[Bool.false_and] at h1;rw[h1] at h3;exact h3
   · by_cases h0:0<(ah (i+j)).length
     · go_wp2_with fail
       refine bodyPost_ret (v:=.agg #[.bool true,.slice A1 (ah (i+j)).length c1]) (by simp[results,Tryz.results74,go_sem,z0,z1]) rfl ?_;have h1:=HS.out;have h2:=kC.out;have h3:=yfx (w:=w) (g0:=w.heap.size+1+1) ho1 (LW.trans (L.mono LW.size)) om om (.bool true) (.slice A1 (ah (i+j)).length c1);rw[Bool.true_and,decide_eq_true h0] at h1;rw[h1] at h3;exact h3
     · have h00:(ah (i+j)).length=0:=om;have hd0:decide (0<(ah (i+j)).length)=false:=by simpa using h0
       have H00:=Lib.hid h00;have HD0:=Lib.hid hd0;clear h00 hd0;go_wp2_with fail
       refine BN ?_;have h1:=HS.out;have h2:=kC.out;have h3:=yfx (w:=w) (g0:=w.heap.size+1+1) ho1 (LW.trans (L.mono LW.size)) om om (.bool false) (.slice A1 (ah (i+j)).length c1);rw[Bool.true_and,HD0.out] at h1;rw[h1] at h3;exact h3
 · have hq:j.natAbs-i.natAbs=(i+j).natAbs:=by cases bi<;>cases bj<;>simp at hi hj hne<;>omega
   have hcmp:xz i.natAbs j.natAbs= -1:=by unfold xz;rw[if_pos om]
   have hs:decide (i+j<0)=bj:=by cases bi<;>cases bj<;>simp at hi hj hne ⊢ <;>omega
   have HQ:=Lib.hid hq;have yO:=Lib.hid (show i.natAbs≤j.natAbs from om);have HS:=Lib.hid hs;have HCM:=Lib.hid hcmp;clear hq hcmp hs hi hj hne hle;go_enter func74,ntmps74
   have L:Below W0.heap.size W0 W0:=Below.refl _ _;go_upto_region 1 with fail
   rw[←hW0];clear hW0;obtain ⟨⟨x0,x1⟩,⟨y0,y1⟩,⟨z0,z1,z2,z3⟩,hx,hy⟩:=HF.out _ L;go_wp2_with (go_at_call 133;refine (kU A B c d i j _ hx hy om om).mono ?_;rintro e w1 ⟨rfl,hb⟩;have L:=jw L hb;clear x0 x1 y0 y1 z0 z1 z2 z3 hx hy hb;obtain ⟨⟨x0,x1⟩,⟨y0,y1⟩,⟨z0,z1,z2,z3⟩,hx,hy⟩:=HF.out _ L;rw[HCM.out];refine Hid.out ?_)
   refine Lib.hid ?_;go_upto_region 6 with fail
   go_region_with (go_at_call 134;refine (zqz B A d c j i (i+j) _ (by first | exact hy | exact hy.drew) (by first | exact hx | exact hx.drew) om om yO.out HQ.out).mono ?_;rintro e w1 ⟨A1,c1,rfl,ho1,hb⟩;have ho1:=ho1.mono (show W0.heap.size≤_ from L.size);have L:=jw L (by first | exact hb | exact vdx hb);clear x0 x1 y0 y1 z0 z1 z2 z3 hx hy hb;obtain ⟨⟨x0,x1⟩,⟨y0,y1⟩,⟨z0,z1,z2,z3⟩,hx,hy⟩:=HF.out _ L)
   all_goals
    go_wp2_with fail
    refine bodyPost_ret (v:=.agg #[.bool bj,.slice A1 (ah (i+j)).length c1]) (by simp[results,Tryz.results74,go_sem,z0,z1]) rfl ?_;have h1:=HS.out;have h2:=kC.out;have h3:=yfx (w:=w) (g0:=w.heap.size+1+1) ho1 (LW.trans (L.mono LW.size)) om om (.bool bj) (.slice A1 (ah (i+j)).length c1);rw[h1] at h3;exact h3
theorem rM (hx:aH w A (ah i)) (hy:aH w B (ah j)) (hl:(ah i).length≤1000000) (hl':(ah j).length≤1000000) :
 Calls prog 74 #[.agg #[.bool (decide (i<0)),.slice A (ah i).length c],.agg #[.bool (decide (j<0)),.slice B (ah j).length d]] w (Zh w (i+j)):=by
 by_cases h:decide (i<0)=decide (j<0)
 · rw[←h];exact G9 A B c d i j w _ rfl h.symm hx hy hl hl'
 · exact He A B c d i j w _ _ h rfl rfl hx hy hl hl'
end
section
attribute [local irreducible] OW RS CW EW
noncomputable def oi (a:Nat):Int:=if ng a then -((vn a:Nat):Int) else ((vn a:Nat):Int)
noncomputable def BO (a:Nat):Bool:=@decide (¬acj (rg a)) (Classical.propDecidable _)
theorem Hf (a:Nat):(oi a).natAbs=vn a:=by unfold oi;split<;>omega
theorem ae1 {a:Nat} {p:Prop} [Decidable p] (h:p↔ ¬acj (rg a)):decide p=BO a:=by
 unfold BO;by_cases hp:p
 · rw[decide_eq_true hp];exact (@decide_eq_true _ (Classical.propDecidable _) (h.1 hp)).symm
 · rw[decide_eq_false hp];exact (@decide_eq_false _ (Classical.propDecidable _) (fun k=>hp (h.2 k))).symm
theorem az5 {m e A B C P x:Nat} (hm:m<A) (he:2^e≤B) (hAB:A*B=C*P) (hP:0<P) (hx:x=m*2^e):x/P<C:=by
 refine (Nat.div_lt_iff_lt_mul hP).2 ?_;rw[hx,←hAB];exact Nat.lt_of_le_of_lt (Nat.mul_le_mul_left _ he) (Nat.mul_lt_mul_of_pos_right hm (Nat.lt_of_lt_of_le (ot e) he))
theorem rO {k K P Q:Nat} (hQ:Q=2^k) (hP:P=2^K) (h:k≤K):Q≤P:=by rw[hQ,hP];exact Nat.pow_le_pow_right de h
theorem aP7:2^53*2^2045=2^1024*2^1074:=by
 have h:∀P,P=2^2098→2^53*2^2045=2^1024*2^1074:=fun P hP=>(vfq (p:=2098) (q:=53) (s:=2045) hP de).symm.trans (vfq (p:=2098) (q:=1024) (s:=1074) hP de);exact h _ rfl
theorem NK {a:Nat} (hf:rg a<9218868437227405312):vn a<2^1024:=
 az5 (A:=2^53) (B:=2^2045) (Nq (rg a)) (rO rfl rfl (by unfold ex;split<;>omega)) aP7 (ot 1074) rfl
theorem az6 {K x B:Nat} (hK:K=x*30) (h:2^x≤B):2^K≤B^30:=by rw[hK,Nat.pow_mul];exact Nat.pow_le_pow_left h 30
theorem Hg:2^1024≤av^30:=by
 have h:∀K,K=59*30→2^1024≤av^30:=fun K hK=>Nat.le_trans (kM (k:=1024) (K:=K) om rfl) (az6 (x:=59) hK de);exact h _ rfl
theorem rP {a:Nat} (hf:rg a<9218868437227405312):(oi a).natAbs<av^30:=by rw[Hf];exact Nat.lt_of_lt_of_le (NK hf) Hg
def aU0 (W:World) (v:Int) (b:Bool) (e:Ending) (w':World):Prop:=∃A c,e= .returned (.tuple #[.agg #[.bool (decide (v<0)),.slice A (ah v).length c],.bool b])∧aH w' A (ah v)∧(∀q,A=some q→W.heap.size≤q.block)∧Below W.heap.size W w'
section
variable (w:World) (a:Nat) (ha:a<18446744073709551616) (hf:rg a<9218868437227405312)
include ha hf
end
end
theorem Yo (b o k:Nat):((⟨b,o,none⟩:Addr).add k)= ⟨b,o+k,none⟩:=by unfold Addr.add;split<;>simp_all
theorem aH.reads {w:World} {A:Option Addr} {xs:List Nat} (h:aH w A xs):vsz w w.heap.size 1 A xs.length (xs.map fun x:Nat=>Value.int .u8 (x:Int)):=by
 refine ⟨by simp,fun hn=>?_⟩;obtain ⟨b,o,rfl,hb,hc⟩:=h.2 hn;refine ⟨⟨b,o,none⟩,rfl,hb,fun j u hu=>?_⟩;rw[List.getElem?_map] at hu;by_cases hj:j<xs.length
 · rw[List.getElem?_eq_getElem hj] at hu;simp only[Option.map_some,Option.some.injEq] at hu
   rw[Yo,hc j hj,←hu];simp[nth,hj]
 · rw[List.getElem?_eq_none om] at hu;simp at hu
theorem EL {w:World} {ops:Array Oper} {rest:List Oper} {o:Oper} {a:Act} {Q:Exit→Act→World→Prop} (hgd:o.guard=none) (s x:Operand)
 (ho:o.op= .call { callee:=.builtin .append,args:=#[s,x],argTypes:=#[46,46] }) (base:Nat) (A:Option Addr) (c:Nat) (xs:List Nat) (hs:a.eval s= .slice A xs.length c)
 (hown:aM w base A c xs) (B:Option Addr) (cc:Nat) (ys:List Nat) (hx:a.eval x= .slice B ys.length cc) (hy:aH w B ys) (h64:∀x∈ys,x<256) (hl:xs.length+ys.length≤17592186044416) (hbase:base≤w.heap.size)
 (h:∀A' c' w',aM w' base A' c' (xs++ys)→w.grownBy w' (Value.slice A xs.length c).ownBlock→wpList prog ops Q rest (a.put o.dst (.slice A' (xs++ys).length c')) w'):wpList prog ops Q (o::rest) a w:=by
 obtain ⟨i,hi,hz,hsz,hby⟩:=jT;refine fF w hgd s x _ ho base 5 i _ 1 1 u46 hi hz hsz hby rfl de _ _ _ hs hown.1 w.heap.size B ys.length cc (ys.map fun x:Nat=>Value.int .u8 (x:Int)) hx hy.reads
  (fun u hu=>by rw[List.mem_map] at hu;obtain ⟨y,_,rfl⟩:=hu;rfl) (by unfold maxLen;omega) om hbase ?_
 intro v' w' hown' hg' _;rw[←List.map_append] at hown';obtain ⟨A',c',hv,ho'⟩:=aM.iG hown' (fun y hy=>by
  rcases List.mem_append.1 hy with h1 | h1
  · exact hown.2 y h1
  · exact h64 y h1)
 rw[hv];exact h A' c' w' ho' hg'
theorem aM.one (w:World) (v:Int) (x:Nat) (hv:v=(x:Int)) (hx:x<256):aM (w.alloc (.cells #[.int .u8 v] 5)) w.heap.size (some ⟨w.heap.size,0,none⟩) 1 [x]:=by
 subst hv;have h:bQ (w.alloc (.cells #[.int .u8 (x:Int)] 5)) w.heap.size 1 [x]:=by
  refine ⟨⟨#[.int .u8 (x:Int)],heap_alloc_new w _,rfl,fun i hi=>?_⟩,by simp⟩;obtain rfl:i=0:=om;simp[vhx,nth]
 exact aM.vJ h (Nat.le_refl _) de (by simp) (fun j _=>rfl) (by simp;omega)
theorem Jp (n:Nat):val 10 (List.replicate n 0)=0:=by
 induction n with
 | zero=>rfl
 | succ n ih=>rw[List.replicate_succ,val,ih]
def Yp (w:World) (g m:Nat):Nat:=match w.cell? ⟨g,m,none⟩ with | some (.int _ n)=>n.toNat | _=>0
theorem tZ {w:World} {g n m:Nat} {qs:List Nat} (h:bQ w g n qs) (hm:m<n):Yp w g m=qs.getD m 0:=by
 unfold Yp;rw[h.cell hm];unfold nth;simp
theorem Jq (V Y m:Nat):V/10^m=10*(V/10^(m+1))+V/10^m%10:=by
 rw[Nat.pow_succ,←Nat.div_div_eq_div_mul];omega
theorem PE {V Y m R1 T:Nat} (hY:0<Y) (h:R1+T*Y=V/10^m%10+10*(V/10^(m+1)%Y)) (hR:R1<Y) :
 R1=V/10^m%Y∧10*(V/10^(m+1)/Y)+T=V/10^m/Y:=by
 have e:=Jq V Y m;have d:=Nat.div_add_mod (V/10^(m+1)) Y;generalize V/10^(m+1)=D at *
 generalize V/10^m%10=a at *
 generalize D/Y=Qk at *
 generalize D%Y=R at *
 have e2:V/10^m=R1+Y*(10*Qk+T):=by
  rw[e,←d,Nat.mul_add,Nat.mul_add,Nat.mul_comm Y T,Nat.mul_left_comm Y 10];omega
 rw[e2];constructor
 · rw[Nat.add_mul_mod_self_left,Nat.mod_eq_of_lt hR]
 · rw[Nat.add_mul_div_left _ _ hY,Nat.div_eq_of_lt hR];omega
theorem Jr {V Y m R1 T:Nat} (hY:0<Y) (h:R1+T*Y=V/10^m%10+10*(V/10^(m+1)%Y)) (hR:Y≤R1):T+1≤9:=by
 have h1:V/10^m%10<10:=Nat.mod_lt _ de;have h2:=Nat.mod_lt (V/10^(m+1)) hY;rcases Nat.lt_or_ge (T+1) 10 with h3 | h3
 · omega
 · have:=Nat.mul_le_mul_right Y h3;rw[Nat.add_mul,Nat.one_mul] at this;omega
theorem zxk {i j:Int} (h:i.natAbs=j.natAbs):ah i=ah j:=by rw[qa,qa,h]
def PG (W:World) (q r:Int) (e:Ending) (w':World):Prop:=
 ∃A1 c1 A2 c2,e= .returned (.tuple #[.slice A1 (ah q).length c1,.slice A2 (ah r).length c2])∧aM w' W.heap.size A1 c1 (ah q)∧aM w' W.heap.size A2 c2 (ah r)∧Below W.heap.size W w'
set_option maxHeartbeats 2000000 in
theorem yyk (A B:Option Addr) (c d:Nat) (i j q r:Int) (w:World) (hx:aH w A (ah i)) (hy:aH w B (ah j)) (hl:(ah i).length≤600) (hl':(ah j).length≤600) (hj0:j≠0) (hq:i.natAbs/j.natAbs=q.natAbs) (hr:i.natAbs%j.natAbs=r.natAbs) :
 Calls prog 135 #[.slice A (ah i).length c,.slice B (ah j).length d] w (PG w q r):=by
 have HQ:=Lib.hid hq;have HR:=Lib.hid hr;have hY:0<j.natAbs:=om;have HSX:=Lib.hid (jx i);obtain ⟨la,hla⟩:∃la,la=(ah i).length:=⟨_,rfl⟩;have hmk:=aL8 la om;have hp0:=yeq (i:=i) (k:=la) om;have HP0:=Lib.hid hp0;have hlb:la≤600:=om;have HLA:=Lib.hid hla;rw[←hla];clear hq hr hp0 hla hl;go_enter func135,ntmps135
 go_upto_region 2 with fail
 obtain ⟨W1,hW1⟩:∃W1,W1=w.alloc (.cells (madeCells #[.int .u8 0] la) 5):=⟨_,rfl⟩;have L1:Below w.heap.size w W1:=by rw[hW1];exact (Below.refl _ _).alloc (Nat.le_refl _) _
 have hrow:bQ W1 w.heap.size la (List.replicate la 0):=by
  have h:=(bQ.made w la).fill;rw[←hW1] at h;simpa using h
 rw[←hW1];clear hmk hW1;go_wp2_with fail
 go_loopw [7,8] (fun rv iv wr=>∃(k R:Nat) (A':Option Addr) (c':Nat) (rs qs:List Nat),k≤la∧iv= .int .i64 ((k:Int)-1)∧rv= .slice A' rs.length c'∧aM wr (w.heap.size+1) A' c' rs∧Hid (rs=ah ((R:Nat):Int))∧Hid (R=i.natAbs/10^k%j.natAbs)∧
  bQ wr w.heap.size la qs∧qs.length=la∧small 10 qs∧Hid (val 10 qs=10^k*(i.natAbs/10^k/j.natAbs))∧Hid (∀p,p<k→nth qs p=0)∧Below w.heap.size w wr) (fun _ iv _=>(intOf iv+1).toNat)
 case atStart=>
  refine ⟨la,0,none,0,[],List.replicate la 0,Nat.le_refl _,rfl,rfl,aM.nil _ _,?_,?_,hrow,by simp,?_,?_,fun p _=>ygx _ _,L1⟩
  · show _=_;exact bD.symm
  · show _=_;rw[HP0.out,Nat.zero_mod]
  · intro x hx;rw[List.eq_of_mem_replicate hx];decide
  · show _=_;rw[HP0.out,Nat.zero_div,Nat.mul_zero];exact Jp la
 case round=>
  obtain ⟨k,R,A',c',rs,qs,hk,rfl,rfl,hown,Yq,HRR,hrw,Gp,Qe,HV,HZ,hbel⟩:=hrel;have Qf:aH wr A (ah i):=hx.since hbel;have hsz:w.heap.size<wr.heap.size:=hrw.lt;by_cases hk0:k=0
  · subst hk0;have hoq:aM wr w.heap.size (some ⟨w.heap.size,0,none⟩) la qs:=aM.vJ hrw (Nat.le_refl _) (by unfold maxLen;omega) om (fun _ _=>rfl) (fun x hx=>by have:=Qe x hx;omega);have hvq:val 10 qs=q.natAbs:=by rw[HV.out,←HQ.out];simp
    have hcut:=fun w h=>znv w.heap.size (some ⟨w.heap.size,0,none⟩) la qs q w h Qe hvq om;have hrt:rs=ah r:=by rw[Yq.out];exact zxk (by rw[←HR.out];have:=HRR.out;simpa using this)
    subst hrt;have au6:=znv w.heap.size (some ⟨w.heap.size,0,none⟩) la qs q wr hoq Qe hvq om;rw[Gp] at au6;clear hvq hcut Yq HRR HV HZ;go_wp2_with (go_at_call 106;refine au6.mono ?_;rintro e w4 ⟨rfl,cK,rfl⟩)
    go_ret2
    exact ⟨_,la,A',c',rfl,cK,hown.mono om,hbel⟩
  · obtain ⟨m,rfl⟩:∃m,k=m+1:=⟨k-1,om⟩;obtain ⟨wo,rfl⟩:∃wo:World,wo=wr:=⟨_,rfl⟩;have ht1:((m+1:Nat):Int)-1=(m:Int):=om;rw[ht1];have hlx:=qr om HSX.out m;have hnx:=zu (ah i) m;obtain ⟨b,o,hAe,hb,hc⟩:=Qf.2 (by have:=HLA.out;omega);subst hAe;have hcx:=hc m (by have:=HLA.out;omega);have hm1:(m:Int)<(la:Int):=om;obtain ⟨a,ha⟩:∃a,a=(ah i).getD m 0:=⟨_,rfl⟩;have hae:nth (ah i) m=(a:Int):=by rw[ha];unfold nth;rfl
    have hav:a=i.natAbs/10^m%10:=by have:=ztz i m;omega
    have hone:=aM.one wo (nth (ah i) m) a hae om;have hbase:wo.heap.size≤(wo.alloc (.cells #[.int .u8 (nth (ah i) m)] 5)).heap.size:=by simp
    have hn8:=(hown.alloc (.cells #[.int .u8 (nth (ah i) m)] 5)).nums;have aT2:∀x∈rs,x<256:=hown.2;obtain ⟨KK,hKK⟩:∃KK:Nat,KK=600:=⟨_,rfl⟩;have hrl:rs.length≤KK:=by
     rw[Yq.out];have h1:=Nat.mod_lt (i.natAbs/10^(m+1)) hY;have h2:=HRR.out;rw[qa];refine (zz de _ _).2 ?_;have h3:j.natAbs<10^(ah j).length:=(zz de _ _).1 (by rw[qa];exact Nat.le_refl _);have h4:10^(ah j).length≤10^KK:=Nat.pow_le_pow_right de om;simp only[Int.natAbs_natCast]
     omega
    have hrl:rs.length≤600:=om;have HH:=Lib.hid aT2;have HAV:=Lib.hid hav;have HLEN:Hid ([a].length+rs.length≤17592186044416):=by show 1+_≤_;omega
    have aT3:Hid (∀x∈rs,x<256):=HH.out;clear ht1 hc ha hae hav aT2 hKK;go_wp2_with (at_builtin;go_loud (refine EL rfl (.tmp 23) (.tmp 24) rfl wo.heap.size (some ⟨wo.heap.size,0,none⟩) 1 [a] rfl hone A' c' rs rfl hn8 aT3.out HLEN.out hbase (fun A3 c3 w3 hown3 hg3=>?_));refine Hid.out ?_)
    refine Lib.hid ?_;have hb3:Below wo.heap.size wo w3:=Below.oW ((Below.refl _ _).alloc (Nat.le_refl _) _) hone (by simp) hg3;obtain ⟨ds,hds⟩:∃ds,ds= [a]++rs:=⟨_,rfl⟩;rw[←hds] at hown3;have hll:rs.length+1=ds.length:=by rw[hds];simp
    rw[hll];have hlen3:ds.length≤1048576:=om;obtain ⟨R',hR'⟩:∃R':Nat,R'=i.natAbs/10^m%10+10*(i.natAbs/10^(m+1)%j.natAbs):=⟨_,rfl⟩;have hvd:val 10 ds=((R':Nat):Int).natAbs:=by
     have h1:val 10 rs=R:=by rw[Yq.out,zrx];simp
     have h2:=HRR.out;rw[hds,List.singleton_append,val,h1,hR',HAV.out,←h2,Int.natAbs_natCast]
    have hsm:small 10 ds:=by
     rw[hds,List.singleton_append];exact zhz.2 ⟨by rw[HAV.out];exact Nat.mod_lt _ de,by rw[Yq.out];exact jx _⟩
    have HV3:=Lib.hid hvd;have HSM:=Lib.hid hsm;have HL3:=Lib.hid hlen3;have HR':=Lib.hid hR';clear hvd hsm hlen3 hds hll HH HAV HLEN aT3 hone hbase hn8 hg3 hR';go_wp2_with (go_at_call 106;refine (znv wo.heap.size A3 c3 ds ((R':Nat):Int) _ hown3 HSM.out HV3.out HL3.out).mono ?_;rintro e w4 ⟨rfl,cK,rfl⟩;refine Hid.out ?_)
    refine Lib.hid ?_;have tL:Below w.heap.size w w3:=hbel.trans (hb3.mono om);have hrw3:=hrw.below hb3 hsz;have hs3:=hb3.size;have hown5:aM w3 (w.heap.size+1) A3 c3 (ah ((R':Nat):Int)):=cK.mono om;have HZ3:Hid (nth qs m=((0:Nat):Int)):=HZ.out m om;have HV0:Hid (val 10 qs=10^(m+1)*(i.natAbs/10^(m+1)/j.natAbs)+10^m*0):=by show _=_;rw[HV.out];simp
    have HT0:Hid (R'+0*j.natAbs=i.natAbs/10^m%10+10*(i.natAbs/10^(m+1)%j.natAbs)):=by show _=_;rw[HR'.out];simp
    have HZm:Hid (∀p,p<m→nth qs p=0):=fun p hp=>HZ.out p om;clear hown3 HSM HV3 HL3 Yq HRR HV HZ hown hb3 hrw hbel Qf hcx hb hnx hlx cK;go_wp2_with fail
    go_loopw [7] (fun rv wi=>∃(T R1:Nat) (A':Option Addr) (c':Nat) (rs qs:List Nat),rv= .slice A' rs.length c'∧aM wi (w.heap.size+1) A' c' rs∧Hid (rs=ah ((R1:Nat):Int))∧Hid (R1+T*j.natAbs=i.natAbs/10^m%10+10*(i.natAbs/10^(m+1)%j.natAbs))∧T≤9∧
     bQ wi w.heap.size la qs∧qs.length=la∧small 10 qs∧Hid (val 10 qs=10^(m+1)*(i.natAbs/10^(m+1)/j.natAbs)+10^m*T)∧Hid (nth qs m=(T:Int))∧Hid (∀p,p<m→nth qs p=0)∧Below w.heap.size w wi) (fun _ wi=>10-Yp wi w.heap.size m)
    case atStart=>exact ⟨0,R',A3,c3,ah ((R':Nat):Int),qs,rfl,hown5,rfl,HT0,om,hrw3,Gp,Qe,HV0,HZ3,HZm,tL⟩
    case round=>
     obtain ⟨T,R1,A4,c4,rs1,qs1,rfl,Fb,Yq,HT,hT9,hrw,aT4,aT5,HV,HNT,HZ,hbel⟩:=hrel;have hyr:aH wr B (ah j):=hy.since hbel;have hsz1:w.heap.size<wr.heap.size:=hrw.lt;have ak2:(ah ((R1:Nat):Int)).length≤1048576:=by
      obtain ⟨KK,hKK⟩:∃KK:Nat,KK=601:=⟨_,rfl⟩;have h0:(ah ((R1:Nat):Int)).length≤KK:=by
       rw[qa];refine (zz de _ _).2 ?_;have h3:j.natAbs<10^(ah j).length:=(zz de _ _).1 (by rw[qa];exact Nat.le_refl _);have h4:10^((ah j).length+1)≤10^KK:=Nat.pow_le_pow_right de om;have h1:=Nat.mod_lt (i.natAbs/10^(m+1)) hY;have h2:i.natAbs/10^m%10<10:=Nat.mod_lt _ de;have h5:=HT.out;rw[Nat.pow_succ] at h4;simp only[Int.natAbs_natCast]
       omega
      omega
     have hsz2:=kU A4 B c4 d ((R1:Nat):Int) j wr (by rw[←Yq.out];exact Fb.nums) hyr ak2 om;rw[Int.natAbs_natCast,←Yq.out] at hsz2;by_cases hge:j.natAbs≤R1
     · have hcmp:¬xz R1 j.natAbs<0:=by unfold xz;rw[if_neg om];split<;>omega
       have aP6:0≤xz R1 j.natAbs:=om;have h9:=Jr hY HT.out hge;have hmin:=fun w hx hy=>zqz A4 B c4 d ((R1:Nat):Int) j ((R1-j.natAbs:Nat):Int) w hx hy ak2 om (by simpa using hge) (by simp);rw[←Yq.out] at hmin;have hc4:aM wr (w.heap.size+1) A4 c4 rs1:=Fb;have HN4:=Lib.hid Fb.nums;have HGE:=Lib.hid hge;clear hcmp hge ak2;go_wp2_with (go_at_call 133;refine hsz2.mono ?_;rintro e w5 ⟨rfl,hb5⟩;refine Hid.out ?_)
       refine Lib.hid ?_;have Zu:=HN4.out.since hb5;have hy5:=hyr.since hb5;have aT6:=hrw.below hb5 hsz1;have hs5:=hb5.size;have aT7:=hbel.trans (hb5.mono om);clear hsz2;go_wp2_with (go_at_call 134;refine (hmin _ Zu hy5).mono ?_;rintro e w6 ⟨A6,c6,rfl,ho6,hb6⟩;refine Hid.out ?_)
       refine Lib.hid ?_;have ak3:=aT6.below hb6 om;have hs6:=hb6.size;have aT8:=aT7.trans (hb6.mono om);have bcj:=ho6.mono (show w.heap.size+1≤_ from om);have hcz:=ak3.cell (j:=m) om;have hfz:=ak3.frozen m;have hnt:=HNT.out;rw[hnt] at hcz;have hm0:(0:Int)≤(m:Int):=om;have hT8:(T:Int)+1<256:=om;have hlq:m<qs1.length:=om;have hw8:IntKind.u8.wrap ((T:Int)+1)=(T:Int)+1:=JZ _ om hT8;clear hnt hmin Zu hy5 aT6 hb5 hb6;go_wp2_with fail
       go_roundw
       case rel=>exact ⟨T+1,R1-j.natAbs,A6,c6,_,qs1.set m ((T:Int)+1).toNat,rfl,bcj.aI (by show w.heap.size<w.heap.size+1;omega) _,rfl,by
        have:=HT.out;have:=HGE.out;show _=_;rw[Nat.add_mul,Nat.one_mul];omega,h9,ak3.setInt _ om hlq,by rw[List.length_set];exact aT4,jz aT5 _ _ om,by
        have h1:=zvq (b:=10) qs1 m ((T:Int)+1).toNat hlq;have h2:qs1.getD m 0=T:=by have:=HNT.out;unfold nth at this;omega
        rw[h2,HV.out,show ((T:Int)+1).toNat=T+1 from om] at h1;show _=_;rw[show ((T:Int)+1).toNat=T+1 from om];omega,by
        show _=_;rw[yez _ _ _ hlq,if_pos rfl];omega,fun p hp=>by rw[yez _ _ _ hlq,if_neg om];exact HZ.out p hp,aT8.setCell (Nat.le_refl _) _⟩
       case measure=>
        have k1:=tZ (ak3.setInt ((T:Int)+1) om hlq) (m:=m) om;have k2:=tZ hrw (m:=m) om;have h2:qs1.getD m 0=T:=by have:=HNT.out;unfold nth at this;omega
        have h3:(qs1.set m ((T:Int)+1).toNat).getD m 0=T+1:=by simp[hlq]
        rw[k1,k2,h2,h3];omega
     · have hcmp:xz R1 j.natAbs= -1:=by unfold xz;rw[if_pos om]
       rw[hcmp] at hsz2;obtain ⟨e1,e2⟩:=PE hY HT.out om;have HE1:=Lib.hid e1;have HE2:=Lib.hid e2;clear hcmp hge e1 e2 ak2;go_wp2_with (go_at_call 133;refine hsz2.mono ?_;rintro e w5 ⟨rfl,hb5⟩)
       go_roundw
       case rel=>exact ⟨m,R1,A4,c4,rs1,qs1,om,rfl,rfl,Fb.below hb5 (Nat.le_refl _),Yq,HE1.out,hrw.below hb5 hsz1,aT4,aT5,by
        show _=_;rw[HV.out,←HE2.out,Nat.pow_succ,Nat.mul_assoc,←Nat.mul_add],HZ,hbel.trans (hb5.mono om)⟩
       case measure=>simp[intOf]
theorem EM {P Q:Prop} (k:Q) (h:(Unit→Q)→P:=by
 intro zK;refine bodyPost_ret (v:=.tuple #[.agg #[.bool true,.slice A1 (ah q0).length c1],.agg #[.bool false,.slice A2 (ah r0).length c2]]) (by simp[results,Tryz.results77,go_sem,z0,z1,t0,t1]) rfl ?_;exact zK ()):P:=h fun _=>k
theorem nI {P:Prop} (h:P:=by
 rw[Qv.out,Qw.out,Zw.out,HRB.out] at h3;exact h3):P:=h
theorem au7 {P:Prop} (h:P:=by
 refine bodyPost_ret (v:=.tuple #[.agg #[.bool false,.slice A1 (ah q0).length c1],.agg #[.bool false,.slice A2 (ah r0).length c2]]) (by simp[results,Tryz.results77,go_sem,z0,z1,t0,t1]) rfl ?_;have h2:=kC.out;have h3:=zix (w:=w) (q:=dq bi true i.natAbs j.natAbs) (r:=dr bi true i.natAbs j.natAbs) (g0:=w.heap.size+1+1) (g1:=w.heap.size+1+1+1) (by rw[Qv.out];exact ho1) (by rw[Qw.out];exact ho2) (LW.trans (L.mono LW.size)) om om om om (.bool false) (.slice A1 (ah q0).length c1) (.bool false) (.slice A2 (ah r0).length c2);rw[Qv.out,Qw.out,Zw.out,HRB.out] at h3;exact h3):P:=h
theorem au8 {P:Prop} (h:P:=by
 refine bodyPost_ret (v:=.tuple #[.agg #[.bool false,.slice A1 (ah q0).length c1],.agg #[.bool false,.slice A2 (ah r0).length c2]]) (by simp[results,Tryz.results77,go_sem,z0,z1,t0,t1]) rfl ?_;have h2:=kC.out;have h3:=zix (w:=w) (q:=dq bi false i.natAbs j.natAbs) (r:=dr bi false i.natAbs j.natAbs) (g0:=w.heap.size+1+1) (g1:=w.heap.size+1+1+1) (by rw[Qv.out];exact ho1) (by rw[Qw.out];exact ho2) (LW.trans (L.mono LW.size)) om om om om (.bool false) (.slice A1 (ah q0).length c1) (.bool false) (.slice A2 (ah r0).length c2);rw[Qv.out,Qw.out,Zw.out,HRB.out] at h3;exact h3):P:=h
def ynz (W:World) (q r:Int) (e:Ending) (w':World):Prop:=
 ∃A5 c5 A6 c6,e= .returned (.tuple #[.agg #[.bool (decide (q<0)),.slice A5 (ah q).length c5],.agg #[.bool (decide (r<0)),.slice A6 (ah r).length c6]])∧aM w' W.heap.size A5 c5 (ah q)∧aM w' W.heap.size A6 c6 (ah r)∧Below W.heap.size W w'
theorem zix {w wz:World} {q r:Int} {A5 A6:Option Addr} {c5 c6 base g0 g1:Nat} (h5:aM wz base A5 c5 (ah q)) (h6:aM wz base A6 c6 (ah r)) (L:Below w.heap.size w wz) (k0:w.heap.size≤g0) (k1:w.heap.size≤g1) (b0:g0<base) (b1:g1<base) (u v x y:Value) :
 ynz w q r (.returned (.tuple #[.agg #[.bool (decide (q<0)),.slice A5 (ah q).length c5],.agg #[.bool (decide (r<0)),.slice A6 (ah r).length c6]])) ((((wz.setCell ⟨g0,0,none⟩ u).setCell ⟨g0,1,none⟩ v).setCell ⟨g1,0,none⟩ x).setCell ⟨g1,1,none⟩ y):=
 ⟨A5,c5,A6,c6,rfl,((((h5.aI b0 _).aI b0 _).aI b1 _).aI b1 _).mono om,((((h6.aI b0 _).aI b0 _).aI b1 _).aI b1 _).mono om,
  (((L.setCell k0 _).setCell k0 _).setCell k1 _).setCell k1 _⟩
def Four (w:World) (bi bj:Bool) (A B:Option Addr) (c d:Nat) (i j:Int) (b:World):Prop:=
 Three w bi bj A B c d i j b∧(b.cell? ⟨w.heap.size+1+1+1,0,none⟩=some (.bool false)∧b.cell? ⟨w.heap.size+1+1+1,1,none⟩=some (.slice none 0 0)∧b.frozen? ⟨w.heap.size+1+1+1,0,none⟩=false∧b.frozen? ⟨w.heap.size+1+1+1,1,none⟩=false)
def four (w:World) (bi bj:Bool) (A B:Option Addr) (c d:Nat) (i j:Int):World:=(nY w bi bj A B c d i j).alloc (.cells #[.bool false,.slice none 0 0] 48)
theorem qqv (w:World) (bi bj:Bool) (A B:Option Addr) (c d:Nat) (i j:Int):Below w.heap.size w (four w bi bj A B c d i j):=(zaz w bi bj A B c d i j).alloc (zaz w bi bj A B c d i j).size _
theorem vlx (w:World) (bi bj:Bool) (A B:Option Addr) (c d:Nat) (i j:Int):(four w bi bj A B c d i j).heap.size=w.heap.size+4:=by simp[four,nY]
theorem qqk {w b:World} {bi bj:Bool} {A B:Option Addr} {c d:Nat} {i j:Int} (hx:aH w A (ah i)) (hy:aH w B (ah j)) (hb:Below (four w bi bj A B c d i j).heap.size (four w bi bj A B c d i j) b):Four w bi bj A B c d i j b:=by
 have k:Below (nY w bi bj A B c d i j).heap.size (nY w bi bj A B c d i j) (four w bi bj A B c d i j):=(Below.refl _ _).alloc (Nat.le_refl _) _;have Z:aB (four w bi bj A B c d i j) (w.heap.size+1+1+1) 48 #[.bool false,.slice none 0 0]:=aB.newAt (by simp[nY]);exact ⟨ydz hx hy (jw k hb),(Z.below hb Z.lt).two⟩
theorem nJ:ah 1= [1]:=by rw[qa];rfl
theorem ky (n:Int):0<(ah n).length↔n≠0:=by
 constructor
 · rintro h rfl;rw[bD] at h;simp at h
 · intro h;rw[qa];exact RL de om
theorem PI (A B:Option Addr) (c:Nat) (q0 q1:Int) (w:World) (hx:aH w A (ah q0)) (hy:aH w B [1]) (hl:(ah q0).length≤600) (hq:q0.natAbs+1=q1.natAbs) :
 Calls prog 132 #[.slice A (ah q0).length c,.slice B 1 1] w (wG w q1):=by
 have h:=qwx A B c 1 q0 1 q1 w hx (by rw[nJ];exact hy) om (by rw[nJ];decide) hq;rw[nJ] at h;exact h
section
variable (A B:Option Addr) (c d:Nat) (i j:Int) (w:World)
set_option maxHeartbeats 2000000 in
theorem PK (bi bj:Bool) (hbb:bi=bj) (hi:decide (i<0)=bi) (hj:decide (j<0)=bj) (hx:aH w A (ah i)) (hy:aH w B (ah j)) (hl:(ah i).length≤600) (hl':(ah j).length≤600) (hj0:j≠0) :
 Calls prog 77 #[.agg #[.bool bi,.slice A (ah i).length c],.agg #[.bool bj,.slice B (ah j).length d]] w (ynz w (dq bi bj i.natAbs j.natAbs) (dr bi bj i.natAbs j.natAbs)):=by
 obtain ⟨QN,Ll⟩:∃QN:Nat,QN=i.natAbs/j.natAbs:=⟨_,rfl⟩;obtain ⟨RN,Lm⟩:∃RN:Nat,RN=i.natAbs%j.natAbs:=⟨_,rfl⟩;obtain ⟨q0,hq0⟩:∃q0:Int,q0=(QN:Int):=⟨_,rfl⟩;obtain ⟨r0,hr0⟩:∃r0:Int,r0=(RN:Int):=⟨_,rfl⟩;have hY:0<j.natAbs:=om;have hrY:RN<j.natAbs:=by rw[Lm];exact Nat.mod_lt _ hY
 have hQX:QN≤i.natAbs:=by rw[Ll];exact Nat.div_le_self _ _
 have hsh:=fun w hx hy=>yyk A B c d i j q0 r0 w hx hy hl hl' hj0 (by rw[hq0,Int.natAbs_natCast,Ll]) (by rw[hr0,Int.natAbs_natCast,Lm]);have hqn:0≤q0:=om;have hrn:0≤r0:=om;have OV:dq bi bj i.natAbs j.natAbs=q0:=by unfold dq;rw[if_pos hbb,←Ll,hq0]
 have hdr:dr bi bj i.natAbs j.natAbs=bJ bi RN:=by unfold dr;rw[if_pos hbb,Lm]
 have Qv:Hid (ah (dq bi bj i.natAbs j.natAbs)=ah q0):=by show _=_;rw[OV]
 have Qw:Hid (ah (dr bi bj i.natAbs j.natAbs)=ah r0):=by show _=_;rw[hdr];exact zxk (by rw[vw,hr0,Int.natAbs_natCast])
 have Zw:Hid (decide (dq bi bj i.natAbs j.natAbs<0)=false):=by show _=_;rw[OV];simp;omega
 have hrb:decide (dr bi bj i.natAbs j.natAbs<0)=(bi&&decide (0<(ah r0).length)):=by
  rw[hdr,qvq];congr 1
  by_cases h0:RN=0
  · rw[decide_eq_false om,decide_eq_false];rw[ky];omega
  · rw[decide_eq_true h0,decide_eq_true];rw[ky];omega
 have aE7:=Lib.hid hrb;have Yr:(bi==bj)=true:=by simpa using hbb
 clear OV hdr hrb hq0 hr0 hi hj hrY hbb Ll Lm hQX;obtain ⟨W0,hW0⟩:∃W0,W0=four w bi bj A B c d i j:=⟨_,rfl⟩;have LW:Below w.heap.size w W0:=by rw[hW0];exact qqv ..
 have kC:Hid (W0.heap.size=w.heap.size+4):=by rw[hW0];exact vlx ..
 have HF:Hid (∀b1,Below W0.heap.size W0 b1→Four w bi bj A B c d i j b1):=fun b1 hb=>by rw[hW0] at hb;exact qqk hx hy hb
 clear hx hy;unfold four nY at hW0;have L:Below W0.heap.size W0 W0:=Below.refl _ _;obtain ⟨⟨⟨x0,x1⟩,⟨y0,y1⟩,⟨z0,z1,z2,z3⟩,hx,hy⟩,t0,t1,t2,t3⟩:=HF.out _ L;go_enter func77,ntmps77
 go_upto_region 1 with fail
 rw[←hW0];clear hW0;go_wp2_with (go_at_call 135;refine (hsh _ hx hy).mono ?_;rintro e w1 ⟨A1,c1,A2,c2,rfl,ho1,ho2,hb⟩;have ho1:=ho1.mono (show W0.heap.size≤_ from L.size);have ho2:=ho2.mono (show W0.heap.size≤_ from L.size);have L:=jw L hb;clear x0 x1 y0 y1 z0 z1 z2 z3 hx hy t0 t1 t2 t3 hb;obtain ⟨⟨⟨x0,x1⟩,⟨y0,y1⟩,⟨z0,z1,z2,z3⟩,hx,hy⟩,t0,t1,t2,t3⟩:=HF.out _ L;refine Hid.out ?_)
 refine Lib.hid ?_;clear hsh;cases bj
 · have HRB:Hid (decide (dr bi false i.natAbs j.natAbs<0)=false):=by have h1:=aE7.out;have h2:bi=false:=(by simpa using Yr);show _=_;rw[h1,h2,Bool.false_and]
   go_wp2_with fail
   exact au8
 · by_cases h0:0<(ah r0).length
   · have HRB:Hid (decide (dr bi true i.natAbs j.natAbs<0)=true):=by have h1:=aE7.out;have h2:bi=true:=(by simpa using Yr);show _=_;rw[h1,h2,Bool.true_and];simpa using h0
     go_wp2_with fail
     refine bodyPost_ret (v:=.tuple #[.agg #[.bool false,.slice A1 (ah q0).length c1],.agg #[.bool true,.slice A2 (ah r0).length c2]]) (by simp[results,Tryz.results77,go_sem,z0,z1,t0,t1]) rfl ?_;have h2:=kC.out;have h3:=zix (w:=w) (q:=dq bi true i.natAbs j.natAbs) (r:=dr bi true i.natAbs j.natAbs) (g0:=w.heap.size+1+1) (g1:=w.heap.size+1+1+1) (by rw[Qv.out];exact ho1) (by rw[Qw.out];exact ho2) (LW.trans (L.mono LW.size)) om om om om (.bool false) (.slice A1 (ah q0).length c1) (.bool true) (.slice A2 (ah r0).length c2);exact nI
   · have HRB:Hid (decide (dr bi true i.natAbs j.natAbs<0)=false):=by have h1:=aE7.out;have h2:bi=true:=(by simpa using Yr);show _=_;rw[h1,h2,Bool.true_and];simpa using h0
     go_wp2_with fail
     exact au7
set_option maxHeartbeats 2000000 in
theorem Js (bi bj:Bool) (hbb:bi≠bj) (hz:i.natAbs%j.natAbs=0) (hi:decide (i<0)=bi) (hj:decide (j<0)=bj) (hx:aH w A (ah i)) (hy:aH w B (ah j)) (hl:(ah i).length≤600) (hl':(ah j).length≤600) (hj0:j≠0) :
 Calls prog 77 #[.agg #[.bool bi,.slice A (ah i).length c],.agg #[.bool bj,.slice B (ah j).length d]] w (ynz w (dq bi bj i.natAbs j.natAbs) (dr bi bj i.natAbs j.natAbs)):=by
 obtain ⟨QN,Ll⟩:∃QN:Nat,QN=i.natAbs/j.natAbs:=⟨_,rfl⟩;obtain ⟨RN,Lm⟩:∃RN:Nat,RN=i.natAbs%j.natAbs:=⟨_,rfl⟩;obtain ⟨q0,hq0⟩:∃q0:Int,q0=(QN:Int):=⟨_,rfl⟩;obtain ⟨r0,hr0⟩:∃r0:Int,r0=(RN:Int):=⟨_,rfl⟩;have hY:0<j.natAbs:=om;have hrY:RN<j.natAbs:=by rw[Lm];exact Nat.mod_lt _ hY
 have hQX:QN≤i.natAbs:=by rw[Ll];exact Nat.div_le_self _ _
 have hsh:=fun w hx hy=>yyk A B c d i j q0 r0 w hx hy hl hl' hj0 (by rw[hq0,Int.natAbs_natCast,Ll]) (by rw[hr0,Int.natAbs_natCast,Lm]);have hqn:0≤q0:=om;have hrn:0≤r0:=om;have OV:dq bi bj i.natAbs j.natAbs= -q0:=by unfold dq;rw[if_neg hbb,if_pos hz,←Ll,hq0]
 have hdr:dr bi bj i.natAbs j.natAbs=0:=by unfold dr;rw[if_neg hbb,if_pos hz]
 have aT9:r0=0:=by rw[hr0,Lm,hz];rfl
 have Qv:Hid (ah (dq bi bj i.natAbs j.natAbs)=ah q0):=by show _=_;rw[OV];exact zxk om
 have Qw:Hid (ah (dr bi bj i.natAbs j.natAbs)=ah r0):=by show _=_;rw[hdr,aT9]
 have hqb:decide (dq bi bj i.natAbs j.natAbs<0)=decide (0<(ah q0).length):=by
  rw[OV];by_cases h0:q0=0
  · rw[decide_eq_false om,decide_eq_false];rw[ky];omega
  · rw[decide_eq_true om,decide_eq_true];rw[ky];omega
 have aTq:=Lib.hid hqb;have HRB:Hid (decide (dr bi bj i.natAbs j.natAbs<0)=false):=by show _=_;rw[hdr];rfl
 have Yr:(bi==bj)=false:=by simpa using hbb
 have aTz:¬0<(ah r0).length:=by rw[ky];omega
 clear OV hdr hqb hq0 hr0 hi hj hrY hbb aT9 hz Ll Lm hQX;obtain ⟨W0,hW0⟩:∃W0,W0=four w bi bj A B c d i j:=⟨_,rfl⟩;have LW:Below w.heap.size w W0:=by rw[hW0];exact qqv ..
 have kC:Hid (W0.heap.size=w.heap.size+4):=by rw[hW0];exact vlx ..
 have HF:Hid (∀b1,Below W0.heap.size W0 b1→Four w bi bj A B c d i j b1):=fun b1 hb=>by rw[hW0] at hb;exact qqk hx hy hb
 clear hx hy;unfold four nY at hW0;have L:Below W0.heap.size W0 W0:=Below.refl _ _;obtain ⟨⟨⟨x0,x1⟩,⟨y0,y1⟩,⟨z0,z1,z2,z3⟩,hx,hy⟩,t0,t1,t2,t3⟩:=HF.out _ L;go_enter func77,ntmps77
 go_upto_region 1 with fail
 rw[←hW0];clear hW0;go_wp2_with (go_at_call 135;refine (hsh _ hx hy).mono ?_;rintro e w1 ⟨A1,c1,A2,c2,rfl,ho1,ho2,hb⟩;have ho1:=ho1.mono (show W0.heap.size≤_ from L.size);have ho2:=ho2.mono (show W0.heap.size≤_ from L.size);have L:=jw L hb;clear x0 x1 y0 y1 z0 z1 z2 z3 hx hy t0 t1 t2 t3 hb;obtain ⟨⟨⟨x0,x1⟩,⟨y0,y1⟩,⟨z0,z1,z2,z3⟩,hx,hy⟩,t0,t1,t2,t3⟩:=HF.out _ L;refine Hid.out ?_)
 refine Lib.hid ?_;clear hsh;by_cases h0:0<(ah q0).length
 · have Zw:Hid (decide (dq bi bj i.natAbs j.natAbs<0)=true):=by have h1:=aTq.out;show _=_;rw[h1];simpa using h0
   cases bj
   · go_wp2_with fail
     refine EM ?_;have h2:=kC.out;have h3:=zix (w:=w) (q:=dq bi false i.natAbs j.natAbs) (r:=dr bi false i.natAbs j.natAbs) (g0:=w.heap.size+1+1) (g1:=w.heap.size+1+1+1) (by rw[Qv.out];exact ho1) (by rw[Qw.out];exact ho2) (LW.trans (L.mono LW.size)) om om om om (.bool true) (.slice A1 (ah q0).length c1) (.bool false) (.slice A2 (ah r0).length c2);exact nI
   · go_wp2_with fail
     refine EM ?_;have h2:=kC.out;have h3:=zix (w:=w) (q:=dq bi true i.natAbs j.natAbs) (r:=dr bi true i.natAbs j.natAbs) (g0:=w.heap.size+1+1) (g1:=w.heap.size+1+1+1) (by rw[Qv.out];exact ho1) (by rw[Qw.out];exact ho2) (LW.trans (L.mono LW.size)) om om om om (.bool true) (.slice A1 (ah q0).length c1) (.bool false) (.slice A2 (ah r0).length c2);exact nI
 · have Zw:Hid (decide (dq bi bj i.natAbs j.natAbs<0)=false):=by have h1:=aTq.out;show _=_;rw[h1];simpa using h0
   cases bj
   · go_wp2_with fail
     exact au8
   · go_wp2_with fail
     exact au7
set_option maxHeartbeats 2000000 in
theorem PL (bi bj:Bool) (hbb:bi≠bj) (hz:i.natAbs%j.natAbs≠0) (hi:decide (i<0)=bi) (hj:decide (j<0)=bj) (hx:aH w A (ah i)) (hy:aH w B (ah j)) (hl:(ah i).length≤600) (hl':(ah j).length≤600) (hj0:j≠0) :
 Calls prog 77 #[.agg #[.bool bi,.slice A (ah i).length c],.agg #[.bool bj,.slice B (ah j).length d]] w (ynz w (dq bi bj i.natAbs j.natAbs) (dr bi bj i.natAbs j.natAbs)):=by
 obtain ⟨QN,Ll⟩:∃QN:Nat,QN=i.natAbs/j.natAbs:=⟨_,rfl⟩;obtain ⟨RN,Lm⟩:∃RN:Nat,RN=i.natAbs%j.natAbs:=⟨_,rfl⟩;obtain ⟨q0,hq0⟩:∃q0:Int,q0=(QN:Int):=⟨_,rfl⟩;obtain ⟨r0,hr0⟩:∃r0:Int,r0=(RN:Int):=⟨_,rfl⟩;have hY:0<j.natAbs:=om;have hrY:RN<j.natAbs:=by rw[Lm];exact Nat.mod_lt _ hY
 have hQX:QN≤i.natAbs:=by rw[Ll];exact Nat.div_le_self _ _
 have hsh:=fun w hx hy=>yyk A B c d i j q0 r0 w hx hy hl hl' hj0 (by rw[hq0,Int.natAbs_natCast,Ll]) (by rw[hr0,Int.natAbs_natCast,Lm]);have hqn:0≤q0:=om;have hrn:0≤r0:=om;have OV:dq bi bj i.natAbs j.natAbs= -(q0+1):=by unfold dq;rw[if_neg hbb,if_neg hz,←Ll,hq0];omega
 have hdr:dr bi bj i.natAbs j.natAbs=bJ bj (j.natAbs-RN):=by unfold dr;rw[if_neg hbb,if_neg hz,Lm]
 obtain ⟨q1,hq1⟩:∃q1:Int,q1=q0+1:=⟨_,rfl⟩;obtain ⟨r1,hr1⟩:∃r1:Int,r1=((j.natAbs-RN:Nat):Int):=⟨_,rfl⟩;have Qv:Hid (ah (dq bi bj i.natAbs j.natAbs)=ah q1):=by show _=_;rw[OV,hq1];exact zxk om
 have Qw:Hid (ah (dr bi bj i.natAbs j.natAbs)=ah r1):=by show _=_;rw[hdr,hr1];exact zxk (by rw[vw,Int.natAbs_natCast])
 have Zw:Hid (decide (dq bi bj i.natAbs j.natAbs<0)=true):=by show _=_;rw[OV];simp;omega
 have HRB:Hid (decide (dr bi bj i.natAbs j.natAbs<0)=bj):=by
  show _=_
  rw[hdr,qvq,decide_eq_true om,Bool.and_true]
 have Yr:(bi==bj)=false:=by simpa using hbb
 have aTz:0<(ah r0).length:=by rw[ky];omega
 have hlen1:0<(ah q1).length:=by rw[ky];omega
 have bdz:0<(ah r1).length:=by rw[ky];omega
 obtain ⟨KK,hKK⟩:∃KK:Nat,KK=600:=⟨_,rfl⟩;have hlq:(ah q0).length≤KK:=by
  rw[qa];refine (zz de _ _).2 ?_;have h3:i.natAbs<10^(ah i).length:=(zz de _ _).1 (by rw[qa];exact Nat.le_refl _);have h4:10^(ah i).length≤10^KK:=Nat.pow_le_pow_right de om;omega
 have hlr:(ah r0).length≤KK:=by
  rw[qa];refine (zz de _ _).2 ?_;have h3:j.natAbs<10^(ah j).length:=(zz de _ _).1 (by rw[qa];exact Nat.le_refl _);have h4:10^(ah j).length≤10^KK:=Nat.pow_le_pow_right de om;omega
 have au9:=fun A B c w hx hy=>PI A B c q0 q1 w hx hy om om;have Yt:=fun A c w hx hy=>zqz B A d c j r0 r1 w hx hy om om om om;clear OV hdr hq0 hr0 hi hj hrY hbb hq1 hr1 hz hlq hlr hKK Ll Lm hQX;obtain ⟨W0,hW0⟩:∃W0,W0=four w bi bj A B c d i j:=⟨_,rfl⟩;have LW:Below w.heap.size w W0:=by rw[hW0];exact qqv ..
 have kC:Hid (W0.heap.size=w.heap.size+4):=by rw[hW0];exact vlx ..
 have HF:Hid (∀b1,Below W0.heap.size W0 b1→Four w bi bj A B c d i j b1):=fun b1 hb=>by rw[hW0] at hb;exact qqk hx hy hb
 clear hx hy;unfold four nY at hW0;have L:Below W0.heap.size W0 W0:=Below.refl _ _;obtain ⟨⟨⟨x0,x1⟩,⟨y0,y1⟩,⟨z0,z1,z2,z3⟩,hx,hy⟩,t0,t1,t2,t3⟩:=HF.out _ L;go_enter func77,ntmps77
 go_upto_region 1 with fail
 rw[←hW0];clear hW0;go_wp2_with (go_at_call 135;refine (hsh _ hx hy).mono ?_;rintro e w1 ⟨A1,c1,A2,c2,rfl,ho1,ho2,hb⟩;have ho1:=ho1.mono (show W0.heap.size≤_ from L.size);have ho2:=ho2.mono (show W0.heap.size≤_ from L.size);have L:=jw L hb;clear x0 x1 y0 y1 z0 z1 z2 z3 hx hy t0 t1 t2 t3 hb;obtain ⟨⟨⟨x0,x1⟩,⟨y0,y1⟩,⟨z0,z1,z2,z3⟩,hx,hy⟩,t0,t1,t2,t3⟩:=HF.out _ L;refine Hid.out ?_)
 refine Lib.hid ?_;clear hsh;have hn1:Hid (∀w:World,aH (w.alloc (.cells #[.int .u8 1] 5)) (some ⟨w.heap.size,0,none⟩) [1]):=fun w=>(aM.one w 1 1 rfl de).nums;go_wp2_with (go_at_call 132;refine (au9 A1 _ c1 _ (ho1.nums.alloc _) (hn1.out _)).mono ?_;rintro e w2 ⟨A3,c3,rfl,ho3,hb⟩;have k1:=L.alloc L.size (.cells #[.int .u8 1] 5);have ho3:=ho3.mono (show W0.heap.size≤_ from k1.size);have ho2:=(ho2.alloc (.cells #[.int .u8 1] 5)).below hb (Nat.le_refl _);have L:=jw k1 hb;clear x0 x1 y0 y1 z0 z1 z2 z3 hx hy t0 t1 t2 t3 hb k1;obtain ⟨⟨⟨x0,x1⟩,⟨y0,y1⟩,⟨z0,z1,z2,z3⟩,hx,hy⟩,t0,t1,t2,t3⟩:=HF.out _ L;refine Hid.out ?_)
 refine Lib.hid ?_;go_wp2_with (go_at_call 134;refine (Yt A2 c2 _ hy ho2.nums).mono ?_;rintro e w3 ⟨A4,c4,rfl,Fb,hb⟩;have Fb:=Fb.mono (show W0.heap.size≤_ from L.size);have ho3:=ho3.below hb (Nat.le_refl _);have L:=jw L hb;clear x0 x1 y0 y1 z0 z1 z2 z3 hx hy t0 t1 t2 t3 hb;obtain ⟨⟨⟨x0,x1⟩,⟨y0,y1⟩,⟨z0,z1,z2,z3⟩,hx,hy⟩,t0,t1,t2,t3⟩:=HF.out _ L;refine Hid.out ?_)
 refine Lib.hid ?_;clear au9 Yt;cases bj
 · go_wp2_with fail
   refine bodyPost_ret (v:=.tuple #[.agg #[.bool true,.slice A3 (ah q1).length c3],.agg #[.bool false,.slice A4 (ah r1).length c4]]) (by simp[results,Tryz.results77,go_sem,z0,z1,t0,t1]) rfl ?_;have h2:=kC.out;have h3:=zix (w:=w) (q:=dq bi false i.natAbs j.natAbs) (r:=dr bi false i.natAbs j.natAbs) (g0:=w.heap.size+1+1) (g1:=w.heap.size+1+1+1) (by rw[Qv.out];exact ho3) (by rw[Qw.out];exact Fb) (LW.trans (L.mono LW.size)) om om om om (.bool true) (.slice A3 (ah q1).length c3) (.bool false) (.slice A4 (ah r1).length c4);exact nI
 · go_wp2_with fail
   refine bodyPost_ret (v:=.tuple #[.agg #[.bool true,.slice A3 (ah q1).length c3],.agg #[.bool true,.slice A4 (ah r1).length c4]]) (by simp[results,Tryz.results77,go_sem,z0,z1,t0,t1]) rfl ?_;have h2:=kC.out;have h3:=zix (w:=w) (q:=dq bi true i.natAbs j.natAbs) (r:=dr bi true i.natAbs j.natAbs) (g0:=w.heap.size+1+1) (g1:=w.heap.size+1+1+1) (by rw[Qv.out];exact ho3) (by rw[Qw.out];exact Fb) (LW.trans (L.mono LW.size)) om om om om (.bool true) (.slice A3 (ah q1).length c3) (.bool true) (.slice A4 (ah r1).length c4);exact nI
theorem EN (hx:aH w A (ah i)) (hy:aH w B (ah j)) (hl:(ah i).length≤600) (hl':(ah j).length≤600) (hj0:j≠0) :
 Calls prog 77 #[.agg #[.bool (decide (i<0)),.slice A (ah i).length c],.agg #[.bool (decide (j<0)),.slice B (ah j).length d]] w (ynz w (dq (decide (i<0)) (decide (j<0)) i.natAbs j.natAbs) (dr (decide (i<0)) (decide (j<0)) i.natAbs j.natAbs)):=by
 by_cases h:decide (i<0)=decide (j<0)
 · exact PK A B c d i j w _ _ h rfl rfl hx hy hl hl' hj0
 · by_cases hz:i.natAbs%j.natAbs=0
   · exact Js A B c d i j w _ _ h hz rfl rfl hx hy hl hl' hj0
   · exact PL A B c d i j w _ _ h hz rfl rfl hx hy hl hl' hj0
end
end Go.Proofs.YtmnmebdmpigddaaGreatDoor
