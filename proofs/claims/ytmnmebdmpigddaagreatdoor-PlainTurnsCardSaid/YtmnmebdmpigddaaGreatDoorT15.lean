/- Texts of this claim. -/
import Derived.Test.YtmnmebdmpigddaaGreatDoorT14
import Derived.Deep.RegionWith
set_option maxRecDepth 100000
set_option maxHeartbeats 20000000
namespace Go.Proofs.YtmnmebdmpigddaaGreatDoor
open Go.RowKit
end Go.Proofs.YtmnmebdmpigddaaGreatDoor
namespace Go.Proofs.YtmnmebdmpigddaaGreatDoor
open Go.RowKit
theorem ot (i:Int):(av i).length≤540↔i.natAbs<au^30:=by
 rw[jl,yhx];exact qg de _ (18*30)
def Two (w:World) (n1 n2:Bool) (A B:Option Addr) (c d:Nat) (xs ys:List Nat) (b:World):Prop:=
 (b.cell? ⟨w.heap.size,0,none⟩=some (.bool n1)∧b.cell? ⟨w.heap.size,1,none⟩=some (.slice A xs.length c)∧
 b.cell? ⟨w.heap.size+1,0,none⟩=some (.bool n2)∧b.cell? ⟨w.heap.size+1,1,none⟩=some (.slice B ys.length d))∧aC b A xs∧aC b B ys
def two (w:World) (n1 n2:Bool) (A B:Option Addr) (c d:Nat) (xs ys:List Nat):World:=
 (w.alloc (.cells #[.bool n1,.slice A xs.length c] 24)).alloc (.cells #[.bool n2,.slice B ys.length d] 24)
theorem yqq (w:World) (n1 n2:Bool) (A B:Option Addr) (c d:Nat) (xs ys:List Nat):Below w.heap.size w (two w n1 n2 A B c d xs ys):=
 ((Below.refl _ _).alloc (Nat.le_refl _) _).alloc (by simp) _
theorem Nj {w b:World} {n1 n2:Bool} {A B:Option Addr} {c d:Nat} {xs ys:List Nat} (hx:aC w A xs) (hy:aC w B ys) (hb:Below (two w n1 n2 A B c d xs ys).heap.size (two w n1 n2 A B c d xs ys) b):Two w n1 n2 A B c d xs ys b:=by
 have X:aB (two w n1 n2 A B c d xs ys) w.heap.size 24 #[.bool n1,.slice A xs.length c]:=(aB.new _ _ _).alloc _;have Y:aB (two w n1 n2 A B c d xs ys) (w.heap.size+1) 24 #[.bool n2,.slice B ys.length d]:=aB.new1 _ _ _ _;have x:=(X.below hb X.lt).two;have y:=(Y.below hb Y.lt).two;exact ⟨⟨x.1,x.2.1,y.1,y.2.1⟩,(hx.since (yqq w n1 n2 A B c d xs ys)).since hb,(hy.since (yqq w n1 n2 A B c d xs ys)).since hb⟩
def aSq (g1 g2:Bool):Int:=if g1&&g2 then 0 else 3
def isW (w:World) (b1 b2:Bool) (A B:Option Addr) (c d n m:Nat):World:=
 (w.alloc (.cells #[.bool b1,.slice A n c] 24)).alloc (.cells #[.bool b2,.slice B m d] 48)
end Go.Proofs.YtmnmebdmpigddaaGreatDoor
namespace Go.Proofs.YtmnmebdmpigddaaGreatDoor
open Go.RowKit
def iw (W:World) (F:World→Prop):Prop:=∀b,Below W.heap.size W b→F b
theorem iw.here {W:World} {F:World→Prop} (h:iw W F):F W:=h W (Below.refl _ _)
theorem iw.on {W W':World} {F:World→Prop} (h:iw W F) (L:Below W.heap.size W W'):iw W' F:=fun b hb=>h b (ks L hb)
theorem iw.and {W:World} {F G:World→Prop} (h:iw W F) (k:iw W G):iw W (fun b=>F b∧G b):=fun b hb=>⟨h b hb,k b hb⟩
def Box (g:Nat) (t:TypeId) (u v:Value) (b:World):Prop:=b.cell? ⟨g,0,none⟩=some u∧b.cell? ⟨g,1,none⟩=some v
theorem iw.box {W:World} {g:Nat} {t:TypeId} {u v:Value} (h:aB W g t #[u,v]):iw W (Box g t u v):=fun _ hb=>⟨(h.below hb h.lt).two.1,(h.below hb h.lt).two.2.1⟩
theorem iw.nums {W:World} {A:Option Addr} {xs:List Nat} (h:aC W A xs):iw W (fun b=>aC b A xs):=fun _ hb=>h.since hb
def az1 (W:World) (f:Int) (e:Ending) (w':World):Prop:=∃A c,e= .returned (.tuple #[.agg #[.bool false,.slice A 0 c],.int .i64 f])∧aC w' A []∧Below W.heap.size W w'
def asz (W:World) (e:Ending) (w':World):Prop:=∃A c,e= .returned (.agg #[.bool false,.slice A 0 c])∧aC w' A []∧Below W.heap.size W w'
def aL4 (W:World) (e:Ending) (w':World):Prop:=e= .returned (.bool true)∧Below W.heap.size W w'
end Go.Proofs.YtmnmebdmpigddaaGreatDoor
namespace Go.Proofs.YtmnmebdmpigddaaGreatDoor
open Go.RowKit Proofs.Tryz
theorem Bt {P Q:Prop} (k:Q) (h:(Unit→Q)→P:=by
 intro zK;refine bodyPost_ret (v:=.agg #[.bool false,.slice A1 (av (i+j)).length c1]) (by simp[results,Tryz.results74,go_sem,z0,z1]) rfl ?_;exact zK ()):P:=h fun _=>k
theorem TK {P:Prop} (h:P:=by
 exact ⟨rfl,by first | exact (L.setCell (by show w.heap.size≤w.heap.size+1;omega) _).setCell (by show w.heap.size≤w.heap.size+1;omega) _ | exact ((Below.refl _ _).alloc (Nat.le_refl _) _).alloc (by simp) _⟩):P:=h
theorem qmq {w wz:World} {i:Int} {A:Option Addr} {c base g0:Nat} (hown:aQ wz base A c (av i)) (L:Below w.heap.size w wz) (hg:w.heap.size≤g0) (hgb:g0<base) (u v:Value) :
 ypv w i (.returned (.agg #[.bool (decide (i<0)),.slice A (av i).length c])) ((wz.setCell ⟨g0,0,none⟩ u).setCell ⟨g0,1,none⟩ v):=
 ⟨A,c,rfl,((hown.aM hgb _).aM hgb _).mono om,(L.setCell hg _).setCell hg _⟩
def vjz (W:World) (A:Option Addr) (c:Nat) (i:Int) (e:Ending) (w':World):Prop:=e= .returned (.agg #[.bool (decide (-i<0)),.slice A (av i).length c])∧Below W.heap.size W w'
set_option maxHeartbeats 1000000 in
theorem NJ (A:Option Addr) (c:Nat) (i:Int) (w:World) (hl:(av i).length≤1048576) :
 Calls prog 52 #[.agg #[.bool (decide (i<0)),.slice A (av i).length c]] w (vjz w A c i):=by
 have hpos:i≠0→0<(av i).length:=fun h=>by rw[jl];exact Y0 de om
 have L:Below w.heap.size w ((w.alloc (.cells #[.bool (decide (i<0)),.slice A (av i).length c] 48)).alloc (.cells #[.bool false,.slice none 0 0] 48)):=((Below.refl _ _).alloc (Nat.le_refl _) _).alloc (by simp) _;rcases Int.lt_trichotomy i 0 with h | h | h
 · have e1:decide (i<0)=true:=by simpa using h
   have e2:decide (-i<0)=false:=by simp;omega
   unfold vjz;rw[e2];rw[e1] at L ⊢;clear e1 e2 h hpos;go_enter func52,ntmps52
   go_wp2_with fail
   refine bodyPost_ret (v:=.agg #[.bool false,.slice A (av i).length c]) (by simp[results,Tryz.results52,go_sem]) rfl ?_;exact TK
 · subst h;have e1:av 0= []:=zaq;unfold vjz;rw[e1] at L ⊢;have e2:decide ((0:Int)<0)=false:=rfl;have e3:decide (-(0:Int)<0)=false:=rfl;rw[e3];rw[e2] at L ⊢;clear e1 e2 e3 hpos hl;go_enter func52,ntmps52
   go_wp2_with fail
   refine bodyPost_ret (v:=.agg #[.bool false,.slice A 0 c]) (by simp[results,Tryz.results52,go_sem]) rfl ?_;exact TK
 · have e1:decide (i<0)=false:=by simp;omega
   have e2:decide (-i<0)=true:=by simpa using h
   have h0:=hpos om;unfold vjz;rw[e2];rw[e1] at L ⊢;clear e1 e2 h hpos;go_enter func52,ntmps52
   go_wp2_with fail
   refine bodyPost_ret (v:=.agg #[.bool true,.slice A (av i).length c]) (by simp[results,Tryz.results52,go_sem]) rfl ?_;exact TK
theorem Bu (A B:Option Addr) (c d:Nat) (i j:Int) (w:World) (hx:aL w A (av i)) (hy:aL w B (av j)) (hl:(av i).length≤1048576) (hl':(av j).length≤1048576) :
 Calls prog 133 #[.slice A (av i).length c,.slice B (av j).length d] w fun e w'=>e= .returned (.int .i64 (og i.natAbs j.natAbs))∧Below w.heap.size w w':=
 (Br A B c d i j w hx hy hl hl').mono fun _ _ ⟨he,n,hw⟩=>⟨he,by rw[hw];exact gi (Below.refl _ _) n⟩
def Three (w:World) (bi bj:Bool) (A B:Option Addr) (c d:Nat) (i j:Int) (b:World):Prop:=
 (b.cell? ⟨w.heap.size,0,none⟩=some (.bool bi)∧b.cell? ⟨w.heap.size,1,none⟩=some (.slice A (av i).length c))∧
 (b.cell? ⟨w.heap.size+1,0,none⟩=some (.bool bj)∧b.cell? ⟨w.heap.size+1,1,none⟩=some (.slice B (av j).length d))∧
 (b.cell? ⟨w.heap.size+1+1,0,none⟩=some (.bool false)∧b.cell? ⟨w.heap.size+1+1,1,none⟩=some (.slice none 0 0)∧b.frozen? ⟨w.heap.size+1+1,0,none⟩=false∧b.frozen? ⟨w.heap.size+1+1,1,none⟩=false)∧
 aL b A (av i)∧aL b B (av j)
def Qf (w:World) (bi bj:Bool) (A B:Option Addr) (c d:Nat) (i j:Int):World:=
 ((w.alloc (.cells #[.bool bi,.slice A (av i).length c] 48)).alloc (.cells #[.bool bj,.slice B (av j).length d] 48)).alloc (.cells #[.bool false,.slice none 0 0] 48)
theorem zsk (w:World) (bi bj:Bool) (A B:Option Addr) (c d:Nat) (i j:Int):Below w.heap.size w (Qf w bi bj A B c d i j):=
 (((Below.refl _ _).alloc (Nat.le_refl _) _).alloc (by simp) _).alloc (by simp;omega) _
theorem yzz (w:World) (bi bj:Bool) (A B:Option Addr) (c d:Nat) (i j:Int):(Qf w bi bj A B c d i j).heap.size=w.heap.size+3:=by simp[Qf]
theorem qzz {w b:World} {bi bj:Bool} {A B:Option Addr} {c d:Nat} {i j:Int} (hx:aL w A (av i)) (hy:aL w B (av j)) (hb:Below (Qf w bi bj A B c d i j).heap.size (Qf w bi bj A B c d i j) b):Three w bi bj A B c d i j b:=by
 have hs:=yzz w bi bj A B c d i j;have X:aB (Qf w bi bj A B c d i j) w.heap.size 48 #[.bool bi,.slice A (av i).length c]:=((aB.new _ _ _).alloc _).alloc _;have Y:aB (Qf w bi bj A B c d i j) (w.heap.size+1) 48 #[.bool bj,.slice B (av j).length d]:=(aB.new1 _ _ _ _).alloc _;have Z:aB (Qf w bi bj A B c d i j) (w.heap.size+1+1) 48 #[.bool false,.slice none 0 0]:=aB.newAt (by simp);have x:=(X.below hb X.lt).two;have y:=(Y.below hb Y.lt).two;have z:=(Z.below hb Z.lt).two;exact ⟨⟨x.1,x.2.1⟩,⟨y.1,y.2.1⟩,z,(hx.since (zsk w bi bj A B c d i j)).since hb,(hy.since (zsk w bi bj A B c d i j)).since hb⟩
section
variable (A B:Option Addr) (c d:Nat) (i j:Int) (w:World)
set_option maxHeartbeats 1000000 in
theorem G5 (b:Bool) (hi:decide (i<0)=b) (hj:decide (j<0)=b) (hx:aL w A (av i)) (hy:aL w B (av j)) (hl:(av i).length≤1000000) (hl':(av j).length≤1000000) :
 Calls prog 74 #[.agg #[.bool b,.slice A (av i).length c],.agg #[.bool b,.slice B (av j).length d]] w (ypv w (i+j)):=by
 have hq:i.natAbs+j.natAbs=(i+j).natAbs:=by cases b<;>simp at hi hj<;>omega
 have hs:b=decide (i+j<0):=by cases b<;>simp at hi hj ⊢ <;>omega
 have HQ:=Lib.hid hq;have HS:=Lib.hid hs;have hbb:(b==b)=true:=by simp
 clear hq hs hi hj;obtain ⟨W0,hW0⟩:∃W0,W0=Qf w b b A B c d i j:=⟨_,rfl⟩;have LW:Below w.heap.size w W0:=by rw[hW0];exact zsk ..
 have Zu:Hid (W0.heap.size=w.heap.size+3):=by rw[hW0];exact yzz ..
 have HF:Hid (∀b1,Below W0.heap.size W0 b1→Three w b b A B c d i j b1):=fun b1 hb=>by rw[hW0] at hb;exact qzz hx hy hb
 clear hx hy;unfold Qf at hW0;go_enter func74,ntmps74
 go_wp2_with fail
 rw[←hW0];clear hW0;have L:Below W0.heap.size W0 W0:=Below.refl _ _;obtain ⟨⟨x0,x1⟩,⟨y0,y1⟩,⟨z0,z1,z2,z3⟩,hx,hy⟩:=HF.out _ L;go_region_with (go_at_call 132;refine (vS A B c d i j (i+j) _ (by first | exact hx | exact hx.drew) (by first | exact hy | exact hy.drew) hl hl' HQ.out).mono ?_;rintro e w1 ⟨A1,c1,rfl,ho1,hb⟩;have ho1:=ho1.mono (show W0.heap.size≤_ from L.size);have L:=ks L (by first | exact hb | exact qpq hb);clear x0 x1 y0 y1 z0 z1 z2 z3 hx hy hb;obtain ⟨⟨x0,x1⟩,⟨y0,y1⟩,⟨z0,z1,z2,z3⟩,hx,hy⟩:=HF.out _ L)
 all_goals
  go_wp2_with fail
  refine bodyPost_ret (v:=.agg #[.bool b,.slice A1 (av (i+j)).length c1]) (by simp[results,Tryz.results74,go_sem,z0,z1]) rfl ?_;have h1:=HS.out;have h2:=Zu.out;have h3:=qmq (w:=w) (g0:=w.heap.size+1+1) ho1 (LW.trans (L.mono LW.size)) om om (.bool b) (.slice A1 (av (i+j)).length c1);rw[←h1] at h3;exact h3
set_option maxHeartbeats 1000000 in
theorem G6 (bi bj:Bool) (hne:bi≠bj) (hi:decide (i<0)=bi) (hj:decide (j<0)=bj) (hx:aL w A (av i)) (hy:aL w B (av j)) (hl:(av i).length≤1000000) (hl':(av j).length≤1000000) :
 Calls prog 74 #[.agg #[.bool bi,.slice A (av i).length c],.agg #[.bool bj,.slice B (av j).length d]] w (ypv w (i+j)):=by
 have hbb:(bi==bj)=false:=by simpa using hne
 obtain ⟨W0,hW0⟩:∃W0,W0=Qf w bi bj A B c d i j:=⟨_,rfl⟩;have LW:Below w.heap.size w W0:=by rw[hW0];exact zsk ..
 have Zu:Hid (W0.heap.size=w.heap.size+3):=by rw[hW0];exact yzz ..
 have HF:Hid (∀b1,Below W0.heap.size W0 b1→Three w bi bj A B c d i j b1):=fun b1 hb=>by rw[hW0] at hb;exact qzz hx hy hb
 clear hx hy;unfold Qf at hW0;by_cases hle:j.natAbs≤i.natAbs
 · have hq:i.natAbs-j.natAbs=(i+j).natAbs:=by cases bi<;>cases bj<;>simp at hi hj hne<;>omega
   have hcmp:¬og i.natAbs j.natAbs<0:=by unfold og;rw[if_neg om];split<;>omega
   have aSz:0≤og i.natAbs j.natAbs:=om;have hs:decide (i+j<0)=(bi&&decide (0<(av (i+j)).length)):=by
    by_cases h0:i+j=0
    · rw[h0,zaq];simp
    · have:0<(av (i+j)).length:=by rw[jl];exact Y0 de om
      cases bi<;>cases bj<;>simp[this] at hi hj hne ⊢ <;>omega
   have HQ:=Lib.hid hq;have yC:=Lib.hid hle;have HS:=Lib.hid hs;clear hq hcmp hs hi hj hne hle;go_enter func74,ntmps74
   have L:Below W0.heap.size W0 W0:=Below.refl _ _;go_upto_region 1 with fail
   rw[←hW0];clear hW0;obtain ⟨⟨x0,x1⟩,⟨y0,y1⟩,⟨z0,z1,z2,z3⟩,hx,hy⟩:=HF.out _ L;go_wp2_with (go_at_call 133;refine (Bu A B c d i j _ hx hy om om).mono ?_;rintro e w1 ⟨rfl,hb⟩;have L:=ks L hb;clear x0 x1 y0 y1 z0 z1 z2 z3 hx hy hb;obtain ⟨⟨x0,x1⟩,⟨y0,y1⟩,⟨z0,z1,z2,z3⟩,hx,hy⟩:=HF.out _ L;refine Hid.out ?_)
   refine Lib.hid ?_;go_wp2_with (go_at_call 134;refine (yxq A B c d i j (i+j) _ hx hy om om yC.out HQ.out).mono ?_;rintro e w1 ⟨A1,c1,rfl,ho1,hb⟩;have ho1:=ho1.mono (show W0.heap.size≤_ from L.size);have L:=ks L hb;clear x0 x1 y0 y1 z0 z1 z2 z3 hx hy hb;obtain ⟨⟨x0,x1⟩,⟨y0,y1⟩,⟨z0,z1,z2,z3⟩,hx,hy⟩:=HF.out _ L;refine Hid.out ?_)
   refine Lib.hid ?_;cases bi
   · go_wp2_with fail
     refine Bt ?_;have h1:=HS.out;have h2:=Zu.out;have h3:=qmq (w:=w) (g0:=w.heap.size+1+1) ho1 (LW.trans (L.mono LW.size)) om om (.bool false) (.slice A1 (av (i+j)).length c1);rw[Bool.false_and] at h1;rw[h1] at h3;exact h3
   · by_cases h0:0<(av (i+j)).length
     · go_wp2_with fail
       refine bodyPost_ret (v:=.agg #[.bool true,.slice A1 (av (i+j)).length c1]) (by simp[results,Tryz.results74,go_sem,z0,z1]) rfl ?_;have h1:=HS.out;have h2:=Zu.out;have h3:=qmq (w:=w) (g0:=w.heap.size+1+1) ho1 (LW.trans (L.mono LW.size)) om om (.bool true) (.slice A1 (av (i+j)).length c1);rw[Bool.true_and,decide_eq_true h0] at h1;rw[h1] at h3;exact h3
     · have h00:(av (i+j)).length=0:=om;have hd0:decide (0<(av (i+j)).length)=false:=by simpa using h0
       have H00:=Lib.hid h00;have HD0:=Lib.hid hd0;clear h00 hd0;go_wp2_with fail
       refine Bt ?_;have h1:=HS.out;have h2:=Zu.out;have h3:=qmq (w:=w) (g0:=w.heap.size+1+1) ho1 (LW.trans (L.mono LW.size)) om om (.bool false) (.slice A1 (av (i+j)).length c1);rw[Bool.true_and,HD0.out] at h1;rw[h1] at h3;exact h3
 · have hq:j.natAbs-i.natAbs=(i+j).natAbs:=by cases bi<;>cases bj<;>simp at hi hj hne<;>omega
   have hcmp:og i.natAbs j.natAbs= -1:=by unfold og;rw[if_pos om]
   have hs:decide (i+j<0)=bj:=by cases bi<;>cases bj<;>simp at hi hj hne ⊢ <;>omega
   have HQ:=Lib.hid hq;have yC:=Lib.hid (show i.natAbs≤j.natAbs from om);have HS:=Lib.hid hs;have HCM:=Lib.hid hcmp;clear hq hcmp hs hi hj hne hle;go_enter func74,ntmps74
   have L:Below W0.heap.size W0 W0:=Below.refl _ _;go_upto_region 1 with fail
   rw[←hW0];clear hW0;obtain ⟨⟨x0,x1⟩,⟨y0,y1⟩,⟨z0,z1,z2,z3⟩,hx,hy⟩:=HF.out _ L;go_wp2_with (go_at_call 133;refine (Bu A B c d i j _ hx hy om om).mono ?_;rintro e w1 ⟨rfl,hb⟩;have L:=ks L hb;clear x0 x1 y0 y1 z0 z1 z2 z3 hx hy hb;obtain ⟨⟨x0,x1⟩,⟨y0,y1⟩,⟨z0,z1,z2,z3⟩,hx,hy⟩:=HF.out _ L;rw[HCM.out];refine Hid.out ?_)
   refine Lib.hid ?_;go_upto_region 6 with fail
   go_region_with (go_at_call 134;refine (yxq B A d c j i (i+j) _ (by first | exact hy | exact hy.drew) (by first | exact hx | exact hx.drew) om om yC.out HQ.out).mono ?_;rintro e w1 ⟨A1,c1,rfl,ho1,hb⟩;have ho1:=ho1.mono (show W0.heap.size≤_ from L.size);have L:=ks L (by first | exact hb | exact qpq hb);clear x0 x1 y0 y1 z0 z1 z2 z3 hx hy hb;obtain ⟨⟨x0,x1⟩,⟨y0,y1⟩,⟨z0,z1,z2,z3⟩,hx,hy⟩:=HF.out _ L)
   all_goals
    go_wp2_with fail
    refine bodyPost_ret (v:=.agg #[.bool bj,.slice A1 (av (i+j)).length c1]) (by simp[results,Tryz.results74,go_sem,z0,z1]) rfl ?_;have h1:=HS.out;have h2:=Zu.out;have h3:=qmq (w:=w) (g0:=w.heap.size+1+1) ho1 (LW.trans (L.mono LW.size)) om om (.bool bj) (.slice A1 (av (i+j)).length c1);rw[h1] at h3;exact h3
theorem NK (hx:aL w A (av i)) (hy:aL w B (av j)) (hl:(av i).length≤1000000) (hl':(av j).length≤1000000) :
 Calls prog 74 #[.agg #[.bool (decide (i<0)),.slice A (av i).length c],.agg #[.bool (decide (j<0)),.slice B (av j).length d]] w (ypv w (i+j)):=by
 by_cases h:decide (i<0)=decide (j<0)
 · rw[←h];exact G5 A B c d i j w _ rfl h.symm hx hy hl hl'
 · exact G6 A B c d i j w _ _ h rfl rfl hx hy hl hl'
end
end Go.Proofs.YtmnmebdmpigddaaGreatDoor
namespace Go.Proofs.YtmnmebdmpigddaaGreatDoor
open Go.RowKit Proofs.Tryz
theorem Bv {P Q:Prop} (k:Q) (h:(Unit→Q)→P:=by
 intro zK;refine zx ?_;refine zcx (zl ?_);refine zf 34 (.bool false) rfl (by rw[decide_eq_false om]<;>rfl) ?_;exact zK ()):P:=h fun _=>k
theorem Bw {P Q:Prop} (k:Q) (h:(Unit→Q)→P:=by
 intro zK;refine za rfl (qaq (z:=((mg (rg a)/2^j/2:Nat):Int)) rfl rfl de (veq (n:=2) om) (ykx ?_));exact zK ()):P:=h fun _=>k
theorem lG {P Q:Prop} (k:Q) (h:(Unit→Q)→P:=by
 intro zK;refine jm ?_;refine za rfl (zb aB8 rfl ((A9 _ a ha).mono ?_));exact zK ()):P:=h fun _=>k
theorem ykx {P Q:Prop} (k:Q) (h:(Unit→Q)→P:=by
 intro zK;refine zu ?_;refine yo ?_;refine zn ?_;exact zK ()):P:=h fun _=>k
theorem gj {P Q:Prop} (k:Q) (h:(Unit→Q)→P:=by
 intro zK;refine za rfl (zbx FT ?_);exact zK ()):P:=h fun _=>k
theorem zkz {P Q:Prop} (k:Q) (h:(Unit→Q)→P:=by
 intro zK;refine zk (yb pX rfl rfl aA rfl rfl (Nat.le_of_ble_eq_true rfl) ?_);exact zK ()):P:=h fun _=>k
theorem G7 {P:Prop} (h:P:=by
 rw[decide_eq_true om,decide_eq_true om]):P:=h
theorem TL {P:Prop} (h:P:=by
 replace aA:=Bx;replace E:=E.step1 aK aj.head;obtain ⟨HF,LW,ak,E⟩:=dx HF LW E ak (Y:=No) (aj.skip aj.aU) (Per.aW aA ah.nil);refine zu ?_;exact ⟨A1,c1,by rw[hT,hN,hs,Bool.false_and,←Z4];rfl,by rw[hT];exact (HF.on E).here.1.1.2,Z5,(LW.step E ak).toBelow⟩):P:=h
theorem TM {P:Prop} (h:P:=by
 replace aA:=Bx;replace E:=E.step1 aK aj.head;obtain ⟨HF,LW,ak,E⟩:=dx HF LW E ak (Y:=No) (aj.skip aj.aU) (Per.aW aA ah.nil);refine zu ?_;exact ⟨A1,c1,by rw[hT,hN,hs,Bool.true_and,←vU,←Z4];rfl,by rw[hT];exact (HF.on E).here.1.1.2,Z5,(LW.step E ak).toBelow⟩):P:=h
attribute [local irreducible] OW RS CW EW
noncomputable def vw (a:Nat):Int:=if ng a then -((qc a:Nat):Int) else ((qc a:Nat):Int)
noncomputable def TN (a:Nat):Bool:=@decide (¬GN (rg a)) (Classical.propDecidable _)
theorem znk (a:Nat):(vw a).natAbs=qc a:=by unfold vw;split<;>omega
theorem lH {i j:Int} (h:i.natAbs=j.natAbs):av i=av j:=by rw[jl,jl,h]
theorem yyv (a:Nat):decide (vw a<0)=(ng a&&decide (0<qc a)):=by
 unfold vw;cases ng a with
 | true=>
  simp only[if_true,Bool.true_and]
  by_cases h:0<qc a
  · rw[decide_eq_true h,decide_eq_true om]
  · rw[decide_eq_false h,decide_eq_false om]
 | false=>simp only[Bool.false_eq_true,if_false,Bool.false_and];exact decide_eq_false om
theorem vgk {a:Nat} {p:Prop} [Decidable p] (h:p↔ ¬GN (rg a)):decide p=TN a:=by
 unfold TN;by_cases hp:p
 · rw[decide_eq_true hp];exact (@decide_eq_true _ (Classical.propDecidable _) (h.1 hp)).symm
 · rw[decide_eq_false hp];exact (@decide_eq_false _ (Classical.propDecidable _) (fun k=>hp (h.2 k))).symm
theorem Z6 {m J e P:Nat} (hP:P=2^J*2^e):m*2^e/P=m/2^J∧(P∣m*2^e↔m%2^J=0):=by
 subst hP;refine ⟨Nat.mul_div_mul_right _ _ (jn e),?_⟩;rw[Nat.mul_dvd_mul_iff_right (jn e)];exact Nat.dvd_iff_mod_eq_zero
theorem NM {a:Nat} (h:ex (rg a)≤1074):qc a=mg (rg a)/2^(1074-ex (rg a))∧(GN (rg a)↔mg (rg a)%2^(1074-ex (rg a))=0):=
 Z6 (qqv (p:=1074) (q:=1074-ex (rg a)) (s:=ex (rg a)) rfl om)
theorem NP {a:Nat} (h:1074≤ex (rg a)):qc a=mg (rg a)*2^(ex (rg a)-1074)∧GN (rg a):=
 ⟨qvx (jn 1074) (ysx h (mg (rg a))),ZO h⟩
theorem TP {m j J:Nat} (hj:j≤J) (h:m/2^j=0):m/2^J=0∧(m%2^J=0↔m%2^j=0):=by
 have h1:m<2^j:=by
  rcases Nat.lt_or_ge m (2^j) with h' | h'
  · exact h'
  · have:=Nat.div_pos h' (jn j);omega
 have h2:=lu hj rfl;rw[Nat.div_eq_of_lt om,Nat.mod_eq_of_lt h1,Nat.mod_eq_of_lt om];exact ⟨rfl,Iff.rfl⟩
theorem Z7 {p q:Prop} [Decidable p] [Decidable q] (h:p↔q):decide p=decide q:=by
 exact TB
theorem rX (m j:Nat):m%2^(j+1)≠0↔(m%2^j≠0∨m/2^j%2=1):=by
 rw[Nat.mod_pow_succ];have hp:=jn j;rcases Nat.mod_two_eq_zero_or_one (m/2^j) with h | h<;>rw[h]<;>simp
theorem rY (m j:Nat):m/2^j/2=m/2^(j+1):=by rw[Nat.div_div_eq_div_mul,Nat.pow_succ]
theorem atx {m e A B C P x:Nat} (hm:m<A) (he:2^e≤B) (hAB:A*B=C*P) (hP:0<P) (hx:x=m*2^e):x/P<C:=by
 refine (Nat.div_lt_iff_lt_mul hP).2 ?_;rw[hx,←hAB];exact Nat.lt_of_le_of_lt (Nat.mul_le_mul_left _ he) (Nat.mul_lt_mul_of_pos_right hm (Nat.lt_of_lt_of_le (jn e) he))
theorem rZ {k K P Q:Nat} (hQ:Q=2^k) (hP:P=2^K) (h:k≤K):Q≤P:=by rw[hQ,hP];exact Nat.pow_le_pow_right de h
theorem aHq:2^53*2^2045=2^1024*2^1074:=by
 have h:∀P,P=2^2098→2^53*2^2045=2^1024*2^1074:=fun P hP=>(qqv (p:=2098) (q:=53) (s:=2045) hP de).symm.trans (qqv (p:=2098) (q:=1024) (s:=1074) hP de);exact h _ rfl
theorem NQ {a:Nat} (hf:rg a<9218868437227405312):qc a<2^1024:=
 atx (A:=2^53) (B:=2^2045) (kR (rg a)) (rZ rfl rfl (by unfold ex;split<;>omega)) aHq (jn 1074) rfl
theorem atj {K x B:Nat} (hK:K=x*30) (h:2^x≤B):2^K≤B^30:=by rw[hK,Nat.pow_mul];exact Nat.pow_le_pow_left h 30
theorem G8:2^1024≤au^30:=by
 have h:∀K,K=59*30→2^1024≤au^30:=fun K hK=>Nat.le_trans (lu (k:=1024) (K:=K) om rfl) (atj (x:=59) hK de);exact h _ rfl
theorem zmv {a:Nat} (hf:rg a<9218868437227405312):(vw a).natAbs<au^30:=by rw[znk];exact Nat.lt_of_lt_of_le (NQ hf) G8
theorem Bz {w:World} {A p:Option Addr} {xs:List Nat} {g n c:Nat} {T:TypeId} {u:Bool} (h:aL w A xs) (h0:0<xs.length) (hb:aB w g T #[.bool u,.slice p n c]):∀q,A=some q→q.block≠g:=by
 intro q hq e;obtain ⟨b,o,hA,_,hc⟩:=h.2 h0;rw[hA] at hq;obtain rfl:=Option.some.inj hq;have e2:b=g:=e;subst e2;have h1:=hc 0 h0;rw[hb.cell] at h1;rcases o with _ | _ | o
 · simp at h1
 · simp at h1
 · simp at h1
theorem vU (n:Nat):decide ((0:Int)<(((av ((n:Nat):Int)).length:Nat):Int))=decide (0<n):=by
 by_cases h:n=0
 · subst h;rw[show ((0:Nat):Int)=0 from rfl,zaq];rfl
 · have:=Yd (j:=((n:Nat):Int)) om;exact G7
def vV (W:World) (v:Int) (b:Bool) (e:Ending) (w':World):Prop:=∃A c,e= .returned (.tuple #[.agg #[.bool (decide (v<0)),.slice A (av v).length c],.bool b])∧aL w' A (av v)∧(∀q,A=some q→W.heap.size≤q.block)∧Below W.heap.size W w'
section
variable (w:World) (a:Nat) (ha:a<18446744073709551616) (hf:rg a<9218868437227405312)
include ha hf
theorem au0 (hc:1074≤ex (rg a)):Calls prog 105 #[.int .u64 ((a:Nat):Int)] w (vV w (vw a) (TN a)):=by
 obtain ⟨hw,hi⟩:=NP hc;have hma:=kR (rg a);have hxa:ex (rg a)≤2045:=by unfold ex;split<;>omega
 have hwl:=zmv hf;refine zc func105 rfl ntmps105 rfl ?_;obtain ⟨HF,LW,ak,E⟩:=bg w;refine zm ?_;refine gj ?_;intro aG w2 aA aK aP;obtain ⟨aP,HF,E,ak⟩:=bJ HF LW E ak aK aP;refine zl ?_;refine za rfl (zb ai8 rfl ((rV _ a ha hf).mono ?_));rintro e w3 ⟨rfl,hb⟩;refine ⟨_,rfl,?_⟩;have Ec:=Ext.of_below hb No;replace aA:=aA.ay Ec ah.nil;replace E:=E.trans Ec.no;refine jm ?_;refine zcx (zl ?_);refine zf 15 (.bool false) rfl (by rw[decide_eq_false om]<;>rfl) ?_;have aV7:4503599627370496≤mg (rg a):=GA (by have:=hc;unfold ex at this;split at this<;>omega);have Z4:false=TN a:=vgk (p:=False) ⟨fun h=>h.elim,fun h=>h hi⟩;have hlen:∀i,i≤ex (rg a)-1074→(av ((mg (rg a)*2^i:Nat):Int)).length≤540:=fun i hi=>zsv (by
  rw[Int.natAbs_natCast];rw[znk,hw] at hwl;exact Nat.lt_of_le_of_lt (Nat.mul_le_mul_left _ (Nat.pow_le_pow_right de hi)) hwl)
 have hpos:∀i,0<(av ((mg (rg a)*2^i:Nat):Int)).length:=fun i=>Yd (by have:=Nat.mul_pos (show 0<mg (rg a) from om) (jn i);omega);refine jm ?_;refine ZF ?_;refine za rfl (zb FU rfl ((zpx ((mg (rg a):Nat):Int) _ om om).mono ?_));rintro e w4 ⟨A2,c2,rfl,o2,hb⟩;refine ⟨_,rfl,?_⟩;have XC:∀q9,(aj [(some aG)]) q9→q9<w3.heap.size:=(aj.grow aj.none_ (ze aA.lt));have SC:=Nat.le_trans LW.size E.size;have Ec:=Ext.of_below hb No;replace aA:=aA.ay Ec ah.nil;replace E:=E.trans Ec.no;have arx:∀q,A2=some q→w.heap.size≤q.block:=fun q hq=>Nat.le_trans SC (o2.ge q hq).1;obtain ⟨HF,LW,E⟩:=cO HF LW E ak (Per.eO o2 XC);refine gj ?_;intro dS w6 bN dW lI;have G9:Apart (some dS) (some aG):=Apart.of_lt (ze aA.lt) lI;have vW:=G9.symm;replace aA:=aA.ay dW ah.nil;obtain ⟨lI,HF,E,ak⟩:=bJ HF LW E ak dW lI;refine zk (yb pX rfl rfl bN rfl rfl (Nat.le_of_ble_eq_true rfl) ?_);intro w7 Bx dW;replace bN:=Bx;replace aA:=aA.ay dW (ah.cons vW ah.nil);replace E:=E.step1 dW aj.head;refine zx ?_;have e0:mg (rg a)=mg (rg a)*2^0:=by rw[Nat.pow_zero,Nat.mul_one]
 have hn0:aL w7 A2 (av ((mg (rg a)*2^0:Nat):Int)):=by rw[←e0];exact (HF.on E).here.2
 have hne5:=Bz hn0 (hpos 0) bN;have hne1:=Bz hn0 (hpos 0) aA;replace bN:aB w7 dS 48 #[.bool (decide (((mg (rg a)*2^0:Nat):Int)<0)),.slice A2 (av ((mg (rg a)*2^0:Nat):Int)).length c2]:=by rw[←e0];exact bN
 have aQ3:∀q,A2=some q→ ¬aj [(some dS),(some aG)] q.block:=fun q hq h=>h.elim (fun e=>hne5 q hq (Option.some.inj e)) (fun h=>h.elim (fun e=>hne1 q hq (Option.some.inj e)) id);replace HF:=HF.on E;replace LW:=LW.step E ak;replace E:=aD (aj [(some dS),(some aG)]) w7;refine yw (ι:=Nat×Option Addr×Nat) (fun (i,A1,c1)=>[(0,.int .u64 ((a:Nat):Int)),(2,.pointer (some ⟨aG,0,none⟩)),(4,.int .u64 ((mg (rg a):Nat):Int)),(5,.int .i64 (((ex (rg a):Nat):Int)-1074-((i:Nat):Int))),(6,.bool false),(7,.pointer (some ⟨dS,0,none⟩))]) (fun (i,A1,c1) w'=>Ext (aj [(some dS),(some aG)]) w7 w'∧aB w' dS 48 (#[.bool (decide (((mg (rg a)*2^i:Nat):Int)<0)),.slice A1 (av ((mg (rg a)*2^i:Nat):Int)).length c1])∧aB w' aG 48 (#[.bool false,.slice none 0 0])∧(i≤ex (rg a)-1074∧aL w' A1 (av ((mg (rg a)*2^i:Nat):Int))∧(∀q,A1=some q→ ¬aj [(some dS),(some aG)] q.block)∧(∀q,A1=some q→w.heap.size≤q.block))) (fun (i,A1,c1)=>ex (rg a)-1074-i) (0,A2,c2) ⟨rfl,rfl,rfl,congrArg (fun z:Int=>some (Value.int .i64 z)) om,rfl,rfl,trivial⟩ ⟨Ext.refl _ _,(by exact bN),(by exact aA),⟨Nat.zero_le _,hn0,aQ3,arx⟩⟩ ?_;have au1:=(ze bN.lt);have bE:=(ze aA.lt);rintro ⟨i,A1,c1⟩ w9 ⟨M8,bN,aA,⟨hi1,iq,hna,Z5⟩⟩;have lJ:eD (aj [(some dS),(some aG)]) (aj [(some dS),(some aG)]) w7:=(aj.grow (aj.grow aj.none_ (fun k e=>Or.inl ((aj.tail aj.head) k e))) (fun k e=>Or.inl (aj.head k e)));replace E:=E.trans M8;replace HF:=HF.on E;replace LW:=LW.step E ak;replace E:=aD (aj [(some dS),(some aG)]) w9;clear au1;clear bE;replace HF:=HF.on E;replace LW:=LW.step E ak;replace M8:=M8.step E lJ;replace E:=aD (aj [(some dS),(some aG)]) w9;replace HF:=HF.and (Per.vR iq hna);refine zl ?_;refine zf 34 (.bool (decide (i<ex (rg a)-1074))) rfl (kb om) (zj 34 rfl (fun hlt=>?_) (fun hlt=>?_))
 ·
  have hlt:=of_decide_eq_true hlt;refine zu ?_;refine zd 37 (.bool true) rfl (by rw[decide_eq_true om]<;>rfl) ?_;have eV:((mg (rg a)*2^i:Nat):Int)+((mg (rg a)*2^i:Nat):Int)=((mg (rg a)*2^(i+1):Nat):Int):=by rw[Nat.pow_succ,←Nat.mul_assoc];omega
  refine yi ?_;refine za rfl (zb aNq rfl ((NK A1 A1 c1 c1 _ _ _ (HF.on E).here.2 (HF.on E).here.2 (Nat.le_trans (hlen i hi1) de) (Nat.le_trans (hlen i hi1) de)).mono ?_));rintro e dH ⟨A3,c3,rfl,o3,hb⟩;refine ⟨_,rfl,?_⟩;have XC:∀q9,(aj [(some dS),(some aG)]) q9→q9<w9.heap.size:=(aj.grow (aj.grow aj.none_ (ze aA.lt)) (ze bN.lt));have SC:=Nat.le_trans LW.size E.size;have Ec:=Ext.of_below hb No;replace bN:=bN.ay Ec ah.nil;replace aA:=aA.ay Ec ah.nil;replace E:=E.trans Ec.no;have XN3:=XC;have aQ4:∀q,A3=some q→w.heap.size≤q.block:=fun q hq=>Nat.le_trans SC (o3.ge q hq).1;have aQ5:∀q,A3=some q→ ¬aj [(some dS),(some aG)] q.block:=fun q hq e=>by have h1:=XN3 _ e;have h2:=(o3.ge q hq).1;omega
  replace HF:=HF.on E;replace M8:=M8.step E lJ;replace E:=aD (aj [(some dS),(some aG)]) dH;replace HF:=HF.and (Per.eO o3 XC);refine zk (yb pX rfl rfl bN rfl rfl (Nat.le_of_ble_eq_true rfl) ?_);intro dQ Bx dW;replace bN:=Bx;replace aA:=aA.ay dW (ah.cons vW ah.nil);replace E:=E.step1 dW aj.head;refine zu ?_;refine yl ?_;refine zm ?_;rw[eV] at bN;exact zo (i+1,A3,c3) (by show ex (rg a)-1074-(i+1)<ex (rg a)-1074-i;omega) ⟨rfl,rfl,rfl,congrArg (fun z:Int=>some (Value.int .i64 z)) om,rfl,rfl,trivial⟩ ⟨M8.step E lJ,(by exact bN),(by exact aA),om,by rw[←eV];exact (HF.on E).here.2,aQ5,aQ4⟩
 ·
  have hlt:=of_decide_eq_false hlt;have hie:i=ex (rg a)-1074:=om;have hv:mg (rg a)*2^i=qc a:=by rw[hie,hw]
  have hT:av (vw a)=av ((mg (rg a)*2^i:Nat):Int):=lH (by rw[znk,Int.natAbs_natCast,hv]);have hN:=yyv a;rw[←hv] at hN;refine lG ?_;rintro e eG ⟨rfl,hb⟩;refine ⟨_,rfl,?_⟩;have Ec:=Ext.of_below hb No;replace bN:=bN.ay Ec ah.nil;replace aA:=aA.ay Ec ah.nil;replace E:=E.trans Ec.no;refine aN ?_;refine zj 45 rfl (fun hs=>?_) (fun hs=>?_)
  ·
   refine zl ?_;refine zk (yb Ri rfl rfl bN rfl rfl (Nat.le_of_ble_eq_true rfl) ?_);intro yD Bx dW;replace bN:=Bx;replace aA:=aA.ay dW (ah.cons vW ah.nil);replace E:=E.step1 dW aj.head;obtain ⟨HF,LW,ak,E⟩:=dx HF LW E ak (Y:=aj [(some aG)]) (aj.skip (aj.keep aj.aU)) (Per.aW bN (ah.cons G9 ah.nil));refine zl ?_;refine zkz ?_;intro dU Bx aK;exact TM
  ·
   refine zl ?_;refine zk (yb Ri rfl rfl bN rfl rfl (Nat.le_of_ble_eq_true rfl) ?_);intro fG Bx dW;replace bN:=Bx;replace aA:=aA.ay dW (ah.cons vW ah.nil);replace E:=E.step1 dW aj.head;obtain ⟨HF,LW,ak,E⟩:=dx HF LW E ak (Y:=aj [(some aG)]) (aj.skip (aj.keep aj.aU)) (Per.aW bN (ah.cons G9 ah.nil));refine zl ?_;refine zkz ?_;intro w16 Bx aK;exact TL
theorem au2 (hc:ex (rg a)<1074):Calls prog 105 #[.int .u64 ((a:Nat):Int)] w (vV w (vw a) (TN a)):=by
 obtain ⟨hw,hi⟩:=NM (Nat.le_of_lt hc);obtain ⟨J,hJ⟩:∃J,J=1074-ex (rg a):=⟨_,rfl⟩;rw[←hJ] at hw hi;have aQ6:∀j,mg (rg a)/2^j≤mg (rg a):=fun j=>Nat.div_le_self _ _;have hma:=kR (rg a);have hxa:ex (rg a)≤2045:=by unfold ex;split<;>omega
 have hwl:=zmv hf;refine zc func105 rfl ntmps105 rfl ?_;obtain ⟨HF,LW,ak,E⟩:=bg w;refine zm ?_;refine gj ?_;intro aG w2 aA aK aP;obtain ⟨aP,HF,E,ak⟩:=bJ HF LW E ak aK aP;refine zl ?_;refine za rfl (zb ai8 rfl ((rV _ a ha hf).mono ?_));rintro e w3 ⟨rfl,hb⟩;refine ⟨_,rfl,?_⟩;have Ec:=Ext.of_below hb No;replace aA:=aA.ay Ec ah.nil;replace E:=E.trans Ec.no;refine jm ?_;replace HF:=HF.on E;replace LW:=LW.step E ak;replace E:=aD (aj [(some aG)]) w3;refine yw (ι:=Nat) (fun j=>[(0,.int .u64 ((a:Nat):Int)),(2,.pointer (some ⟨aG,0,none⟩)),(4,.int .u64 ((mg (rg a)/2^j:Nat):Int)),(5,.int .i64 (((ex (rg a):Nat):Int)-1074+((j:Nat):Int))),(6,.bool (decide (mg (rg a)%2^j≠0)))]) (fun j w'=>Ext (aj [(some aG)]) w3 w'∧aB w' aG 48 (#[.bool false,.slice none 0 0])∧(j≤J)) (fun j=>J-j) 0 ⟨rfl,rfl,congrArg (fun z:Nat=>some (Value.int .u64 (z:Int))) (by rw[Nat.pow_zero,Nat.div_one]),congrArg (fun z:Int=>some (Value.int .i64 z)) om,congrArg (fun z:Bool=>some (Value.bool z)) (by rw[Nat.pow_zero,Nat.mod_one];rfl),trivial⟩ ⟨Ext.refl _ _,(by exact aA),Nat.zero_le _⟩ ?_;have bE:=(ze aA.lt);rintro j w5 ⟨M4,aA,hj⟩;have He:eD (aj [(some aG)]) (aj [(some aG)]) w3:=(aj.grow aj.none_ (fun k e=>Or.inl (aj.head k e)));replace E:=E.trans M4;replace HF:=HF.on E;replace LW:=LW.step E ak;replace E:=aD (aj [(some aG)]) w5;clear bE;have hmj:=aQ6 j;refine zl ?_;refine zf 15 (.bool (decide (j<J))) rfl (kb om) (zj 15 rfl (fun hlt=>?_) (fun hlt=>?_))
 ·
  have hlt:=of_decide_eq_true hlt;refine zu ?_;refine zd 18 (.bool (decide (0<mg (rg a)/2^j))) rfl (kb om) (zg rfl (fun hm=>?_) (fun hm=>?_))
  ·
   refine zp ?_;refine zj 20 rfl (fun hlo=>?_) (fun hlo=>?_)
   ·
    have hlo:=of_decide_eq_true hlo;refine zz ?_;refine Bw ?_;exact zo (j+1) om ⟨rfl,rfl,congrArg (fun z:Nat=>some (Value.int .u64 (z:Int))) (rY _ _),congrArg (fun z:Int=>some (Value.int .i64 z)) om,congrArg (fun z:Bool=>some (Value.bool z)) ((decide_eq_true ((rX _ _).2 (.inl hlo))).symm),trivial⟩ ⟨M4.step E He,(by exact aA),om⟩
   ·
    have hlo:=of_decide_eq_false hlo;refine aN ?_;refine bO rfl (LU (z:=((mg (rg a)/2^j%2:Nat):Int)) rfl rfl de (qcx _ 2) (yi ?_));refine Bw ?_;exact zo (j+1) om ⟨rfl,rfl,congrArg (fun z:Nat=>some (Value.int .u64 (z:Int))) (rY _ _),congrArg (fun z:Int=>some (Value.int .i64 z)) om,congrArg (fun z:Bool=>some (Value.bool z)) (by rw[show ((((mg (rg a)/2^j%2:Nat):Int))==1)=decide (mg (rg a)/2^j%2=1) from (Ku (n:=1)).symm];exact Z7 (by rw[rX];exact ⟨.inr,fun h=>h.resolve_left hlo⟩)),trivial⟩ ⟨M4.step E He,(by exact aA),om⟩
  ·
   have hm:=of_decide_eq_false hm;have hm0:mg (rg a)/2^j=0:=Nat.eq_zero_of_not_pos hm;obtain ⟨z1,z2⟩:=TP (J:=J) hj hm0;have Z4:decide (mg (rg a)%2^j≠0)=TN a:=vgk (by rw[hi,z2]);have hMw:mg (rg a)/2^j=qc a:=by rw[hw,z1,hm0]
   obtain ⟨M,hM⟩:∃M,M=mg (rg a)/2^j:=⟨_,rfl⟩;rw[←hM] at hmj hMw;refine zd 4 (.int .u64 ((M:Nat):Int)) rfl (by rw[hM]<;>rfl) (yi ?_);refine ZF ?_;refine za rfl (zb FU rfl ((zpx ((M:Nat):Int) _ om om).mono ?_));rintro e w6 ⟨A1,c1,rfl,o2,hb⟩;refine ⟨_,rfl,?_⟩;have XC:∀q9,(aj [(some aG)]) q9→q9<w5.heap.size:=(aj.grow aj.none_ (ze aA.lt));have SC:=Nat.le_trans LW.size E.size;have Ec:=Ext.of_below hb No;replace aA:=aA.ay Ec ah.nil;replace E:=E.trans Ec.no;have Z5:∀q,A1=some q→w.heap.size≤q.block:=fun q hq=>Nat.le_trans SC (o2.ge q hq).1;obtain ⟨HF,LW,E⟩:=cO HF LW E ak (Per.eO o2 XC);refine gj ?_;intro pq w8 fT fq gG;have dX:Apart (some pq) (some aG):=Apart.of_lt (ze aA.lt) gG;have lK:=dX.symm;replace aA:=aA.ay fq ah.nil;obtain ⟨gG,HF,E,ak⟩:=bJ HF LW E ak fq gG;refine zk (yb pX rfl rfl fT rfl rfl (Nat.le_of_ble_eq_true rfl) ?_);intro w9 Bx fq;replace fT:=Bx;replace aA:=aA.ay fq (ah.cons lK ah.nil);replace E:=E.step1 fq aj.head;refine Bv ?_;have hv:M=qc a:=hMw;have hT:av (vw a)=av ((M:Nat):Int):=lH (by rw[znk,Int.natAbs_natCast,hv]);have hN:=yyv a;rw[←hv] at hN;refine lG ?_;rintro e dH ⟨rfl,hb⟩;refine ⟨_,rfl,?_⟩;have Ec:=Ext.of_below hb No;replace fT:=fT.ay Ec ah.nil;replace aA:=aA.ay Ec ah.nil;replace E:=E.trans Ec.no;refine aN ?_;refine zj 45 rfl (fun hs=>?_) (fun hs=>?_)
   ·
    refine zl ?_;refine zk (yb Ri rfl rfl fT rfl rfl (Nat.le_of_ble_eq_true rfl) ?_);intro dQ Bx fq;replace fT:=Bx;replace aA:=aA.ay fq (ah.cons lK ah.nil);replace E:=E.step1 fq aj.head;obtain ⟨HF,LW,ak,E⟩:=dx HF LW E ak (Y:=aj [(some aG)]) (aj.skip (aj.keep aj.aU)) (Per.aW fT (ah.cons dX ah.nil));refine zl ?_;refine zkz ?_;intro eG Bx aK;exact TM
   ·
    refine zl ?_;refine zk (yb Ri rfl rfl fT rfl rfl (Nat.le_of_ble_eq_true rfl) ?_);intro yD Bx fq;replace fT:=Bx;replace aA:=aA.ay fq (ah.cons lK ah.nil);replace E:=E.step1 fq aj.head;obtain ⟨HF,LW,ak,E⟩:=dx HF LW E ak (Y:=aj [(some aG)]) (aj.skip (aj.keep aj.aU)) (Per.aW fT (ah.cons dX ah.nil));refine zl ?_;refine zkz ?_;intro dU Bx aK;exact TL
 ·
  have hlt:=of_decide_eq_false hlt;obtain rfl:j=J:=om;have Z4:decide (mg (rg a)%2^j≠0)=TN a:=vgk (by rw[hi]);have hMw:mg (rg a)/2^j=qc a:=hw.symm;obtain ⟨M,hM⟩:∃M,M=mg (rg a)/2^j:=⟨_,rfl⟩;rw[←hM] at hmj hMw;refine zf 4 (.int .u64 ((M:Nat):Int)) rfl (by rw[hM]<;>rfl) (jm ?_);refine ZF ?_;refine za rfl (zb FU rfl ((zpx ((M:Nat):Int) _ om om).mono ?_));rintro e fG ⟨A1,c1,rfl,o2,hb⟩;refine ⟨_,rfl,?_⟩;have XC:∀q9,(aj [(some aG)]) q9→q9<w5.heap.size:=(aj.grow aj.none_ (ze aA.lt));have SC:=Nat.le_trans LW.size E.size;have Ec:=Ext.of_below hb No;replace aA:=aA.ay Ec ah.nil;replace E:=E.trans Ec.no;have Z5:∀q,A1=some q→w.heap.size≤q.block:=fun q hq=>Nat.le_trans SC (o2.ge q hq).1;obtain ⟨HF,LW,E⟩:=cO HF LW E ak (Per.eO o2 XC);refine gj ?_;intro gH vX dL dY fI;have dI:Apart (some gH) (some aG):=Apart.of_lt (ze aA.lt) fI;have gI:=dI.symm;replace aA:=aA.ay dY ah.nil;obtain ⟨fI,HF,E,ak⟩:=bJ HF LW E ak dY fI;refine zk (yb pX rfl rfl dL rfl rfl (Nat.le_of_ble_eq_true rfl) ?_);intro yE Bx dY;replace dL:=Bx;replace aA:=aA.ay dY (ah.cons gI ah.nil);replace E:=E.step1 dY aj.head;refine Bv ?_;have hv:M=qc a:=hMw;have hT:av (vw a)=av ((M:Nat):Int):=lH (by rw[znk,Int.natAbs_natCast,hv]);have hN:=yyv a;rw[←hv] at hN;refine lG ?_;rintro e E8 ⟨rfl,hb⟩;refine ⟨_,rfl,?_⟩;have Ec:=Ext.of_below hb No;replace dL:=dL.ay Ec ah.nil;replace aA:=aA.ay Ec ah.nil;replace E:=E.trans Ec.no;refine aN ?_;refine zj 45 rfl (fun hs=>?_) (fun hs=>?_)
  ·
   refine zl ?_;refine zk (yb Ri rfl rfl dL rfl rfl (Nat.le_of_ble_eq_true rfl) ?_);intro E9 Bx dY;replace dL:=Bx;replace aA:=aA.ay dY (ah.cons gI ah.nil);replace E:=E.step1 dY aj.head;obtain ⟨HF,LW,ak,E⟩:=dx HF LW E ak (Y:=aj [(some aG)]) (aj.skip (aj.keep aj.aU)) (Per.aW dL (ah.cons dI ah.nil));refine zl ?_;refine zkz ?_;intro yF Bx aK;exact TM
  ·
   refine zl ?_;refine zk (yb Ri rfl rfl dL rfl rfl (Nat.le_of_ble_eq_true rfl) ?_);intro w22 Bx dY;replace dL:=Bx;replace aA:=aA.ay dY (ah.cons gI ah.nil);replace E:=E.step1 dY aj.head;obtain ⟨HF,LW,ak,E⟩:=dx HF LW E ak (Y:=aj [(some aG)]) (aj.skip (aj.keep aj.aU)) (Per.aW dL (ah.cons dI ah.nil));refine zl ?_;refine zkz ?_;intro iW Bx aK;exact TL
theorem Z8:Calls prog 105 #[.int .u64 ((a:Nat):Int)] w (vV w (vw a) (TN a)):=by
 rcases Nat.lt_or_ge (ex (rg a)) 1074 with h | h
 · exact au2 w a ha hf h
 · exact au0 w a ha hf h
end
end Go.Proofs.YtmnmebdmpigddaaGreatDoor
