/- Texts of this claim. -/
import Derived.Test.YtmnmebdmpigddaaGreatDoorT14
import Derived.Deep.RegionWith
set_option maxRecDepth 100000
set_option maxHeartbeats 20000000
namespace Go.Proofs.YtmnmebdmpigddaaGreatDoor
open Go.RowKit
end Go.Proofs.YtmnmebdmpigddaaGreatDoor
namespace Go.Proofs.YtmnmebdmpigddaaGreatDoor
open Go.RowKit
theorem oo (i:Int):(tens i).length≤540↔i.natAbs<B18^30:=by
 rw[jl,ygq];exact qg (by decide) _ (18*30)
def Two (w:World) (n1 n2:Bool) (A B:Option Addr) (c d:Nat) (xs ys:List Nat) (b:World):Prop:=
 (b.cell? ⟨w.heap.size,0,none⟩=some (.bool n1)∧b.cell? ⟨w.heap.size,1,none⟩=some (.slice A xs.length c)∧
 b.cell? ⟨w.heap.size+1,0,none⟩=some (.bool n2)∧b.cell? ⟨w.heap.size+1,1,none⟩=some (.slice B ys.length d))∧Nums b A xs∧Nums b B ys
def two (w:World) (n1 n2:Bool) (A B:Option Addr) (c d:Nat) (xs ys:List Nat):World:=
 (w.alloc (.cells #[.bool n1,.slice A xs.length c] 24)).alloc (.cells #[.bool n2,.slice B ys.length d] 24)
theorem yqx (w:World) (n1 n2:Bool) (A B:Option Addr) (c d:Nat) (xs ys:List Nat):Below w.heap.size w (two w n1 n2 A B c d xs ys):=
 ((Below.refl _ _).alloc (Nat.le_refl _) _).alloc (by simp) _
theorem two_since {w b:World} {n1 n2:Bool} {A B:Option Addr} {c d:Nat} {xs ys:List Nat} (hx:Nums w A xs) (hy:Nums w B ys) (hb:Below (two w n1 n2 A B c d xs ys).heap.size (two w n1 n2 A B c d xs ys) b):Two w n1 n2 A B c d xs ys b:=by
 have X:Blk (two w n1 n2 A B c d xs ys) w.heap.size 24 #[.bool n1,.slice A xs.length c]:=(Blk.new _ _ _).alloc _;have Y:Blk (two w n1 n2 A B c d xs ys) (w.heap.size+1) 24 #[.bool n2,.slice B ys.length d]:=Blk.new1 _ _ _ _;have x:=(X.below hb X.lt).two;have y:=(Y.below hb Y.lt).two;exact ⟨⟨x.1,x.2.1,y.1,y.2.1⟩,(hx.since (yqx w n1 n2 A B c d xs ys)).since hb,(hy.since (yqx w n1 n2 A B c d xs ys)).since hb⟩
def formE (g1 g2:Bool):Int:=if g1&&g2 then 0 else 3
def isW (w:World) (b1 b2:Bool) (A B:Option Addr) (c d n m:Nat):World:=
 (w.alloc (.cells #[.bool b1,.slice A n c] 24)).alloc (.cells #[.bool b2,.slice B m d] 48)
end Go.Proofs.YtmnmebdmpigddaaGreatDoor
namespace Go.Proofs.YtmnmebdmpigddaaGreatDoor
open Go.RowKit
def Pers (W:World) (F:World→Prop):Prop:=∀b,Below W.heap.size W b→F b
theorem Pers.here {W:World} {F:World→Prop} (h:Pers W F):F W:=h W (Below.refl _ _)
theorem Pers.on {W W':World} {F:World→Prop} (h:Pers W F) (L:Below W.heap.size W W'):Pers W' F:=fun b hb=>h b (kr L hb)
theorem Pers.and {W:World} {F G:World→Prop} (h:Pers W F) (k:Pers W G):Pers W (fun b=>F b∧G b):=fun b hb=>⟨h b hb,k b hb⟩
def Box (g:Nat) (t:TypeId) (u v:Value) (b:World):Prop:=b.cell? ⟨g,0,none⟩=some u∧b.cell? ⟨g,1,none⟩=some v
theorem Pers.box {W:World} {g:Nat} {t:TypeId} {u v:Value} (h:Blk W g t #[u,v]):Pers W (Box g t u v):=fun _ hb=>⟨(h.below hb h.lt).two.1,(h.below hb h.lt).two.2.1⟩
theorem Pers.nums {W:World} {A:Option Addr} {xs:List Nat} (h:Nums W A xs):Pers W (fun b=>Nums b A xs):=fun _ hb=>h.since hb
def RetNought (W:World) (f:Int) (e:Ending) (w':World):Prop:=∃A c,e= .returned (.tuple #[.agg #[.bool false,.slice A 0 c],.int .i64 f])∧Nums w' A []∧Below W.heap.size W w'
def RetNought1 (W:World) (e:Ending) (w':World):Prop:=∃A c,e= .returned (.agg #[.bool false,.slice A 0 c])∧Nums w' A []∧Below W.heap.size W w'
def LawTrue (W:World) (e:Ending) (w':World):Prop:=e= .returned (.bool true)∧Below W.heap.size W w'
end Go.Proofs.YtmnmebdmpigddaaGreatDoor
namespace Go.Proofs.YtmnmebdmpigddaaGreatDoor
open Go.RowKit
theorem stpdq308 {P Q:Prop} (k:Q) (h:(Unit→Q)→P:=by
 intro zK;refine bodyPost_ret (v:=.agg #[.bool false,.slice A1 (tens (i+j)).length c1]) (by simp[results,Tryz.results74,go_sem,z0,z1]) rfl ?_;exact zK ()):P:=h fun _=>k
theorem dqz47 {P:Prop} (h:P:=by
 exact ⟨rfl,by first | exact (L.setCell (by show w.heap.size≤w.heap.size+1;omega) _).setCell (by show w.heap.size≤w.heap.size+1;omega) _ | exact ((Below.refl _ _).alloc (Nat.le_refl _) _).alloc (by simp) _⟩):P:=h
theorem qlv {w wz:World} {i:Int} {A:Option Addr} {c base g0:Nat} (hown:Own8 wz base A c (tens i)) (L:Below w.heap.size w wz) (hg:w.heap.size≤g0) (hgb:g0<base) (u v:Value) :
 ypq w i (.returned (.agg #[.bool (decide (i<0)),.slice A (tens i).length c])) ((wz.setCell ⟨g0,0,none⟩ u).setCell ⟨g0,1,none⟩ v):=
 ⟨A,c,rfl,((hown.setBelow hgb _).setBelow hgb _).mono (by omega),(L.setCell hg _).setCell hg _⟩
def vik (W:World) (A:Option Addr) (c:Nat) (i:Int) (e:Ending) (w':World):Prop:=e= .returned (.agg #[.bool (decide (-i<0)),.slice A (tens i).length c])∧Below W.heap.size W w'
set_option maxHeartbeats 1000000 in
theorem rturn_any (A:Option Addr) (c:Nat) (i:Int) (w:World) (hl:(tens i).length≤1048576) :
 Calls Tryz.prog 52 #[.agg #[.bool (decide (i<0)),.slice A (tens i).length c]] w (vik w A c i):=by
 have hpos:i≠0→0<(tens i).length:=fun h=>by rw[jl];exact zfv (by decide) (by omega)
 have L:Below w.heap.size w ((w.alloc (.cells #[.bool (decide (i<0)),.slice A (tens i).length c] 48)).alloc (.cells #[.bool false,.slice none 0 0] 48)):=((Below.refl _ _).alloc (Nat.le_refl _) _).alloc (by simp) _;rcases Int.lt_trichotomy i 0 with h | h | h
 · have e1:decide (i<0)=true:=by simpa using h
   have e2:decide (-i<0)=false:=by simp;omega
   unfold vik;rw[e2];rw[e1] at L ⊢;clear e1 e2 h hpos;go_enter Tryz.func52,Tryz.ntmps52
   go_wp2_with fail
   refine bodyPost_ret (v:=.agg #[.bool false,.slice A (tens i).length c]) (by simp[results,Tryz.results52,go_sem]) rfl ?_;exact dqz47
 · subst h;have e1:tens 0= []:=zax;unfold vik;rw[e1] at L ⊢;have e2:decide ((0:Int)<0)=false:=rfl;have e3:decide (-(0:Int)<0)=false:=rfl;rw[e3];rw[e2] at L ⊢;clear e1 e2 e3 hpos hl;go_enter Tryz.func52,Tryz.ntmps52
   go_wp2_with fail
   refine bodyPost_ret (v:=.agg #[.bool false,.slice A 0 c]) (by simp[results,Tryz.results52,go_sem]) rfl ?_;exact dqz47
 · have e1:decide (i<0)=false:=by simp;omega
   have e2:decide (-i<0)=true:=by simpa using h
   have h0:=hpos (by omega);unfold vik;rw[e2];rw[e1] at L ⊢;clear e1 e2 h hpos;go_enter Tryz.func52,Tryz.ntmps52
   go_wp2_with fail
   refine bodyPost_ret (v:=.agg #[.bool true,.slice A (tens i).length c]) (by simp[results,Tryz.results52,go_sem]) rfl ?_;exact dqz47
theorem rsizes_b (A B:Option Addr) (c d:Nat) (i j:Int) (w:World) (hx:Nums8 w A (tens i)) (hy:Nums8 w B (tens j)) (hl:(tens i).length≤1048576) (hl':(tens j).length≤1048576) :
 Calls Tryz.prog 133 #[.slice A (tens i).length c,.slice B (tens j).length d] w fun e w'=>e= .returned (.int .i64 (oe i.natAbs j.natAbs))∧Below w.heap.size w w':=
 (rsizes_tens A B c d i j w hx hy hl hl').mono fun _ _ ⟨he,n,hw⟩=>⟨he,by rw[hw];exact gi (Below.refl _ _) n⟩
def Three (w:World) (bi bj:Bool) (A B:Option Addr) (c d:Nat) (i j:Int) (b:World):Prop:=
 (b.cell? ⟨w.heap.size,0,none⟩=some (.bool bi)∧b.cell? ⟨w.heap.size,1,none⟩=some (.slice A (tens i).length c))∧
 (b.cell? ⟨w.heap.size+1,0,none⟩=some (.bool bj)∧b.cell? ⟨w.heap.size+1,1,none⟩=some (.slice B (tens j).length d))∧
 (b.cell? ⟨w.heap.size+1+1,0,none⟩=some (.bool false)∧b.cell? ⟨w.heap.size+1+1,1,none⟩=some (.slice none 0 0)∧b.frozen? ⟨w.heap.size+1+1,0,none⟩=false∧b.frozen? ⟨w.heap.size+1+1,1,none⟩=false)∧
 Nums8 b A (tens i)∧Nums8 b B (tens j)
def ygv (w:World) (bi bj:Bool) (A B:Option Addr) (c d:Nat) (i j:Int):World:=
 ((w.alloc (.cells #[.bool bi,.slice A (tens i).length c] 48)).alloc (.cells #[.bool bj,.slice B (tens j).length d] 48)).alloc (.cells #[.bool false,.slice none 0 0] 48)
theorem zsz (w:World) (bi bj:Bool) (A B:Option Addr) (c d:Nat) (i j:Int):Below w.heap.size w (ygv w bi bj A B c d i j):=
 (((Below.refl _ _).alloc (Nat.le_refl _) _).alloc (by simp) _).alloc (by simp;omega) _
theorem yyv (w:World) (bi bj:Bool) (A B:Option Addr) (c d:Nat) (i j:Int):(ygv w bi bj A B c d i j).heap.size=w.heap.size+3:=by simp[ygv]
theorem qyk {w b:World} {bi bj:Bool} {A B:Option Addr} {c d:Nat} {i j:Int} (hx:Nums8 w A (tens i)) (hy:Nums8 w B (tens j)) (hb:Below (ygv w bi bj A B c d i j).heap.size (ygv w bi bj A B c d i j) b):Three w bi bj A B c d i j b:=by
 have hs:=yyv w bi bj A B c d i j;have X:Blk (ygv w bi bj A B c d i j) w.heap.size 48 #[.bool bi,.slice A (tens i).length c]:=((Blk.new _ _ _).alloc _).alloc _;have Y:Blk (ygv w bi bj A B c d i j) (w.heap.size+1) 48 #[.bool bj,.slice B (tens j).length d]:=(Blk.new1 _ _ _ _).alloc _;have Z:Blk (ygv w bi bj A B c d i j) (w.heap.size+1+1) 48 #[.bool false,.slice none 0 0]:=Blk.newAt (by simp);have x:=(X.below hb X.lt).two;have y:=(Y.below hb Y.lt).two;have z:=(Z.below hb Z.lt).two;exact ⟨⟨x.1,x.2.1⟩,⟨y.1,y.2.1⟩,z,(hx.since (zsz w bi bj A B c d i j)).since hb,(hy.since (zsz w bi bj A B c d i j)).since hb⟩
section
variable (A B:Option Addr) (c d:Nat) (i j:Int) (w:World)
set_option maxHeartbeats 1000000 in
theorem rplus_same (b:Bool) (hi:decide (i<0)=b) (hj:decide (j<0)=b) (hx:Nums8 w A (tens i)) (hy:Nums8 w B (tens j)) (hl:(tens i).length≤1000000) (hl':(tens j).length≤1000000) :
 Calls Tryz.prog 74 #[.agg #[.bool b,.slice A (tens i).length c],.agg #[.bool b,.slice B (tens j).length d]] w (ypq w (i+j)):=by
 have hq:i.natAbs+j.natAbs=(i+j).natAbs:=by cases b<;>simp at hi hj<;>omega
 have hs:b=decide (i+j<0):=by cases b<;>simp at hi hj ⊢ <;>omega
 have HQ:=Lib.hid hq;have HS:=Lib.hid hs;have hbb:(b==b)=true:=by simp
 clear hq hs hi hj;obtain ⟨W0,hW0⟩:∃W0,W0=ygv w b b A B c d i j:=⟨_,rfl⟩;have LW:Below w.heap.size w W0:=by rw[hW0];exact zsz ..
 have HWs:Hid (W0.heap.size=w.heap.size+3):=by rw[hW0];exact yyv ..
 have HF:Hid (∀b1,Below W0.heap.size W0 b1→Three w b b A B c d i j b1):=fun b1 hb=>by rw[hW0] at hb;exact qyk hx hy hb
 clear hx hy;unfold ygv at hW0;go_enter Tryz.func74,Tryz.ntmps74
 go_wp2_with fail
 rw[←hW0];clear hW0;have L:Below W0.heap.size W0 W0:=Below.refl _ _;obtain ⟨⟨x0,x1⟩,⟨y0,y1⟩,⟨z0,z1,z2,z3⟩,hx,hy⟩:=HF.out _ L;go_region_with (go_at_call 132;refine (rplusrow_any A B c d i j (i+j) _ (by first | exact hx | exact hx.drew) (by first | exact hy | exact hy.drew) hl hl' HQ.out).mono ?_;rintro e w1 ⟨A1,c1,rfl,ho1,hb⟩;have ho1:=ho1.mono (show W0.heap.size≤_ from L.size);have L:=kr L (by first | exact hb | exact qov hb);clear x0 x1 y0 y1 z0 z1 z2 z3 hx hy hb;obtain ⟨⟨x0,x1⟩,⟨y0,y1⟩,⟨z0,z1,z2,z3⟩,hx,hy⟩:=HF.out _ L)
 all_goals
  go_wp2_with fail
  refine bodyPost_ret (v:=.agg #[.bool b,.slice A1 (tens (i+j)).length c1]) (by simp[results,Tryz.results74,go_sem,z0,z1]) rfl ?_;have h1:=HS.out;have h2:=HWs.out;have h3:=qlv (w:=w) (g0:=w.heap.size+1+1) ho1 (LW.trans (L.mono LW.size)) (by omega) (by omega) (.bool b) (.slice A1 (tens (i+j)).length c1);rw[←h1] at h3;exact h3
set_option maxHeartbeats 1000000 in
theorem rplus_diff (bi bj:Bool) (hne:bi≠bj) (hi:decide (i<0)=bi) (hj:decide (j<0)=bj) (hx:Nums8 w A (tens i)) (hy:Nums8 w B (tens j)) (hl:(tens i).length≤1000000) (hl':(tens j).length≤1000000) :
 Calls Tryz.prog 74 #[.agg #[.bool bi,.slice A (tens i).length c],.agg #[.bool bj,.slice B (tens j).length d]] w (ypq w (i+j)):=by
 have hbb:(bi==bj)=false:=by simpa using hne
 obtain ⟨W0,hW0⟩:∃W0,W0=ygv w bi bj A B c d i j:=⟨_,rfl⟩;have LW:Below w.heap.size w W0:=by rw[hW0];exact zsz ..
 have HWs:Hid (W0.heap.size=w.heap.size+3):=by rw[hW0];exact yyv ..
 have HF:Hid (∀b1,Below W0.heap.size W0 b1→Three w bi bj A B c d i j b1):=fun b1 hb=>by rw[hW0] at hb;exact qyk hx hy hb
 clear hx hy;unfold ygv at hW0;by_cases hle:j.natAbs≤i.natAbs
 · have hq:i.natAbs-j.natAbs=(i+j).natAbs:=by cases bi<;>cases bj<;>simp at hi hj hne<;>omega
   have hcmp:¬oe i.natAbs j.natAbs<0:=by unfold oe;rw[if_neg (by omega)];split<;>omega
   have hcmp':0≤oe i.natAbs j.natAbs:=by omega
   have hs:decide (i+j<0)=(bi&&decide (0<(tens (i+j)).length)):=by
    by_cases h0:i+j=0
    · rw[h0,zax];simp
    · have:0<(tens (i+j)).length:=by rw[jl];exact zfv (by decide) (by omega)
      cases bi<;>cases bj<;>simp[this] at hi hj hne ⊢ <;>omega
   have HQ:=Lib.hid hq;have HLE:=Lib.hid hle;have HS:=Lib.hid hs;clear hq hcmp hs hi hj hne hle;go_enter Tryz.func74,Tryz.ntmps74
   have L:Below W0.heap.size W0 W0:=Below.refl _ _;go_upto_region 1 with fail
   rw[←hW0];clear hW0;obtain ⟨⟨x0,x1⟩,⟨y0,y1⟩,⟨z0,z1,z2,z3⟩,hx,hy⟩:=HF.out _ L;go_wp2_with (go_at_call 133;refine (rsizes_b A B c d i j _ hx hy (by omega) (by omega)).mono ?_;rintro e w1 ⟨rfl,hb⟩;have L:=kr L hb;clear x0 x1 y0 y1 z0 z1 z2 z3 hx hy hb;obtain ⟨⟨x0,x1⟩,⟨y0,y1⟩,⟨z0,z1,z2,z3⟩,hx,hy⟩:=HF.out _ L;refine Hid.out ?_)
   refine Lib.hid ?_;go_wp2_with (go_at_call 134;refine (yxx A B c d i j (i+j) _ hx hy (by omega) (by omega) HLE.out HQ.out).mono ?_;rintro e w1 ⟨A1,c1,rfl,ho1,hb⟩;have ho1:=ho1.mono (show W0.heap.size≤_ from L.size);have L:=kr L hb;clear x0 x1 y0 y1 z0 z1 z2 z3 hx hy hb;obtain ⟨⟨x0,x1⟩,⟨y0,y1⟩,⟨z0,z1,z2,z3⟩,hx,hy⟩:=HF.out _ L;refine Hid.out ?_)
   refine Lib.hid ?_;cases bi
   · go_wp2_with fail
     refine stpdq308 ?_;have h1:=HS.out;have h2:=HWs.out;have h3:=qlv (w:=w) (g0:=w.heap.size+1+1) ho1 (LW.trans (L.mono LW.size)) (by omega) (by omega) (.bool false) (.slice A1 (tens (i+j)).length c1);rw[Bool.false_and] at h1;rw[h1] at h3;exact h3
   · by_cases h0:0<(tens (i+j)).length
     · go_wp2_with fail
       refine bodyPost_ret (v:=.agg #[.bool true,.slice A1 (tens (i+j)).length c1]) (by simp[results,Tryz.results74,go_sem,z0,z1]) rfl ?_;have h1:=HS.out;have h2:=HWs.out;have h3:=qlv (w:=w) (g0:=w.heap.size+1+1) ho1 (LW.trans (L.mono LW.size)) (by omega) (by omega) (.bool true) (.slice A1 (tens (i+j)).length c1);rw[Bool.true_and,decide_eq_true h0] at h1;rw[h1] at h3;exact h3
     · have h00:(tens (i+j)).length=0:=by omega
       have hd0:decide (0<(tens (i+j)).length)=false:=by simpa using h0
       have H00:=Lib.hid h00;have HD0:=Lib.hid hd0;clear h00 hd0;go_wp2_with fail
       refine stpdq308 ?_;have h1:=HS.out;have h2:=HWs.out;have h3:=qlv (w:=w) (g0:=w.heap.size+1+1) ho1 (LW.trans (L.mono LW.size)) (by omega) (by omega) (.bool false) (.slice A1 (tens (i+j)).length c1);rw[Bool.true_and,HD0.out] at h1;rw[h1] at h3;exact h3
 · have hq:j.natAbs-i.natAbs=(i+j).natAbs:=by cases bi<;>cases bj<;>simp at hi hj hne<;>omega
   have hcmp:oe i.natAbs j.natAbs= -1:=by unfold oe;rw[if_pos (by omega)]
   have hs:decide (i+j<0)=bj:=by cases bi<;>cases bj<;>simp at hi hj hne ⊢ <;>omega
   have HQ:=Lib.hid hq;have HLE:=Lib.hid (show i.natAbs≤j.natAbs by omega);have HS:=Lib.hid hs;have HCM:=Lib.hid hcmp;clear hq hcmp hs hi hj hne hle;go_enter Tryz.func74,Tryz.ntmps74
   have L:Below W0.heap.size W0 W0:=Below.refl _ _;go_upto_region 1 with fail
   rw[←hW0];clear hW0;obtain ⟨⟨x0,x1⟩,⟨y0,y1⟩,⟨z0,z1,z2,z3⟩,hx,hy⟩:=HF.out _ L;go_wp2_with (go_at_call 133;refine (rsizes_b A B c d i j _ hx hy (by omega) (by omega)).mono ?_;rintro e w1 ⟨rfl,hb⟩;have L:=kr L hb;clear x0 x1 y0 y1 z0 z1 z2 z3 hx hy hb;obtain ⟨⟨x0,x1⟩,⟨y0,y1⟩,⟨z0,z1,z2,z3⟩,hx,hy⟩:=HF.out _ L;rw[HCM.out];refine Hid.out ?_)
   refine Lib.hid ?_;go_upto_region 6 with fail
   go_region_with (go_at_call 134;refine (yxx B A d c j i (i+j) _ (by first | exact hy | exact hy.drew) (by first | exact hx | exact hx.drew) (by omega) (by omega) HLE.out HQ.out).mono ?_;rintro e w1 ⟨A1,c1,rfl,ho1,hb⟩;have ho1:=ho1.mono (show W0.heap.size≤_ from L.size);have L:=kr L (by first | exact hb | exact qov hb);clear x0 x1 y0 y1 z0 z1 z2 z3 hx hy hb;obtain ⟨⟨x0,x1⟩,⟨y0,y1⟩,⟨z0,z1,z2,z3⟩,hx,hy⟩:=HF.out _ L)
   all_goals
    go_wp2_with fail
    refine bodyPost_ret (v:=.agg #[.bool bj,.slice A1 (tens (i+j)).length c1]) (by simp[results,Tryz.results74,go_sem,z0,z1]) rfl ?_;have h1:=HS.out;have h2:=HWs.out;have h3:=qlv (w:=w) (g0:=w.heap.size+1+1) ho1 (LW.trans (L.mono LW.size)) (by omega) (by omega) (.bool bj) (.slice A1 (tens (i+j)).length c1);rw[h1] at h3;exact h3
theorem rplus_any (hx:Nums8 w A (tens i)) (hy:Nums8 w B (tens j)) (hl:(tens i).length≤1000000) (hl':(tens j).length≤1000000) :
 Calls Tryz.prog 74 #[.agg #[.bool (decide (i<0)),.slice A (tens i).length c],.agg #[.bool (decide (j<0)),.slice B (tens j).length d]] w (ypq w (i+j)):=by
 by_cases h:decide (i<0)=decide (j<0)
 · rw[←h];exact rplus_same A B c d i j w _ rfl h.symm hx hy hl hl'
 · exact rplus_diff A B c d i j w _ _ h rfl rfl hx hy hl hl'
end
end Go.Proofs.YtmnmebdmpigddaaGreatDoor
namespace Go.Proofs.YtmnmebdmpigddaaGreatDoor
open Go.RowKit
theorem stpdq323 {P Q:Prop} (k:Q) (h:(Unit→Q)→P:=by
 intro zK;refine zx ?_;refine zbk (zl ?_);refine zf 34 (.bool false) rfl (by rw[decide_eq_false (by omega)]<;>rfl) ?_;exact zK ()):P:=h fun _=>k
theorem stpdq307 {P Q:Prop} (k:Q) (h:(Unit→Q)→P:=by
 intro zK;refine za rfl (qax (z:=((mg (rg a)/2^j/2:Nat):Int)) rfl rfl (by decide) (vdv (n:=2) (by omega)) (yjk ?_));exact zK ()):P:=h fun _=>k
theorem stpdq294 {P Q:Prop} (k:Q) (h:(Unit→Q)→P:=by
 intro zK;refine jm ?_;refine za rfl (zb en157 rfl ((below_any_r _ a ha).mono ?_));exact zK ()):P:=h fun _=>k
theorem yjk {P Q:Prop} (k:Q) (h:(Unit→Q)→P:=by
 intro zK;refine zu ?_;refine yo ?_;refine zn ?_;exact zK ()):P:=h fun _=>k
theorem gj {P Q:Prop} (k:Q) (h:(Unit→Q)→P:=by
 intro zK;refine za rfl (zak zr48 ?_);exact zK ()):P:=h fun _=>k
theorem zjv {P Q:Prop} (k:Q) (h:(Unit→Q)→P:=by
 intro zK;refine zk (yb zuv rfl rfl Bb1 rfl rfl (Nat.le_of_ble_eq_true rfl) ?_);exact zK ()):P:=h fun _=>k
theorem dqz143 {P:Prop} (h:P:=by
 rw[decide_eq_true (by omega),decide_eq_true (by omega)]):P:=h
theorem dqz26 {P:Prop} (h:P:=by
 replace Bb1:=Bx;replace E:=E.step1 Eb1 Mut.head;obtain ⟨HF,LW,XLW,E⟩:=frg HF LW E XLW (Y:=No) (Mut.skip Mut.nil_) (Per.blkN Bb1 NotIn.nil);refine zu ?_;exact ⟨A1,c1,by rw[hT,hN,hs,Bool.false_and,←hlos];rfl,by rw[hT];exact (HF.on E).here.1.1.2,hge0,(LW.step E XLW).toBelow⟩):P:=h
theorem dqz23 {P:Prop} (h:P:=by
 replace Bb1:=Bx;replace E:=E.step1 Eb1 Mut.head;obtain ⟨HF,LW,XLW,E⟩:=frg HF LW E XLW (Y:=No) (Mut.skip Mut.nil_) (Per.blkN Bb1 NotIn.nil);refine zu ?_;exact ⟨A1,c1,by rw[hT,hN,hs,Bool.true_and,←tens_len_pos,←hlos];rfl,by rw[hT];exact (HF.on E).here.1.1.2,hge0,(LW.step E XLW).toBelow⟩):P:=h
attribute [local irreducible] OW RS CW EW
noncomputable def vw (a:Nat):Int:=if ng a then -((qc a:Nat):Int) else ((qc a:Nat):Int)
noncomputable def ynq (a:Nat):Bool:=@decide (¬isWh (rg a)) (Classical.propDecidable _)
theorem znz (a:Nat):(vw a).natAbs=qc a:=by unfold vw;split<;>omega
theorem tens_abs {i j:Int} (h:i.natAbs=j.natAbs):tens i=tens j:=by rw[jl,jl,h]
theorem yyq (a:Nat):decide (vw a<0)=(ng a&&decide (0<qc a)):=by
 unfold vw;cases ng a with
 | true=>
  simp only[if_true,Bool.true_and]
  by_cases h:0<qc a
  · rw[decide_eq_true h,decide_eq_true (by omega)]
  · rw[decide_eq_false h,decide_eq_false (by omega)]
 | false=>simp only[Bool.false_eq_true,if_false,Bool.false_and];exact decide_eq_false (by omega)
theorem vgx {a:Nat} {p:Prop} [Decidable p] (h:p↔ ¬isWh (rg a)):decide p=ynq a:=by
 unfold ynq;by_cases hp:p
 · rw[decide_eq_true hp];exact (@decide_eq_true _ (Classical.propDecidable _) (h.1 hp)).symm
 · rw[decide_eq_false hp];exact (@decide_eq_false _ (Classical.propDecidable _) (fun k=>hp (h.2 k))).symm
theorem cut_div {m J e P:Nat} (hP:P=2^J*2^e):m*2^e/P=m/2^J∧(P∣m*2^e↔m%2^J=0):=by
 subst hP;refine ⟨Nat.mul_div_mul_right _ _ (jn e),?_⟩;rw[Nat.mul_dvd_mul_iff_right (jn e)];exact Nat.dvd_iff_mod_eq_zero
theorem wholeN_lo {a:Nat} (h:ex (rg a)≤1074):qc a=mg (rg a)/2^(1074-ex (rg a))∧(isWh (rg a)↔mg (rg a)%2^(1074-ex (rg a))=0):=
 cut_div (qqz (p:=1074) (q:=1074-ex (rg a)) (s:=ex (rg a)) rfl (by omega))
theorem wholeN_hi {a:Nat} (h:1074≤ex (rg a)):qc a=mg (rg a)*2^(ex (rg a)-1074)∧isWh (rg a):=
 ⟨quq (jn 1074) (yrk h (mg (rg a))),isWh_ex h⟩
theorem low_zero {m j J:Nat} (hj:j≤J) (h:m/2^j=0):m/2^J=0∧(m%2^J=0↔m%2^j=0):=by
 have h1:m<2^j:=by
  rcases Nat.lt_or_ge m (2^j) with h' | h'
  · exact h'
  · have:=Nat.div_pos h' (jn j);omega
 have h2:=two_mono hj rfl;rw[Nat.div_eq_of_lt (by omega),Nat.mod_eq_of_lt h1,Nat.mod_eq_of_lt (by omega)];exact ⟨rfl,Iff.rfl⟩
theorem dec_iff {p q:Prop} [Decidable p] [Decidable q] (h:p↔q):decide p=decide q:=by
 exact dqz128
theorem mod_round (m j:Nat):m%2^(j+1)≠0↔(m%2^j≠0∨m/2^j%2=1):=by
 rw[Nat.mod_pow_succ];have hp:=jn j;rcases Nat.mod_two_eq_zero_or_one (m/2^j) with h | h<;>rw[h]<;>simp
theorem div_round (m j:Nat):m/2^j/2=m/2^(j+1):=by rw[Nat.div_div_eq_div_mul,Nat.pow_succ]
theorem wl_aux {m e A B C P x:Nat} (hm:m<A) (he:2^e≤B) (hAB:A*B=C*P) (hP:0<P) (hx:x=m*2^e):x/P<C:=by
 refine (Nat.div_lt_iff_lt_mul hP).2 ?_;rw[hx,←hAB];exact Nat.lt_of_le_of_lt (Nat.mul_le_mul_left _ he) (Nat.mul_lt_mul_of_pos_right hm (Nat.lt_of_lt_of_le (jn e) he))
theorem two_mono2 {k K P Q:Nat} (hQ:Q=2^k) (hP:P=2^K) (h:k≤K):Q≤P:=by rw[hQ,hP];exact Nat.pow_le_pow_right (by decide) h
theorem p2098:2^53*2^2045=2^1024*2^1074:=by
 have h:∀P,P=2^2098→2^53*2^2045=2^1024*2^1074:=fun P hP=>(qqz (p:=2098) (q:=53) (s:=2045) hP (by decide)).symm.trans (qqz (p:=2098) (q:=1024) (s:=1074) hP (by decide));exact h _ rfl
theorem wholeN_lt {a:Nat} (hf:rg a<9218868437227405312):qc a<2^1024:=
 wl_aux (A:=2^53) (B:=2^2045) (mg_lt (rg a)) (two_mono2 rfl rfl (by unfold ex;split<;>omega)) p2098 (jn 1074) rfl
theorem pow_30 {K x B:Nat} (hK:K=x*30) (h:2^x≤B):2^K≤B^30:=by rw[hK,Nat.pow_mul];exact Nat.pow_le_pow_left h 30
theorem B18_30:2^1024≤B18^30:=by
 have h:∀K,K=59*30→2^1024≤B18^30:=fun K hK=>Nat.le_trans (two_mono (k:=1024) (K:=K) (by omega) rfl) (pow_30 (x:=59) hK (by decide));exact h _ rfl
theorem zmq {a:Nat} (hf:rg a<9218868437227405312):(vw a).natAbs<B18^30:=by rw[znz];exact Nat.lt_of_lt_of_le (wholeN_lt hf) B18_30
theorem nums8_ne {w:World} {A p:Option Addr} {xs:List Nat} {g n c:Nat} {T:TypeId} {u:Bool} (h:Nums8 w A xs) (h0:0<xs.length) (hb:Blk w g T #[.bool u,.slice p n c]):∀q,A=some q→q.block≠g:=by
 intro q hq e;obtain ⟨b,o,hA,_,hc⟩:=h.2 h0;rw[hA] at hq;obtain rfl:=Option.some.inj hq;have e2:b=g:=e;subst e2;have h1:=hc 0 h0;rw[hb.cell] at h1;rcases o with _ | _ | o
 · simp at h1
 · simp at h1
 · simp at h1
theorem tens_len_pos (n:Nat):decide ((0:Int)<(((tens ((n:Nat):Int)).length:Nat):Int))=decide (0<n):=by
 by_cases h:n=0
 · subst h;rw[show ((0:Nat):Int)=0 from rfl,zax];rfl
 · have:=zix (j:=((n:Nat):Int)) (by omega);exact dqz143
def RetNumB (W:World) (v:Int) (b:Bool) (e:Ending) (w':World):Prop:=∃A c,e= .returned (.tuple #[.agg #[.bool (decide (v<0)),.slice A (tens v).length c],.bool b])∧Nums8 w' A (tens v)∧(∀q,A=some q→W.heap.size≤q.block)∧Below W.heap.size W w'
section
variable (w:World) (a:Nat) (ha:a<18446744073709551616) (hf:rg a<9218868437227405312)
include ha hf
theorem cut_hi (hc:1074≤ex (rg a)):Calls Tryz.prog 105 #[.int .u64 ((a:Nat):Int)] w (RetNumB w (vw a) (ynq a)):=by
 obtain ⟨hw,hi⟩:=wholeN_hi hc;have hma:=mg_lt (rg a);have hxa:ex (rg a)≤2045:=by unfold ex;split<;>omega
 have hwl:=zmq hf;refine zc Tryz.func105 rfl Tryz.ntmps105 rfl ?_;obtain ⟨HF,LW,XLW,E⟩:=wk0 w;refine zm ?_;refine gj ?_;intro gb1 w2 Bb1 Eb1 Gb1;obtain ⟨Gb1,HF,E,XLW⟩:=alx HF LW E XLW Eb1 Gb1;refine zl ?_;refine za rfl (zb en156 rfl ((parts_any _ a ha hf).mono ?_));rintro e w3 ⟨rfl,hb⟩;refine ⟨_,rfl,?_⟩;have Ec:=Ext.of_below hb No;replace Bb1:=Bb1.extN Ec NotIn.nil;replace E:=E.trans Ec.no;refine jm ?_;refine zbk (zl ?_);refine zf 15 (.bool false) rfl (by rw[decide_eq_false (by omega)]<;>rfl) ?_;have hmg0:4503599627370496≤mg (rg a):=mg_low (by have:=hc;unfold ex at this;split at this<;>omega);have hlos:false=ynq a:=vgx (p:=False) ⟨fun h=>h.elim,fun h=>h hi⟩;have hlen:∀i,i≤ex (rg a)-1074→(tens ((mg (rg a)*2^i:Nat):Int)).length≤540:=fun i hi=>zsq (by
  rw[Int.natAbs_natCast];rw[znz,hw] at hwl;exact Nat.lt_of_le_of_lt (Nat.mul_le_mul_left _ (Nat.pow_le_pow_right (by decide) hi)) hwl)
 have hpos:∀i,0<(tens ((mg (rg a)*2^i:Nat):Int)).length:=fun i=>zix (by have:=Nat.mul_pos (show 0<mg (rg a) by omega) (jn i);omega);refine jm ?_;refine zdz ?_;refine za rfl (zb en22 rfl ((zok ((mg (rg a):Nat):Int) _ (by omega) (by omega)).mono ?_));rintro e w4 ⟨A2,c2,rfl,o2,hb⟩;refine ⟨_,rfl,?_⟩;have XC:∀q9,(Mut [(some gb1)]) q9→q9<w3.heap.size:=(Mut.grow Mut.none_ (ze Bb1.lt));have SC:=Nat.le_trans LW.size E.size;have Ec:=Ext.of_below hb No;replace Bb1:=Bb1.extN Ec NotIn.nil;replace E:=E.trans Ec.no;have hge2:∀q,A2=some q→w.heap.size≤q.block:=fun q hq=>Nat.le_trans SC (o2.ge q hq).1;obtain ⟨HF,LW,E⟩:=fra HF LW E XLW (Per.own8X o2 XC);refine gj ?_;intro gb5 w6 Bb5 Eb5 Gb5;have Db5_b1:Apart (some gb5) (some gb1):=Apart.of_lt (ze Bb1.lt) Gb5;have Db1_b5:=Db5_b1.symm;replace Bb1:=Bb1.extN Eb5 NotIn.nil;obtain ⟨Gb5,HF,E,XLW⟩:=alx HF LW E XLW Eb5 Gb5;refine zk (yb zuv rfl rfl Bb5 rfl rfl (Nat.le_of_ble_eq_true rfl) ?_);intro w7 Bx Eb5;replace Bb5:=Bx;replace Bb1:=Bb1.extN Eb5 (NotIn.cons Db1_b5 NotIn.nil);replace E:=E.step1 Eb5 Mut.head;refine zx ?_;have e0:mg (rg a)=mg (rg a)*2^0:=by rw[Nat.pow_zero,Nat.mul_one]
 have hn0:Nums8 w7 A2 (tens ((mg (rg a)*2^0:Nat):Int)):=by rw[←e0];exact (HF.on E).here.2
 have hne5:=nums8_ne hn0 (hpos 0) Bb5;have hne1:=nums8_ne hn0 (hpos 0) Bb1;replace Bb5:Blk w7 gb5 48 #[.bool (decide (((mg (rg a)*2^0:Nat):Int)<0)),.slice A2 (tens ((mg (rg a)*2^0:Nat):Int)).length c2]:=by rw[←e0];exact Bb5
 have hna0:∀q,A2=some q→ ¬Mut [(some gb5),(some gb1)] q.block:=fun q hq h=>h.elim (fun e=>hne5 q hq (Option.some.inj e)) (fun h=>h.elim (fun e=>hne1 q hq (Option.some.inj e)) id);replace HF:=HF.on E;replace LW:=LW.step E XLW;replace E:=erx (Mut [(some gb5),(some gb1)]) w7;refine yw (ι:=Nat×Option Addr×Nat) (fun (i,A1,c1)=>[(0,.int .u64 ((a:Nat):Int)),(2,.pointer (some ⟨gb1,0,none⟩)),(4,.int .u64 ((mg (rg a):Nat):Int)),(5,.int .i64 (((ex (rg a):Nat):Int)-1074-((i:Nat):Int))),(6,.bool false),(7,.pointer (some ⟨gb5,0,none⟩))]) (fun (i,A1,c1) w'=>Ext (Mut [(some gb5),(some gb1)]) w7 w'∧Blk w' gb5 48 (#[.bool (decide (((mg (rg a)*2^i:Nat):Int)<0)),.slice A1 (tens ((mg (rg a)*2^i:Nat):Int)).length c1])∧Blk w' gb1 48 (#[.bool false,.slice none 0 0])∧(i≤ex (rg a)-1074∧Nums8 w' A1 (tens ((mg (rg a)*2^i:Nat):Int))∧(∀q,A1=some q→ ¬Mut [(some gb5),(some gb1)] q.block)∧(∀q,A1=some q→w.heap.size≤q.block))) (fun (i,A1,c1)=>ex (rg a)-1074-i) (0,A2,c2) ⟨rfl,rfl,rfl,congrArg (fun z:Int=>some (Value.int .i64 z)) (by omega),rfl,rfl,trivial⟩ ⟨Ext.refl _ _,(by exact Bb5),(by exact Bb1),⟨Nat.zero_le _,hn0,hna0,hge2⟩⟩ ?_;have LTb5:=(ze Bb5.lt);have LTb1:=(ze Bb1.lt);rintro ⟨i,A1,c1⟩ w9 ⟨M8,Bb5,Bb1,⟨hi1,hnum,hna,hge0⟩⟩;have XM8:Gro (Mut [(some gb5),(some gb1)]) (Mut [(some gb5),(some gb1)]) w7:=(Mut.grow (Mut.grow Mut.none_ (fun k e=>Or.inl ((Mut.tail Mut.head) k e))) (fun k e=>Or.inl (Mut.head k e)));replace E:=E.trans M8;replace HF:=HF.on E;replace LW:=LW.step E XLW;replace E:=erx (Mut [(some gb5),(some gb1)]) w9;clear LTb5;clear LTb1;replace HF:=HF.on E;replace LW:=LW.step E XLW;replace M8:=M8.step E XM8;replace E:=erx (Mut [(some gb5),(some gb1)]) w9;replace HF:=HF.and (Per.nums8N hnum hna);refine zl ?_;refine zf 34 (.bool (decide (i<ex (rg a)-1074))) rfl (kb (by omega)) (zj 34 rfl (fun hlt=>?_) (fun hlt=>?_))
 ·
  have hlt:=of_decide_eq_true hlt;refine zu ?_;refine zd 37 (.bool true) rfl (by rw[decide_eq_true (by omega)]<;>rfl) ?_;have eV:((mg (rg a)*2^i:Nat):Int)+((mg (rg a)*2^i:Nat):Int)=((mg (rg a)*2^(i+1):Nat):Int):=by rw[Nat.pow_succ,←Nat.mul_assoc];omega
  refine yi ?_;refine za rfl (zb en74 rfl ((rplus_any A1 A1 c1 c1 _ _ _ (HF.on E).here.2 (HF.on E).here.2 (Nat.le_trans (hlen i hi1) (by decide)) (Nat.le_trans (hlen i hi1) (by decide))).mono ?_));rintro e w10 ⟨A3,c3,rfl,o3,hb⟩;refine ⟨_,rfl,?_⟩;have XC:∀q9,(Mut [(some gb5),(some gb1)]) q9→q9<w9.heap.size:=(Mut.grow (Mut.grow Mut.none_ (ze Bb1.lt)) (ze Bb5.lt));have SC:=Nat.le_trans LW.size E.size;have Ec:=Ext.of_below hb No;replace Bb5:=Bb5.extN Ec NotIn.nil;replace Bb1:=Bb1.extN Ec NotIn.nil;replace E:=E.trans Ec.no;have XN3:=XC;have hge3:∀q,A3=some q→w.heap.size≤q.block:=fun q hq=>Nat.le_trans SC (o3.ge q hq).1;have hna3:∀q,A3=some q→ ¬Mut [(some gb5),(some gb1)] q.block:=fun q hq e=>by have h1:=XN3 _ e;have h2:=(o3.ge q hq).1;omega
  replace HF:=HF.on E;replace M8:=M8.step E XM8;replace E:=erx (Mut [(some gb5),(some gb1)]) w10;replace HF:=HF.and (Per.own8X o3 XC);refine zk (yb zuv rfl rfl Bb5 rfl rfl (Nat.le_of_ble_eq_true rfl) ?_);intro w11 Bx Eb5;replace Bb5:=Bx;replace Bb1:=Bb1.extN Eb5 (NotIn.cons Db1_b5 NotIn.nil);replace E:=E.step1 Eb5 Mut.head;refine zu ?_;refine yl ?_;refine zm ?_;rw[eV] at Bb5;exact zo (i+1,A3,c3) (by show ex (rg a)-1074-(i+1)<ex (rg a)-1074-i;omega) ⟨rfl,rfl,rfl,congrArg (fun z:Int=>some (Value.int .i64 z)) (by omega),rfl,rfl,trivial⟩ ⟨M8.step E XM8,(by exact Bb5),(by exact Bb1),by omega,by rw[←eV];exact (HF.on E).here.2,hna3,hge3⟩
 ·
  have hlt:=of_decide_eq_false hlt;have hie:i=ex (rg a)-1074:=by omega
  have hv:mg (rg a)*2^i=qc a:=by rw[hie,hw]
  have hT:tens (vw a)=tens ((mg (rg a)*2^i:Nat):Int):=tens_abs (by rw[znz,Int.natAbs_natCast,hv]);have hN:=yyq a;rw[←hv] at hN;refine stpdq294 ?_;rintro e w12 ⟨rfl,hb⟩;refine ⟨_,rfl,?_⟩;have Ec:=Ext.of_below hb No;replace Bb5:=Bb5.extN Ec NotIn.nil;replace Bb1:=Bb1.extN Ec NotIn.nil;replace E:=E.trans Ec.no;refine stp ?_;refine zj 45 rfl (fun hs=>?_) (fun hs=>?_)
  ·
   refine zl ?_;refine zk (yb sz4 rfl rfl Bb5 rfl rfl (Nat.le_of_ble_eq_true rfl) ?_);intro w13 Bx Eb5;replace Bb5:=Bx;replace Bb1:=Bb1.extN Eb5 (NotIn.cons Db1_b5 NotIn.nil);replace E:=E.step1 Eb5 Mut.head;obtain ⟨HF,LW,XLW,E⟩:=frg HF LW E XLW (Y:=Mut [(some gb1)]) (Mut.skip (Mut.keep Mut.nil_)) (Per.blkN Bb5 (NotIn.cons Db5_b1 NotIn.nil));refine zl ?_;refine zjv ?_;intro w14 Bx Eb1;exact dqz23
  ·
   refine zl ?_;refine zk (yb sz4 rfl rfl Bb5 rfl rfl (Nat.le_of_ble_eq_true rfl) ?_);intro w15 Bx Eb5;replace Bb5:=Bx;replace Bb1:=Bb1.extN Eb5 (NotIn.cons Db1_b5 NotIn.nil);replace E:=E.step1 Eb5 Mut.head;obtain ⟨HF,LW,XLW,E⟩:=frg HF LW E XLW (Y:=Mut [(some gb1)]) (Mut.skip (Mut.keep Mut.nil_)) (Per.blkN Bb5 (NotIn.cons Db5_b1 NotIn.nil));refine zl ?_;refine zjv ?_;intro w16 Bx Eb1;exact dqz26
theorem cut_lo (hc:ex (rg a)<1074):Calls Tryz.prog 105 #[.int .u64 ((a:Nat):Int)] w (RetNumB w (vw a) (ynq a)):=by
 obtain ⟨hw,hi⟩:=wholeN_lo (Nat.le_of_lt hc);obtain ⟨J,hJ⟩:∃J,J=1074-ex (rg a):=⟨_,rfl⟩;rw[←hJ] at hw hi;have hmle:∀j,mg (rg a)/2^j≤mg (rg a):=fun j=>Nat.div_le_self _ _;have hma:=mg_lt (rg a);have hxa:ex (rg a)≤2045:=by unfold ex;split<;>omega
 have hwl:=zmq hf;refine zc Tryz.func105 rfl Tryz.ntmps105 rfl ?_;obtain ⟨HF,LW,XLW,E⟩:=wk0 w;refine zm ?_;refine gj ?_;intro gb1 w2 Bb1 Eb1 Gb1;obtain ⟨Gb1,HF,E,XLW⟩:=alx HF LW E XLW Eb1 Gb1;refine zl ?_;refine za rfl (zb en156 rfl ((parts_any _ a ha hf).mono ?_));rintro e w3 ⟨rfl,hb⟩;refine ⟨_,rfl,?_⟩;have Ec:=Ext.of_below hb No;replace Bb1:=Bb1.extN Ec NotIn.nil;replace E:=E.trans Ec.no;refine jm ?_;replace HF:=HF.on E;replace LW:=LW.step E XLW;replace E:=erx (Mut [(some gb1)]) w3;refine yw (ι:=Nat) (fun j=>[(0,.int .u64 ((a:Nat):Int)),(2,.pointer (some ⟨gb1,0,none⟩)),(4,.int .u64 ((mg (rg a)/2^j:Nat):Int)),(5,.int .i64 (((ex (rg a):Nat):Int)-1074+((j:Nat):Int))),(6,.bool (decide (mg (rg a)%2^j≠0)))]) (fun j w'=>Ext (Mut [(some gb1)]) w3 w'∧Blk w' gb1 48 (#[.bool false,.slice none 0 0])∧(j≤J)) (fun j=>J-j) 0 ⟨rfl,rfl,congrArg (fun z:Nat=>some (Value.int .u64 (z:Int))) (by rw[Nat.pow_zero,Nat.div_one]),congrArg (fun z:Int=>some (Value.int .i64 z)) (by omega),congrArg (fun z:Bool=>some (Value.bool z)) (by rw[Nat.pow_zero,Nat.mod_one];rfl),trivial⟩ ⟨Ext.refl _ _,(by exact Bb1),Nat.zero_le _⟩ ?_;have LTb1:=(ze Bb1.lt);rintro j w5 ⟨M4,Bb1,hj⟩;have XM4:Gro (Mut [(some gb1)]) (Mut [(some gb1)]) w3:=(Mut.grow Mut.none_ (fun k e=>Or.inl (Mut.head k e)));replace E:=E.trans M4;replace HF:=HF.on E;replace LW:=LW.step E XLW;replace E:=erx (Mut [(some gb1)]) w5;clear LTb1;have hmj:=hmle j;refine zl ?_;refine zf 15 (.bool (decide (j<J))) rfl (kb (by omega)) (zj 15 rfl (fun hlt=>?_) (fun hlt=>?_))
 ·
  have hlt:=of_decide_eq_true hlt;refine zu ?_;refine zd 18 (.bool (decide (0<mg (rg a)/2^j))) rfl (kb (by omega)) (zg rfl (fun hm=>?_) (fun hm=>?_))
  ·
   refine zp ?_;refine zj 20 rfl (fun hlo=>?_) (fun hlo=>?_)
   ·
    have hlo:=of_decide_eq_true hlo;refine zz ?_;refine stpdq307 ?_;exact zo (j+1) (by omega) ⟨rfl,rfl,congrArg (fun z:Nat=>some (Value.int .u64 (z:Int))) (div_round _ _),congrArg (fun z:Int=>some (Value.int .i64 z)) (by omega),congrArg (fun z:Bool=>some (Value.bool z)) ((decide_eq_true ((mod_round _ _).2 (.inl hlo))).symm),trivial⟩ ⟨M4.step E XM4,(by exact Bb1),by omega⟩
   ·
    have hlo:=of_decide_eq_false hlo;refine stp ?_;refine onx rfl (zgv (z:=((mg (rg a)/2^j%2:Nat):Int)) rfl rfl (by decide) (qbk _ 2) (yi ?_));refine stpdq307 ?_;exact zo (j+1) (by omega) ⟨rfl,rfl,congrArg (fun z:Nat=>some (Value.int .u64 (z:Int))) (div_round _ _),congrArg (fun z:Int=>some (Value.int .i64 z)) (by omega),congrArg (fun z:Bool=>some (Value.bool z)) (by rw[show ((((mg (rg a)/2^j%2:Nat):Int))==1)=decide (mg (rg a)/2^j%2=1) from (eqI_nat (n:=1)).symm];exact dec_iff (by rw[mod_round];exact ⟨.inr,fun h=>h.resolve_left hlo⟩)),trivial⟩ ⟨M4.step E XM4,(by exact Bb1),by omega⟩
  ·
   have hm:=of_decide_eq_false hm;have hm0:mg (rg a)/2^j=0:=Nat.eq_zero_of_not_pos hm;obtain ⟨z1,z2⟩:=low_zero (J:=J) hj hm0;have hlos:decide (mg (rg a)%2^j≠0)=ynq a:=vgx (by rw[hi,z2]);have hMw:mg (rg a)/2^j=qc a:=by rw[hw,z1,hm0]
   obtain ⟨M,hM⟩:∃M,M=mg (rg a)/2^j:=⟨_,rfl⟩;rw[←hM] at hmj hMw;refine zd 4 (.int .u64 ((M:Nat):Int)) rfl (by rw[hM]<;>rfl) (yi ?_);refine zdz ?_;refine za rfl (zb en22 rfl ((zok ((M:Nat):Int) _ (by omega) (by omega)).mono ?_));rintro e w6 ⟨A1,c1,rfl,o2,hb⟩;refine ⟨_,rfl,?_⟩;have XC:∀q9,(Mut [(some gb1)]) q9→q9<w5.heap.size:=(Mut.grow Mut.none_ (ze Bb1.lt));have SC:=Nat.le_trans LW.size E.size;have Ec:=Ext.of_below hb No;replace Bb1:=Bb1.extN Ec NotIn.nil;replace E:=E.trans Ec.no;have hge0:∀q,A1=some q→w.heap.size≤q.block:=fun q hq=>Nat.le_trans SC (o2.ge q hq).1;obtain ⟨HF,LW,E⟩:=fra HF LW E XLW (Per.own8X o2 XC);refine gj ?_;intro gb7 w8 Bb7 Eb7 Gb7;have Db7_b1:Apart (some gb7) (some gb1):=Apart.of_lt (ze Bb1.lt) Gb7;have Db1_b7:=Db7_b1.symm;replace Bb1:=Bb1.extN Eb7 NotIn.nil;obtain ⟨Gb7,HF,E,XLW⟩:=alx HF LW E XLW Eb7 Gb7;refine zk (yb zuv rfl rfl Bb7 rfl rfl (Nat.le_of_ble_eq_true rfl) ?_);intro w9 Bx Eb7;replace Bb7:=Bx;replace Bb1:=Bb1.extN Eb7 (NotIn.cons Db1_b7 NotIn.nil);replace E:=E.step1 Eb7 Mut.head;refine stpdq323 ?_;have hv:M=qc a:=hMw;have hT:tens (vw a)=tens ((M:Nat):Int):=tens_abs (by rw[znz,Int.natAbs_natCast,hv]);have hN:=yyq a;rw[←hv] at hN;refine stpdq294 ?_;rintro e w10 ⟨rfl,hb⟩;refine ⟨_,rfl,?_⟩;have Ec:=Ext.of_below hb No;replace Bb7:=Bb7.extN Ec NotIn.nil;replace Bb1:=Bb1.extN Ec NotIn.nil;replace E:=E.trans Ec.no;refine stp ?_;refine zj 45 rfl (fun hs=>?_) (fun hs=>?_)
   ·
    refine zl ?_;refine zk (yb sz4 rfl rfl Bb7 rfl rfl (Nat.le_of_ble_eq_true rfl) ?_);intro w11 Bx Eb7;replace Bb7:=Bx;replace Bb1:=Bb1.extN Eb7 (NotIn.cons Db1_b7 NotIn.nil);replace E:=E.step1 Eb7 Mut.head;obtain ⟨HF,LW,XLW,E⟩:=frg HF LW E XLW (Y:=Mut [(some gb1)]) (Mut.skip (Mut.keep Mut.nil_)) (Per.blkN Bb7 (NotIn.cons Db7_b1 NotIn.nil));refine zl ?_;refine zjv ?_;intro w12 Bx Eb1;exact dqz23
   ·
    refine zl ?_;refine zk (yb sz4 rfl rfl Bb7 rfl rfl (Nat.le_of_ble_eq_true rfl) ?_);intro w13 Bx Eb7;replace Bb7:=Bx;replace Bb1:=Bb1.extN Eb7 (NotIn.cons Db1_b7 NotIn.nil);replace E:=E.step1 Eb7 Mut.head;obtain ⟨HF,LW,XLW,E⟩:=frg HF LW E XLW (Y:=Mut [(some gb1)]) (Mut.skip (Mut.keep Mut.nil_)) (Per.blkN Bb7 (NotIn.cons Db7_b1 NotIn.nil));refine zl ?_;refine zjv ?_;intro w14 Bx Eb1;exact dqz26
 ·
  have hlt:=of_decide_eq_false hlt;obtain rfl:j=J:=by omega
  have hlos:decide (mg (rg a)%2^j≠0)=ynq a:=vgx (by rw[hi]);have hMw:mg (rg a)/2^j=qc a:=hw.symm;obtain ⟨M,hM⟩:∃M,M=mg (rg a)/2^j:=⟨_,rfl⟩;rw[←hM] at hmj hMw;refine zf 4 (.int .u64 ((M:Nat):Int)) rfl (by rw[hM]<;>rfl) (jm ?_);refine zdz ?_;refine za rfl (zb en22 rfl ((zok ((M:Nat):Int) _ (by omega) (by omega)).mono ?_));rintro e w15 ⟨A1,c1,rfl,o2,hb⟩;refine ⟨_,rfl,?_⟩;have XC:∀q9,(Mut [(some gb1)]) q9→q9<w5.heap.size:=(Mut.grow Mut.none_ (ze Bb1.lt));have SC:=Nat.le_trans LW.size E.size;have Ec:=Ext.of_below hb No;replace Bb1:=Bb1.extN Ec NotIn.nil;replace E:=E.trans Ec.no;have hge0:∀q,A1=some q→w.heap.size≤q.block:=fun q hq=>Nat.le_trans SC (o2.ge q hq).1;obtain ⟨HF,LW,E⟩:=fra HF LW E XLW (Per.own8X o2 XC);refine gj ?_;intro gb16 w17 Bb16 Eb16 Gb16;have Db16_b1:Apart (some gb16) (some gb1):=Apart.of_lt (ze Bb1.lt) Gb16;have Db1_b16:=Db16_b1.symm;replace Bb1:=Bb1.extN Eb16 NotIn.nil;obtain ⟨Gb16,HF,E,XLW⟩:=alx HF LW E XLW Eb16 Gb16;refine zk (yb zuv rfl rfl Bb16 rfl rfl (Nat.le_of_ble_eq_true rfl) ?_);intro w18 Bx Eb16;replace Bb16:=Bx;replace Bb1:=Bb1.extN Eb16 (NotIn.cons Db1_b16 NotIn.nil);replace E:=E.step1 Eb16 Mut.head;refine stpdq323 ?_;have hv:M=qc a:=hMw;have hT:tens (vw a)=tens ((M:Nat):Int):=tens_abs (by rw[znz,Int.natAbs_natCast,hv]);have hN:=yyq a;rw[←hv] at hN;refine stpdq294 ?_;rintro e w19 ⟨rfl,hb⟩;refine ⟨_,rfl,?_⟩;have Ec:=Ext.of_below hb No;replace Bb16:=Bb16.extN Ec NotIn.nil;replace Bb1:=Bb1.extN Ec NotIn.nil;replace E:=E.trans Ec.no;refine stp ?_;refine zj 45 rfl (fun hs=>?_) (fun hs=>?_)
  ·
   refine zl ?_;refine zk (yb sz4 rfl rfl Bb16 rfl rfl (Nat.le_of_ble_eq_true rfl) ?_);intro w20 Bx Eb16;replace Bb16:=Bx;replace Bb1:=Bb1.extN Eb16 (NotIn.cons Db1_b16 NotIn.nil);replace E:=E.step1 Eb16 Mut.head;obtain ⟨HF,LW,XLW,E⟩:=frg HF LW E XLW (Y:=Mut [(some gb1)]) (Mut.skip (Mut.keep Mut.nil_)) (Per.blkN Bb16 (NotIn.cons Db16_b1 NotIn.nil));refine zl ?_;refine zjv ?_;intro w21 Bx Eb1;exact dqz23
  ·
   refine zl ?_;refine zk (yb sz4 rfl rfl Bb16 rfl rfl (Nat.le_of_ble_eq_true rfl) ?_);intro w22 Bx Eb16;replace Bb16:=Bx;replace Bb1:=Bb1.extN Eb16 (NotIn.cons Db1_b16 NotIn.nil);replace E:=E.step1 Eb16 Mut.head;obtain ⟨HF,LW,XLW,E⟩:=frg HF LW E XLW (Y:=Mut [(some gb1)]) (Mut.skip (Mut.keep Mut.nil_)) (Per.blkN Bb16 (NotIn.cons Db16_b1 NotIn.nil));refine zl ?_;refine zjv ?_;intro w23 Bx Eb1;exact dqz26
theorem cut_any:Calls Tryz.prog 105 #[.int .u64 ((a:Nat):Int)] w (RetNumB w (vw a) (ynq a)):=by
 rcases Nat.lt_or_ge (ex (rg a)) 1074 with h | h
 · exact cut_lo w a ha hf h
 · exact cut_hi w a ha hf h
end
end Go.Proofs.YtmnmebdmpigddaaGreatDoor
