/- Texts of this claim. -/
import Derived.Test.YtebjkmjfcijebaaGreatB17
import Derived.Lib.Bytealg
set_option maxRecDepth 100000
namespace Go.Proofs.YtebjkmjfcijebaaGreat
open Go.RowKit
def zbx (k:Int):Bool:=decide (1≤k)&&decide (k≤3)
def PV.cn (v:PV):Bool:=if v.k=1 then false else v.neg
def PV.cx (v:PV):List Nat:=if v.k=1 then (if v.yes then [1] else []) else v.xs
noncomputable def ordC (a b:PV):Int:=
 if a.k=3 then (if b.k=3 then cmpF a.bits b.bits else zzq a.bits b.cn b.cx)
 else if b.k=3 then 0-zzq b.bits a.cn a.cx else cmpO (yq a.cn a.cx&&yq b.cn b.cx) (num a.cn a.cx) (num b.cn b.cx)
def zsz (a b:PV):Bool:=if a.k=3 then (if b.k=3 then jd a.bits b.bits else zcq a.bits b.cn b.cx) else if b.k=3 then zcq b.bits a.cn a.cx else true
def eqS (a b:PV):Bool:=if a.k==b.k then (a.s.toList==b.s.toList) else false
noncomputable def eqV (a b:PV):Bool:=if a.good&&b.good then (if zbx a.k&&zbx b.k then (if zsz a b then (ordC a b==0) else false) else eqS a b) else false
noncomputable def ordV (a b:PV):Int×Bool×Int:=
 if a.good&&b.good then (if zbx a.k&&zbx b.k then (ordC a b,zsz a b,0) else if (a.k==4)&&(b.k==4) then (Lib.compareBytes a.s.data.toList b.s.data.toList,true,0) else (0,false,9)) else (0,false,3)
noncomputable def zhk (a b:PV):Bool:=
 if (a.good&&b.good)&&(a.k==b.k) then (if a.k=2 then (cmpO (yq a.neg a.xs&&yq b.neg b.xs) (num a.neg a.xs) (num b.neg b.xs)==0) else if a.k=3 then (((yc (ya a.bits):Nat):Int)==((yc (ya b.bits):Nat):Int)) else (if a.yes==b.yes then (a.s.toList==b.s.toList) else false)) else false
def RetCnt (w:World) (A1:Option Addr) (n:Bool) (xs ys:List Nat) (e:Ending) (w':World):Prop:=∃A c,e= .returned (.agg #[.bool n,.slice A ys.length c])∧((A=A1∧ys=xs)∨Own w' w.heap.size A c ys)∧Below w.heap.size w w'
def CntV (w:World) (A1 A:Option Addr) (xs ys:List Nat):Prop:=(A=A1∧ys=xs)∨Nums w A ys
theorem CntV.nums {w:World} {A1 A:Option Addr} {xs ys:List Nat} (h:CntV w A1 A xs ys) (hx:Nums w A1 xs):Nums w A ys:=by
 rcases h with ⟨rfl,rfl⟩ | h
 · exact hx
 · exact h
theorem qgv {X:Nat→Prop} {w w':World} {A1 A:Option Addr} {c:Nat} {xs ys:List Nat} (h:(A=A1∧ys=xs)∨Own w' w.heap.size A c ys) (hX:∀k,X k→k<w.heap.size):Per X w' (fun b=>CntV b A1 A xs ys):=fun b hb=>by
 rcases h with h | h
 · exact Or.inl h
 · exact Or.inr (Per.own h hX b hb)
theorem PV.cx_len {v:PV} (h:v.xs.length≤9223372036854775807):v.cx.length≤9223372036854775807:=by
 unfold PV.cx;split
 · split<;>simp
 · exact h
theorem cmpI_in (i j:Int):-1≤xy i j∧xy i j≤1:=by unfold xy;split<;>(try split)<;>omega
theorem cmpV_in (a:Nat) (n1:Bool) (xs:List Nat):-1≤zzq a n1 xs∧zzq a n1 xs≤1:=by
 unfold zzq;split
 · split
   · unfold infV;split<;>omega
   · unfold cmpB;split
     · exact cmpI_in _ _
     · split
       · split<;>omega
       · omega
 · omega
theorem two_cells {w:World} {g o:Nat} {v0 v1:Value} (h0:w.cell? ⟨g,o,none⟩=some v0) (h1:w.cell? ⟨g,o+1,none⟩=some v1):∀(j:Nat) (v:Value),#[v0,v1][j]? =some v→w.cell? ⟨g,o+j,none⟩=some v:=fun j v hj=>by
 have hj2:=(Array.getElem?_eq_some_iff.1 hj).1;match j,hj2 with
 | 0,_=>exact h0.trans hj
 | 1,_=>exact h1.trans hj
theorem own_nil {w:World} {base:Nat}:Own w base none 0 []:=⟨⟨rfl,Or.inl ⟨rfl,rfl⟩⟩,fun _ h=>(by cases h)⟩
theorem own_later {w1 w2:World} {lo base c g:Nat} {A:Option Addr} {xs:List Nat} (h:Own w1 base A c xs) (E:Ext (Mut [some g]) w1 w2) (hg:g<base) (hb:lo≤base):Own w2 lo A c xs:=
 ⟨yhz (qr h.1 E (fun q hq hm=>by have:=yj hm;have:=qhx h.1 q hq;omega)) hb,h.2⟩
theorem pl_one:limbs 1= [1]:=by
 have h:limbs 1= [(1:Int).natAbs]:=limbs_one (by decide) (by decide);exact h
end Go.Proofs.YtebjkmjfcijebaaGreat
namespace Go.Proofs.YtebjkmjfcijebaaGreat
open Go.RowKit
set_option maxHeartbeats 20000000
attribute [local irreducible] OW RS CW EW
def RetTk (w:World) (o:Option PV) (e:Ending) (w':World):Prop:=∃A c,e= .returned (optV o A c)∧Nums w' A (o.getD vNil).xs∧Below w.heap.size w w'
theorem jx {w:World} {A:Option Addr}:Nums w A []:=⟨fun k=>by unfold nth;simp,fun h=>absurd h (by decide)⟩
theorem takeO_1 {W:List Nat} {top x:Nat} (h:zw x=1):vm W top x=some (vInt (decide (nmI x<0)) (limbs (nmI x))):=by
 unfold vm;rw[if_pos h,qhk h]
theorem qfx {W:List Nat} {top x:Nat} (h:zw x=2):vm W top x=if x=2 then some vNil else if x=6 then some (vBool false) else if x=10 then some (vBool true) else none:=by
 unfold vm;rw[if_neg (by omega),ypz (fun h0=>by have:=h0.1;omega)];simp
theorem takeO_no {W:List Nat} {top x:Nat} (h1:zw x≠1) (h2:zw x≠2) (h:¬(lkB W top x=true∧lkT W top x=0)):vm W top x=none:=by
 unfold vm;have e2:x≠2:=fun e=>h2 (by rw[e];decide);have e6:x≠6:=fun e=>h2 (by rw[e];decide);have e10:x≠10:=fun e=>h2 (by rw[e];decide);rw[if_neg h1,if_neg e2,if_neg e6,if_neg e10,if_neg h]
theorem takeO_raw {W:List Nat} {top x:Nat} (h1:zw x≠1) (h2:zw x≠2) (h:lkB W top x=true∧lkT W top x=0):vm W top x=zox (lkK W top x) (qq W (x/4) (lkR W top x)):=by
 unfold vm;have e2:x≠2:=fun e=>h2 (by rw[e];decide);have e6:x≠6:=fun e=>h2 (by rw[e];decide);have e10:x≠10:=fun e=>h2 (by rw[e];decide);rw[if_neg h1,if_neg e2,if_neg e6,if_neg e10,if_pos h]
section
variable (w:World) (A:Option Addr) (W:List Nat) (c n top x:Nat) (hM:MemA n w A W top) (hx:U64 x)
include hM hx
theorem otk_1 (h1:zw x=1):Calls Tryz.prog 10 #[xg A W c top,.int .u64 ((x:Nat):Int)] w (RetTk w (vm W top x)):=by
 have hin:=@nmI_in x;rw[takeO_1 h1];refine zh Tryz.func10 rfl Tryz.ntmps10 rfl (zy ?_);refine za rfl (zn rfl ?_);rintro g2 wA B2a E1 G1;refine za rfl (zp xt ?_);rintro gv wB Bv E2 G2;have B2:Blk wB g2 24 #[.slice A W.length c,.int .i64 ((top:Nat):Int)]:=B2a.ext E2 (fun h=>h.elim);have hE:=E1.trans E2;have hs1:=E1.size;have h2l:=B2a.lt;have hvl:=Bv.lt;have hg2v:g2<gv:=by omega
 refine yu ?_;refine za rfl (zd en30 rfl ((ji _ x hx).mono ?_));rintro e w1 ⟨rfl,hb⟩;refine ⟨_,rfl,?_⟩;have E3:=Ext.of_below hb No;have hE3:=hE.trans E3;have B23:=B2.ext E3 (fun h=>h.elim);have Bv3:=Bv.ext E3 (fun h=>h.elim);refine qa ?_;refine zk 18 (.bool true) rfl ((by rw[h1];rfl:(.bool (((zw x:Nat):Int)==1):Value)=_)) (qb ?_);refine za rfl (zd en31 rfl ((num_all _ A W n top x (hM.no hE3) hx).mono ?_));rintro e w2 ⟨rfl,hb⟩;refine ⟨_,rfl,?_⟩;have E4:=Ext.of_below hb No;have hE4:=hE3.trans E4;refine zz ?_;refine za rfl (zd en32 rfl ((zmv (nmI x) _ (by omega) (by omega)).mono ?_));rintro e w3 ⟨A1,c1,rfl,ho,hb⟩;refine ⟨_,rfl,?_⟩;have E5:=Ext.of_below hb No;have hE5:=hE4.trans E5;have BvZ:=(Bv3.ext E4 (fun h=>h.elim)).ext E5 (fun h=>h.elim);have hs4:=(E3.trans E4).size;refine za rfl (ye (cs:=#[.int .i64 2,.bool false,.bool (decide (nmI x<0)),.slice A1 (limbs (nmI x)).length c1,.int .u64 0,.string ⟨#[]⟩,.slice none 0 0]) zhz xt rfl rfl (zq (zm kd rfl rfl BvZ rfl rfl rfl ?_)));rintro wY BvY EY;refine yu ?_;exact ⟨A1,c1,rfl,(own_later ho EY (by omega) (Nat.le_refl _)).nums,((hE5.noL w.heap.size).step EY (fun q hq=>Or.inl (show w.heap.size≤q by have:=yj hq;omega))).below (fun _ h=>h)⟩
theorem otk_2 (h2:zw x=2):Calls Tryz.prog 10 #[xg A W c top,.int .u64 ((x:Nat):Int)] w (RetTk w (vm W top x)):=by
 obtain ⟨hx4,hx18⟩:=wkind_2 h2;rw[qfx h2];refine zh Tryz.func10 rfl Tryz.ntmps10 rfl (zy ?_);refine za rfl (zn rfl ?_);rintro g2 wA B2a E1 G1;refine za rfl (zp xt ?_);rintro gv wB Bv E2 G2;have B2:Blk wB g2 24 #[.slice A W.length c,.int .i64 ((top:Nat):Int)]:=B2a.ext E2 (fun h=>h.elim);have hE:=E1.trans E2;have hs1:=E1.size;have h2l:=B2a.lt;have hvl:=Bv.lt;have hg2v:g2<gv:=by omega
 refine yu ?_;refine za rfl (zd en30 rfl ((ji _ x hx).mono ?_));rintro e w1 ⟨rfl,hb⟩;refine ⟨_,rfl,?_⟩;have E3:=Ext.of_below hb No;have hE3:=hE.trans E3;have B23:=B2.ext E3 (fun h=>h.elim);have Bv3:=Bv.ext E3 (fun h=>h.elim);refine qa ?_;refine zk 18 (.bool false) rfl ((by rw[h2];rfl:(.bool (((zw x:Nat):Int)==1):Value)=_)) (yu ?_);refine zk 28 (.bool true) rfl ((by rw[h2];rfl:(.bool (((zw x:Nat):Int)==2):Value)=_)) (qb ?_);refine za rfl (zd en33 rfl (((which_all _ A W n top x (hM.no hE3) hx).mono (fun _ _ h=>by rw[if_pos h2] at h;exact h)).mono ?_));rintro e w2 ⟨rfl,hb⟩;refine ⟨_,rfl,?_⟩;have E4:=Ext.of_below hb No;have hEz:=hE3.trans E4;have B2z:=B23.ext E4 (fun h=>h.elim);have Bvz:=Bv3.ext E4 (fun h=>h.elim);refine ylz ?_;by_cases e2:x=2
 ·
  refine zk 36 (.bool true) rfl ((by rw[e2];rfl:(.bool (((x/4:Nat):Int)==0):Value)=_)) ?_;have BvZ:=Bvz;refine qc ?_;refine za rfl (ye (cs:=#[.int .i64 0,.bool false,.bool false,.slice none 0 0,.int .u64 0,.string ⟨#[]⟩,.slice none 0 0]) zhz xt rfl rfl (zq (zm kd rfl rfl BvZ rfl rfl rfl ?_)));rintro wY BvY EY;refine yx ?_;exact ⟨none,0,by rw[if_pos e2];rfl,by rw[if_pos e2];exact jx,((hEz.noL w.heap.size).step EY (fun q hq=>Or.inl (show w.heap.size≤q by have:=yj hq;omega))).below (fun _ h=>h)⟩
 ·
  rw[if_neg e2];refine zk 36 (.bool false) rfl ((by congr 1;rw[beq_eq_false_iff_ne];omega:(.bool (((x/4:Nat):Int)==0):Value)=_)) (yx ?_);by_cases e6:x=6
  ·
   refine zk 39 (.bool true) rfl ((by rw[e6];rfl:(.bool (((x/4:Nat):Int)==1):Value)=_)) (yx ?_);refine zf 43 (.bool false) rfl ((by rw[e6];rfl:(.bool (((x/4:Nat):Int)==2):Value)=_)) ?_;have BvZ:=Bvz;refine za rfl (ye (cs:=#[.int .i64 1,.bool false,.bool false,.slice none 0 0,.int .u64 0,.string ⟨#[]⟩,.slice none 0 0]) zhz xt rfl rfl (zq (zm kd rfl rfl BvZ rfl rfl rfl ?_)));rintro wY BvY EY;refine yx ?_;exact ⟨none,0,by rw[if_pos e6];rfl,by rw[if_pos e6];exact jx,((hEz.noL w.heap.size).step EY (fun q hq=>Or.inl (show w.heap.size≤q by have:=yj hq;omega))).below (fun _ h=>h)⟩
  ·
   rw[if_neg e6];refine zk 39 (.bool false) rfl ((by congr 1;rw[beq_eq_false_iff_ne];omega:(.bool (((x/4:Nat):Int)==1):Value)=_)) (yb ?_);by_cases e10:x=10
   ·
    refine zk 39 (.bool true) rfl ((by rw[e10];rfl:(.bool (((x/4:Nat):Int)==2):Value)=_)) (yk ?_);refine zf 43 (.bool true) rfl ((by rw[e10];rfl:(.bool (((x/4:Nat):Int)==2):Value)=_)) ?_;have BvZ:=Bvz;refine za rfl (ye (cs:=#[.int .i64 1,.bool true,.bool false,.slice none 0 0,.int .u64 0,.string ⟨#[]⟩,.slice none 0 0]) zhz xt rfl rfl (zq (zm kd rfl rfl BvZ rfl rfl rfl ?_)));rintro wY BvY EY;refine yx ?_;exact ⟨none,0,by rw[if_pos e10];rfl,by rw[if_pos e10];exact jx,((hEz.noL w.heap.size).step EY (fun q hq=>Or.inl (show w.heap.size≤q by have:=yj hq;omega))).below (fun _ h=>h)⟩
   ·
    refine zk 39 (.bool false) rfl ((by congr 1;rw[beq_eq_false_iff_ne];omega:(.bool (((x/4:Nat):Int)==2):Value)=_)) ?_;have hnone:(if x=10 then some (vBool true) else none)=none:=if_neg e10;refine qa ?_;refine za rfl (zd ykv rfl ((gc _ A W c n top x (hM.no hEz) hx).mono ?_));rintro e w3 ⟨rfl,hb⟩;refine ⟨_,rfl,?_⟩;have E5:=Ext.of_below hb No;have hE5:=hEz.trans E5;have hs5:=hE5.size;refine qb ?_;refine za rfl (zp og ?_);rintro gs wC Bs0 E6 Gs;refine stp ?_;refine zq (zm xj rfl rfl Bs0 rfl rfl rfl ?_);rintro wD Bs E7;have hEz5:=hEz.size;have hED:=(((hE5.trans E6).noL w.heap.size)).step E7 (fun q hq=>Or.inl (show w.heap.size≤q by have:=yj hq;omega));have Bv5:=((Bvz.ext E5 (fun h=>h.elim)).ext E6 (fun h=>h.elim));have hgsv:gv<gs:=by have:=Bvz.lt;have:=E5.size;omega
    have BvD:=Bv5.ext E7 (fun h=>by have:=yj h;omega);have B2D:=((B2z.ext E5 (fun h=>h.elim)).ext E6 (fun h=>h.elim)).ext E7 (fun h=>by have:=yj h;omega);refine qa ?_;refine zf 54 (.bool true) rfl ((by rw[ypz (fun h0=>by have:=h0.1;omega)];rfl:(.bool (!(lkB W top x)):Value)=_)) ?_;have BvZ:=BvD;refine qa ?_;refine za rfl (ye (cs:=#[.int .i64 0,.bool false,.bool false,.slice none 0 0,.int .u64 0,.string ⟨#[]⟩,.slice none 0 0]) zhz xt rfl rfl (zq (zm kd rfl rfl BvZ rfl rfl rfl ?_)));rintro wY BvY EY;refine yb ?_;exact ⟨none,0,by rw[hnone];rfl,by rw[hnone];exact jx,(hED.step EY (fun q hq=>Or.inl (show w.heap.size≤q by have:=yj hq;omega))).below (fun _ h=>h)⟩
theorem otk_3 (h1:zw x≠1) (h2:zw x≠2) (h:¬(lkB W top x=true∧lkT W top x=0)):Calls Tryz.prog 10 #[xg A W c top,.int .u64 ((x:Nat):Int)] w (RetTk w (vm W top x)):=by
 have hnone:=takeO_no h1 h2 h;refine zh Tryz.func10 rfl Tryz.ntmps10 rfl (zy ?_);refine za rfl (zn rfl ?_);rintro g2 wA B2a E1 G1;refine za rfl (zp xt ?_);rintro gv wB Bv E2 G2;have B2:Blk wB g2 24 #[.slice A W.length c,.int .i64 ((top:Nat):Int)]:=B2a.ext E2 (fun h=>h.elim);have hE:=E1.trans E2;have hs1:=E1.size;have h2l:=B2a.lt;have hvl:=Bv.lt;have hg2v:g2<gv:=by omega
 refine yu ?_;refine za rfl (zd en30 rfl ((ji _ x hx).mono ?_));rintro e w1 ⟨rfl,hb⟩;refine ⟨_,rfl,?_⟩;have E3:=Ext.of_below hb No;have hE3:=hE.trans E3;have B23:=B2.ext E3 (fun h=>h.elim);have Bv3:=Bv.ext E3 (fun h=>h.elim);refine qa ?_;refine zk 18 (.bool false) rfl ((by congr 1;rw[beq_eq_false_iff_ne];omega:(.bool (((zw x:Nat):Int)==1):Value)=_)) (yu ?_);refine zk 28 (.bool false) rfl ((by congr 1;rw[beq_eq_false_iff_ne];omega:(.bool (((zw x:Nat):Int)==2):Value)=_)) ?_;have hEz:=hE3;have B2z:=B23;have Bvz:=Bv3;refine yx ?_;refine za rfl (zd ykv rfl ((gc _ A W c n top x (hM.no hEz) hx).mono ?_));rintro e w2 ⟨rfl,hb⟩;refine ⟨_,rfl,?_⟩;have E5:=Ext.of_below hb No;have hE5:=hEz.trans E5;have hs5:=hE5.size;refine qb ?_;refine za rfl (zp og ?_);rintro gs wC Bs0 E6 Gs;refine stp ?_;refine zq (zm xj rfl rfl Bs0 rfl rfl rfl ?_);rintro wD Bs E7;have hEz5:=hEz.size;have hED:=(((hE5.trans E6).noL w.heap.size)).step E7 (fun q hq=>Or.inl (show w.heap.size≤q by have:=yj hq;omega));have Bv5:=((Bvz.ext E5 (fun h=>h.elim)).ext E6 (fun h=>h.elim));have hgsv:gv<gs:=by have:=Bvz.lt;have:=E5.size;omega
 have BvD:=Bv5.ext E7 (fun h=>by have:=yj h;omega);have B2D:=((B2z.ext E5 (fun h=>h.elim)).ext E6 (fun h=>h.elim)).ext E7 (fun h=>by have:=yj h;omega);refine qa ?_;by_cases hB:lkB W top x=true
 ·
  have hT:lkT W top x≠0:=fun e=>h ⟨hB,e⟩;refine zf 54 (.bool false) rfl ((by rw[hB];rfl:(.bool (!(lkB W top x)):Value)=_)) (yb ?_);refine zk 58 (.bool true) rfl ((by congr 1;rw[bne_iff_ne];omega:(.bool (((lkT W top x:Nat):Int) !=0):Value)=_)) ?_;have BvZ:=BvD;refine qc ?_;refine za rfl (ye (cs:=#[.int .i64 0,.bool false,.bool false,.slice none 0 0,.int .u64 0,.string ⟨#[]⟩,.slice none 0 0]) zhz xt rfl rfl (zq (zm kd rfl rfl BvZ rfl rfl rfl ?_)));rintro wY BvY EY;refine yb ?_;exact ⟨none,0,by rw[hnone];rfl,by rw[hnone];exact jx,(hED.step EY (fun q hq=>Or.inl (show w.heap.size≤q by have:=yj hq;omega))).below (fun _ h=>h)⟩
 ·
  refine zf 54 (.bool true) rfl ((by rw[Bool.eq_false_iff.2 hB];rfl:(.bool (!(lkB W top x)):Value)=_)) ?_;have BvZ:=BvD;refine qa ?_;refine za rfl (ye (cs:=#[.int .i64 0,.bool false,.bool false,.slice none 0 0,.int .u64 0,.string ⟨#[]⟩,.slice none 0 0]) zhz xt rfl rfl (zq (zm kd rfl rfl BvZ rfl rfl rfl ?_)));rintro wY BvY EY;refine yb ?_;exact ⟨none,0,by rw[hnone];rfl,by rw[hnone];exact jx,(hED.step EY (fun q hq=>Or.inl (show w.heap.size≤q by have:=yj hq;omega))).below (fun _ h=>h)⟩
end
theorem own_room {w:World} {lo n c s:Nat} {e:TypeId} {A:Option Addr} {xs:List Value} (h:w.ownsRow lo e s (.slice A n c) n xs) (h0:0<n):∃g,A=some ⟨g,0,none⟩∧n≤c:=by
 rcases h.2 with ⟨_,rfl⟩ | ⟨g,cap,cur,hv,hg,hh,hn,hm,hsz,ht⟩
 · omega
 · cases hv
   exact ⟨g,rfl,hn⟩
theorem nums_tail {n:Nat} {w:World} {g:Nat} {R:List Nat} (h:WordsA n w (some ⟨g,0,none⟩) R) (hn:n≤w.heap.size):Nums w (some ⟨g,1,none⟩) R.tail:=by
 refine ⟨fun k=>?_,fun h0=>⟨g,1,rfl,?_,fun k hk=>?_⟩⟩
 · unfold nth;have h2:=h.in_;rw[List.getD_eq_getElem?_getD];cases hk:R.tail[k]? with
   | none=>simp
   | some v=>
    have:=h2 v (List.mem_of_mem_tail (List.mem_of_getElem? hk));have h3:v<18446744073709551616:=this;simp only[Option.getD_some]
    omega
 · rw[List.length_tail] at h0;obtain ⟨g',o',e,hg,_⟩:=h.at (j:=0) (by omega);cases e
   omega
 · rw[List.length_tail] at hk;obtain ⟨g',o',e,hg,hc⟩:=h.at (j:=k+1) (by omega);cases e
   rw[show 1+k=0+(k+1) by omega,hc];congr 2
   unfold nth wat;rw[List.getD_eq_getElem?_getD,List.getD_eq_getElem?_getD,List.getElem?_tail]
section
variable {k:Nat} {R:List Nat}
theorem rawO_i (h:k=2∧2<R.length∧wat R 0≤1):zox k R=if yq (decide (wat R 0=1)) R.tail then some (vInt (decide (wat R 0=1)) R.tail) else none:=if_pos h
theorem rawO_f (h:k=3∧R.length=1∧wat R 0=yc (ya (yc (ya (wat R 0))))):zox k R=some (vFlt (wat R 0)):=by
 unfold zox;rw[if_neg (by omega),if_pos h]
theorem rawO_s (h:k=4∧0<R.length∧wat R 0≤20000∧R.length=1+(wat R 0+7)/8):zox k R=qcz R:=by
 unfold zox;rw[if_neg (by omega),if_neg (by omega),if_pos h]
theorem yaq (h1:¬(k=2∧2<R.length∧wat R 0≤1)) (h2:¬(k=3∧R.length=1∧wat R 0=yc (ya (yc (ya (wat R 0)))))) (h3:¬(k=4∧0<R.length∧wat R 0≤20000∧R.length=1+(wat R 0+7)/8)):zox k R=none:=by
 unfold zox;rw[if_neg h1,if_neg h2,if_neg h3]
end
section
variable (w:World) (A:Option Addr) (W:List Nat) (c n top x:Nat) (hM:MemA n w A W top) (hx:U64 x)
include hM hx
set_option maxHeartbeats 20000000 in
theorem otk_4 (h1:zw x≠1) (h2:zw x≠2) (h:lkB W top x=true∧lkT W top x=0):Calls Tryz.prog 10 #[xg A W c top,.int .u64 ((x:Nat):Int)] w (RetTk w (vm W top x)):=by
 obtain ⟨hB,hT⟩:=h;rw[takeO_raw h1 h2 ⟨hB,hT⟩];obtain ⟨hk0,hS⟩:=zxk hB;have hRr:lkR W top x≤1048576:=by
  rw[lkR_yes hk0 hS];have:=hS.room;have:=hM.len;have:=hM.most;omega
 obtain ⟨r,hr⟩:∃r,r=lkR W top x:=⟨_,rfl⟩;obtain ⟨R,hR⟩:∃R,R=qq W (x/4) (lkR W top x):=⟨_,rfl⟩;have hRl:R.length=r:=by rw[hR,oh,hr]
 have hRu:∀y∈R,U64 y:=by rw[hR];exact zuq hM.words.in_ _ _
 rw[←hR];refine zh Tryz.func10 rfl Tryz.ntmps10 rfl (zy ?_);refine za rfl (zn rfl ?_);rintro g2 wA B2a E1 G1;refine za rfl (zp xt ?_);rintro gv wB Bv E2 G2;have B2:Blk wB g2 24 #[.slice A W.length c,.int .i64 ((top:Nat):Int)]:=B2a.ext E2 (fun h=>h.elim);have hE:=E1.trans E2;have hs1:=E1.size;have h2l:=B2a.lt;have hvl:=Bv.lt;have hg2v:g2<gv:=by omega
 refine yu ?_;refine za rfl (zd en30 rfl ((ji _ x hx).mono ?_));rintro e w1 ⟨rfl,hb⟩;refine ⟨_,rfl,?_⟩;have E3:=Ext.of_below hb No;have hE3:=hE.trans E3;have B23:=B2.ext E3 (fun h=>h.elim);have Bv3:=Bv.ext E3 (fun h=>h.elim);refine qa ?_;refine zk 18 (.bool false) rfl ((by congr 1;rw[beq_eq_false_iff_ne];omega:(.bool (((zw x:Nat):Int)==1):Value)=_)) (yu ?_);refine zk 28 (.bool false) rfl ((by congr 1;rw[beq_eq_false_iff_ne];omega:(.bool (((zw x:Nat):Int)==2):Value)=_)) ?_;have hEz:=hE3;have B2z:=B23;have Bvz:=Bv3;refine yx ?_;refine za rfl (zd ykv rfl ((gc _ A W c n top x (hM.no hEz) hx).mono ?_));rintro e w2 ⟨rfl,hb⟩;refine ⟨_,rfl,?_⟩;have E5:=Ext.of_below hb No;have hE5:=hEz.trans E5;have hs5:=hE5.size;refine qb ?_;refine za rfl (zp og ?_);rintro gs wC Bs0 E6 Gs;refine stp ?_;refine zq (zm xj rfl rfl Bs0 rfl rfl rfl ?_);rintro wD Bs E7;have hEz5:=hEz.size;have hED:=(((hE5.trans E6).noL w.heap.size)).step E7 (fun q hq=>Or.inl (show w.heap.size≤q by have:=yj hq;omega));have Bv5:=((Bvz.ext E5 (fun h=>h.elim)).ext E6 (fun h=>h.elim));have hgsv:gv<gs:=by have:=Bvz.lt;have:=E5.size;omega
 have BvD:=Bv5.ext E7 (fun h=>by have:=yj h;omega);have B2D:=((B2z.ext E5 (fun h=>h.elim)).ext E6 (fun h=>h.elim)).ext E7 (fun h=>by have:=yj h;omega);refine qa ?_;refine zf 10 (.int .i64 ((x/4:Nat):Int)) rfl ((by rw[yux hk0]:(.int .i64 ((lkA x:Nat):Int):Value)=_)) (zf 12 (.bool true) rfl ((by rw[hB]:(.bool (lkB W top x):Value)=_)) (zf 54 (.bool false) rfl ((by rw[hB];rfl:(.bool (!(lkB W top x)):Value)=_)) (yb ?_)));refine zk 58 (.bool false) rfl ((by rw[hT];rfl:(.bool (((lkT W top x:Nat):Int) !=0):Value)=_)) (jq ?_);refine zf 61 (.int .i64 ((r:Nat):Int)) rfl ((by rw[hr]:(.int .i64 ((lkR W top x:Nat):Int):Value)=_)) ?_;have O0:wD.ownsRow wD.heap.size 27 1 (.slice none 0 0) 0 (ym (qq W (x/4) 0)):=owns_nil;have hsD:=hED.size;have hMD:∀z,Ext (fun q=>wD.heap.size≤q) wD z→MemA n z A W top:=fun z hz=>(hM.low ⟨hED,fun q hq=>Nat.le_trans hM.size hq⟩).low ⟨hz,fun q hq=>Nat.le_trans hM.size (Nat.le_trans hsD hq)⟩;have l2:=B2D.lt;have lv:=BvD.lt;have ls:=Bs.lt;refine qb ?_;refine qw (ι:=Nat×Option Addr×Nat) (fun (i,D,d)=>[(2,.pointer (some ⟨g2,0,none⟩)),(4,.pointer (some ⟨gv,0,none⟩)),(5,.int .i64 0),(10,.int .i64 ((x/4:Nat):Int)),(11,.pointer (some ⟨gs,0,none⟩)),(13,.slice D i d),(61,.int .i64 ((r:Nat):Int)),(62,.int .i64 ((i:Nat):Int))]) (fun (i,D,d) w'=>i≤r∧w'.ownsRow wD.heap.size 27 1 (.slice D i d) i (ym (qq W (x/4) i))∧Ext (fun q=>wD.heap.size≤q) wD w') (fun (i,_)=>r-i) (0,none,0) ⟨rfl,rfl,rfl,rfl,rfl,rfl,rfl,rfl,trivial⟩ (⟨Nat.zero_le _,O0,Ext.refl _ _⟩) ?_;rintro ⟨i,D,d⟩ w4 ⟨hi0,Oi,hEi⟩;refine yb ?_;refine zx rfl (fun hc=>?_) (fun hc=>?_)
 ·
  have hc:=of_decide_eq_true hc;have hlt:i<r:=by omega
  refine qo ?_;refine za rfl (yy u24 rfl kr rfl (B2D.ext hEi (fun h↦by have h:wD.heap.size≤g2:=h;omega)) rfl (zy ?_));refine za rfl (zd en35 rfl ((zmk _ A W c n top (x/4) i (hMD _ hEi) hS).mono ?_));rintro e w5 ⟨rfl,hb⟩;refine ⟨_,rfl,?_⟩;have E8:=Ext.of_below hb No;refine za rfl (vi (cs:=#[.int .u64 ((vr W (x/4) i:Nat):Int)]) u22 qk zr27 (by decide) rfl (by rw[kc];rfl) ?_);rintro gy wF By E9 Gy;have E89:=E8.trans E9;have hE2:=hEi.step E89 (fun _ h=>h.elim);have O2:=qr Oi E89 (fun _ _ h=>h.elim);refine za rfl (zmq (n':=i+1) (xs':=ym (qq W (x/4) (i+1))) u22 ymx rfl (by decide) rfl O2 rfl (ynv By By.lt rfl) (by simp[Value.oneCell']) rfl (by rw[←wordsO_snoc,←wordsV_snoc]) (by unfold maxLen;omega) (by omega) hE2.size ?_);rintro A6 c6 wG O3 E3x N3;refine yk ?_;refine za rfl (zr rfl rfl (zg (by omega)) (zy ?_));exact qf (i+1,A6,c6) (by show r-(i+1)<r-i;omega) ⟨rfl,rfl,rfl,rfl,rfl,rfl,rfl,rfl,trivial⟩ (⟨hlt,O3,hE2.step E3x (fun q hq=>Or.inl (show wD.heap.size≤q from own_ge O2 q hq))⟩)
 ·
  have hc:=of_decide_eq_false hc;have hie:i=R.length:=by omega
  obtain ⟨wE,hwE⟩:∃z,z=w4:=⟨_,rfl⟩;subst hwE;refine zk 13 (.slice D R.length d) rfl ((by rw[hie]:(.slice D i d:Value)=_)) ?_;rw[hie] at Oi;have hWR:qq W (x/4) R.length=R:=by rw[hRl,hr];exact hR.symm
  rw[hWR] at Oi;have hRw:WordsA wE.heap.size wE D R:=zpz Oi (by omega) hRu;have hEE:=hED.step hEi (fun q hq=>Or.inl (Nat.le_trans hsD hq));have BsE0:=Bs.ext hEi (fun h=>by have h:wD.heap.size≤gs:=h;omega);have BsE:Blk wE gs 68 #[.int .i64 ((lkK W top x:Nat):Int),.int .i64 ((lkT W top x:Nat):Int),.int .i64 ((lkR W top x:Nat):Int)]:=BsE0;have BvE:=BvD.ext hEi (fun h=>by have h:wD.heap.size≤gv:=h;omega);have hwu:wat R 0<18446744073709551616:=zax hRu 0;refine qo ?_;by_cases k2:lkK W top x=2
  ·
   refine zf 76 (.bool true) rfl ((by rw[k2];rfl:(.bool (((lkK W top x:Nat):Int)==2):Value)=_)) (qb ?_);by_cases q2:2<R.length
   ·
    refine zf 80 (.bool true) rfl ((by rw[decide_eq_true];omega:(.bool (decide ((2:Int)<((R.length:Nat):Int))):Value)=_)) ?_;obtain ⟨gl,hgl,hcl⟩:=own_room Oi (by omega);refine zf 13 (.slice (some ⟨gl,0,none⟩) R.length d) rfl ((by rw[hgl]:(.slice D R.length d:Value)=_)) ?_;subst hgl;obtain ⟨gm,om,hA0,hgm,hcm⟩:=hRw.at (show 0<R.length by omega);cases hA0
    refine qc ?_;refine onx rfl (zi (j:=0) u22 qk rfl rfl rfl (by omega) (onx rfl (yl u27 rfl rfl hcm (stp ?_))));by_cases q1:wat R 0≤1
    ·
     refine zf 86 (.bool true) rfl ((by rw[decide_eq_true];omega:(.bool (decide (((wat R 0:Nat):Int)≤1)):Value)=_)) ?_;have hRt:R.length=R.tail.length+1:=by rw[List.length_tail];omega
     refine yb ?_;refine yv (No) Mut.none_ [⟨7,8,26,#[.bool false,.slice none 0 0]⟩] [] (jh [Fx.of (.slice (some ⟨gl,0,none⟩) R.length d),
      Fx.of (.pointer (some ⟨gl,0+0,none⟩)),
      Fx.of (.int .u64 ((wat R 0:Nat):Int)),
      Fx.of (.bool (decide (wat R 0=1))),
      Fx.of (.slice (some ⟨gl,0,none⟩) R.length d),
      Fx.of (.slice (some ⟨gl,1,none⟩) R.tail.length (d-1)),
      Fx.of (.agg #[.bool (decide (wat R 0=1)),.slice (some ⟨gl,1,none⟩) R.tail.length (d-1)]),
      Fx.of undef,
      Fx.of undef]) qt rfl trivial (fun _ h=>by cases h) ?_ ?_
     · refine ⟨arm,?_,?_,?_,arm,?_,?_,?_,?_,trivial⟩
       · intro vs X wq K;obtain ⟨_,e0,k0⟩:=K.dep 0 rfl rfl rfl;refine zc 88 _ rfl e0 ?_;exact zi (j:=0) u22 qk rfl rfl rfl (by omega) ⟨Below.refl _ _,Left.of rfl⟩
       · intro vs X wq K;have LE:=K.1;obtain ⟨_,e1,k1⟩:=K.dep 1 rfl rfl rfl;refine zc 89 _ rfl e1 ?_;exact yl u27 rfl rfl (kq LE hcm) ⟨Below.refl _ _,Left.of rfl⟩
       · intro vs X wq K;obtain ⟨_,e2,k2⟩:=K.dep 2 rfl rfl rfl;refine zc 90 _ rfl e2 ?_;exact ow_eql rfl rfl ⟨Below.refl _ _,Left.of ((by congr 1;rw[Bool.eq_iff_iff];simp;omega:(.bool (((wat R 0:Nat):Int)==1):Value)=_))⟩
       · intro vs X wq K;obtain ⟨_,e4,k4⟩:=K.dep 4 rfl rfl rfl;refine zc 92 _ rfl e4 ?_;exact ow_sliceOne u22 qk rfl rfl hRt hcl (show 1<d from Nat.lt_of_lt_of_le (show 1<R.length by omega) hcl) ⟨Below.refl _ _,Left.of rfl⟩
       · intro vs X wq K;obtain ⟨_,e3,k3⟩:=K.dep 3 rfl rfl rfl;refine zc 91 _ rfl e3 ?_;obtain ⟨_,e5,k5⟩:=K.dep 5 rfl rfl rfl;refine zc 93 _ rfl e5 ?_;exact ye (cs:=#[.bool (decide (wat R 0=1)),.slice (some ⟨gl,1,none⟩) R.tail.length (d-1)]) pl26 ziz rfl rfl ⟨Below.refl _ _,Left.of rfl⟩
       · exact ⟨_,_,_,_,_,rfl,ziz,rfl⟩
       · refine ⟨_,_,_,_,_,rfl,rfl,rfl,kj,fun vs X wq K=>?_⟩;obtain ⟨_,e0,_⟩:=K.dep 6 rfl rfl rfl;exact ⟨vs 6,rfl,by rw[e0];rfl,by rw[e0];rfl⟩
     intro vs w6 LE AO AL AF AA;have hbd:Below (wE).heap.size (wE) w6:=(((Ext.refl No (wE)).drew).trans LE).toBelow;obtain ⟨_,e6,k6⟩:=AL.2.2.2.2.2.2.1;obtain ⟨gX0,v0,y0,qX0,GX0,BX0,ey,ev0⟩:=AF.1;cases ey
     obtain rfl:vs 6=v0:=Option.some.inj ev0;rw[e6] at BX0;have BX0:Blk w6 gX0 26 #[.bool (decide (wat R 0=1)),.slice (some ⟨gl,1,none⟩) R.tail.length (d-1)]:=BX0;have e7:=qX0;refine qe (τ:=[(4,_),(5,_),(15,.pointer (some ⟨gX0,0,none⟩))]) ⟨rfl,rfl,congrArg some e7,trivial⟩ ?_;clear AL AF AA AO;have EX:=Ext.of_below hbd No;have hRx:=hRw.no EX;have hsx:=EX.size;refine qb ?_;refine za rfl (zd en36 rfl ((qm (decide (wat R 0=1)) (d-1) _ (some ⟨gl,1,none⟩) R.tail (by omega) (nums_tail hRx hsx)).mono ?_));rintro e w7 ⟨rfl,hb⟩;refine ⟨_,rfl,?_⟩;have EB:=Ext.of_below hb No;have EF:=EX.trans EB;have BXf:=BX0.ext EB (fun h=>h.elim);refine zy ?_;by_cases hg:yq (decide (wat R 0=1)) R.tail=true
     ·
      refine zk 96 (.bool true) rfl ((by rw[hg]:(.bool (yq (decide (wat R 0=1)) R.tail):Value)=_)) (qb ?_);have BvZ:=BvE.ext EF (fun h=>h.elim);refine za rfl (ye (cs:=#[.int .i64 2,.bool false,.bool (decide (wat R 0=1)),.slice (some ⟨gl,1,none⟩) R.tail.length (d-1),.int .u64 0,.string ⟨#[]⟩,.slice none 0 0]) zhz xt rfl rfl (zq (zm kd rfl rfl BvZ rfl rfl rfl ?_)));rintro wY BvY EY;refine yb ?_;have OY:=qr (qr Oi EF (fun _ _ h=>h.elim)) EY (fun q hq hm=>by have:=yj hm;have:=qhx Oi q hq;omega);have hY:=zpz OY (by omega) hRu;refine stp ?_;exact ⟨some ⟨gl,1,none⟩,d-1,by rw[rawO_i ⟨k2,q2,q1⟩,if_pos hg];rfl,by rw[rawO_i ⟨k2,q2,q1⟩,if_pos hg];exact nums_tail hY (Nat.le_refl _),((hEE.step EF (fun _ h=>h.elim)).step EY (fun q hq=>Or.inl (show w.heap.size≤q by have:=yj hq;omega))).below (fun _ h=>h)⟩
     ·
      refine zk 96 (.bool false) rfl ((by rw[Bool.eq_false_iff.2 hg]:(.bool (yq (decide (wat R 0=1)) R.tail):Value)=_)) ?_;have hnone:zox (lkK W top x) R=none:=by rw[rawO_i ⟨k2,q2,q1⟩,if_neg hg]
      have BvZ:=BvE.ext EF (fun h=>h.elim);refine yb ?_;refine za rfl (ye (cs:=#[.int .i64 0,.bool false,.bool false,.slice none 0 0,.int .u64 0,.string ⟨#[]⟩,.slice none 0 0]) zhz xt rfl rfl (zq (zm kd rfl rfl BvZ rfl rfl rfl ?_)));rintro wY BvY EY;refine yk ?_;exact ⟨none,0,by rw[hnone];rfl,by rw[hnone];exact jx,((hEE.step EF (fun _ h=>h.elim)).step EY (fun q hq=>Or.inl (show w.heap.size≤q by have:=yj hq;omega))).below (fun _ h=>h)⟩
    ·
     refine zf 86 (.bool false) rfl ((by rw[decide_eq_false];omega:(.bool (decide (((wat R 0:Nat):Int)≤1)):Value)=_)) ?_;have hnone:zox (lkK W top x) R=none:=yaq (by omega) (by omega) (by omega);refine yb ?_;refine yv (No) Mut.none_ [] [] (jh [Fx.of (.agg #[.int .i64 ((lkK W top x:Nat):Int),.int .i64 ((lkT W top x:Nat):Int),.int .i64 ((lkR W top x:Nat):Int)]),
      Fx.of (.agg #[.int .i64 3,.int .i64 0,.int .i64 1]),
      Fx.of (.bool false),
      Fx.of (.bool false),
      Fx.of undef,
      Fx.of undef,
      Fx.of undef,
      Fx.of undef,
      Fx.of undef,
      Fx.of undef,
      Fx.of undef,
      Fx.of undef,
      Fx.of undef,
      Fx.of (.bool false),
      Fx.of (.bool false)]) qt rfl trivial (fun _ h=>by cases h) ?_ ?_
     · refine ⟨?_,?_,?_,arm,arm,arm,arm,arm,arm,arm,arm,arm,arm,arm,arm,trivial⟩
       · intro vs X wq K;have LE:=K.1;exact yy u68 rfl xj rfl (yh LE BsE) rfl ⟨Below.refl _ _,Left.of rfl⟩
       · intro vs X wq K;exact ye (cs:=#[.int .i64 3,.int .i64 0,.int .i64 1]) pl68 og rfl rfl ⟨Below.refl _ _,Left.of rfl⟩
       · intro vs X wq K;obtain ⟨_,e0,k0⟩:=K.dep 0 rfl rfl rfl;refine zc 100 _ rfl e0 ?_;obtain ⟨_,e1,k1⟩:=K.dep 1 rfl rfl rfl;refine zc 101 _ rfl e1 ?_;exact zrz rfl rfl (by omega) ⟨Below.refl _ _,Left.of rfl⟩
     intro vs w8 LE AO AL AF AA;have hbd:Below (wE).heap.size (wE) w8:=(((Ext.refl No (wE)).drew).trans LE).toBelow;obtain ⟨_,e14,k14⟩:=AL.2.2.2.2.2.2.2.2.2.2.2.2.2.2.1;refine qe (τ:=[(4,_),(5,_),(11,_),(13,_),(99,.bool false)]) ⟨rfl,rfl,rfl,rfl,congrArg some e14,trivial⟩ ?_;clear AL AF AA AO;have E3f:=Ext.of_below hbd No;refine yk ?_;refine za rfl (zl Tryz.underlying3 rfl rfl (BsE.ext E3f (fun h↦h.elim)) rfl (stp ?_));refine zf 121 (.bool false) rfl ((by congr 1;rw[beq_eq_false_iff_ne];omega:(.bool (((lkK W top x:Nat):Int)==4):Value)=_)) ?_;have EF:=E3f;have BvZ:=BvE.ext EF (fun h=>h.elim);refine stp32 ?_;refine za rfl (ye (cs:=#[.int .i64 0,.bool false,.bool false,.slice none 0 0,.int .u64 0,.string ⟨#[]⟩,.slice none 0 0]) zhz xt rfl rfl (zq (zm kd rfl rfl BvZ rfl rfl rfl ?_)));rintro wY BvY EY;refine yk ?_;exact ⟨none,0,by rw[hnone];rfl,by rw[hnone];exact jx,((hEE.step EF (fun _ h=>h.elim)).step EY (fun q hq=>Or.inl (show w.heap.size≤q by have:=yj hq;omega))).below (fun _ h=>h)⟩
   ·
    refine zf 80 (.bool false) rfl ((by rw[decide_eq_false];omega:(.bool (decide ((2:Int)<((R.length:Nat):Int))):Value)=_)) ?_;have hnone:zox (lkK W top x) R=none:=yaq (by omega) (by omega) (by omega);refine qo ?_;refine yv (No) Mut.none_ [] [] (jh [Fx.of (.agg #[.int .i64 ((lkK W top x:Nat):Int),.int .i64 ((lkT W top x:Nat):Int),.int .i64 ((lkR W top x:Nat):Int)]),
     Fx.of (.agg #[.int .i64 3,.int .i64 0,.int .i64 1]),
     Fx.of (.bool false),
     Fx.of (.bool false),
     Fx.of undef,
     Fx.of undef,
     Fx.of undef,
     Fx.of undef,
     Fx.of undef,
     Fx.of undef,
     Fx.of undef,
     Fx.of undef,
     Fx.of undef,
     Fx.of (.bool false),
     Fx.of (.bool false)]) qt rfl trivial (fun _ h=>by cases h) ?_ ?_
    · refine ⟨?_,?_,?_,arm,arm,arm,arm,arm,arm,arm,arm,arm,arm,arm,arm,trivial⟩
      · intro vs X wq K;have LE:=K.1;exact yy u68 rfl xj rfl (yh LE BsE) rfl ⟨Below.refl _ _,Left.of rfl⟩
      · intro vs X wq K;exact ye (cs:=#[.int .i64 3,.int .i64 0,.int .i64 1]) pl68 og rfl rfl ⟨Below.refl _ _,Left.of rfl⟩
      · intro vs X wq K;obtain ⟨_,e0,k0⟩:=K.dep 0 rfl rfl rfl;refine zc 100 _ rfl e0 ?_;obtain ⟨_,e1,k1⟩:=K.dep 1 rfl rfl rfl;refine zc 101 _ rfl e1 ?_;exact zrz rfl rfl (by omega) ⟨Below.refl _ _,Left.of rfl⟩
    intro vs w9 LE AO AL AF AA;have hbd:Below (wE).heap.size (wE) w9:=(((Ext.refl No (wE)).drew).trans LE).toBelow;obtain ⟨_,e14,k14⟩:=AL.2.2.2.2.2.2.2.2.2.2.2.2.2.2.1;refine qe (τ:=[(4,_),(5,_),(11,_),(13,_),(99,.bool false)]) ⟨rfl,rfl,rfl,rfl,congrArg some e14,trivial⟩ ?_;clear AL AF AA AO;have E3f:=Ext.of_below hbd No;refine yk ?_;refine za rfl (zl Tryz.underlying3 rfl rfl (BsE.ext E3f (fun h↦h.elim)) rfl (stp ?_));refine zf 121 (.bool false) rfl ((by congr 1;rw[beq_eq_false_iff_ne];omega:(.bool (((lkK W top x:Nat):Int)==4):Value)=_)) ?_;have EF:=E3f;have BvZ:=BvE.ext EF (fun h=>h.elim);refine stp32 ?_;refine za rfl (ye (cs:=#[.int .i64 0,.bool false,.bool false,.slice none 0 0,.int .u64 0,.string ⟨#[]⟩,.slice none 0 0]) zhz xt rfl rfl (zq (zm kd rfl rfl BvZ rfl rfl rfl ?_)));rintro wY BvY EY;refine yk ?_;exact ⟨none,0,by rw[hnone];rfl,by rw[hnone];exact jx,((hEE.step EF (fun _ h=>h.elim)).step EY (fun q hq=>Or.inl (show w.heap.size≤q by have:=yj hq;omega))).below (fun _ h=>h)⟩
  ·
   refine zf 76 (.bool false) rfl ((by congr 1;rw[beq_eq_false_iff_ne];omega:(.bool (((lkK W top x:Nat):Int)==2):Value)=_)) ?_;by_cases k3:lkK W top x=3
   ·
    by_cases r3:R.length=1
    ·
     obtain ⟨gl,hgl,hcl⟩:=own_room Oi (by omega);refine zf 13 (.slice (some ⟨gl,0,none⟩) R.length d) rfl ((by rw[hgl]:(.slice D R.length d:Value)=_)) ?_;subst hgl;obtain ⟨gm,om,hA0,hgm,hcm⟩:=hRw.at (show 0<R.length by omega);cases hA0
     by_cases b3:wat R 0=yc (ya (yc (ya (wat R 0))))
     ·
      refine gh ?_;refine yv (No) Mut.none_ [] [] (jh [Fx.of (.agg #[.int .i64 ((lkK W top x:Nat):Int),.int .i64 ((lkT W top x:Nat):Int),.int .i64 ((lkR W top x:Nat):Int)]),
       Fx.of (.agg #[.int .i64 3,.int .i64 0,.int .i64 1]),
       Fx.of (.bool true),
       Fx.of (.bool true),
       Fx.of (.slice (some ⟨gl,0,none⟩) R.length d),
       Fx.of (.pointer (some ⟨gl,0+0,none⟩)),
       Fx.of (.int .u64 ((wat R 0:Nat):Int)),
       Fx.of (.slice (some ⟨gl,0,none⟩) R.length d),
       Fx.of (.pointer (some ⟨gl,0+0,none⟩)),
       Fx.of (.int .u64 ((wat R 0:Nat):Int)),
       Fx.of (.int .u64 ((yc (ya (wat R 0)):Nat):Int)),
       Fx.of (.int .u64 ((yc (ya (yc (ya (wat R 0)))):Nat):Int)),
       Fx.of (.bool true),
       Fx.of (.bool true),
       Fx.of (.bool true)]) qt rfl trivial (fun _ h=>by cases h) ?_ ?_
      · refine ⟨?_,?_,?_,arm,arm,?_,?_,arm,?_,?_,?_,?_,?_,arm,arm,trivial⟩
        · intro vs X wq K;have LE:=K.1;exact yy u68 rfl xj rfl (yh LE BsE) rfl ⟨Below.refl _ _,Left.of rfl⟩
        · intro vs X wq K;exact ye (cs:=#[.int .i64 3,.int .i64 0,.int .i64 1]) pl68 og rfl rfl ⟨Below.refl _ _,Left.of rfl⟩
        · intro vs X wq K;obtain ⟨_,e0,k0⟩:=K.dep 0 rfl rfl rfl;refine zc 100 _ rfl e0 ?_;obtain ⟨_,e1,k1⟩:=K.dep 1 rfl rfl rfl;refine zc 101 _ rfl e1 ?_;exact ow_shapeT rfl rfl (by omega) ⟨Below.refl _ _,Left.of rfl⟩
        · intro vs X wq K;obtain ⟨_,e4,k4⟩:=K.dep 4 rfl rfl rfl;refine zc 104 _ rfl e4 ?_;obtain ⟨_,e3,k3⟩:=K.dep 3 rfl rfl rfl;refine zc 103 _ rfl e3 ?_;exact zo rfl (zi (j:=0) u22 qk rfl rfl rfl (by omega) ⟨Below.refl _ _,Left.of rfl⟩)
        · intro vs X wq K;have LE:=K.1;obtain ⟨_,e5,k5⟩:=K.dep 5 rfl rfl rfl;refine zc 105 _ rfl e5 ?_;obtain ⟨_,e3,k3⟩:=K.dep 3 rfl rfl rfl;refine zc 103 _ rfl e3 ?_;exact zo rfl (yl u27 rfl rfl (kq LE hcm) ⟨Below.refl _ _,Left.of rfl⟩)
        · intro vs X wq K;obtain ⟨_,e7,k7⟩:=K.dep 7 rfl rfl rfl;refine zc 107 _ rfl e7 ?_;obtain ⟨_,e3,k3⟩:=K.dep 3 rfl rfl rfl;refine zc 103 _ rfl e3 ?_;exact zo rfl (zi (j:=0) u22 qk rfl rfl rfl (by omega) ⟨Below.refl _ _,Left.of rfl⟩)
        · intro vs X wq K;have LE:=K.1;obtain ⟨_,e8,k8⟩:=K.dep 8 rfl rfl rfl;refine zc 108 _ rfl e8 ?_;obtain ⟨_,e3,k3⟩:=K.dep 3 rfl rfl rfl;refine zc 103 _ rfl e3 ?_;exact zo rfl (yl u27 rfl rfl (kq LE hcm) ⟨Below.refl _ _,Left.of rfl⟩)
        · intro vs X wq K;obtain ⟨_,e9,k9⟩:=K.dep 9 rfl rfl rfl;refine zc 109 _ rfl e9 ?_;obtain ⟨_,e3,k3⟩:=K.dep 3 rfl rfl rfl;refine zc 103 _ rfl e3 (zo rfl (zd en24 rfl ((zjv _ (wat R 0)).mono ?_)));rintro e w2 ⟨rfl,hb⟩;exact ⟨_,rfl,hb,Left.of rfl⟩
        · intro vs X wq K;obtain ⟨_,e10,k10⟩:=K.dep 10 rfl rfl rfl;refine zc 110 _ rfl e10 ?_;obtain ⟨_,e3,k3⟩:=K.dep 3 rfl rfl rfl;refine zc 103 _ rfl e3 (zo rfl (zd en24 rfl ((zjv _ (yc (ya (wat R 0)))).mono ?_)));rintro e w2 ⟨rfl,hb⟩;exact ⟨_,rfl,hb,Left.of rfl⟩
        · intro vs X wq K;obtain ⟨_,e6,k6⟩:=K.dep 6 rfl rfl rfl;refine zc 106 _ rfl e6 ?_;obtain ⟨_,e11,k11⟩:=K.dep 11 rfl rfl rfl;refine zc 111 _ rfl e11 ?_;obtain ⟨_,e3,k3⟩:=K.dep 3 rfl rfl rfl;refine zc 103 _ rfl e3 ?_;exact zo rfl (ow_eql rfl rfl ⟨Below.refl _ _,Left.of ((by rw[←b3];simp:(.bool (((wat R 0:Nat):Int)==((yc (ya (yc (ya (wat R 0)))):Nat):Int)):Value)=_))⟩)
      intro vs w10 LE AO AL AF AA;have hbd:Below (wE).heap.size (wE) w10:=(((Ext.refl No (wE)).drew).trans LE).toBelow;obtain ⟨_,e14,k14⟩:=AL.2.2.2.2.2.2.2.2.2.2.2.2.2.2.1;refine qe (τ:=[(4,_),(5,_),(11,_),(13,_),(99,.bool true)]) ⟨rfl,rfl,rfl,rfl,congrArg some e14,trivial⟩ ?_;clear AL AF AA AO;have EF:=Ext.of_below hbd No;refine yk ?_;refine za rfl (zi (j:=0) u22 qk rfl rfl rfl (by omega) (za rfl (yl u27 rfl rfl ((EF.cell (show gl<_ from hgm) (fun h↦h.elim)).trans hcm) ?_)));have BvZ:=BvE.ext EF (fun h=>h.elim);refine za rfl (ye (cs:=#[.int .i64 3,.bool false,.bool false,.slice none 0 0,.int .u64 ((wat R 0:Nat):Int),.string ⟨#[]⟩,.slice none 0 0]) zhz xt rfl rfl (zq (zm kd rfl rfl BvZ rfl rfl rfl ?_)));rintro wY BvY EY;refine yu ?_;exact ⟨none,0,by rw[rawO_f ⟨k3,r3,b3⟩];rfl,by rw[rawO_f ⟨k3,r3,b3⟩];exact jx,((hEE.step EF (fun _ h=>h.elim)).step EY (fun q hq=>Or.inl (show w.heap.size≤q by have:=yj hq;omega))).below (fun _ h=>h)⟩
     ·
      have hnone:zox (lkK W top x) R=none:=yaq (by omega) (fun h=>b3 h.2.2) (by omega);refine gh ?_;refine yv (No) Mut.none_ [] [] (jh [Fx.of (.agg #[.int .i64 ((lkK W top x:Nat):Int),.int .i64 ((lkT W top x:Nat):Int),.int .i64 ((lkR W top x:Nat):Int)]),
       Fx.of (.agg #[.int .i64 3,.int .i64 0,.int .i64 1]),
       Fx.of (.bool true),
       Fx.of (.bool true),
       Fx.of (.slice (some ⟨gl,0,none⟩) R.length d),
       Fx.of (.pointer (some ⟨gl,0+0,none⟩)),
       Fx.of (.int .u64 ((wat R 0:Nat):Int)),
       Fx.of (.slice (some ⟨gl,0,none⟩) R.length d),
       Fx.of (.pointer (some ⟨gl,0+0,none⟩)),
       Fx.of (.int .u64 ((wat R 0:Nat):Int)),
       Fx.of (.int .u64 ((yc (ya (wat R 0)):Nat):Int)),
       Fx.of (.int .u64 ((yc (ya (yc (ya (wat R 0)))):Nat):Int)),
       Fx.of (.bool false),
       Fx.of (.bool false),
       Fx.of (.bool false)]) qt rfl trivial (fun _ h=>by cases h) ?_ ?_
      · refine ⟨?_,?_,?_,arm,arm,?_,?_,arm,?_,?_,?_,?_,?_,arm,arm,trivial⟩
        · intro vs X wq K;have LE:=K.1;exact yy u68 rfl xj rfl (yh LE BsE) rfl ⟨Below.refl _ _,Left.of rfl⟩
        · intro vs X wq K;exact ye (cs:=#[.int .i64 3,.int .i64 0,.int .i64 1]) pl68 og rfl rfl ⟨Below.refl _ _,Left.of rfl⟩
        · intro vs X wq K;obtain ⟨_,e0,k0⟩:=K.dep 0 rfl rfl rfl;refine zc 100 _ rfl e0 ?_;obtain ⟨_,e1,k1⟩:=K.dep 1 rfl rfl rfl;refine zc 101 _ rfl e1 ?_;exact ow_shapeT rfl rfl (by omega) ⟨Below.refl _ _,Left.of rfl⟩
        · intro vs X wq K;obtain ⟨_,e4,k4⟩:=K.dep 4 rfl rfl rfl;refine zc 104 _ rfl e4 ?_;obtain ⟨_,e3,k3⟩:=K.dep 3 rfl rfl rfl;refine zc 103 _ rfl e3 ?_;exact zo rfl (zi (j:=0) u22 qk rfl rfl rfl (by omega) ⟨Below.refl _ _,Left.of rfl⟩)
        · intro vs X wq K;have LE:=K.1;obtain ⟨_,e5,k5⟩:=K.dep 5 rfl rfl rfl;refine zc 105 _ rfl e5 ?_;obtain ⟨_,e3,k3⟩:=K.dep 3 rfl rfl rfl;refine zc 103 _ rfl e3 ?_;exact zo rfl (yl u27 rfl rfl (kq LE hcm) ⟨Below.refl _ _,Left.of rfl⟩)
        · intro vs X wq K;obtain ⟨_,e7,k7⟩:=K.dep 7 rfl rfl rfl;refine zc 107 _ rfl e7 ?_;obtain ⟨_,e3,k3⟩:=K.dep 3 rfl rfl rfl;refine zc 103 _ rfl e3 ?_;exact zo rfl (zi (j:=0) u22 qk rfl rfl rfl (by omega) ⟨Below.refl _ _,Left.of rfl⟩)
        · intro vs X wq K;have LE:=K.1;obtain ⟨_,e8,k8⟩:=K.dep 8 rfl rfl rfl;refine zc 108 _ rfl e8 ?_;obtain ⟨_,e3,k3⟩:=K.dep 3 rfl rfl rfl;refine zc 103 _ rfl e3 ?_;exact zo rfl (yl u27 rfl rfl (kq LE hcm) ⟨Below.refl _ _,Left.of rfl⟩)
        · intro vs X wq K;obtain ⟨_,e9,k9⟩:=K.dep 9 rfl rfl rfl;refine zc 109 _ rfl e9 ?_;obtain ⟨_,e3,k3⟩:=K.dep 3 rfl rfl rfl;refine zc 103 _ rfl e3 (zo rfl (zd en24 rfl ((zjv _ (wat R 0)).mono ?_)));rintro e w2 ⟨rfl,hb⟩;exact ⟨_,rfl,hb,Left.of rfl⟩
        · intro vs X wq K;obtain ⟨_,e10,k10⟩:=K.dep 10 rfl rfl rfl;refine zc 110 _ rfl e10 ?_;obtain ⟨_,e3,k3⟩:=K.dep 3 rfl rfl rfl;refine zc 103 _ rfl e3 (zo rfl (zd en24 rfl ((zjv _ (yc (ya (wat R 0)))).mono ?_)));rintro e w2 ⟨rfl,hb⟩;exact ⟨_,rfl,hb,Left.of rfl⟩
        · intro vs X wq K;obtain ⟨_,e6,k6⟩:=K.dep 6 rfl rfl rfl;refine zc 106 _ rfl e6 ?_;obtain ⟨_,e11,k11⟩:=K.dep 11 rfl rfl rfl;refine zc 111 _ rfl e11 ?_;obtain ⟨_,e3,k3⟩:=K.dep 3 rfl rfl rfl;refine zc 103 _ rfl e3 ?_;exact zo rfl (ow_eql rfl rfl ⟨Below.refl _ _,Left.of ((by congr 1;rw[beq_eq_false_iff_ne];intro h;exact b3 (Int.ofNat_inj.1 h):(.bool (((wat R 0:Nat):Int)==((yc (ya (yc (ya (wat R 0)))):Nat):Int)):Value)=_))⟩)
      intro vs w11 LE AO AL AF AA;have hbd:Below (wE).heap.size (wE) w11:=(((Ext.refl No (wE)).drew).trans LE).toBelow;obtain ⟨_,e14,k14⟩:=AL.2.2.2.2.2.2.2.2.2.2.2.2.2.2.1;refine qe (τ:=[(4,_),(5,_),(11,_),(13,_),(99,.bool false)]) ⟨rfl,rfl,rfl,rfl,congrArg some e14,trivial⟩ ?_;clear AL AF AA AO;have E3f:=Ext.of_below hbd No;refine yk ?_;refine za rfl (zl Tryz.underlying3 rfl rfl (BsE.ext E3f (fun h↦h.elim)) rfl (stp ?_));refine zf 121 (.bool false) rfl ((by congr 1;rw[beq_eq_false_iff_ne];omega:(.bool (((lkK W top x:Nat):Int)==4):Value)=_)) ?_;have EF:=E3f;have BvZ:=BvE.ext EF (fun h=>h.elim);refine stp32 ?_;refine za rfl (ye (cs:=#[.int .i64 0,.bool false,.bool false,.slice none 0 0,.int .u64 0,.string ⟨#[]⟩,.slice none 0 0]) zhz xt rfl rfl (zq (zm kd rfl rfl BvZ rfl rfl rfl ?_)));rintro wY BvY EY;refine yk ?_;exact ⟨none,0,by rw[hnone];rfl,by rw[hnone];exact jx,((hEE.step EF (fun _ h=>h.elim)).step EY (fun q hq=>Or.inl (show w.heap.size≤q by have:=yj hq;omega))).below (fun _ h=>h)⟩
    ·
     have hnone:zox (lkK W top x) R=none:=yaq (by omega) (fun h=>r3 h.2.1) (by omega);refine gh ?_;refine yv (No) Mut.none_ [] [] (jh [Fx.of (.agg #[.int .i64 ((lkK W top x:Nat):Int),.int .i64 ((lkT W top x:Nat):Int),.int .i64 ((lkR W top x:Nat):Int)]),
      Fx.of (.agg #[.int .i64 3,.int .i64 0,.int .i64 1]),
      Fx.of (.bool false),
      Fx.of (.bool false),
      Fx.of undef,
      Fx.of undef,
      Fx.of undef,
      Fx.of undef,
      Fx.of undef,
      Fx.of undef,
      Fx.of undef,
      Fx.of undef,
      Fx.of undef,
      Fx.of (.bool false),
      Fx.of (.bool false)]) qt rfl trivial (fun _ h=>by cases h) ?_ ?_
     · refine ⟨?_,?_,?_,arm,arm,arm,arm,arm,arm,arm,arm,arm,arm,arm,arm,trivial⟩
       · intro vs X wq K;have LE:=K.1;exact yy u68 rfl xj rfl (yh LE BsE) rfl ⟨Below.refl _ _,Left.of rfl⟩
       · intro vs X wq K;exact ye (cs:=#[.int .i64 3,.int .i64 0,.int .i64 1]) pl68 og rfl rfl ⟨Below.refl _ _,Left.of rfl⟩
       · intro vs X wq K;obtain ⟨_,e0,k0⟩:=K.dep 0 rfl rfl rfl;refine zc 100 _ rfl e0 ?_;obtain ⟨_,e1,k1⟩:=K.dep 1 rfl rfl rfl;refine zc 101 _ rfl e1 ?_;exact zrz rfl rfl (by omega) ⟨Below.refl _ _,Left.of rfl⟩
     intro vs w12 LE AO AL AF AA;have hbd:Below (wE).heap.size (wE) w12:=(((Ext.refl No (wE)).drew).trans LE).toBelow;obtain ⟨_,e14,k14⟩:=AL.2.2.2.2.2.2.2.2.2.2.2.2.2.2.1;refine qe (τ:=[(4,_),(5,_),(11,_),(13,_),(99,.bool false)]) ⟨rfl,rfl,rfl,rfl,congrArg some e14,trivial⟩ ?_;clear AL AF AA AO;have E3f:=Ext.of_below hbd No;refine yk ?_;refine za rfl (zl Tryz.underlying3 rfl rfl (BsE.ext E3f (fun h↦h.elim)) rfl (stp ?_));refine zf 121 (.bool false) rfl ((by congr 1;rw[beq_eq_false_iff_ne];omega:(.bool (((lkK W top x:Nat):Int)==4):Value)=_)) ?_;have EF:=E3f;have BvZ:=BvE.ext EF (fun h=>h.elim);refine stp32 ?_;refine za rfl (ye (cs:=#[.int .i64 0,.bool false,.bool false,.slice none 0 0,.int .u64 0,.string ⟨#[]⟩,.slice none 0 0]) zhz xt rfl rfl (zq (zm kd rfl rfl BvZ rfl rfl rfl ?_)));rintro wY BvY EY;refine yk ?_;exact ⟨none,0,by rw[hnone];rfl,by rw[hnone];exact jx,((hEE.step EF (fun _ h=>h.elim)).step EY (fun q hq=>Or.inl (show w.heap.size≤q by have:=yj hq;omega))).below (fun _ h=>h)⟩
   ·
    by_cases k4:lkK W top x=4
    ·
     refine gh ?_;refine yv (No) Mut.none_ [] [] (jh [Fx.of (.agg #[.int .i64 ((lkK W top x:Nat):Int),.int .i64 ((lkT W top x:Nat):Int),.int .i64 ((lkR W top x:Nat):Int)]),
      Fx.of (.agg #[.int .i64 3,.int .i64 0,.int .i64 1]),
      Fx.of (.bool false),
      Fx.of (.bool false),
      Fx.of undef,
      Fx.of undef,
      Fx.of undef,
      Fx.of undef,
      Fx.of undef,
      Fx.of undef,
      Fx.of undef,
      Fx.of undef,
      Fx.of undef,
      Fx.of (.bool false),
      Fx.of (.bool false)]) qt rfl trivial (fun _ h=>by cases h) ?_ ?_
     · refine ⟨?_,?_,?_,arm,arm,arm,arm,arm,arm,arm,arm,arm,arm,arm,arm,trivial⟩
       · intro vs X wq K;have LE:=K.1;exact yy u68 rfl xj rfl (yh LE BsE) rfl ⟨Below.refl _ _,Left.of rfl⟩
       · intro vs X wq K;exact ye (cs:=#[.int .i64 3,.int .i64 0,.int .i64 1]) pl68 og rfl rfl ⟨Below.refl _ _,Left.of rfl⟩
       · intro vs X wq K;obtain ⟨_,e0,k0⟩:=K.dep 0 rfl rfl rfl;refine zc 100 _ rfl e0 ?_;obtain ⟨_,e1,k1⟩:=K.dep 1 rfl rfl rfl;refine zc 101 _ rfl e1 ?_;exact zrz rfl rfl (by omega) ⟨Below.refl _ _,Left.of rfl⟩
     intro vs w13 LE AO AL AF AA;have hbd:Below (wE).heap.size (wE) w13:=(((Ext.refl No (wE)).drew).trans LE).toBelow;obtain ⟨_,e14,k14⟩:=AL.2.2.2.2.2.2.2.2.2.2.2.2.2.2.1;refine qe (τ:=[(4,_),(5,_),(11,_),(13,_),(99,.bool false)]) ⟨rfl,rfl,rfl,rfl,congrArg some e14,trivial⟩ ?_;clear AL AF AA AO;have E3f:=Ext.of_below hbd No;refine yk ?_;refine za rfl (zl Tryz.underlying3 rfl rfl (BsE.ext E3f (fun h↦h.elim)) rfl (stp ?_));refine zf 121 (.bool true) rfl ((by rw[k4];rfl:(.bool (((lkK W top x:Nat):Int)==4):Value)=_)) (qb ?_);have EF:=E3f;by_cases q4:0<R.length
     ·
      refine zf 125 (.bool true) rfl ((by rw[decide_eq_true];omega:(.bool (decide ((0:Int)<((R.length:Nat):Int))):Value)=_)) ?_;obtain ⟨gl,hgl,hcl⟩:=own_room Oi (by omega);refine zf 13 (.slice (some ⟨gl,0,none⟩) R.length d) rfl ((by rw[hgl]:(.slice D R.length d:Value)=_)) ?_;subst hgl;obtain ⟨gm,om,hA0,hgm,hcm⟩:=hRw.at q4;cases hA0
      refine qc ?_;refine onx rfl (zi (j:=0) u22 qk rfl rfl rfl q4 (onx rfl (yl u27 rfl rfl ((EF.cell (show gl<_ from hgm) (fun h↦h.elim)).trans hcm) (stp ?_))));by_cases m4:wat R 0≤20000
      ·
       refine zf 131 (.bool true) rfl ((by rw[decide_eq_true];omega:(.bool (decide (((wat R 0:Nat):Int)≤20000)):Value)=_)) (yk ?_);refine onx rfl (zi (j:=0) u22 qk rfl rfl rfl q4 (onx rfl (yl u27 rfl rfl ((EF.cell (show gl<_ from hgm) (fun h↦h.elim)).trans hcm) (onx rfl (yi Tryz.underlying3 u27 rfl (show IntKind.i64.wrap ((wat R 0:Nat):Int)=((wat R 0:Nat):Int) from zg (by omega)) (onx rfl (zr rfl rfl (zg (by omega)) (zf 140 (.int .i64 ((wat R 0+7:Nat):Int)) rfl ((by first | rfl | (congr 1;omega):(.int .i64 (((wat R 0:Nat):Int)+7):Value)=_)) (onx rfl (oi rfl rfl (by decide) (show IntKind.i64.wrap (((wat R 0+7:Nat):Int).tdiv 8)=(((wat R 0+7)/8:Nat):Int) from by rw[Int.tdiv_eq_ediv_of_nonneg (by omega)];exact zg (by omega)) (onx rfl (zr rfl rfl (zg (by omega)) (zf 142 (.int .i64 ((1+(wat R 0+7)/8:Nat):Int)) rfl ((by first | rfl | (congr 1;omega):(.int .i64 (1+(((wat R 0+7)/8:Nat):Int)):Value)=_)) (stp ?_))))))))))))));by_cases e4:R.length=1+(wat R 0+7)/8
       ·
        refine zf 143 (.bool true) rfl ((by rw[←e4];simp:(.bool (((R.length:Nat):Int)==((1+(wat R 0+7)/8:Nat):Int)):Value)=_)) (yx ?_);by_cases t4:jo (jp R)=R
        ·
         refine za rfl (zd en37 rfl (((otext_any _ (some ⟨gl,0,none⟩) R d wE.heap.size (hRw.no EF) EF.size m4 e4).mono (fun _ _ h=>by rw[ygz t4] at h;exact h)).mono ?_));rintro e w14 ⟨rfl,hb⟩;refine ⟨_,rfl,?_⟩;have EH:=EF.trans (Ext.of_below hb No);have BvZ:=BvE.ext EH (fun h=>h.elim);refine zy ?_;refine zq (zm kd rfl rfl BvZ rfl rfl rfl ?_);rintro wY BvY EY;refine yu ?_;exact ⟨none,0,by rw[rawO_s ⟨k4,q4,m4,e4⟩,ygz t4];rfl,by rw[rawO_s ⟨k4,q4,m4,e4⟩,ygz t4];exact jx,((hEE.step EH (fun _ h=>h.elim)).step EY (fun q hq=>Or.inl (show w.heap.size≤q by have:=yj hq;omega))).below (fun _ h=>h)⟩
        ·
         refine za rfl (zd en37 rfl (((otext_any _ (some ⟨gl,0,none⟩) R d wE.heap.size (hRw.no EF) EF.size m4 e4).mono (fun _ _ h=>by rw[yrx t4] at h;exact h)).mono ?_));rintro e w15 ⟨rfl,hb⟩;refine ⟨_,rfl,?_⟩;have EH:=EF.trans (Ext.of_below hb No);have BvZ:=BvE.ext EH (fun h=>h.elim);refine zy ?_;refine zq (zm kd rfl rfl BvZ rfl rfl rfl ?_);rintro wY BvY EY;refine yu ?_;exact ⟨none,0,by rw[rawO_s ⟨k4,q4,m4,e4⟩,yrx t4];rfl,by rw[rawO_s ⟨k4,q4,m4,e4⟩,yrx t4];exact jx,((hEE.step EH (fun _ h=>h.elim)).step EY (fun q hq=>Or.inl (show w.heap.size≤q by have:=yj hq;omega))).below (fun _ h=>h)⟩
       ·
        refine zf 143 (.bool false) rfl ((by congr 1;rw[beq_eq_false_iff_ne];omega:(.bool (((R.length:Nat):Int)==((1+(wat R 0+7)/8:Nat):Int)):Value)=_)) ?_;have hnone:zox (lkK W top x) R=none:=yaq (by omega) (by omega) (by omega);have BvZ:=BvE.ext EF (fun h=>h.elim);refine zz ?_;refine za rfl (ye (cs:=#[.int .i64 0,.bool false,.bool false,.slice none 0 0,.int .u64 0,.string ⟨#[]⟩,.slice none 0 0]) zhz xt rfl rfl (zq (zm kd rfl rfl BvZ rfl rfl rfl ?_)));rintro wY BvY EY;refine yk ?_;exact ⟨none,0,by rw[hnone];rfl,by rw[hnone];exact jx,((hEE.step EF (fun _ h=>h.elim)).step EY (fun q hq=>Or.inl (show w.heap.size≤q by have:=yj hq;omega))).below (fun _ h=>h)⟩
      ·
       refine zf 131 (.bool false) rfl ((by rw[decide_eq_false];omega:(.bool (decide (((wat R 0:Nat):Int)≤20000)):Value)=_)) ?_;have hnone:zox (lkK W top x) R=none:=yaq (by omega) (by omega) (by omega);have BvZ:=BvE.ext EF (fun h=>h.elim);refine yrz ?_;refine za rfl (ye (cs:=#[.int .i64 0,.bool false,.bool false,.slice none 0 0,.int .u64 0,.string ⟨#[]⟩,.slice none 0 0]) zhz xt rfl rfl (zq (zm kd rfl rfl BvZ rfl rfl rfl ?_)));rintro wY BvY EY;refine yk ?_;exact ⟨none,0,by rw[hnone];rfl,by rw[hnone];exact jx,((hEE.step EF (fun _ h=>h.elim)).step EY (fun q hq=>Or.inl (show w.heap.size≤q by have:=yj hq;omega))).below (fun _ h=>h)⟩
     ·
      refine zf 125 (.bool false) rfl ((by rw[decide_eq_false];omega:(.bool (decide ((0:Int)<((R.length:Nat):Int))):Value)=_)) ?_;have hnone:zox (lkK W top x) R=none:=yaq (by omega) (by omega) (by omega);have BvZ:=BvE.ext EF (fun h=>h.elim);refine stp28 ?_;refine za rfl (ye (cs:=#[.int .i64 0,.bool false,.bool false,.slice none 0 0,.int .u64 0,.string ⟨#[]⟩,.slice none 0 0]) zhz xt rfl rfl (zq (zm kd rfl rfl BvZ rfl rfl rfl ?_)));rintro wY BvY EY;refine yk ?_;exact ⟨none,0,by rw[hnone];rfl,by rw[hnone];exact jx,((hEE.step EF (fun _ h=>h.elim)).step EY (fun q hq=>Or.inl (show w.heap.size≤q by have:=yj hq;omega))).below (fun _ h=>h)⟩
    ·
     have hnone:zox (lkK W top x) R=none:=yaq (by omega) (by omega) (by omega);refine gh ?_;refine yv (No) Mut.none_ [] [] (jh [Fx.of (.agg #[.int .i64 ((lkK W top x:Nat):Int),.int .i64 ((lkT W top x:Nat):Int),.int .i64 ((lkR W top x:Nat):Int)]),
      Fx.of (.agg #[.int .i64 3,.int .i64 0,.int .i64 1]),
      Fx.of (.bool false),
      Fx.of (.bool false),
      Fx.of undef,
      Fx.of undef,
      Fx.of undef,
      Fx.of undef,
      Fx.of undef,
      Fx.of undef,
      Fx.of undef,
      Fx.of undef,
      Fx.of undef,
      Fx.of (.bool false),
      Fx.of (.bool false)]) qt rfl trivial (fun _ h=>by cases h) ?_ ?_
     · refine ⟨?_,?_,?_,arm,arm,arm,arm,arm,arm,arm,arm,arm,arm,arm,arm,trivial⟩
       · intro vs X wq K;have LE:=K.1;exact yy u68 rfl xj rfl (yh LE BsE) rfl ⟨Below.refl _ _,Left.of rfl⟩
       · intro vs X wq K;exact ye (cs:=#[.int .i64 3,.int .i64 0,.int .i64 1]) pl68 og rfl rfl ⟨Below.refl _ _,Left.of rfl⟩
       · intro vs X wq K;obtain ⟨_,e0,k0⟩:=K.dep 0 rfl rfl rfl;refine zc 100 _ rfl e0 ?_;obtain ⟨_,e1,k1⟩:=K.dep 1 rfl rfl rfl;refine zc 101 _ rfl e1 ?_;exact zrz rfl rfl (by omega) ⟨Below.refl _ _,Left.of rfl⟩
     intro vs w16 LE AO AL AF AA;have hbd:Below (wE).heap.size (wE) w16:=(((Ext.refl No (wE)).drew).trans LE).toBelow;obtain ⟨_,e14,k14⟩:=AL.2.2.2.2.2.2.2.2.2.2.2.2.2.2.1;refine qe (τ:=[(4,_),(5,_),(11,_),(13,_),(99,.bool false)]) ⟨rfl,rfl,rfl,rfl,congrArg some e14,trivial⟩ ?_;clear AL AF AA AO;have E3f:=Ext.of_below hbd No;refine yk ?_;refine za rfl (zl Tryz.underlying3 rfl rfl (BsE.ext E3f (fun h↦h.elim)) rfl (stp ?_));refine zf 121 (.bool false) rfl ((by congr 1;rw[beq_eq_false_iff_ne];omega:(.bool (((lkK W top x:Nat):Int)==4):Value)=_)) ?_;have EF:=E3f;have BvZ:=BvE.ext EF (fun h=>h.elim);refine stp32 ?_;refine za rfl (ye (cs:=#[.int .i64 0,.bool false,.bool false,.slice none 0 0,.int .u64 0,.string ⟨#[]⟩,.slice none 0 0]) zhz xt rfl rfl (zq (zm kd rfl rfl BvZ rfl rfl rfl ?_)));rintro wY BvY EY;refine yk ?_;exact ⟨none,0,by rw[hnone];rfl,by rw[hnone];exact jx,((hEE.step EF (fun _ h=>h.elim)).step EY (fun q hq=>Or.inl (show w.heap.size≤q by have:=yj hq;omega))).below (fun _ h=>h)⟩
theorem otk_any:Calls Tryz.prog 10 #[xg A W c top,.int .u64 ((x:Nat):Int)] w (RetTk w (vm W top x)):=by
 by_cases h1:zw x=1
 · exact otk_1 w A W c n top x hM hx h1
 by_cases h2:zw x=2
 · exact otk_2 w A W c n top x hM hx h2
 by_cases h:lkB W top x=true∧lkT W top x=0
 · exact otk_4 w A W c n top x hM hx h1 h2 h
 · exact otk_3 w A W c n top x hM hx h1 h2 h
end
end Go.Proofs.YtebjkmjfcijebaaGreat
namespace Go.Proofs.YtebjkmjfcijebaaGreat
open Go.RowKit
set_option maxHeartbeats 20000000
attribute [local irreducible] OW RS CW EW
section
variable (w:World) (ua ub:PV) (A1 B1 A2 B2:Option Addr) (c1 d1 c2 d2:Nat) (hx:Nums w A1 ua.xs) (hl:ua.xs.length≤9223372036854775807) (ha:ua.bits<18446744073709551616) (hy:Nums w A2 ub.xs) (hl':ub.xs.length≤9223372036854775807) (hb0:ub.bits<18446744073709551616)
theorem pl_number:Calls Tryz.prog 75 #[.agg #[.int .i64 ua.k,.bool ua.yes,.bool ua.neg,.slice A1 ua.xs.length c1,.int .u64 ((ua.bits:Nat):Int),.string ua.s,.slice B1 ua.ni d1]] w fun e w'=>e= .returned (.bool (zbx ua.k))∧Below w.heap.size w w':=by
 refine zh Tryz.func75 rfl Tryz.ntmps75 rfl ?_;have HF:Per (No) w (fun _=>True):=Per.true_;have LW:=erx (No) w;have XLW:=grx (No) w;have E:=erx (No) w;refine zy ?_;refine za rfl (zn rfl ?_);intro gb1 w2 Bb1 Eb1 Gb1;have Gb1:_≤gb1:=Nat.le_trans E.size Gb1;have GLb1:=Nat.le_trans LW.size Gb1;replace E:=E.trans Eb1.no;replace HF:=HF.cons (zj Gb1);replace E:=E.cons (some gb1);replace XLW:=Mut.grow XLW (fun k e=>Or.inr (Nat.le_trans LW.size ((zj Gb1) k e)));replace HF:=HF.on E;replace LW:=LW.step E XLW;have SB:∀q9,No q9→Mut [(some gb1)] q9:=(Mut.skip Mut.nil_);replace HF:=HF.less SB;replace XLW:=fun k h=>XLW k (SB k h);clear SB;replace E:=erx (No) w2;replace HF:=HF.and (Per.blkN Bb1 NotIn.nil);refine qa ?_;refine yn 6 rfl (fun h1=>?_) (fun h1=>?_)
 ·
  replace h1:=of_decide_eq_true h1;refine qa ?_;exact ⟨by refine congrArg (fun z=>Ending.returned (.bool z)) ?_;unfold zbx;first | (simp_all;done) | (simp_all;omega),(LW.step E XLW).toBelow⟩
 ·
  replace h1:=of_decide_eq_false h1;refine qa ?_;exact ⟨by refine congrArg (fun z=>Ending.returned (.bool z)) ?_;unfold zbx;first | (simp_all;done) | (simp_all;omega),(LW.step E XLW).toBelow⟩
include hx hl
theorem xe (r:Bool) (hr:PV.good ua=r):Calls Tryz.prog 21 #[.agg #[.int .i64 ua.k,.bool ua.yes,.bool ua.neg,.slice A1 ua.xs.length c1,.int .u64 ((ua.bits:Nat):Int),.string ua.s,.slice B1 ua.ni d1]] w fun e w'=>e= .returned (.bool r)∧Below w.heap.size w w':=by
 subst hr;exact pgood_any w ua.k ua.yes ua.neg A1 B1 ua.xs c1 ua.bits ua.ni d1 ua.s hx hl
omit hx hl in
theorem pl_num (r:Bool) (hr:zbx ua.k=r):Calls Tryz.prog 75 #[.agg #[.int .i64 ua.k,.bool ua.yes,.bool ua.neg,.slice A1 ua.xs.length c1,.int .u64 ((ua.bits:Nat):Int),.string ua.s,.slice B1 ua.ni d1]] w fun e w'=>e= .returned (.bool r)∧Below w.heap.size w w':=by
 subst hr;exact pl_number w ua A1 B1 c1 d1
omit hx hl
theorem yav:Calls Tryz.prog 79 #[.agg #[.int .i64 ua.k,.bool ua.yes,.bool ua.neg,.slice A1 ua.xs.length c1,.int .u64 ((ua.bits:Nat):Int),.string ua.s,.slice B1 ua.ni d1]] w (RetCnt w A1 ua.cn ua.xs ua.cx):=by
 refine zh Tryz.func79 rfl Tryz.ntmps79 rfl (zy ?_);refine za rfl (zn rfl ?_);rintro g1 wA BX E1 G1;refine za rfl (zp ziz ?_);rintro g2 wB BY E2 G2;have BXb:=BX.ext E2 (fun h=>h.elim);have E12:=E1.trans E2;refine zz ?_;refine zx rfl (fun hk=>?_) (fun hk=>?_)
 ·
  have hk1:ua.k=1:=by simpa using hk
  have e1:ua.cn=false:=by unfold PV.cn;rw[if_pos hk1]
  refine yu ?_;refine zx rfl (fun hyes=>?_) (fun hyes=>?_)
  ·
   have e2:ua.cx= [1]:=by unfold PV.cx;rw[if_pos hk1,if_pos hyes]
   refine zy ?_;refine za rfl (zd en32 rfl ((zmv 1 _ (by decide) (by decide)).mono ?_));rintro e w1 ⟨A3,c3,rfl,hO,hb⟩;refine ⟨_,rfl,?_⟩;have E3:=Ext.of_below hb No;have BYc:=BY.ext E3 (fun h=>h.elim);refine zq (zm kj rfl rfl BYc rfl rfl rfl ?_);rintro wC BYd E4;have hs:=E12.size;have h3:=own_later hO E4 BY.lt hs;refine yk ?_;refine vc (rs:=[.cell 2 26]) (vs:=[_]) rfl ⟨⟨_,rfl,xd u26 rfl kj BYd rfl⟩,trivial⟩ ?_;exact ⟨A3,c3,by rw[e1,e2,←pl_one];rfl,Or.inr (by rw[e2,←pl_one];exact h3),((E12.trans E3).step E4 (fun q hq=>Or.inr (by have:=yj hq;have:=E1.size;omega))).toBelow⟩
  ·
   have e2:ua.cx= []:=by unfold PV.cx;rw[if_pos hk1,if_neg (by rw[hyes];decide)]
   refine qb ?_;refine za rfl (ye (cs:=#[.bool false,.slice none 0 0]) pl26 ziz rfl rfl (zq (zm kj rfl rfl BY rfl rfl rfl ?_)));rintro wC BYd E4;refine qb ?_;refine vc (rs:=[.cell 2 26]) (vs:=[_]) rfl ⟨⟨_,rfl,xd u26 rfl kj BYd rfl⟩,trivial⟩ ?_;exact ⟨none,0,by rw[e1,e2];rfl,Or.inr (by rw[e2];exact own_nil),(E12.step E4 (fun q hq=>Or.inr (by have:=yj hq;have:=E1.size;omega))).toBelow⟩
 ·
  have hk1:ua.k≠1:=by simpa using hk
  have e1:ua.cn=ua.neg:=by unfold PV.cn;rw[if_neg hk1]
  have e2:ua.cx=ua.xs:=by unfold PV.cx;rw[if_neg hk1]
  refine yk ?_;refine za rfl (qy (cs:=#[.bool ua.neg,.slice A1 ua.xs.length c1]) u26 rfl kj rfl rfl (two_cells (BXb.cell 2) (BXb.cell 3)) (zq (zm kj rfl rfl BY rfl rfl rfl ?_)));rintro wC BYd E4;refine qc ?_;have E5:Ext No w wC:=E12.step E4 (fun q hq=>Or.inr (by have:=yj hq;have:=E1.size;omega));refine vc (rs:=[.cell 2 26]) (vs:=[_]) rfl ⟨⟨_,rfl,xd u26 rfl kj BYd rfl⟩,trivial⟩ ?_;exact ⟨A1,c1,by rw[e1,e2];rfl,Or.inl ⟨rfl,e2⟩,E5.toBelow⟩
include hx hl ha hy hl' hb0
theorem pl_order:Calls Tryz.prog 76 #[.agg #[.int .i64 ua.k,.bool ua.yes,.bool ua.neg,.slice A1 ua.xs.length c1,.int .u64 ((ua.bits:Nat):Int),.string ua.s,.slice B1 ua.ni d1],.agg #[.int .i64 ub.k,.bool ub.yes,.bool ub.neg,.slice A2 ub.xs.length c2,.int .u64 ((ub.bits:Nat):Int),.string ub.s,.slice B2 ub.ni d2]] w fun e w'=>e= .returned (.tuple #[.int .i64 (ordC ua ub),.bool (zsz ua ub)])∧Below w.heap.size w w':=by
 have hcl:=PV.cx_len hl;have hcl':=PV.cx_len hl';refine zh Tryz.func76 rfl Tryz.ntmps76 rfl ?_;have HF:Per (No) w (fun _=>True):=Per.true_;have LW:=erx (No) w;have XLW:=grx (No) w;have E:=erx (No) w;replace HF:=HF.on E;replace LW:=LW.step E XLW;replace E:=erx (No) w;replace HF:=HF.and (Per.nums0 hx);replace HF:=HF.on E;replace LW:=LW.step E XLW;replace E:=erx (No) w;replace HF:=HF.and (Per.nums0 hy);by_cases hk3:ua.k=3
 ·
  by_cases hj3:ub.k=3
  ·
   refine zy ?_;refine za rfl (zn rfl ?_);intro gb1 w2 Bb1 Eb1 Gb1;have Gb1:_≤gb1:=Nat.le_trans E.size Gb1;have GLb1:=Nat.le_trans LW.size Gb1;replace E:=E.trans Eb1.no;replace HF:=HF.cons (zj Gb1);replace E:=E.cons (some gb1);replace XLW:=Mut.grow XLW (fun k e=>Or.inr (Nat.le_trans LW.size ((zj Gb1) k e)));replace HF:=HF.on E;replace LW:=LW.step E XLW;have SB:∀q9,No q9→Mut [(some gb1)] q9:=(Mut.skip Mut.nil_);replace HF:=HF.less SB;replace XLW:=fun k h=>XLW k (SB k h);clear SB;replace E:=erx (No) w2;replace HF:=HF.and (Per.blkN Bb1 NotIn.nil);refine za rfl (zn rfl ?_);intro gb3 w4 Bb3 Eb3 Gb3;have Gb3:_≤gb3:=Nat.le_trans E.size Gb3;have GLb3:=Nat.le_trans LW.size Gb3;replace E:=E.trans Eb3.no;replace HF:=HF.cons (zj Gb3);replace E:=E.cons (some gb3);replace XLW:=Mut.grow XLW (fun k e=>Or.inr (Nat.le_trans LW.size ((zj Gb3) k e)));replace HF:=HF.on E;replace LW:=LW.step E XLW;have SB:∀q9,No q9→Mut [(some gb3)] q9:=(Mut.skip Mut.nil_);replace HF:=HF.less SB;replace XLW:=fun k h=>XLW k (SB k h);clear SB;replace E:=erx (No) w4;replace HF:=HF.and (Per.blkN Bb3 NotIn.nil);refine qo ?_;refine zf 12 (.bool true) rfl ((by simp[hk3]:(.bool (ua.k==3):Value)=_)) (yu ?_);refine zk 8 (.bool true) rfl ((by simp[hj3]:(.bool (ub.k==3):Value)=_)) (yu ?_);refine za rfl (zd en88 rfl ((cmp_any_r _ ua.bits ub.bits).mono ?_));rintro e w5 ⟨rfl,hb⟩;refine ⟨_,rfl,?_⟩;replace E:=blx E hb;refine zz ?_;exact ⟨by unfold ordC zsz;rw[if_pos hk3,if_pos hk3,if_pos hj3,if_pos hj3];rfl,(LW.step E XLW).toBelow⟩
  ·
   refine zy ?_;refine za rfl (zn rfl ?_);intro gb6 w7 Bb6 Eb6 Gb6;have Gb6:_≤gb6:=Nat.le_trans E.size Gb6;have GLb6:=Nat.le_trans LW.size Gb6;replace E:=E.trans Eb6.no;replace HF:=HF.cons (zj Gb6);replace E:=E.cons (some gb6);replace XLW:=Mut.grow XLW (fun k e=>Or.inr (Nat.le_trans LW.size ((zj Gb6) k e)));replace HF:=HF.on E;replace LW:=LW.step E XLW;have SB:∀q9,No q9→Mut [(some gb6)] q9:=(Mut.skip Mut.nil_);replace HF:=HF.less SB;replace XLW:=fun k h=>XLW k (SB k h);clear SB;replace E:=erx (No) w7;replace HF:=HF.and (Per.blkN Bb6 NotIn.nil);refine za rfl (zn rfl ?_);intro gb8 w9 Bb8 Eb8 Gb8;have Gb8:_≤gb8:=Nat.le_trans E.size Gb8;have GLb8:=Nat.le_trans LW.size Gb8;replace E:=E.trans Eb8.no;replace HF:=HF.cons (zj Gb8);replace E:=E.cons (some gb8);replace XLW:=Mut.grow XLW (fun k e=>Or.inr (Nat.le_trans LW.size ((zj Gb8) k e)));replace HF:=HF.on E;replace LW:=LW.step E XLW;have SB:∀q9,No q9→Mut [(some gb8)] q9:=(Mut.skip Mut.nil_);replace HF:=HF.less SB;replace XLW:=fun k h=>XLW k (SB k h);clear SB;replace E:=erx (No) w9;replace HF:=HF.and (Per.blkN Bb8 NotIn.nil);refine qo ?_;refine zf 12 (.bool true) rfl ((by simp[hk3]:(.bool (ua.k==3):Value)=_)) (yu ?_);refine zk 8 (.bool false) rfl ((by simp[hj3]:(.bool (ub.k==3):Value)=_)) (qa ?_);refine zk 24 (.bool true) rfl ((by simp[hk3]:(.bool (ua.k==3):Value)=_)) (zy ?_);have OY:∀q9,(Mut (ybq [])) q9→q9<(World.drew w9).heap.size→(No) q9:=fun k h _=>(Mut.none_) k h;refine yv (No) Mut.none_ [] [] (jh [Fx.of (.pointer (some ⟨gb6,4,none⟩)),
    Fx.of (.int .u64 ((ua.bits:Nat):Int)),
    Fx.of (.agg #[.int .i64 ub.k,.bool ub.yes,.bool ub.neg,.slice A2 ub.xs.length c2,.int .u64 ((ub.bits:Nat):Int),.string ub.s,.slice B2 ub.ni d2]),
    ⟨(Option Addr×Nat),fun (A3,c3)=>.agg #[.bool ub.cn,.slice A3 ub.cx.length c3],fun (A3,c3) b=>(CntV b A2 A3 ub.xs (PV.cx ub))⟩,
    Fx.of (.tuple #[.int .i64 (zzq ua.bits ub.cn ub.cx),.bool (zcq ua.bits ub.cn ub.cx)]),
    Fx.of (.int .i64 (zzq ua.bits ub.cn ub.cx)),
    Fx.of (.bool (zcq ua.bits ub.cn ub.cx)),
    Fx.of (.int .i64 (zzq ua.bits ub.cn ub.cx)),
    Fx.of (.bool (zcq ua.bits ub.cn ub.cx))]) qt rfl trivial (fun _ h=>by cases h) ?_ ?_
   · refine ⟨arm,arm,arm,?_,?_,arm,arm,arm,arm,trivial⟩
     · intro vs X wq K;have XN:=K.2.1;obtain ⟨_,e2,k2⟩:=K.dep 2 rfl rfl rfl;refine zc 30 _ rfl e2 (zd en79 rfl ((yav _ ub A2 B2 c2 d2).mono ?_));rintro e w2 ⟨A3,c3,rfl,hN,hb⟩;exact ⟨_,rfl,hb,⟨(A3,c3),rfl,qgv hN XN⟩⟩
     · intro vs X wq K;have LE:=K.1;obtain ⟨_,e1,k1⟩:=K.dep 1 rfl rfl rfl;refine zc 29 _ rfl e1 ?_;obtain ⟨⟨A3,c3⟩,e3,k3⟩:=K.dep 3 rfl rfl rfl;refine zc 31 _ rfl e3 (zd en89 rfl ((cmpbig_any _ ua.bits ha ub.cn A3 c3 ub.cx ((k3.here).nums (HF.on (E.drew.trans (LE.mono OY))).here.1.1.2) hcl').mono ?_));rintro e w2 ⟨rfl,hb⟩;exact ⟨_,rfl,hb,Left.of rfl⟩
   intro vs w10 LE AO AL AF AA;replace E:=E.drew.trans (LE.mono OY);obtain ⟨_,e7,k7⟩:=AL.2.2.2.2.2.2.2.1;obtain ⟨_,e8,k8⟩:=AL.2.2.2.2.2.2.2.2.1;refine qe (τ:=[(2,_),(3,_),(4,.int .i64 (zzq ua.bits ub.cn ub.cx)),(5,.bool (zcq ua.bits ub.cn ub.cx))]) ⟨rfl,rfl,congrArg some e7,congrArg some e8,trivial⟩ ?_;clear AL AF AA LE AO OY e7 e8 k7 k8;refine yk ?_;exact ⟨by unfold ordC zsz;rw[if_pos hk3,if_pos hk3,if_neg hj3,if_neg hj3];rfl,(LW.step E XLW).toBelow⟩
 ·
  refine zy ?_;refine za rfl (zn rfl ?_);intro gb11 w12 Bb11 Eb11 Gb11;have Gb11:_≤gb11:=Nat.le_trans E.size Gb11;have GLb11:=Nat.le_trans LW.size Gb11;replace E:=E.trans Eb11.no;replace HF:=HF.cons (zj Gb11);replace E:=E.cons (some gb11);replace XLW:=Mut.grow XLW (fun k e=>Or.inr (Nat.le_trans LW.size ((zj Gb11) k e)));replace HF:=HF.on E;replace LW:=LW.step E XLW;have SB:∀q9,No q9→Mut [(some gb11)] q9:=(Mut.skip Mut.nil_);replace HF:=HF.less SB;replace XLW:=fun k h=>XLW k (SB k h);clear SB;replace E:=erx (No) w12;replace HF:=HF.and (Per.blkN Bb11 NotIn.nil);refine za rfl (zn rfl ?_);intro gb13 w14 Bb13 Eb13 Gb13;have Gb13:_≤gb13:=Nat.le_trans E.size Gb13;have GLb13:=Nat.le_trans LW.size Gb13;replace E:=E.trans Eb13.no;replace HF:=HF.cons (zj Gb13);replace E:=E.cons (some gb13);replace XLW:=Mut.grow XLW (fun k e=>Or.inr (Nat.le_trans LW.size ((zj Gb13) k e)));replace HF:=HF.on E;replace LW:=LW.step E XLW;have SB:∀q9,No q9→Mut [(some gb13)] q9:=(Mut.skip Mut.nil_);replace HF:=HF.less SB;replace XLW:=fun k h=>XLW k (SB k h);clear SB;replace E:=erx (No) w14;replace HF:=HF.and (Per.blkN Bb13 NotIn.nil);refine qo ?_;refine zf 12 (.bool false) rfl ((by simp[hk3]:(.bool (ua.k==3):Value)=_)) (gh ?_);refine zk 24 (.bool false) rfl ((by simp[hk3]:(.bool (ua.k==3):Value)=_)) ?_;by_cases hj3:ub.k=3
  ·
   refine qa ?_;refine zk 35 (.bool true) rfl ((by simp[hj3]:(.bool (ub.k==3):Value)=_)) (zy ?_);have OY:∀q9,(Mut (ybq [])) q9→q9<(World.drew w14).heap.size→(No) q9:=fun k h _=>(Mut.none_) k h;refine yv (No) Mut.none_ [] [] (jh [Fx.of (.pointer (some ⟨gb13,4,none⟩)),
    Fx.of (.int .u64 ((ub.bits:Nat):Int)),
    Fx.of (.agg #[.int .i64 ua.k,.bool ua.yes,.bool ua.neg,.slice A1 ua.xs.length c1,.int .u64 ((ua.bits:Nat):Int),.string ua.s,.slice B1 ua.ni d1]),
    ⟨(Option Addr×Nat),fun (A3,c3)=>.agg #[.bool ua.cn,.slice A3 ua.cx.length c3],fun (A3,c3) b=>(CntV b A1 A3 ua.xs (PV.cx ua))⟩,
    Fx.of (.tuple #[.int .i64 (zzq ub.bits ua.cn ua.cx),.bool (zcq ub.bits ua.cn ua.cx)]),
    Fx.of (.tuple #[.int .i64 (zzq ub.bits ua.cn ua.cx),.bool (zcq ub.bits ua.cn ua.cx)]),
    Fx.of (.int .i64 (zzq ub.bits ua.cn ua.cx)),
    Fx.of (.bool (zcq ub.bits ua.cn ua.cx)),
    Fx.of (.int .i64 (zzq ub.bits ua.cn ua.cx)),
    Fx.of (.bool (zcq ub.bits ua.cn ua.cx))]) qt rfl trivial (fun _ h=>by cases h) ?_ ?_
   · refine ⟨arm,arm,arm,?_,?_,arm,arm,arm,arm,arm,trivial⟩
     · intro vs X wq K;have XN:=K.2.1;obtain ⟨_,e2,k2⟩:=K.dep 2 rfl rfl rfl;refine zc 42 _ rfl e2 (zd en79 rfl ((yav _ ua A1 B1 c1 d1).mono ?_));rintro e w2 ⟨A3,c3,rfl,hN,hb⟩;exact ⟨_,rfl,hb,⟨(A3,c3),rfl,qgv hN XN⟩⟩
     · intro vs X wq K;have LE:=K.1;obtain ⟨_,e1,k1⟩:=K.dep 1 rfl rfl rfl;refine zc 41 _ rfl e1 ?_;obtain ⟨⟨A3,c3⟩,e3,k3⟩:=K.dep 3 rfl rfl rfl;refine zc 43 _ rfl e3 (zd en89 rfl ((cmpbig_any _ ub.bits hb0 ua.cn A3 c3 ua.cx ((k3.here).nums (HF.on (E.drew.trans (LE.mono OY))).here.1.1.1.2) hcl).mono ?_));rintro e w2 ⟨rfl,hb⟩;exact ⟨_,rfl,hb,Left.of rfl⟩
   intro vs w15 LE AO AL AF AA;replace E:=E.drew.trans (LE.mono OY);obtain ⟨_,e8,k8⟩:=AL.2.2.2.2.2.2.2.2.1;obtain ⟨_,e9,k9⟩:=AL.2.2.2.2.2.2.2.2.2.1;refine qe (τ:=[(2,_),(3,_),(4,_),(5,_),(6,.int .i64 (zzq ub.bits ua.cn ua.cx)),(7,.bool (zcq ub.bits ua.cn ua.cx))]) ⟨rfl,rfl,rfl,rfl,congrArg some e8,congrArg some e9,trivial⟩ ?_;clear AL AF AA LE AO OY e8 e9 k8 k9;have hcv:=cmpV_in ub.bits ua.cn ua.cx;refine qb ?_;refine za rfl (yyv rfl (zg (by omega)) (qa ?_));exact ⟨by unfold ordC zsz;rw[if_neg hk3,if_neg hk3,if_pos hj3,if_pos hj3];rfl,(LW.step E XLW).toBelow⟩
  ·
   refine qa ?_;refine zk 35 (.bool false) rfl ((by simp[hj3]:(.bool (ub.k==3):Value)=_)) (yk ?_);have OY:∀q9,(Mut (ybq [])) q9→q9<(World.drew w14).heap.size→(No) q9:=fun k h _=>(Mut.none_) k h;refine yv (No) Mut.none_ [] [] (jh [Fx.of (.agg #[.int .i64 ua.k,.bool ua.yes,.bool ua.neg,.slice A1 ua.xs.length c1,.int .u64 ((ua.bits:Nat):Int),.string ua.s,.slice B1 ua.ni d1]),
    ⟨(Option Addr×Nat),fun (A3,c3)=>.agg #[.bool ua.cn,.slice A3 ua.cx.length c3],fun (A3,c3) b=>(CntV b A1 A3 ua.xs (PV.cx ua))⟩,
    Fx.of (.agg #[.int .i64 ub.k,.bool ub.yes,.bool ub.neg,.slice A2 ub.xs.length c2,.int .u64 ((ub.bits:Nat):Int),.string ub.s,.slice B2 ub.ni d2]),
    ⟨(Option Addr×Nat),fun (A4,c4)=>.agg #[.bool ub.cn,.slice A4 ub.cx.length c4],fun (A4,c4) b=>(CntV b A2 A4 ub.xs (PV.cx ub))⟩,
    Fx.of (.int .i64 (cmpO (yq ua.cn ua.cx&&yq ub.cn ub.cx) (num ua.cn ua.cx) (num ub.cn ub.cx))),
    Fx.of (.int .i64 (cmpO (yq ua.cn ua.cx&&yq ub.cn ub.cx) (num ua.cn ua.cx) (num ub.cn ub.cx))),
    Fx.of (.bool true)]) qt rfl trivial (fun _ h=>by cases h) ?_ ?_
   · refine ⟨arm,?_,arm,?_,?_,arm,arm,trivial⟩
     · intro vs X wq K;have XN:=K.2.1;obtain ⟨_,e0,k0⟩:=K.dep 0 rfl rfl rfl;refine zc 50 _ rfl e0 (zd en79 rfl ((yav _ ua A1 B1 c1 d1).mono ?_));rintro e w2 ⟨A3,c3,rfl,hN,hb⟩;exact ⟨_,rfl,hb,⟨(A3,c3),rfl,qgv hN XN⟩⟩
     · intro vs X wq K;have XN:=K.2.1;obtain ⟨_,e2,k2⟩:=K.dep 2 rfl rfl rfl;refine zc 52 _ rfl e2 (zd en79 rfl ((yav _ ub A2 B2 c2 d2).mono ?_));rintro e w2 ⟨A4,c4,rfl,hN,hb⟩;exact ⟨_,rfl,hb,⟨(A4,c4),rfl,qgv hN XN⟩⟩
     · intro vs X wq K;have LE:=K.1;obtain ⟨⟨A3,c3⟩,e1,k1⟩:=K.dep 1 rfl rfl rfl;refine zc 51 _ rfl e1 ?_;obtain ⟨⟨A4,c4⟩,e3,k3⟩:=K.dep 3 rfl rfl rfl;refine zc 53 _ rfl e3 (zd en90 rfl ((cmp_any A3 A4 c3 c4 ua.cx ub.cx _ ua.cn ub.cn ((k1.here).nums (HF.on (E.drew.trans (LE.mono OY))).here.1.1.1.2) ((k3.here).nums (HF.on (E.drew.trans (LE.mono OY))).here.1.1.2) hcl hcl').mono ?_));rintro e w2 ⟨rfl,hb⟩;exact ⟨_,rfl,hb,Left.of rfl⟩
   intro vs w16 LE AO AL AF AA;replace E:=E.drew.trans (LE.mono OY);obtain ⟨_,e5,k5⟩:=AL.2.2.2.2.2.1;obtain ⟨_,e6,k6⟩:=AL.2.2.2.2.2.2.1;refine qe (τ:=[(4,.int .i64 (cmpO (yq ua.cn ua.cx&&yq ub.cn ub.cx) (num ua.cn ua.cx) (num ub.cn ub.cx))),(5,.bool true)]) ⟨congrArg some e5,congrArg some e6,trivial⟩ ?_;clear AL AF AA LE AO OY e5 e6 k5 k6;refine qc ?_;exact ⟨by unfold ordC zsz;rw[if_neg hk3,if_neg hk3,if_neg hj3,if_neg hj3];rfl,(LW.step E XLW).toBelow⟩
theorem pl_eq1 (h1:ua.good=false):Calls Tryz.prog 64 #[.agg #[.int .i64 ua.k,.bool ua.yes,.bool ua.neg,.slice A1 ua.xs.length c1,.int .u64 ((ua.bits:Nat):Int),.string ua.s,.slice B1 ua.ni d1],.agg #[.int .i64 ub.k,.bool ub.yes,.bool ub.neg,.slice A2 ub.xs.length c2,.int .u64 ((ub.bits:Nat):Int),.string ub.s,.slice B2 ub.ni d2]] w fun e w'=>e= .returned (.bool (eqV ua ub))∧Below w.heap.size w w':=by
 have _:=hx;have _:=hl;have _:=ha;have _:=hy;have _:=hl';have _:=hb0;refine zh Tryz.func64 rfl Tryz.ntmps64 rfl ?_;have HF:Per (No) w (fun _=>True):=Per.true_;have LW:=erx (No) w;have XLW:=grx (No) w;have E:=erx (No) w;replace HF:=HF.on E;replace LW:=LW.step E XLW;replace E:=erx (No) w;replace HF:=HF.and (Per.nums0 hx);replace HF:=HF.on E;replace LW:=LW.step E XLW;replace E:=erx (No) w;replace HF:=HF.and (Per.nums0 hy);refine zy ?_;refine za rfl (zn rfl ?_);intro gb1 w2 Bb1 Eb1 Gb1;have Gb1:_≤gb1:=Nat.le_trans E.size Gb1;have GLb1:=Nat.le_trans LW.size Gb1;replace E:=E.trans Eb1.no;replace HF:=HF.cons (zj Gb1);replace E:=E.cons (some gb1);replace XLW:=Mut.grow XLW (fun k e=>Or.inr (Nat.le_trans LW.size ((zj Gb1) k e)));replace HF:=HF.on E;replace LW:=LW.step E XLW;have SB:∀q9,No q9→Mut [(some gb1)] q9:=(Mut.skip Mut.nil_);replace HF:=HF.less SB;replace XLW:=fun k h=>XLW k (SB k h);clear SB;replace E:=erx (No) w2;replace HF:=HF.and (Per.blkN Bb1 NotIn.nil);refine za rfl (zn rfl ?_);intro gb3 w4 Bb3 Eb3 Gb3;have Gb3:_≤gb3:=Nat.le_trans E.size Gb3;have GLb3:=Nat.le_trans LW.size Gb3;replace E:=E.trans Eb3.no;replace HF:=HF.cons (zj Gb3);replace E:=E.cons (some gb3);replace XLW:=Mut.grow XLW (fun k e=>Or.inr (Nat.le_trans LW.size ((zj Gb3) k e)));replace HF:=HF.on E;replace LW:=LW.step E XLW;have SB:∀q9,No q9→Mut [(some gb3)] q9:=(Mut.skip Mut.nil_);replace HF:=HF.less SB;replace XLW:=fun k h=>XLW k (SB k h);clear SB;replace E:=erx (No) w4;replace HF:=HF.and (Per.blkN Bb3 NotIn.nil);refine yu ?_;refine za rfl (zd ylx rfl ((xe _ ua A1 B1 c1 d1 (HF.on E).here.1.1.1.2 hl false h1).mono ?_));rintro e w5 ⟨rfl,hb⟩;refine ⟨_,rfl,?_⟩;replace E:=blx E hb;refine zhq ?_;exact ⟨by unfold eqV;rw[h1];rfl,(LW.step E XLW).toBelow⟩
theorem pl_eq2 (h1:ua.good=true) (h2:ub.good=false):Calls Tryz.prog 64 #[.agg #[.int .i64 ua.k,.bool ua.yes,.bool ua.neg,.slice A1 ua.xs.length c1,.int .u64 ((ua.bits:Nat):Int),.string ua.s,.slice B1 ua.ni d1],.agg #[.int .i64 ub.k,.bool ub.yes,.bool ub.neg,.slice A2 ub.xs.length c2,.int .u64 ((ub.bits:Nat):Int),.string ub.s,.slice B2 ub.ni d2]] w fun e w'=>e= .returned (.bool (eqV ua ub))∧Below w.heap.size w w':=by
 have _:=hx;have _:=hl;have _:=ha;have _:=hy;have _:=hl';have _:=hb0;refine zh Tryz.func64 rfl Tryz.ntmps64 rfl ?_;have HF:Per (No) w (fun _=>True):=Per.true_;have LW:=erx (No) w;have XLW:=grx (No) w;have E:=erx (No) w;replace HF:=HF.on E;replace LW:=LW.step E XLW;replace E:=erx (No) w;replace HF:=HF.and (Per.nums0 hx);replace HF:=HF.on E;replace LW:=LW.step E XLW;replace E:=erx (No) w;replace HF:=HF.and (Per.nums0 hy);refine zy ?_;refine za rfl (zn rfl ?_);intro gb1 w2 Bb1 Eb1 Gb1;have Gb1:_≤gb1:=Nat.le_trans E.size Gb1;have GLb1:=Nat.le_trans LW.size Gb1;replace E:=E.trans Eb1.no;replace HF:=HF.cons (zj Gb1);replace E:=E.cons (some gb1);replace XLW:=Mut.grow XLW (fun k e=>Or.inr (Nat.le_trans LW.size ((zj Gb1) k e)));replace HF:=HF.on E;replace LW:=LW.step E XLW;have SB:∀q9,No q9→Mut [(some gb1)] q9:=(Mut.skip Mut.nil_);replace HF:=HF.less SB;replace XLW:=fun k h=>XLW k (SB k h);clear SB;replace E:=erx (No) w2;replace HF:=HF.and (Per.blkN Bb1 NotIn.nil);refine za rfl (zn rfl ?_);intro gb3 w4 Bb3 Eb3 Gb3;have Gb3:_≤gb3:=Nat.le_trans E.size Gb3;have GLb3:=Nat.le_trans LW.size Gb3;replace E:=E.trans Eb3.no;replace HF:=HF.cons (zj Gb3);replace E:=E.cons (some gb3);replace XLW:=Mut.grow XLW (fun k e=>Or.inr (Nat.le_trans LW.size ((zj Gb3) k e)));replace HF:=HF.on E;replace LW:=LW.step E XLW;have SB:∀q9,No q9→Mut [(some gb3)] q9:=(Mut.skip Mut.nil_);replace HF:=HF.less SB;replace XLW:=fun k h=>XLW k (SB k h);clear SB;replace E:=erx (No) w4;replace HF:=HF.and (Per.blkN Bb3 NotIn.nil);refine yu ?_;refine za rfl (zd ylx rfl ((xe _ ua A1 B1 c1 d1 (HF.on E).here.1.1.1.2 hl true h1).mono ?_));rintro e w5 ⟨rfl,hb⟩;refine ⟨_,rfl,?_⟩;replace E:=blx E hb;refine qc ?_;refine onx rfl (zd ylx rfl ((xe _ ub A2 B2 c2 d2 (HF.on E).here.1.1.2 hl' false h2).mono ?_))
 rintro e w6 ⟨rfl,hb⟩;refine ⟨_,rfl,?_⟩;replace E:=blx E hb;refine jq ?_;exact ⟨by unfold eqV;rw[h1,h2];rfl,(LW.step E XLW).toBelow⟩
theorem pl_eq3 (h1:ua.good=true) (h2:ub.good=true) (h3:zbx ua.k=true) (h4:zbx ub.k=true):Calls Tryz.prog 64 #[.agg #[.int .i64 ua.k,.bool ua.yes,.bool ua.neg,.slice A1 ua.xs.length c1,.int .u64 ((ua.bits:Nat):Int),.string ua.s,.slice B1 ua.ni d1],.agg #[.int .i64 ub.k,.bool ub.yes,.bool ub.neg,.slice A2 ub.xs.length c2,.int .u64 ((ub.bits:Nat):Int),.string ub.s,.slice B2 ub.ni d2]] w fun e w'=>e= .returned (.bool (eqV ua ub))∧Below w.heap.size w w':=by
 have _:=hx;have _:=hl;have _:=ha;have _:=hy;have _:=hl';have _:=hb0;refine zh Tryz.func64 rfl Tryz.ntmps64 rfl ?_;have HF:Per (No) w (fun _=>True):=Per.true_;have LW:=erx (No) w;have XLW:=grx (No) w;have E:=erx (No) w;replace HF:=HF.on E;replace LW:=LW.step E XLW;replace E:=erx (No) w;replace HF:=HF.and (Per.nums0 hx);replace HF:=HF.on E;replace LW:=LW.step E XLW;replace E:=erx (No) w;replace HF:=HF.and (Per.nums0 hy);refine zy ?_;refine za rfl (zn rfl ?_);intro gb1 w2 Bb1 Eb1 Gb1;have Gb1:_≤gb1:=Nat.le_trans E.size Gb1;have GLb1:=Nat.le_trans LW.size Gb1;replace E:=E.trans Eb1.no;replace HF:=HF.cons (zj Gb1);replace E:=E.cons (some gb1);replace XLW:=Mut.grow XLW (fun k e=>Or.inr (Nat.le_trans LW.size ((zj Gb1) k e)));replace HF:=HF.on E;replace LW:=LW.step E XLW;have SB:∀q9,No q9→Mut [(some gb1)] q9:=(Mut.skip Mut.nil_);replace HF:=HF.less SB;replace XLW:=fun k h=>XLW k (SB k h);clear SB;replace E:=erx (No) w2;replace HF:=HF.and (Per.blkN Bb1 NotIn.nil);refine za rfl (zn rfl ?_);intro gb3 w4 Bb3 Eb3 Gb3;have Gb3:_≤gb3:=Nat.le_trans E.size Gb3;have GLb3:=Nat.le_trans LW.size Gb3;replace E:=E.trans Eb3.no;replace HF:=HF.cons (zj Gb3);replace E:=E.cons (some gb3);replace XLW:=Mut.grow XLW (fun k e=>Or.inr (Nat.le_trans LW.size ((zj Gb3) k e)));replace HF:=HF.on E;replace LW:=LW.step E XLW;have SB:∀q9,No q9→Mut [(some gb3)] q9:=(Mut.skip Mut.nil_);replace HF:=HF.less SB;replace XLW:=fun k h=>XLW k (SB k h);clear SB;replace E:=erx (No) w4;replace HF:=HF.and (Per.blkN Bb3 NotIn.nil);refine yu ?_;refine za rfl (zd ylx rfl ((xe _ ua A1 B1 c1 d1 (HF.on E).here.1.1.1.2 hl true h1).mono ?_));rintro e w5 ⟨rfl,hb⟩;refine ⟨_,rfl,?_⟩;replace E:=blx E hb;refine qc ?_;refine onx rfl (zd ylx rfl ((xe _ ub A2 B2 c2 d2 (HF.on E).here.1.1.2 hl' true h2).mono ?_))
 rintro e w6 ⟨rfl,hb⟩;refine ⟨_,rfl,?_⟩;replace E:=blx E hb;refine yt ?_;refine za rfl (zd en75 rfl ((pl_num _ ua A1 B1 c1 d1 true h3).mono ?_));rintro e w7 ⟨rfl,hb⟩;refine ⟨_,rfl,?_⟩;replace E:=blx E hb;refine zy ?_;refine onx rfl (zd en75 rfl ((pl_num _ ub A2 B2 c2 d2 true h4).mono ?_));rintro e w8 ⟨rfl,hb⟩;refine ⟨_,rfl,?_⟩;replace E:=blx E hb;refine yx ?_;refine za rfl (zd en76 rfl ((pl_order _ ua ub A1 B1 A2 B2 c1 d1 c2 d2 (HF.on E).here.1.1.1.2 hl ha (HF.on E).here.1.1.2 hl' hb0).mono ?_));rintro e w9 ⟨rfl,hb⟩;refine ⟨_,rfl,?_⟩;replace E:=blx E hb;refine yt ?_;by_cases ho:zsz ua ub=true
 ·
  refine zf 28 (.bool true) rfl ((by rw[ho]:(.bool (zsz ua ub):Value)=_)) (qa ?_);exact ⟨by unfold eqV;rw[h1,h2,h3,h4,ho];rfl,(LW.step E XLW).toBelow⟩
 ·
  have ho:=Bool.eq_false_iff.2 ho;refine zf 28 (.bool false) rfl ((by rw[ho]:(.bool (zsz ua ub):Value)=_)) (qa ?_);exact ⟨by unfold eqV;rw[h1,h2,h3,h4,ho];rfl,(LW.step E XLW).toBelow⟩
theorem pl_eq4 (h1:ua.good=true) (h2:ub.good=true) (h3:zbx ua.k=false):Calls Tryz.prog 64 #[.agg #[.int .i64 ua.k,.bool ua.yes,.bool ua.neg,.slice A1 ua.xs.length c1,.int .u64 ((ua.bits:Nat):Int),.string ua.s,.slice B1 ua.ni d1],.agg #[.int .i64 ub.k,.bool ub.yes,.bool ub.neg,.slice A2 ub.xs.length c2,.int .u64 ((ub.bits:Nat):Int),.string ub.s,.slice B2 ub.ni d2]] w fun e w'=>e= .returned (.bool (eqV ua ub))∧Below w.heap.size w w':=by
 have _:=hx;have _:=hl;have _:=ha;have _:=hy;have _:=hl';have _:=hb0;refine zh Tryz.func64 rfl Tryz.ntmps64 rfl ?_;have HF:Per (No) w (fun _=>True):=Per.true_;have LW:=erx (No) w;have XLW:=grx (No) w;have E:=erx (No) w;replace HF:=HF.on E;replace LW:=LW.step E XLW;replace E:=erx (No) w;replace HF:=HF.and (Per.nums0 hx);replace HF:=HF.on E;replace LW:=LW.step E XLW;replace E:=erx (No) w;replace HF:=HF.and (Per.nums0 hy);refine zy ?_;refine za rfl (zn rfl ?_);intro gb1 w2 Bb1 Eb1 Gb1;have Gb1:_≤gb1:=Nat.le_trans E.size Gb1;have GLb1:=Nat.le_trans LW.size Gb1;replace E:=E.trans Eb1.no;replace HF:=HF.cons (zj Gb1);replace E:=E.cons (some gb1);replace XLW:=Mut.grow XLW (fun k e=>Or.inr (Nat.le_trans LW.size ((zj Gb1) k e)));replace HF:=HF.on E;replace LW:=LW.step E XLW;have SB:∀q9,No q9→Mut [(some gb1)] q9:=(Mut.skip Mut.nil_);replace HF:=HF.less SB;replace XLW:=fun k h=>XLW k (SB k h);clear SB;replace E:=erx (No) w2;replace HF:=HF.and (Per.blkN Bb1 NotIn.nil);refine za rfl (zn rfl ?_);intro gb3 w4 Bb3 Eb3 Gb3;have Gb3:_≤gb3:=Nat.le_trans E.size Gb3;have GLb3:=Nat.le_trans LW.size Gb3;replace E:=E.trans Eb3.no;replace HF:=HF.cons (zj Gb3);replace E:=E.cons (some gb3);replace XLW:=Mut.grow XLW (fun k e=>Or.inr (Nat.le_trans LW.size ((zj Gb3) k e)));replace HF:=HF.on E;replace LW:=LW.step E XLW;have SB:∀q9,No q9→Mut [(some gb3)] q9:=(Mut.skip Mut.nil_);replace HF:=HF.less SB;replace XLW:=fun k h=>XLW k (SB k h);clear SB;replace E:=erx (No) w4;replace HF:=HF.and (Per.blkN Bb3 NotIn.nil);refine yu ?_;refine za rfl (zd ylx rfl ((xe _ ua A1 B1 c1 d1 (HF.on E).here.1.1.1.2 hl true h1).mono ?_));rintro e w5 ⟨rfl,hb⟩;refine ⟨_,rfl,?_⟩;replace E:=blx E hb;refine qc ?_;refine onx rfl (zd ylx rfl ((xe _ ub A2 B2 c2 d2 (HF.on E).here.1.1.2 hl' true h2).mono ?_))
 rintro e w6 ⟨rfl,hb⟩;refine ⟨_,rfl,?_⟩;replace E:=blx E hb;refine yt ?_;refine za rfl (zd en75 rfl ((pl_num _ ua A1 B1 c1 d1 false h3).mono ?_));rintro e w7 ⟨rfl,hb⟩;refine ⟨_,rfl,?_⟩;replace E:=blx E hb;refine zhq ?_;by_cases ho:(ua.k==ub.k)=true
 ·
  refine zf 37 (.bool true) rfl ((by rw[ho]:(.bool (ua.k==ub.k):Value)=_)) (yt ?_);exact ⟨by unfold eqV eqS;rw[h1,h2,h3,ho];rfl,(LW.step E XLW).toBelow⟩
 ·
  have ho:=Bool.eq_false_iff.2 ho;refine zf 37 (.bool false) rfl ((by rw[ho]:(.bool (ua.k==ub.k):Value)=_)) (yt ?_);exact ⟨by unfold eqV eqS;rw[h1,h2,h3,ho];rfl,(LW.step E XLW).toBelow⟩
theorem pl_eq5 (h1:ua.good=true) (h2:ub.good=true) (h3:zbx ua.k=true) (h4:zbx ub.k=false):Calls Tryz.prog 64 #[.agg #[.int .i64 ua.k,.bool ua.yes,.bool ua.neg,.slice A1 ua.xs.length c1,.int .u64 ((ua.bits:Nat):Int),.string ua.s,.slice B1 ua.ni d1],.agg #[.int .i64 ub.k,.bool ub.yes,.bool ub.neg,.slice A2 ub.xs.length c2,.int .u64 ((ub.bits:Nat):Int),.string ub.s,.slice B2 ub.ni d2]] w fun e w'=>e= .returned (.bool (eqV ua ub))∧Below w.heap.size w w':=by
 have _:=hx;have _:=hl;have _:=ha;have _:=hy;have _:=hl';have _:=hb0;refine zh Tryz.func64 rfl Tryz.ntmps64 rfl ?_;have HF:Per (No) w (fun _=>True):=Per.true_;have LW:=erx (No) w;have XLW:=grx (No) w;have E:=erx (No) w;replace HF:=HF.on E;replace LW:=LW.step E XLW;replace E:=erx (No) w;replace HF:=HF.and (Per.nums0 hx);replace HF:=HF.on E;replace LW:=LW.step E XLW;replace E:=erx (No) w;replace HF:=HF.and (Per.nums0 hy);refine zy ?_;refine za rfl (zn rfl ?_);intro gb1 w2 Bb1 Eb1 Gb1;have Gb1:_≤gb1:=Nat.le_trans E.size Gb1;have GLb1:=Nat.le_trans LW.size Gb1;replace E:=E.trans Eb1.no;replace HF:=HF.cons (zj Gb1);replace E:=E.cons (some gb1);replace XLW:=Mut.grow XLW (fun k e=>Or.inr (Nat.le_trans LW.size ((zj Gb1) k e)));replace HF:=HF.on E;replace LW:=LW.step E XLW;have SB:∀q9,No q9→Mut [(some gb1)] q9:=(Mut.skip Mut.nil_);replace HF:=HF.less SB;replace XLW:=fun k h=>XLW k (SB k h);clear SB;replace E:=erx (No) w2;replace HF:=HF.and (Per.blkN Bb1 NotIn.nil);refine za rfl (zn rfl ?_);intro gb3 w4 Bb3 Eb3 Gb3;have Gb3:_≤gb3:=Nat.le_trans E.size Gb3;have GLb3:=Nat.le_trans LW.size Gb3;replace E:=E.trans Eb3.no;replace HF:=HF.cons (zj Gb3);replace E:=E.cons (some gb3);replace XLW:=Mut.grow XLW (fun k e=>Or.inr (Nat.le_trans LW.size ((zj Gb3) k e)));replace HF:=HF.on E;replace LW:=LW.step E XLW;have SB:∀q9,No q9→Mut [(some gb3)] q9:=(Mut.skip Mut.nil_);replace HF:=HF.less SB;replace XLW:=fun k h=>XLW k (SB k h);clear SB;replace E:=erx (No) w4;replace HF:=HF.and (Per.blkN Bb3 NotIn.nil);refine yu ?_;refine za rfl (zd ylx rfl ((xe _ ua A1 B1 c1 d1 (HF.on E).here.1.1.1.2 hl true h1).mono ?_));rintro e w5 ⟨rfl,hb⟩;refine ⟨_,rfl,?_⟩;replace E:=blx E hb;refine qc ?_;refine onx rfl (zd ylx rfl ((xe _ ub A2 B2 c2 d2 (HF.on E).here.1.1.2 hl' true h2).mono ?_))
 rintro e w6 ⟨rfl,hb⟩;refine ⟨_,rfl,?_⟩;replace E:=blx E hb;refine yt ?_;refine za rfl (zd en75 rfl ((pl_num _ ua A1 B1 c1 d1 true h3).mono ?_));rintro e w7 ⟨rfl,hb⟩;refine ⟨_,rfl,?_⟩;replace E:=blx E hb;refine zy ?_;refine onx rfl (zd en75 rfl ((pl_num _ ub A2 B2 c2 d2 false h4).mono ?_));rintro e w8 ⟨rfl,hb⟩;refine ⟨_,rfl,?_⟩;replace E:=blx E hb;refine jt ?_;by_cases ho:(ua.k==ub.k)=true
 ·
  refine zf 37 (.bool true) rfl ((by rw[ho]:(.bool (ua.k==ub.k):Value)=_)) (yt ?_);exact ⟨by unfold eqV eqS;rw[h1,h2,h3,h4,ho];rfl,(LW.step E XLW).toBelow⟩
 ·
  have ho:=Bool.eq_false_iff.2 ho;refine zf 37 (.bool false) rfl ((by rw[ho]:(.bool (ua.k==ub.k):Value)=_)) (yt ?_);exact ⟨by unfold eqV eqS;rw[h1,h2,h3,h4,ho];rfl,(LW.step E XLW).toBelow⟩
theorem pl_equal:Calls Tryz.prog 64 #[.agg #[.int .i64 ua.k,.bool ua.yes,.bool ua.neg,.slice A1 ua.xs.length c1,.int .u64 ((ua.bits:Nat):Int),.string ua.s,.slice B1 ua.ni d1],.agg #[.int .i64 ub.k,.bool ub.yes,.bool ub.neg,.slice A2 ub.xs.length c2,.int .u64 ((ub.bits:Nat):Int),.string ub.s,.slice B2 ub.ni d2]] w fun e w'=>e= .returned (.bool (eqV ua ub))∧Below w.heap.size w w':=by
 cases h1:ua.good
 · exact pl_eq1 w ua ub A1 B1 A2 B2 c1 d1 c2 d2 hx hl ha hy hl' hb0 h1
 cases h2:ub.good
 · exact pl_eq2 w ua ub A1 B1 A2 B2 c1 d1 c2 d2 hx hl ha hy hl' hb0 h1 h2
 cases h3:zbx ua.k
 · exact pl_eq4 w ua ub A1 B1 A2 B2 c1 d1 c2 d2 hx hl ha hy hl' hb0 h1 h2 h3
 cases h4:zbx ub.k
 · exact pl_eq5 w ua ub A1 B1 A2 B2 c1 d1 c2 d2 hx hl ha hy hl' hb0 h1 h2 h3 h4
 · exact pl_eq3 w ua ub A1 B1 A2 B2 c1 d1 c2 d2 hx hl ha hy hl' hb0 h1 h2 h3 h4
end
end Go.Proofs.YtebjkmjfcijebaaGreat
namespace Go.Proofs.YtebjkmjfcijebaaGreat
open Go.RowKit
theorem num_1:num false [1]=1:=by
 have h:=ja 1;rw[pl_one] at h;exact h
theorem num_0:num false []=0:=by
 have h:=ja 0;rwa [show limbs 0= [] from vu] at h
theorem yok {w1 w2:World} {lo base c g:Nat} {A:Option Addr} {xs:List Nat} (h:Own8 w1 base A c xs) (E:Ext (Mut [some g]) w1 w2) (hg:g<base) (hb:lo≤base):Own8 w2 lo A c xs:=
 ⟨yhz (qr h.1 E (fun q hq hm=>by have:=yj hm;have:=qhx h.1 q hq;omega)) hb,h.2⟩
theorem numK_at {k:Int} (h:zbx k=true):1≤k∧k≤3:=by
 unfold zbx at h;simp only[Bool.and_eq_true,decide_eq_true_eq] at h
 exact h
theorem PV.good2 {v:PV} (h:v.good=true) (hk:v.k=2):yq v.neg v.xs=true:=by
 unfold PV.good at h;rw[if_neg (by omega),if_neg (by omega),if_pos hk] at h;simp only[Bool.and_eq_true] at h
 exact h.2.1.1.1
theorem PV.canon {v:PV} (h:v.good=true) (hk:v.k=1∨v.k=2):v.cn=decide (num v.cn v.cx<0)∧v.cx=limbs (num v.cn v.cx)∧(num v.cn v.cx).natAbs<B18^30:=by
 have hg:yq v.cn v.cx=true:=by
  unfold PV.cn PV.cx;by_cases h1:v.k=1
  · rw[if_pos h1,if_pos h1];split
    · have:=jw (i:=1) (by decide);rwa [pl_one] at this
    · have:=jw (i:=0) (by decide);rwa [vu] at this
  · rw[if_neg h1,if_neg h1];exact PV.good2 h (by omega)
 obtain ⟨i,e1,e2,e3⟩:=yjq hg;have e:num v.cn v.cx=i:=by rw[e1,e2,ja]
 rw[e];exact ⟨e1,e2,e3⟩
theorem PV.kinds {v:PV} (h:v.good=true):v.k=0∨v.k=1∨v.k=2∨v.k=3∨v.k=4:=by
 unfold PV.good at h;by_cases h0:v.k=0
 · exact Or.inl h0
 by_cases h1:v.k=1
 · exact Or.inr (Or.inl h1)
 by_cases h2:v.k=2
 · exact Or.inr (Or.inr (Or.inl h2))
 by_cases h3:v.k=3
 · exact Or.inr (Or.inr (Or.inr (Or.inl h3)))
 by_cases h4:v.k=4
 · exact Or.inr (Or.inr (Or.inr (Or.inr h4)))
 rw[if_neg h0,if_neg h1,if_neg h2,if_neg h3,if_neg h4] at h;simp at h
theorem PV.str {v:PV} (h:v.good=true) (hn:zbx v.k=false) (h0:v.k≠0):v.k=4:=by
 rcases PV.kinds h with e | e | e | e | e
 · exact absurd e h0
 · rw[e] at hn;exact absurd hn (by decide)
 · rw[e] at hn;exact absurd hn (by decide)
 · rw[e] at hn;exact absurd hn (by decide)
 · exact e
theorem same_cmp {i j:Int} (hi:i.natAbs<B18^30) (hj:j.natAbs<B18^30):((if (true&&true)=true then xy i j else 0)==0)=zqv (decide (i<0)) (limbs i) (decide (j<0)) (limbs j):=by
 show (xy i j==0)=_
 have h:xy i j=0↔i=j:=by unfold xy;split<;>(try split)<;>omega
 have h2:zqv (decide (i<0)) (limbs i) (decide (j<0)) (limbs j)=true↔i=j:=by
  unfold zqv;rw[Bool.and_eq_true,beq_iff_eq,beq_iff_eq];constructor
  · rintro ⟨a,b⟩;have h1:=ja i;rw[a,b,ja] at h1;exact h1.symm
  · rintro rfl;exact ⟨rfl,rfl⟩
 exact Bool.eq_iff_iff.2 (by rw[beq_iff_eq,h,h2])
theorem PV.s0 {v:PV} (h:v.good=true) (hk:v.k=0∨v.k=1∨v.k=2∨v.k=3):v.s.toList=(⟨#[]⟩:ByteArray).toList:=by
 unfold PV.good at h;rcases hk with e | e | e | e<;>simp[e] at h<;>simp[h]
theorem PV.s_max {v:PV} (h:v.good=true) (hk:v.k=4):v.s.size≤20000:=by
 unfold PV.good at h;simp[hk] at h
 omega
theorem PV.y0 {v:PV} (h:v.good=true) (hk:v.k≠1):v.yes=false:=by
 unfold PV.good at h;rcases PV.kinds h with e | e | e | e | e<;>simp[e] at h<;>first | exact absurd e hk | simp[h]
theorem PV.b0 {v:PV} (h:v.good=true) (hk:v.k≠2):v.neg=false∧v.xs= []:=by
 unfold PV.good at h;rcases PV.kinds h with e | e | e | e | e<;>simp[e] at h<;>first | exact absurd e hk | simp[h]
theorem PV.xs_len {v:PV} (h:v.good=true):v.xs.length≤1048576:=by
 by_cases hk:v.k=2
 · have:=qj (PV.good2 h hk);omega
 · rw[(PV.b0 h hk).2];decide
theorem neg_bare {b:Nat} (hb:b<18446744073709551616):yc (ya (yc b))=yc (ya b):=by
 have e1:isN (ya b)=isN b:=znz hb;by_cases h:isN b=true
 · have e2:isN (ya 9221120237041090560)=true:=by rw[znz (by decide)];decide
   unfold yc;rw[if_pos h,if_pos e2,if_pos (e1.trans h)]
 · have h2:¬isN (ya b)=true:=by rw[e1];exact h
   rw[show yc b=b from if_neg h]
theorem neg_same {a b:Nat} (ha:a<18446744073709551616) (hb:b<18446744073709551616):(((yc (ya a):Nat):Int)==((yc (ya b):Nat):Int))=(((yc a:Nat):Int)==((yc b:Nat):Int)):=by
 have h1:((yc (ya a):Nat):Int)=((yc (ya b):Nat):Int)↔((yc a:Nat):Int)=((yc b:Nat):Int):=by
  constructor
  · intro h;have h:yc (ya a)=yc (ya b):=by omega
    have h2:=congrArg (fun z=>yc (ya z)) h;have h2:yc (ya (yc (ya a)))=yc (ya (yc (ya b))):=h2;rw[yiq ha,yiq hb] at h2;rw[h2]
  · intro h;have h:yc a=yc b:=by omega
    have h2:yc (ya (yc a))=yc (ya (yc b)):=by rw[h]
    rw[neg_bare ha,neg_bare hb] at h2;rw[h2]
 exact Bool.eq_iff_iff.2 (by rw[beq_iff_eq,beq_iff_eq];exact h1)
section
variable {u v:PV} (g1:u.good=true) (g2:v.good=true) (h3:(u.k==v.k)=true) (h5:u.k≠3)
include g1 g2 h3 h5
theorem PV.same_at (ho:(u.yes==v.yes)=true) (hs:(u.s.toList==v.s.toList)=true):zhk u v=zqv u.neg u.xs v.neg v.xs:=by
 have hk:=eq_of_beq h3;unfold zhk;rw[g1,g2,h3];by_cases h2:u.k=2
 · rw[Bool.and_self,Bool.and_self,if_pos rfl,if_pos h2,PV.good2 g1 h2,PV.good2 g2 (by omega)];obtain ⟨i,a1,a2,a3⟩:=yjq (PV.good2 g1 h2);obtain ⟨j,b1,b2,b3⟩:=yjq (PV.good2 g2 (by omega));rw[a1,a2,b1,b2,ja,ja];unfold cmpO;exact same_cmp a3 b3
 · rw[Bool.and_self,Bool.and_self,if_pos rfl,if_neg h2,if_neg h5,ho,if_pos rfl,hs,(PV.b0 g1 h2).1,(PV.b0 g1 h2).2,(PV.b0 g2 (by omega)).1,(PV.b0 g2 (by omega)).2];rfl
theorem PV.same_s (hs:(u.s.toList==v.s.toList)=false):zhk u v=false:=by
 have hk:=eq_of_beq h3;unfold zhk;rw[g1,g2,h3];by_cases h2:u.k=2
 · rw[PV.s0 g1 (by omega),PV.s0 g2 (by omega)] at hs;simp at hs
 · rw[Bool.and_self,Bool.and_self,if_pos rfl,if_neg h2,if_neg h5,hs];split<;>rfl
theorem PV.same_y (ho:(u.yes==v.yes)=false):zhk u v=false:=by
 have hk:=eq_of_beq h3;unfold zhk;rw[g1,g2,h3];by_cases h2:u.k=2
 · rw[PV.y0 g1 (by omega),PV.y0 g2 (by omega)] at ho;simp at ho
 · rw[Bool.and_self,Bool.and_self,if_pos rfl,if_neg h2,if_neg h5,ho];rfl
end
end Go.Proofs.YtebjkmjfcijebaaGreat
namespace Go.Proofs.YtebjkmjfcijebaaGreat
open Go.RowKit
set_option maxHeartbeats 20000000
attribute [local irreducible] OW RS CW EW
def znk (h:Nat) (x:UInt8):Nat:=(31*h+x.toNat+1)%2147483647
def hashN (l:List UInt8):Nat:=l.foldl znk l.length
noncomputable def zix (v:PV):Int:=if v.good then (if v.k=0 then 1 else if v.k=3 then ztz v.bits else if v.k=4 then ((hashN v.s.data.toList:Nat):Int) else hashO v.cn v.cx) else 0
def truthV (v:PV):Bool:=if v.good then (if v.k=1 then v.yes else if v.k=2 then decide ((0:Int)<((v.xs.length:Nat):Int)) else if v.k=3 then (IntKind.u64.wrap (((v.bits:Nat):Int)*2) !=0) else !(v.s.toList==(⟨#[]⟩:ByteArray).toList)) else false
theorem fold_lt (l:List UInt8) (h:Nat) (hh:h<2147483647):l.foldl znk h<2147483647:=by
 induction l generalizing h with
 | nil=>exact hh
 | cons x l ih=>exact ih _ (Nat.mod_lt _ (by decide))
theorem fold_step {l:List UInt8} {i:Nat} {x:UInt8} (h:l[i]? =some x) (n:Nat):(l.take (i+1)).foldl znk n=znk ((l.take i).foldl znk n) x:=by
 obtain ⟨hi,he⟩:=List.getElem?_eq_some_iff.1 h;rw[List.take_succ_eq_append_getElem hi,List.foldl_append,he];rfl
theorem rem_at (m x:Nat):(31*((m:Nat):Int)+((x:Nat):Int)+1).tmod 2147483647=(((31*m+x+1)%2147483647:Nat):Int):=by
 rw[Int.tmod_eq_emod_of_nonneg (by omega)];omega
section
variable (w:World) (ua:PV) (A1 B1:Option Addr) (c1 d1:Nat) (hx:Nums w A1 ua.xs) (hl:ua.xs.length≤9223372036854775807) (ha:ua.bits<18446744073709551616)
include hx hl ha
theorem ph0 (g1:ua.good=false):Calls Tryz.prog 65 #[.agg #[.int .i64 ua.k,.bool ua.yes,.bool ua.neg,.slice A1 ua.xs.length c1,.int .u64 ((ua.bits:Nat):Int),.string ua.s,.slice B1 ua.ni d1]] w fun e w'=>e= .returned (.int .i64 (zix ua))∧Below w.heap.size w w':=by
 have _:=hx;have _:=hl;have _:=ha;refine zh Tryz.func65 rfl Tryz.ntmps65 rfl ?_;have HF:Per (No) w (fun _=>True):=Per.true_;have LW:=erx (No) w;have XLW:=grx (No) w;have E:=erx (No) w;replace HF:=HF.on E;replace LW:=LW.step E XLW;replace E:=erx (No) w;replace HF:=HF.and (Per.nums0 hx);refine zy ?_;refine za rfl (zn rfl ?_);intro gb1 w2 Bb1 Eb1 Gb1;have Gb1:_≤gb1:=Nat.le_trans E.size Gb1;have GLb1:=Nat.le_trans LW.size Gb1;replace E:=E.trans Eb1.no;replace HF:=HF.cons (zj Gb1);replace E:=E.cons (some gb1);replace XLW:=Mut.grow XLW (fun k e=>Or.inr (Nat.le_trans LW.size ((zj Gb1) k e)));replace HF:=HF.on E;replace LW:=LW.step E XLW;have SB:∀q9,No q9→Mut [(some gb1)] q9:=(Mut.skip Mut.nil_);replace HF:=HF.less SB;replace XLW:=fun k h=>XLW k (SB k h);clear SB;replace E:=erx (No) w2;replace HF:=HF.and (Per.blkN Bb1 NotIn.nil);refine yu ?_;refine za rfl (zd ylx rfl ((xe _ ua A1 B1 c1 d1 (HF.on E).here.1.2 hl false g1).mono ?_));rintro e w3 ⟨rfl,hb⟩;refine ⟨_,rfl,?_⟩;replace E:=blx E hb;refine qo ?_;exact ⟨by unfold zix;rw[g1];rfl,(LW.step E XLW).toBelow⟩
theorem ph1 (g1:ua.good=true) (h0:ua.k=0):Calls Tryz.prog 65 #[.agg #[.int .i64 ua.k,.bool ua.yes,.bool ua.neg,.slice A1 ua.xs.length c1,.int .u64 ((ua.bits:Nat):Int),.string ua.s,.slice B1 ua.ni d1]] w fun e w'=>e= .returned (.int .i64 (zix ua))∧Below w.heap.size w w':=by
 have _:=hx;have _:=hl;have _:=ha;refine zh Tryz.func65 rfl Tryz.ntmps65 rfl ?_;have HF:Per (No) w (fun _=>True):=Per.true_;have LW:=erx (No) w;have XLW:=grx (No) w;have E:=erx (No) w;replace HF:=HF.on E;replace LW:=LW.step E XLW;replace E:=erx (No) w;replace HF:=HF.and (Per.nums0 hx);refine zy ?_;refine za rfl (zn rfl ?_);intro gb1 w2 Bb1 Eb1 Gb1;have Gb1:_≤gb1:=Nat.le_trans E.size Gb1;have GLb1:=Nat.le_trans LW.size Gb1;replace E:=E.trans Eb1.no;replace HF:=HF.cons (zj Gb1);replace E:=E.cons (some gb1);replace XLW:=Mut.grow XLW (fun k e=>Or.inr (Nat.le_trans LW.size ((zj Gb1) k e)));replace HF:=HF.on E;replace LW:=LW.step E XLW;have SB:∀q9,No q9→Mut [(some gb1)] q9:=(Mut.skip Mut.nil_);replace HF:=HF.less SB;replace XLW:=fun k h=>XLW k (SB k h);clear SB;replace E:=erx (No) w2;replace HF:=HF.and (Per.blkN Bb1 NotIn.nil);refine yu ?_;refine za rfl (zd ylx rfl ((xe _ ua A1 B1 c1 d1 (HF.on E).here.1.2 hl true g1).mono ?_));rintro e w3 ⟨rfl,hb⟩;refine ⟨_,rfl,?_⟩;replace E:=blx E hb;refine xl ?_;refine zk 11 (.bool true) rfl ((by simp[h0]:(.bool (ua.k==0):Value)=_)) (zz ?_);exact ⟨by unfold zix;rw[g1,if_pos rfl,if_pos h0];rfl,(LW.step E XLW).toBelow⟩
theorem ph2 (g1:ua.good=true) (h0:¬ua.k=0) (h3:ua.k=3):Calls Tryz.prog 65 #[.agg #[.int .i64 ua.k,.bool ua.yes,.bool ua.neg,.slice A1 ua.xs.length c1,.int .u64 ((ua.bits:Nat):Int),.string ua.s,.slice B1 ua.ni d1]] w fun e w'=>e= .returned (.int .i64 (zix ua))∧Below w.heap.size w w':=by
 have _:=hx;have _:=hl;have _:=ha;refine zh Tryz.func65 rfl Tryz.ntmps65 rfl ?_;have HF:Per (No) w (fun _=>True):=Per.true_;have LW:=erx (No) w;have XLW:=grx (No) w;have E:=erx (No) w;replace HF:=HF.on E;replace LW:=LW.step E XLW;replace E:=erx (No) w;replace HF:=HF.and (Per.nums0 hx);refine zy ?_;refine za rfl (zn rfl ?_);intro gb1 w2 Bb1 Eb1 Gb1;have Gb1:_≤gb1:=Nat.le_trans E.size Gb1;have GLb1:=Nat.le_trans LW.size Gb1;replace E:=E.trans Eb1.no;replace HF:=HF.cons (zj Gb1);replace E:=E.cons (some gb1);replace XLW:=Mut.grow XLW (fun k e=>Or.inr (Nat.le_trans LW.size ((zj Gb1) k e)));replace HF:=HF.on E;replace LW:=LW.step E XLW;have SB:∀q9,No q9→Mut [(some gb1)] q9:=(Mut.skip Mut.nil_);replace HF:=HF.less SB;replace XLW:=fun k h=>XLW k (SB k h);clear SB;replace E:=erx (No) w2;replace HF:=HF.and (Per.blkN Bb1 NotIn.nil);refine yu ?_;refine za rfl (zd ylx rfl ((xe _ ua A1 B1 c1 d1 (HF.on E).here.1.2 hl true g1).mono ?_));rintro e w3 ⟨rfl,hb⟩;refine ⟨_,rfl,?_⟩;replace E:=blx E hb;refine xl ?_;refine zk 11 (.bool false) rfl ((by simp[h0]:(.bool (ua.k==0):Value)=_)) (yu ?_);refine zk 13 (.bool true) rfl ((by simp[h3]:(.bool (ua.k==3):Value)=_)) (yk ?_);refine za rfl (zd en77 rfl ((hash_any _ ua.bits ha).mono ?_));rintro e w4 ⟨rfl,hb⟩;refine ⟨_,rfl,?_⟩;replace E:=blx E hb;refine yu ?_;exact ⟨by unfold zix;rw[g1,if_pos rfl,if_neg h0,if_pos h3];rfl,(LW.step E XLW).toBelow⟩
theorem ph4 (g1:ua.good=true) (h0:¬ua.k=0) (h3:¬ua.k=3) (h4:¬ua.k=4):Calls Tryz.prog 65 #[.agg #[.int .i64 ua.k,.bool ua.yes,.bool ua.neg,.slice A1 ua.xs.length c1,.int .u64 ((ua.bits:Nat):Int),.string ua.s,.slice B1 ua.ni d1]] w fun e w'=>e= .returned (.int .i64 (zix ua))∧Below w.heap.size w w':=by
 have _:=hx;have _:=hl;have _:=ha;have hcl:=PV.cx_len hl;refine zh Tryz.func65 rfl Tryz.ntmps65 rfl ?_;have HF:Per (No) w (fun _=>True):=Per.true_;have LW:=erx (No) w;have XLW:=grx (No) w;have E:=erx (No) w;replace HF:=HF.on E;replace LW:=LW.step E XLW;replace E:=erx (No) w;replace HF:=HF.and (Per.nums0 hx);refine zy ?_;refine za rfl (zn rfl ?_);intro gb1 w2 Bb1 Eb1 Gb1;have Gb1:_≤gb1:=Nat.le_trans E.size Gb1;have GLb1:=Nat.le_trans LW.size Gb1;replace E:=E.trans Eb1.no;replace HF:=HF.cons (zj Gb1);replace E:=E.cons (some gb1);replace XLW:=Mut.grow XLW (fun k e=>Or.inr (Nat.le_trans LW.size ((zj Gb1) k e)));replace HF:=HF.on E;replace LW:=LW.step E XLW;have SB:∀q9,No q9→Mut [(some gb1)] q9:=(Mut.skip Mut.nil_);replace HF:=HF.less SB;replace XLW:=fun k h=>XLW k (SB k h);clear SB;replace E:=erx (No) w2;replace HF:=HF.and (Per.blkN Bb1 NotIn.nil);refine yu ?_;refine za rfl (zd ylx rfl ((xe _ ua A1 B1 c1 d1 (HF.on E).here.1.2 hl true g1).mono ?_));rintro e w3 ⟨rfl,hb⟩;refine ⟨_,rfl,?_⟩;replace E:=blx E hb;refine xl ?_;refine zk 11 (.bool false) rfl ((by simp[h0]:(.bool (ua.k==0):Value)=_)) (yu ?_);refine zk 13 (.bool false) rfl ((by simp[h3]:(.bool (ua.k==3):Value)=_)) (yu ?_);refine zk 18 (.bool false) rfl ((by simp[h4]:(.bool (ua.k==4):Value)=_)) (yu ?_);refine za rfl (zd en79 rfl ((yav _ ua A1 B1 c1 d1).mono ?_));rintro e w4 ⟨A3,c3,rfl,hN,hb⟩;refine ⟨_,rfl,?_⟩;replace E:=blx E hb;have hN3:Nums w4 A3 ua.cx:=hN.elim (fun h=>by rw[h.1,h.2];exact (HF.on E).here.1.2) (fun h=>h.nums);refine za rfl (zd en78 rfl ((hashbig_any ua.cn A3 c3 ua.cx _ hN3 hcl).mono ?_));rintro e w5 ⟨rfl,hb⟩;refine ⟨_,rfl,?_⟩;replace E:=blx E hb;refine yk ?_;exact ⟨by unfold zix;rw[g1,if_pos rfl,if_neg h0,if_neg h3,if_neg h4];rfl,(LW.step E XLW).toBelow⟩
theorem ph3 (g1:ua.good=true) (h0:¬ua.k=0) (h3:¬ua.k=3) (h4:ua.k=4) (hsl:ua.s.size≤20000):Calls Tryz.prog 65 #[.agg #[.int .i64 ua.k,.bool ua.yes,.bool ua.neg,.slice A1 ua.xs.length c1,.int .u64 ((ua.bits:Nat):Int),.string ua.s,.slice B1 ua.ni d1]] w fun e w'=>e= .returned (.int .i64 (zix ua))∧Below w.heap.size w w':=by
 have _:=ha;have hsn:ua.s.data.toList.length=ua.s.size:=by rw[Array.length_toList];rfl
 have hbx:∀x:UInt8,x.toNat<256:=fun x=>x.toNat_lt;refine zh Tryz.func65 rfl Tryz.ntmps65 rfl (zy ?_);refine za rfl (zn rfl ?_);rintro gv wA BX E1 G1;refine yb ?_;refine za rfl (qy (cs:=#[.int .i64 ua.k,.bool ua.yes,.bool ua.neg,.slice A1 ua.xs.length c1,.int .u64 ((ua.bits:Nat):Int),.string ua.s,.slice B1 ua.ni d1]) u30 rfl kd rfl rfl (fun j v hj↦by have h:=(BX.cell j).trans hj;rw[Nat.zero_add];exact h) (za rfl (zd ylx rfl ((xe _ ua A1 B1 c1 d1 (Per.nums0 hx _ E1) hl true g1).mono ?_))));rintro e w1 ⟨rfl,hb⟩;refine ⟨_,rfl,?_⟩;have E2:=E1.trans (Ext.of_below hb No);have BX2:=BX.ext (Ext.of_below hb No) (fun h=>h.elim);refine xl ?_;refine zk 11 (.bool false) rfl ((by simp[h0]:(.bool (ua.k==0):Value)=_)) (yu ?_);refine zk 13 (.bool false) rfl ((by simp[h3]:(.bool (ua.k==3):Value)=_)) (yu ?_);refine zk 18 (.bool true) rfl ((by simp[h4]:(.bool (ua.k==4):Value)=_)) (yk ?_);refine za rfl (zfx Tryz.underlying9 rfl (yx ?_));refine za rfl (ow_strBytes Tryz.underlying9 u109 u5 rfl rfl rfl ?_);rintro gx cx wC RX E5 GX;have E6:=E2.trans E5;refine yk ?_;refine qw (ι:=Nat) (fun i=>[(3,.int .i64 (((ua.s.data.toList.take i).foldl znk ua.s.size:Nat):Int)),(25,.slice (some ⟨gx,0,none⟩) ua.s.size cx),(26,.int .i64 ((ua.s.size:Nat):Int)),(27,.int .i64 ((i:Nat):Int))]) (fun i w'=>i≤ua.s.size∧Ext No wC w') (fun i=>ua.s.size-i) 0 ⟨rfl,rfl,rfl,rfl,trivial⟩ (⟨Nat.zero_le _,Ext.refl _ _⟩) ?_;rintro i w3 ⟨hin,XI⟩;refine yb ?_;refine zx rfl (fun hic=>?_) (fun hic=>?_)
 ·
  have hic:=of_decide_eq_true hic;have hil:i<ua.s.size:=by omega
  obtain ⟨x,hxl⟩:∃x,ua.s.data.toList[i]? =some x:=⟨_,List.getElem?_eq_getElem (by omega)⟩;have hxb:=hbx x;obtain ⟨m,hm⟩:∃m,m=(ua.s.data.toList.take i).foldl znk ua.s.size:=⟨_,rfl⟩;have hml:m<2147483647:=by rw[hm];exact fold_lt _ _ (by omega)
  have hcell:∀z,Ext No wC z→z.cell? ⟨gx,0+i,none⟩=some (.int .u8 ((x.toNat:Nat):Int)):=fun z hz=>by
   rw[Nat.zero_add];exact Per.rowL RX z hz i (.int .u8 ((x.toNat:Nat):Int)) (by rw[List.getElem?_map,hxl];rfl)
  rw[←hm];refine zk 3 (.int .i64 ((m:Nat):Int)) rfl (rfl) (yb ?_);refine za rfl (zi (j:=i) u109 sz5 rfl rfl rfl hil (za rfl (yl u5 rfl rfl (hcell _ XI) (yk ?_))));refine za rfl (vn rfl rfl (zg (by omega)) (stp ?_));refine za rfl (yi Tryz.underlying3 u5 rfl (zg (by omega)) (za rfl (zr rfl rfl (zg (by omega)) (za rfl (zr rfl rfl (zg (by omega)) (za rfl (ju rfl rfl (by decide) (rem_at m x.toNat) (yk ?_))))))));refine za rfl (zr rfl rfl (zg (by omega)) (zy ?_));exact qf (i+1) (by show ua.s.size-(i+1)<ua.s.size-i;omega) ⟨by rw[fold_step hxl,←hm];rfl,rfl,rfl,rfl,trivial⟩ (⟨by omega,XI⟩)
 ·
  have hic:=of_decide_eq_false hic;obtain rfl:i=ua.s.size:=by omega
  refine xb ?_;exact ⟨by unfold zix hashN;rw[g1,if_pos rfl,if_neg h0,if_neg h3,if_pos h4,hsn,List.take_of_length_le (by omega)];rfl,(E6.trans XI).toBelow⟩
theorem pl_hash:Calls Tryz.prog 65 #[.agg #[.int .i64 ua.k,.bool ua.yes,.bool ua.neg,.slice A1 ua.xs.length c1,.int .u64 ((ua.bits:Nat):Int),.string ua.s,.slice B1 ua.ni d1]] w fun e w'=>e= .returned (.int .i64 (zix ua))∧Below w.heap.size w w':=by
 cases g1:ua.good
 · exact ph0 w ua A1 B1 c1 d1 hx hl ha g1
 by_cases h0:ua.k=0
 · exact ph1 w ua A1 B1 c1 d1 hx hl ha g1 h0
 by_cases h3:ua.k=3
 · exact ph2 w ua A1 B1 c1 d1 hx hl ha g1 h0 h3
 by_cases h4:ua.k=4
 · exact ph3 w ua A1 B1 c1 d1 hx hl ha g1 h0 h3 h4 (PV.s_max g1 h4)
 · exact ph4 w ua A1 B1 c1 d1 hx hl ha g1 h0 h3 h4
end
end Go.Proofs.YtebjkmjfcijebaaGreat
namespace Go.Proofs.YtebjkmjfcijebaaGreat
open Go.RowKit
end Go.Proofs.YtebjkmjfcijebaaGreat
namespace Go.Proofs.YtebjkmjfcijebaaGreat
structure Obs where
 T:Nat→Option PV
 K:Nat→Nat
 I:Nat→Option (List Nat)
 TI:Nat→List Nat
 N:Nat→Int×Int
structure ObsOk (o:Obs):Prop where
 bits:∀ {x v},o.T x=some v→v.bits<18446744073709551616
 kind:∀ {x v},o.T x=some v→o.K x≠5∧o.K x≠6
 tup:∀ {x l},o.K x=6→o.I x=some l→l=o.TI x
def eqL (f:Nat→Nat→Nat→(Bool×Int)×Nat):List Nat→List Nat→Nat→(Bool×Int)×Nat
 | x::l,y::r,left=>if (f x y left).1.1=true∧(f x y left).1.2=0 then eqL f l r (f x y left).2 else ((false,(f x y left).1.2),(f x y left).2)
 | _,_,left=>((true,0),left)
noncomputable def eqW (o:Obs):Nat→Nat→Nat→Nat→(Bool×Int)×Nat
 | 0,_,_,left=>if left=0 then ((false,12),0) else ((false,11),left-1)
 | n+1,a,b,left=>if left=0 then ((false,12),0) else
  match o.T a,o.T b with
  | some x,some y=>((eqV x y,0),left-1)
  | _,_=>if a=b then ((true,0),left-1) else if o.K a≠o.K b∨(o.K a≠6∧o.K a≠5) then ((false,0),left-1) else
   match o.I a,o.I b with
   | some l,some r=>if l.length≠r.length then ((false,0),left-1) else eqL (eqW o n) l r (left-1)
   | _,_=>((false,0),left-1)
def mixH (h x:Int):Int:=(31*h+(x.tmod 2147483647+2147483647).tmod 2147483647+1).tmod 2147483647
def hsL (f:Nat→Nat→(Int×Int)×Nat):List Nat→Int→Nat→(Int×Int)×Nat
 | [],h,left=>((h,0),left)
 | x::l,h,left=>if (f x left).1.2=0 then hsL f l (mixH h (f x left).1.1) (f x left).2 else ((0,(f x left).1.2),(f x left).2)
noncomputable def hsW (o:Obs):Nat→Nat→Nat→(Int×Int)×Nat
 | 0,_,left=>if left=0 then ((0,12),0) else ((0,11),left-1)
 | n+1,w,left=>if left=0 then ((0,12),0) else
  match o.T w with
  | some v=>((zix v,0),left-1)
  | none=>if o.K w=6 then hsL (hsW o n) (o.TI w) ((o.TI w).length:Int) (left-1)
   else if o.K w=10∨o.K w=13∨o.K w=14∨o.K w=15 then (o.N w,left-1) else ((0,10),left-1)
section
variable {o:Obs}
end
end Go.Proofs.YtebjkmjfcijebaaGreat
namespace Go.Proofs.YtebjkmjfcijebaaGreat
noncomputable def jy (W:List Nat) (top x i:Nat):Int×Int:=if nmE (vr W (x/4) i)≠0∨lkT W top x≤i then (0,10) else (nmI (vr W (x/4) i),0)
noncomputable def qd (W:List Nat) (top:Nat):Obs:=
 ⟨vm W top,lkK W top,ki W top,fun x=>qq W (x/4) (lkT W top x),fun x=>jy W top x (if lkK W top x=10 then 0 else 1)⟩
theorem eqL_le {f:Nat→Nat→Nat→(Bool×Int)×Nat} (hf:∀x y k,(f x y k).2≤k):∀(l r:List Nat) (k:Nat),(eqL f l r k).2≤k
 | x::l,y::r,k=>by
  unfold eqL;split
  · exact Nat.le_trans (eqL_le hf l r _) (hf x y k)
  · exact hf x y k
 | [],[],_=>Nat.le_refl _
 | [],_::_,_=>Nat.le_refl _
 | _::_,[],_=>Nat.le_refl _
theorem hsL_le {f:Nat→Nat→(Int×Int)×Nat} (hf:∀x k,(f x k).2≤k):∀(l:List Nat) (h:Int) (k:Nat),(hsL f l h k).2≤k
 | x::l,h,k=>by
  unfold hsL;split
  · exact Nat.le_trans (hsL_le hf l _ _) (hf x k)
  · exact hf x k
 | [],_,_=>Nat.le_refl _
variable {o:Obs}
theorem eqW_le:∀(n a b k:Nat),(eqW o n a b k).2≤k
 | 0,_,_,k=>by
  unfold eqW;split
  · exact Nat.zero_le _
  · exact Nat.sub_le _ _
 | n+1,a,b,k=>by
  have h1:k-1≤k:=Nat.sub_le _ _;have ih:=fun l r=>Nat.le_trans (eqL_le (fun x y j=>eqW_le n x y j) l r (k-1)) h1;unfold eqW;split
  · exact Nat.zero_le _
  · split
    · exact h1
    · split
      · exact h1
      · split
        · exact h1
        · split
          · split
            · exact h1
            · exact ih _ _
          · exact h1
theorem hsW_le:∀(n x k:Nat),(hsW o n x k).2≤k
 | 0,_,k=>by
  unfold hsW;split
  · exact Nat.zero_le _
  · exact Nat.sub_le _ _
 | n+1,x,k=>by
  have h1:k-1≤k:=Nat.sub_le _ _;have ih:=fun l h=>Nat.le_trans (hsL_le (fun y j=>hsW_le n y j) l h (k-1)) h1;unfold hsW;split
  · exact Nat.zero_le _
  · split
    · exact h1
    · split
      · exact ih _ _
      · split<;>exact h1
theorem mixH_in {h x:Int} (h0:0≤h):0≤mixH h x∧mixH h x<2147483647:=by
 unfold mixH;have e1:=Int.tmod_lt_of_pos x (show (0:Int)<2147483647 by decide);have e2:=Int.lt_tmod_of_pos x (show (0:Int)<2147483647 by decide);have e3:0≤(x.tmod 2147483647+2147483647).tmod 2147483647:=Int.tmod_nonneg _ (by omega);exact ⟨Int.tmod_nonneg _ (by omega),Int.tmod_lt_of_pos _ (by decide)⟩
noncomputable def eqT (W:List Nat) (top a b:Nat):Bool×Int:=if gdW W top a&&gdW W top b then (eqW (qd W top) 40 a b 20000).1 else (false,1)
noncomputable def hsT (W:List Nat) (top a:Nat):Int×Int:=if gdW W top a then (hsW (qd W top) 40 a 20000).1 else (0,1)
end Go.Proofs.YtebjkmjfcijebaaGreat
namespace Go.Proofs.YtebjkmjfcijebaaGreat
open Go.RowKit
set_option maxHeartbeats 20000000
attribute [local irreducible] OW RS CW EW
theorem lkB_lt {W:List Nat} {top x:Nat} (h:lkB W top x=true) (hl:W.length≤1048576):lkT W top x≤1048576:=by
 obtain ⟨hk,hS⟩:=zxk h;rw[lkT_yes hk hS];have:=hS.room;have:=hS.len;have:=hS.fit;omega
theorem lkT_le {W:List Nat} {top x:Nat} (hl:W.length≤1048576):lkT W top x≤1048576:=by
 cases h:lkB W top x
 · unfold lkT;rw[h];exact Nat.zero_le _
 · exact lkB_lt h hl
theorem lsN_of {W:List Nat} {top x:Nat} (h:IsLs W top x) (hl:W.length≤1048576):0≤lsN W x∧(lsN W x).toNat≤1048576∧(((lsN W x).toNat:Nat):Int)=lsN W x:=by
 have h1:=h.pos;have h2:=h.fit;have h3:lsSp W top x≤1048576:=by
  unfold lsSp;split
  · exact Nat.zero_le _
  · exact lkT_le hl
 omega
section
variable (w:World) (A:Option Addr) (W:List Nat) (c n top x:Nat) (hM:MemA n w A W top) (hx:U64 x)
include hM hx
def RetLs (w:World) (W:List Nat) (top x:Nat) (e:Ending) (w':World):Prop:=∃(v0 v1 v2 v3:Int) (b:Bool),e= .returned (.tuple #[.int .i64 v0,.int .i64 v1,.int .i64 v2,.int .i64 v3,.bool b])∧(b=true→IsLs W top x∧v1=lsN W x∧v2=((lsBk W x:Nat):Int))∧(b=false→ ¬IsLs W top x)∧Below w.heap.size w w'
theorem ols_any:Calls Tryz.prog 47 #[xg A W c top,.int .u64 ((x:Nat):Int)] w (RetLs w W top x):=by
 have hin:=@nmI_in (vr W (x/4) 0);refine zh Tryz.func47 rfl Tryz.ntmps47 rfl (zy ?_);refine za rfl (zn rfl ?_);rintro g1 wA B1 E1 G1;have hs1:=E1.size;have h1l:=B1.lt;refine yt ?_;refine za rfl (zd ykv rfl ((gc _ A W c n top x (hM.no E1) hx).mono ?_));rintro e w1 ⟨rfl,hb⟩;refine ⟨_,rfl,?_⟩;have E2:=E1.trans (Ext.of_below hb No);have B12:=B1.ext (Ext.of_below hb No) (fun h=>h.elim);have hs2:=(Ext.of_below hb No).size;refine qb ?_;refine za rfl (zp og ?_);rintro g9 wB B9 E3 G9;refine stp ?_;refine zq (zm xj rfl rfl B9 rfl rfl rfl ?_);rintro wC B9a E4;have hEC:=((E2.trans E3).noL w.heap.size).step E4 (fun q hq=>Or.inl (show w.heap.size≤q by have:=yj hq;omega));have B13:Blk wC g1 24 #[.slice A W.length c,.int .i64 ((top:Nat):Int)]:=(B12.ext E3 (fun h=>h.elim)).ext E4 (fun h=>by have:=yj h;omega);have B9c:Blk wC g9 68 #[.int .i64 ((lkK W top x:Nat):Int),.int .i64 ((lkT W top x:Nat):Int),.int .i64 ((lkR W top x:Nat):Int)]:=B9a;have hMC:=hM.low ⟨hEC,fun q hq=>Nat.le_trans hM.size hq⟩;obtain ⟨wu1,hwu1⟩:∃wu1,wu1=wC:=⟨_,rfl⟩;subst hwu1;refine qa ?_;by_cases hB:lkB W top x=true
 ·
  obtain ⟨hk0,hS⟩:=zxk hB;refine zf 24 (.bool false) rfl ((by rw[hB];rfl:(.bool (!(lkB W top x)):Value)=_)) (zf 4 (.int .i64 ((x/4:Nat):Int)) rfl ((by rw[yux hk0]:(.int .i64 ((lkA x:Nat):Int):Value)=_)) (stp ?_));refine onx rfl (ye (cs:=#[.int .i64 5,.int .i64 2,.int .i64 0]) pl68 og rfl rfl (onx rfl (ow_shapeN rfl rfl ?_)));by_cases hsh:lkK W top x=5∧lkT W top x=2∧lkR W top x=0
  ·
   refine zf 27 (.bool false) rfl ((by rw[decide_eq_true (by omega)];rfl:(.bool (!decide (((lkK W top x:Nat):Int)=5∧((lkT W top x:Nat):Int)=2∧((lkR W top x:Nat):Int)=0)):Value)=_)) (zz ?_);refine za rfl (zd en35 rfl ((zmk _ A W c n top (x/4) 0 hMC hS).mono ?_));rintro e w2 ⟨rfl,hb⟩;refine ⟨_,rfl,?_⟩;have E5:=Ext.of_below hb No;refine za rfl (zd en31 rfl ((num_all _ A W n top (vr W (x/4) 0) (hMC.no E5) (ydk hM.words.in_ _ _)).mono ?_));rintro e w3 ⟨rfl,hb⟩;refine ⟨_,rfl,?_⟩;have E6:=E5.trans (Ext.of_below hb No);have B14:=B13.ext E6 (fun h=>h.elim);refine qo ?_;by_cases hk1:zw (vr W (x/4) 0)=1
   ·
    refine zf 37 (.bool false) rfl ((by rw[qhv hk1];rfl:(.bool (nmE (vr W (x/4) 0) !=0):Value)=_)) (qc ?_);by_cases hp:nmI (vr W (x/4) 0)<0
    ·
     refine zf 40 (.bool true) rfl ((by rw[decide_eq_true hp]:(.bool (decide (nmI (vr W (x/4) 0)<0)):Value)=_)) (xb ?_);refine vc (rs:=[.tmp 4,.tmp 5,.tmp 6,.tmp 7,.tmp 8]) (vs:=[_,_,_,_,_]) rfl ⟨rfl,rfl,rfl,rfl,rfl,trivial⟩ ?_;exact ⟨0,0,0,0,false,rfl,fun h=>(by cases h),fun _ h=>absurd h.pos (by unfold lsN;omega),(hEC.step E6 (fun _ h=>h.elim)).below (fun _ h=>h)⟩
    ·
     refine zf 40 (.bool false) rfl ((by rw[decide_eq_false hp]:(.bool (decide (nmI (vr W (x/4) 0)<0)):Value)=_)) (yt ?_);refine za rfl (zd en35 rfl ((zmk _ A W c n top (x/4) 1 (hMC.no E6) hS).mono ?_));rintro e w4 ⟨rfl,hb⟩;refine ⟨_,rfl,?_⟩;have E7:=E6.trans (Ext.of_below hb No);have B15:=B13.ext E7 (fun h=>h.elim);refine qa ?_;by_cases hb2:vr W (x/4) 1=2
     ·
      refine zk 46 (.bool false) rfl ((by rw[hb2];rfl:(.bool (((vr W (x/4) 1:Nat):Int) !=2):Value)=_)) ?_;have hsp:lsSp W top x=0:=if_pos hb2;have hbk:lsBk W x=0:=if_pos hb2;refine xl ?_;refine vc (rs:=[.tmp 4,.tmp 5,.tmp 6,.tmp 7,.tmp 8]) (vs:=[_,_,_,_,_]) rfl ⟨rfl,rfl,rfl,rfl,rfl,trivial⟩ ?_;exact ⟨_,_,_,_,_,rfl,fun h=>⟨⟨hB,hsh.1,hsh.2.1,hsh.2.2,hk1,by unfold lsN;omega,fun h=>absurd hb2 h,by rw[hsp];unfold lsN;exact of_decide_eq_true h⟩,rfl,by rw[hbk];rfl⟩,fun h hL=>by have h2:=hL.fit;rw[hsp] at h2;unfold lsN at h2;exact absurd h2 (of_decide_eq_false h),(hEC.step E7 (fun _ h=>h.elim)).below (fun _ h=>h)⟩
     ·
      refine zk 46 (.bool true) rfl ((by congr 1;rw[bne_iff_ne];omega:(.bool (((vr W (x/4) 1:Nat):Int) !=2):Value)=_)) ?_;have hsp:lsSp W top x=lkT W top (vr W (x/4) 1):=if_neg hb2;have hbk:lsBk W x=vr W (x/4) 1/4:=if_neg hb2;refine yk ?_;refine za rfl (zd ykv rfl ((gc _ A W c n top (vr W (x/4) 1) (hMC.no E7) (ydk hM.words.in_ _ _)).mono ?_));rintro e w5 ⟨rfl,hb⟩;refine ⟨_,rfl,?_⟩;have E8:=E7.trans (Ext.of_below hb No);have hs8:=E8.size;have hsc:=hEC.size;refine qb ?_;refine za rfl (zp og ?_);rintro g13 wD Bd E9 Gd;refine stp ?_;refine zq (zm xj rfl rfl Bd rfl rfl rfl ?_);rintro wE Be E10;have hEE:=(hEC.step (E8.trans E9) (fun _ h=>h.elim)).step E10 (fun q hq=>Or.inl (show w.heap.size≤q by have:=yj hq;omega));have Bf:Blk wE g13 68 #[.int .i64 ((lkK W top (vr W (x/4) 1):Nat):Int),.int .i64 ((lkT W top (vr W (x/4) 1):Nat):Int),.int .i64 ((lkR W top (vr W (x/4) 1):Nat):Int)]:=Be;refine qa ?_;by_cases hB2:lkB W top (vr W (x/4) 1)=true
      ·
       obtain ⟨hk02,hS2⟩:=zxk hB2;refine zf 56 (.bool false) rfl ((by rw[hB2];rfl:(.bool (!(lkB W top (vr W (x/4) 1))):Value)=_)) (yb ?_);by_cases h11:lkK W top (vr W (x/4) 1)=11
       ·
        refine zk 60 (.bool false) rfl ((by rw[h11];rfl:(.bool (((lkK W top (vr W (x/4) 1):Nat):Int) !=11):Value)=_)) (qc ?_);refine yv (No) Mut.none_ [] [] (jh [Fx.of (.int .i64 ((lkA (vr W (x/4) 1):Nat):Int)),
         Fx.of (.pointer (some ⟨g13,1,none⟩)),
         Fx.of (.int .i64 ((lkT W top (vr W (x/4) 1):Nat):Int)),
         Fx.of (.int .i64 ((lkA (vr W (x/4) 1):Nat):Int)),
         Fx.of (.int .i64 ((lkT W top (vr W (x/4) 1):Nat):Int))]) qt rfl trivial (fun _ h=>by cases h) ?_ ?_
        · refine ⟨arm,arm,?_,arm,arm,trivial⟩
          · intro vs X wq K;have LE:=K.1;obtain ⟨_,e1,k1⟩:=K.dep 1 rfl rfl rfl;refine zc 62 _ rfl e1 ?_;exact zl Tryz.underlying3 rfl rfl (yh LE Bf) rfl ⟨Below.refl _ _,Left.of rfl⟩
        intro vs w6 LE AO AL AF AA;have hbd:Below (wE).heap.size (wE) w6:=(((Ext.refl No (wE)).drew).trans LE).toBelow;obtain ⟨_,e3,k3⟩:=AL.2.2.2.1;obtain ⟨_,e4,k4⟩:=AL.2.2.2.2.1;refine qe (τ:=[(4,_),(5,_),(6,.int .i64 ((lkA (vr W (x/4) 1):Nat):Int)),(7,.int .i64 ((lkT W top (vr W (x/4) 1):Nat):Int)),(8,_)]) ⟨rfl,rfl,congrArg some e3,congrArg some e4,rfl,trivial⟩ ?_;clear AL AF AA AO;refine xm ?_;refine vc (rs:=[.tmp 4,.tmp 5,.tmp 6,.tmp 7,.tmp 8]) (vs:=[_,_,_,_,_]) rfl ⟨rfl,rfl,rfl,rfl,rfl,trivial⟩ ?_;exact ⟨_,_,_,_,_,rfl,fun h=>⟨⟨hB,hsh.1,hsh.2.1,hsh.2.2,hk1,by unfold lsN;omega,fun _=>⟨hB2,h11⟩,by rw[hsp];unfold lsN;exact of_decide_eq_true h⟩,rfl,by rw[hbk,yux hk02]⟩,fun h hL=>by have h2:=hL.fit;rw[hsp] at h2;unfold lsN at h2;exact absurd h2 (of_decide_eq_false h),(hEE.step (Ext.of_below hbd No) (fun _ h=>h.elim)).below (fun _ h=>h)⟩
       ·
        refine zk 60 (.bool true) rfl ((by congr 1;rw[bne_iff_ne];omega:(.bool (((lkK W top (vr W (x/4) 1):Nat):Int) !=11):Value)=_)) (jq ?_);refine vc (rs:=[.tmp 4,.tmp 5,.tmp 6,.tmp 7,.tmp 8]) (vs:=[_,_,_,_,_]) rfl ⟨rfl,rfl,rfl,rfl,rfl,trivial⟩ ?_;exact ⟨0,0,0,0,false,rfl,fun h=>(by cases h),fun _ h=>absurd (h.blk hb2).2 h11,hEE.below (fun _ h=>h)⟩
      ·
       refine zf 56 (.bool true) rfl ((by rw[Bool.eq_false_iff.2 hB2];rfl:(.bool (!(lkB W top (vr W (x/4) 1))):Value)=_)) (ylz ?_);refine vc (rs:=[.tmp 4,.tmp 5,.tmp 6,.tmp 7,.tmp 8]) (vs:=[_,_,_,_,_]) rfl ⟨rfl,rfl,rfl,rfl,rfl,trivial⟩ ?_;exact ⟨0,0,0,0,false,rfl,fun h=>(by cases h),fun _ h=>absurd (h.blk hb2).1 hB2,hEE.below (fun _ h=>h)⟩
   ·
    refine zf 37 (.bool true) rfl ((by rw[nmE_no hk1];rfl:(.bool (nmE (vr W (x/4) 0) !=0):Value)=_)) (xm ?_);refine vc (rs:=[.tmp 4,.tmp 5,.tmp 6,.tmp 7,.tmp 8]) (vs:=[_,_,_,_,_]) rfl ⟨rfl,rfl,rfl,rfl,rfl,trivial⟩ ?_;exact ⟨0,0,0,0,false,rfl,fun h=>(by cases h),fun _ h=>absurd h.num hk1,(hEC.step E6 (fun _ h=>h.elim)).below (fun _ h=>h)⟩
  ·
   refine zf 27 (.bool true) rfl ((by rw[decide_eq_false (by omega)];rfl:(.bool (!decide (((lkK W top x:Nat):Int)=5∧((lkT W top x:Nat):Int)=2∧((lkR W top x:Nat):Int)=0)):Value)=_)) (xb ?_);refine vc (rs:=[.tmp 4,.tmp 5,.tmp 6,.tmp 7,.tmp 8]) (vs:=[_,_,_,_,_]) rfl ⟨rfl,rfl,rfl,rfl,rfl,trivial⟩ ?_;exact ⟨0,0,0,0,false,rfl,fun h=>(by cases h),fun _ h=>hsh ⟨h.kind,h.tag,h.raw⟩,hEC.below (fun _ h=>h)⟩
 ·
  refine zf 24 (.bool true) rfl ((by rw[Bool.eq_false_iff.2 hB];rfl:(.bool (!(lkB W top x)):Value)=_)) (xm ?_);refine vc (rs:=[.tmp 4,.tmp 5,.tmp 6,.tmp 7,.tmp 8]) (vs:=[_,_,_,_,_]) rfl ⟨rfl,rfl,rfl,rfl,rfl,trivial⟩ ?_;exact ⟨0,0,0,0,false,rfl,fun h=>(by cases h),fun _ h=>absurd h.look hB,hEC.below (fun _ h=>h)⟩
def RetIts (w:World) (o:Option (List Nat)) (e:Ending) (w':World):Prop:=((∃l g,o=some l∧e= .returned (.tuple #[.slice (some ⟨g,0,none⟩) l.length l.length,.int .i64 0])∧Blk w' g 27 (ym l).toArray∧w.heap.size≤g)∨(o=none∧e= .returned (.tuple #[.slice none 0 0,.int .i64 1])))∧Below w.heap.size w w'
set_option maxHeartbeats 20000000 in
theorem oits_any:Calls Tryz.prog 18 #[xg A W c top,.int .u64 ((x:Nat):Int)] w (RetIts w (ki W top x)):=by
 have hWl:=hM.most;refine zh Tryz.func18 rfl Tryz.ntmps18 rfl (zy ?_);refine za rfl (zn rfl ?_);rintro g1 wA B1 E1 G1;have hs1:=E1.size;have h1l:=B1.lt;refine yx ?_;refine za rfl (zd ykv rfl ((gc _ A W c n top x (hM.no E1) hx).mono ?_));rintro e w1 ⟨rfl,hb⟩;refine ⟨_,rfl,?_⟩;have E2:=E1.trans (Ext.of_below hb No);have B12:=B1.ext (Ext.of_below hb No) (fun h=>h.elim);have hs2:=(Ext.of_below hb No).size;refine qb ?_;refine za rfl (zp og ?_);rintro g9 wB B9 E3 G9;refine stp ?_;refine zq (zm xj rfl rfl B9 rfl rfl rfl ?_);rintro wC B9a E4;have hEC:=((E2.trans E3).noL w.heap.size).step E4 (fun q hq=>Or.inl (show w.heap.size≤q by have:=yj hq;omega));have B13:Blk wC g1 24 #[.slice A W.length c,.int .i64 ((top:Nat):Int)]:=(B12.ext E3 (fun h=>h.elim)).ext E4 (fun h=>by have:=yj h;omega);have B9c:Blk wC g9 68 #[.int .i64 ((lkK W top x:Nat):Int),.int .i64 ((lkT W top x:Nat):Int),.int .i64 ((lkR W top x:Nat):Int)]:=B9a;obtain ⟨wu1,hwu1⟩:∃wu1,wu1=wC:=⟨_,rfl⟩;subst hwu1;refine zz ?_;by_cases hB:lkB W top x=true
 ·
  obtain ⟨hk0,hS⟩:=zxk hB;refine zk 21 (.bool false) rfl ((by rw[hB];rfl:(.bool (!(lkB W top x)):Value)=_)) (xl ?_);by_cases h6:lkK W top x=6
  ·
   refine zk 27 (.bool false) rfl ((by rw[h6];rfl:(.bool (((lkK W top x:Nat):Int) !=6):Value)=_)) ?_;have hIt:ki W top x=some (qq W (x/4) (lkT W top x)):=by
    unfold ki;rw[if_pos hB,if_pos h6]
   obtain ⟨N,hN⟩:∃N,N=lkT W top x:=⟨_,rfl⟩;obtain ⟨fr,hfr⟩:∃fr,fr=x/4:=⟨_,rfl⟩;rw[←hN,←hfr] at hIt;have hfr:((fr:Nat):Int)=((lkA x:Nat):Int):=by rw[hfr,yux hk0]
   have hfS:0<N→Seen W top fr:=fun _=>by
    have e:fr=x/4:=by rw[yux hk0] at hfr;omega
    rw[e];exact hS
   have hNl:N≤1048576:=by rw[hN];exact lkT_le hWl
   have hEZ:=hEC;have B1z:=B13;refine yb ?_;refine zf 9 (.int .i64 ((N:Nat):Int)) rfl ((by rw[hN]:(.int .i64 ((lkT W top x:Nat):Int):Value)=_)) (zf 10 (.int .i64 ((fr:Nat):Int)) rfl ((by rw[hfr]:(.int .i64 ((lkA x:Nat):Int):Value)=_)) (zf 39 (.int .i64 ((N:Nat):Int)) rfl ((by rw[hN]:(.int .i64 ((lkT W top x:Nat):Int):Value)=_)) (za rfl (ziv (n:=N) u22 ymx rfl rfl rfl rfl rfl (by omega) (by omega) ?_))));rintro gt wS Bt0 ES Gt;have hsz:=hEZ.size;have hTl:(qq W fr N).length=N:=oh _ _ _;have Bt:Blk wS gt 27 (ym (qh (qq W fr N) 0 0)).toArray:=by
    rw[yoz,zkk,hTl];exact Bt0
   have B1s:=B1z.ext ES (fun h=>h.elim);have hES:=hEZ.step ES (fun _ h=>h.elim);have hgt:w.heap.size≤gt:=by omega
   have h1s:g1<gt:=by have:=B1z.lt;omega
   refine qo ?_;refine qw (ι:=Nat) (fun i=>[(2,.pointer (some ⟨g1,0,none⟩)),(10,.int .i64 ((fr:Nat):Int)),(11,.slice (some ⟨gt,0,none⟩) N N),(42,.int .i64 ((N:Nat):Int)),(43,.int .i64 ((i:Nat):Int))]) (fun i w'=>i≤N∧Blk w' gt 27 (ym (qh (qq W fr N) 0 i)).toArray∧Ext (fun q=>gt≤q) wS w') (fun i=>N-i) 0 ⟨rfl,rfl,rfl,rfl,rfl,trivial⟩ (⟨Nat.zero_le _,Bt,Ext.refl _ _⟩) ?_;rintro i w3 ⟨hi0,Bi,hEi⟩;have hEiw:=hES.step hEi (fun q hq=>Or.inl (show w.heap.size≤q by have hq:gt≤q:=hq;omega));refine yb ?_;refine zx rfl (fun hc=>?_) (fun hc=>?_)
   ·
    have hc:=of_decide_eq_true hc;have hlt:i<N:=by omega
    have B1i:=B1s.ext hEi (fun h=>by have h:gt≤g1:=h;omega);have hMi:=hM.low ⟨hEiw,fun q hq=>Nat.le_trans hM.size hq⟩;refine gh ?_;refine za rfl (zd en35 rfl ((zmk _ A W c n top fr i hMi (hfS (by omega))).mono ?_));rintro e w4 ⟨rfl,hb⟩;refine ⟨_,rfl,?_⟩;have E9:=Ext.of_below hb No;have Bj:=Bi.ext E9 (fun h=>h.elim);refine za rfl (zi (j:=i) u22 qk rfl rfl rfl hlt (zq (jz (cs':=(ym (qh (qq W fr N) 0 (i+1))).toArray) qk rfl rfl Bj rfl rfl (by rw[List.size_toArray,kk,zav (by omega)];omega) (by rw[Nat.zero_add,List.setIfInBounds_toArray,gu,zlq (yfq hlt)]) ?_)));rintro wT BT ET;refine qb ?_;refine za rfl (zr rfl rfl (zg (by omega)) (zy ?_));exact qf (i+1) (by show N-(i+1)<N-i;omega) ⟨rfl,rfl,rfl,rfl,rfl,trivial⟩ (⟨hlt,BT,(hEi.step E9 (fun _ h=>h.elim)).step ET (fun q hq=>Or.inl (show gt≤q by have:=yj hq;omega))⟩)
   ·
    have hc:=of_decide_eq_false hc;have hie:i=(qq W fr N).length:=by omega
    rw[hie,zlk] at Bi;refine jt ?_;exact ⟨Or.inl ⟨qq W fr N,gt,hIt,by rw[hTl];rfl,Bi,hgt⟩,hEiw.below (fun _ h=>h)⟩
  ·
   refine zk 27 (.bool true) rfl ((by congr 1;rw[bne_iff_ne];omega:(.bool (((lkK W top x:Nat):Int) !=6):Value)=_)) (yk ?_);refine za rfl (zd en47 rfl ((ols_any _ A W c n top x (hM.low ⟨hEC,fun q hq=>Nat.le_trans hM.size hq⟩) hx).mono ?_));rintro e w5 ⟨v0,v1,v2,v3,b,rfl,hyes,hno,hb⟩;refine ⟨_,rfl,?_⟩;have E5:=Ext.of_below hb No;have hEZ:=hEC.step E5 (fun _ h=>h.elim);have B1z:=B13.ext E5 (fun h=>h.elim);refine zhq ?_;by_cases hbt:b=true
   ·
    refine zk 38 (.bool false) rfl ((by rw[hbt];rfl:(.bool (!b):Value)=_)) ?_;obtain ⟨hL,hv1,hv2⟩:=hyes hbt;obtain ⟨hp0,hpl,hpn⟩:=lsN_of hL hWl;have hIt:ki W top x=some (qq W (lsBk W x) (lsN W x).toNat):=by
     unfold ki;rw[if_pos hB,if_neg h6,if_pos hL]
    obtain ⟨N,hN'⟩:∃N,N=(lsN W x).toNat:=⟨_,rfl⟩;obtain ⟨fr,hfr'⟩:∃fr,fr=lsBk W x:=⟨_,rfl⟩;rw[←hN',←hfr'] at hIt;have hN:((N:Nat):Int)=v1:=by rw[hN',hpn,hv1]
    have hfr:((fr:Nat):Int)=v2:=by rw[hfr',hv2]
    have hfS:0<N→Seen W top fr:=fun h0=>by
     have h2:=hL.fit;by_cases hb2:vr W (x/4) 1=2
     · rw[show lsSp W top x=0 from if_pos hb2] at h2;omega
     · rw[hfr',show lsBk W x=vr W (x/4) 1/4 from if_neg hb2];exact (zxk (hL.blk hb2).1).2
    have hNl:N≤1048576:=by omega
    refine yb ?_;refine zf 9 (.int .i64 ((N:Nat):Int)) rfl ((by rw[hN]:(.int .i64 v1:Value)=_)) (zf 10 (.int .i64 ((fr:Nat):Int)) rfl ((by rw[hfr]:(.int .i64 v2:Value)=_)) (zf 39 (.int .i64 ((N:Nat):Int)) rfl ((by rw[hN]:(.int .i64 v1:Value)=_)) (za rfl (ziv (n:=N) u22 ymx rfl rfl rfl rfl rfl (by omega) (by omega) ?_))));rintro gt wS Bt0 ES Gt;have hsz:=hEZ.size;have hTl:(qq W fr N).length=N:=oh _ _ _;have Bt:Blk wS gt 27 (ym (qh (qq W fr N) 0 0)).toArray:=by
     rw[yoz,zkk,hTl];exact Bt0
    have B1s:=B1z.ext ES (fun h=>h.elim);have hES:=hEZ.step ES (fun _ h=>h.elim);have hgt:w.heap.size≤gt:=by omega
    have h1s:g1<gt:=by have:=B1z.lt;omega
    refine qo ?_;refine qw (ι:=Nat) (fun i=>[(2,.pointer (some ⟨g1,0,none⟩)),(10,.int .i64 ((fr:Nat):Int)),(11,.slice (some ⟨gt,0,none⟩) N N),(42,.int .i64 ((N:Nat):Int)),(43,.int .i64 ((i:Nat):Int))]) (fun i w'=>i≤N∧Blk w' gt 27 (ym (qh (qq W fr N) 0 i)).toArray∧Ext (fun q=>gt≤q) wS w') (fun i=>N-i) 0 ⟨rfl,rfl,rfl,rfl,rfl,trivial⟩ (⟨Nat.zero_le _,Bt,Ext.refl _ _⟩) ?_;rintro i w7 ⟨hi0,Bi,hEi⟩;have hEiw:=hES.step hEi (fun q hq=>Or.inl (show w.heap.size≤q by have hq:gt≤q:=hq;omega));refine yb ?_;refine zx rfl (fun hc=>?_) (fun hc=>?_)
    ·
     have hc:=of_decide_eq_true hc;have hlt:i<N:=by omega
     have B1i:=B1s.ext hEi (fun h=>by have h:gt≤g1:=h;omega);have hMi:=hM.low ⟨hEiw,fun q hq=>Nat.le_trans hM.size hq⟩;refine gh ?_;refine za rfl (zd en35 rfl ((zmk _ A W c n top fr i hMi (hfS (by omega))).mono ?_));rintro e w8 ⟨rfl,hb⟩;refine ⟨_,rfl,?_⟩;have E9:=Ext.of_below hb No;have Bj:=Bi.ext E9 (fun h=>h.elim);refine za rfl (zi (j:=i) u22 qk rfl rfl rfl hlt (zq (jz (cs':=(ym (qh (qq W fr N) 0 (i+1))).toArray) qk rfl rfl Bj rfl rfl (by rw[List.size_toArray,kk,zav (by omega)];omega) (by rw[Nat.zero_add,List.setIfInBounds_toArray,gu,zlq (yfq hlt)]) ?_)));rintro wT BT ET;refine qb ?_;refine za rfl (zr rfl rfl (zg (by omega)) (zy ?_));exact qf (i+1) (by show N-(i+1)<N-i;omega) ⟨rfl,rfl,rfl,rfl,rfl,trivial⟩ (⟨hlt,BT,(hEi.step E9 (fun _ h=>h.elim)).step ET (fun q hq=>Or.inl (show gt≤q by have:=yj hq;omega))⟩)
    ·
     have hc:=of_decide_eq_false hc;have hie:i=(qq W fr N).length:=by omega
     rw[hie,zlk] at Bi;refine jt ?_;exact ⟨Or.inl ⟨qq W fr N,gt,hIt,by rw[hTl];rfl,Bi,hgt⟩,hEiw.below (fun _ h=>h)⟩
   ·
    have hbf:b=false:=Bool.eq_false_iff.2 hbt;refine zk 38 (.bool true) rfl ((by rw[hbf];rfl:(.bool (!b):Value)=_)) ?_;have hIt:ki W top x=none:=by
     unfold ki;rw[if_pos hB,if_neg h6,if_neg (hno hbf)]
    refine zz ?_;exact ⟨Or.inr ⟨hIt,rfl⟩,hEZ.below (fun _ h=>h)⟩
 ·
  refine zk 21 (.bool true) rfl ((by rw[Bool.eq_false_iff.2 hB];rfl:(.bool (!(lkB W top x)):Value)=_)) ?_;have hIt:ki W top x=none:=by
   unfold ki;rw[if_neg hB]
  refine zz ?_;exact ⟨Or.inr ⟨hIt,rfl⟩,hEC.below (fun _ h=>h)⟩
theorem ytx (i:Nat) (hB:lkB W top x=true) (hi:i<2):Calls Tryz.prog 66 #[xg A W c top,.int .i64 ((lkA x:Nat):Int),.agg #[.int .i64 ((lkK W top x:Nat):Int),.int .i64 ((lkT W top x:Nat):Int),.int .i64 ((lkR W top x:Nat):Int)],.int .i64 ((i:Nat):Int)] w fun e w'=>e= .returned (.tuple #[.int .i64 (jy W top x i).1,.int .i64 (jy W top x i).2])∧Below w.heap.size w w':=by
 obtain ⟨hk0,hS⟩:=zxk hB;rw[yux hk0];have _:=hx;refine zh Tryz.func66 rfl Tryz.ntmps66 rfl (zy ?_);refine za rfl (zn rfl ?_);rintro g1 wA B1 E1 G1;refine za rfl (zn rfl ?_);rintro g2 wB B2 E2 G2;have B12:=B1.ext E2 (fun h=>h.elim);have hE2:=E1.trans E2;refine qa ?_;refine za rfl (zd en35 rfl ((zmk _ A W c n top (x/4) i (hM.no hE2) hS).mono ?_));rintro e w1 ⟨rfl,hb⟩;refine ⟨_,rfl,?_⟩;have E3:=Ext.of_below hb No;have hE3:=hE2.trans E3;refine za rfl (zd en31 rfl ((num_all _ A W n top (vr W (x/4) i) (hM.no hE3) (ydk hM.words.in_ _ _)).mono ?_));rintro e w2 ⟨rfl,hb⟩;refine ⟨_,rfl,?_⟩;have E4:=Ext.of_below hb No;have hE4:=hE3.trans E4;have B24:=(B2.ext E3 (fun h=>h.elim)).ext E4 (fun h=>h.elim);refine qo ?_;by_cases hk1:zw (vr W (x/4) i)=1
 ·
  refine zf 21 (.bool false) rfl ((by rw[qhv hk1];rfl:(.bool (nmE (vr W (x/4) i) !=0):Value)=_)) (yx ?_);by_cases hti:lkT W top x≤i
  ·
   refine zk 27 (.bool true) rfl ((by rw[decide_eq_true];omega:(.bool (decide (((lkT W top x:Nat):Int)≤((i:Nat):Int))):Value)=_)) (zz ?_);exact ⟨by unfold jy;rw[if_pos (Or.inr hti)];rfl,hE4.toBelow⟩
  ·
   refine zk 27 (.bool false) rfl ((by rw[decide_eq_false];omega:(.bool (decide (((lkT W top x:Nat):Int)≤((i:Nat):Int))):Value)=_)) (qo ?_);exact ⟨by unfold jy;rw[if_neg (by rw[qhv hk1];omega)];rfl,hE4.toBelow⟩
 ·
  refine zf 21 (.bool true) rfl ((by rw[nmE_no hk1];rfl:(.bool (nmE (vr W (x/4) i) !=0):Value)=_)) (xm ?_);exact ⟨by unfold jy;rw[if_pos (Or.inl (by rw[nmE_no hk1];decide))];rfl,hE4.toBelow⟩
end
end Go.Proofs.YtebjkmjfcijebaaGreat
namespace Go.Proofs.YtebjkmjfcijebaaGreat
open Go.RowKit
theorem goodB_len {n:Bool} {xs:List Nat} (h:yq n xs=true):xs.length≤30:=by
 unfold yq at h;split at h
 · omega
 · split at h
   · cases h
   · omega
theorem limbs_few {i:Int} (h:-999999999999999999≤i∧i≤999999999999999999):(limbs i).length≤30:=by
 by_cases h0:i=0
 · rw[h0,vu];decide
 · rw[limbs_one h0 (by omega)];exact Nat.le_trans (Nat.le_refl 1) (by decide)
theorem zqq (W:List Nat) (top x:Nat):((vm W top x).getD vNil).ni=0∧((vm W top x).getD vNil).xs.length≤30:=by
 have h0:∀v:PV,v.ni=0→v.xs.length≤30→((some v).getD vNil).ni=0∧((some v).getD vNil).xs.length≤30:=fun v h1 h2=>⟨h1,h2⟩;have hn:((none:Option PV).getD vNil).ni=0∧((none:Option PV).getD vNil).xs.length≤30:=⟨rfl,Nat.zero_le _⟩;unfold vm;split
 · rename_i h1
   have:=@nmI_in x;rw[qhk h1] at this;exact h0 _ rfl (limbs_few this)
 · split
   · exact h0 _ rfl (Nat.zero_le _)
   · split
     · exact h0 _ rfl (Nat.zero_le _)
     · split
       · exact h0 _ rfl (Nat.zero_le _)
       · split
         · unfold zox;split
           · split
             · rename_i hg
               exact h0 _ rfl (goodB_len hg)
             · exact hn
           · split
             · exact h0 _ rfl (Nat.zero_le _)
             · split
               · unfold qcz;split
                 · exact h0 _ rfl (Nat.zero_le _)
                 · exact hn
               · exact hn
         · exact hn
theorem yxk {W:List Nat} {top x:Nat} (hW:∀y∈W,U64 y):((vm W top x).getD vNil).bits<18446744073709551616:=by
 cases h:vm W top x with
 | none=>exact (by decide:(0:Nat)<18446744073709551616)
 | some v=>exact takeO_bits hW h
section
variable (w:World) (A:Option Addr) (W:List Nat) (c n top x:Nat) (hM:MemA n w A W top) (hx:U64 x)
include hM hx
theorem otk_v (v:PV) (hv:v=(vm W top x).getD vNil) (er:Int) (he:er=if (vm W top x).isSome then 0 else 9):Calls Tryz.prog 10 #[xg A W c top,.int .u64 ((x:Nat):Int)] w fun e w'=>(∃B d,e= .returned (.tuple #[.agg #[.int .i64 v.k,.bool v.yes,.bool v.neg,.slice B v.xs.length d,.int .u64 ((v.bits:Nat):Int),.string v.s,.slice none v.ni 0],.int .i64 er])∧Nums w' B v.xs)∧Below w.heap.size w w':=
 (otk_any w A W c n top x hM hx).mono fun e w' ⟨B,d,h1,h2,h3⟩=>⟨⟨B,d,by rw[h1];unfold optV;rw[←hv,←he,show v.ni=0 by rw[hv];exact (zqq W top x).1],by rw[hv];exact h2⟩,h3⟩
theorem    ycx (l : List Nat) (hl : l = (    ki W top x).getD []) (er : Int) (he : er = if (    ki W top x).isSome then 0 else 1) : Calls Tryz.prog 18 #[  xg A W c top, .int .u64 ((x : Nat) : Int)] w fun e w' => (∃ B d, e = .returned (.tuple #[.slice B l.length d, .int .i64 er]) ∧ (er = 0 → ∃ g, B = some ⟨g, 0, none⟩ ∧ Blk w' g 27 (    ym l).toArray ∧ w.heap.size ≤ g)) ∧ Below w.heap.size w w' :=
 (oits_any w A W c n top x hM hx).mono fun e w' ⟨h, hb⟩ => ⟨by
  rcases h with ⟨l', g, h1, h2, h3, h4⟩ | ⟨h1, h2⟩
  · rw [h1] at hl he;obtain rfl : l = l' := hl;obtain rfl : er = 0 := he;exact ⟨_, _, h2, fun _ => ⟨g, rfl, h3, h4⟩⟩
  · rw [h1] at hl he;obtain rfl : l = [] := hl;obtain rfl : er = 1 := he;exact ⟨_, _, h2, fun h => absurd h (by decide)⟩, hb⟩
end
/-! ### the steps -/
section
variable {o:Obs} {n p q k:Nat}
theorem eqW_0:eqW o n p q 0=((false,12),0):=by cases n<;>rfl
theorem eqW_d (hk:k≠0):eqW o 0 p q k=((false,11),k-1):=by unfold eqW;rw[if_neg hk]
theorem eqW_v {u v:PV} (hk:k≠0) (h1:o.T p=some u) (h2:o.T q=some v):eqW o (n+1) p q k=((eqV u v,0),k-1):=by unfold eqW;rw[if_neg hk,h1,h2]
theorem yuq (hk:k≠0) (h:¬((o.T p).isSome=true∧(o.T q).isSome=true)):eqW o (n+1) p q k=if p=q then ((true,0),k-1) else if o.K p≠o.K q∨(o.K p≠6∧o.K p≠5) then ((false,0),k-1) else
 match o.I p,o.I q with
 | some l,some r=>if l.length≠r.length then ((false,0),k-1) else eqL (eqW o n) l r (k-1)
 | _,_=>((false,0),k-1):=by
 rw[eqW.eq_def];simp only[]
 rw[if_neg hk];cases h1:o.T p<;>cases h2:o.T q<;>first | rfl | (rw[h1,h2] at h;exact absurd ⟨rfl,rfl⟩ h)
theorem eqW_i {l r:List Nat} {e f:Int} (hk:k≠0) (h:¬((o.T p).isSome=true∧(o.T q).isSome=true)) (hpq:p≠q) (hK:¬(o.K p≠o.K q∨(o.K p≠6∧o.K p≠5))) (hl:l=(o.I p).getD []) (hr:r=(o.I q).getD []) (he:e=if (o.I p).isSome then 0 else 1) (hf:f=if (o.I q).isSome then 0 else 1) :
 eqW o (n+1) p q k=if e≠0∨f≠0∨l.length≠r.length then ((false,0),k-1) else eqL (eqW o n) l r (k-1):=by
 rw[yuq hk h,if_neg hpq,if_neg hK];cases h1:o.I p with
 | none=>
  rw[h1] at he;rw[if_pos (Or.inl (by rw[he];decide))]
 | some l'=>
  cases h2:o.I q with
  | none=>
   rw[h2] at hf;rw[if_pos (Or.inr (Or.inl (by rw[hf];decide)))]
  | some r'=>
   rw[h1] at he hl;rw[h2] at hf hr;obtain rfl:l=l':=hl;obtain rfl:r=r':=hr;obtain rfl:e=0:=he;obtain rfl:f=0:=hf;simp
theorem yuk {f:Nat→Nat→Nat→(Bool×Int)×Nat} {l r:List Nat} {i x y:Nat} (hl:l[i]? =some x) (hr:r[i]? =some y):eqL f (l.drop i) (r.drop i) k=if (f x y k).1.1=true∧(f x y k).1.2=0 then eqL f (l.drop (i+1)) (r.drop (i+1)) (f x y k).2 else ((false,(f x y k).1.2),(f x y k).2):=by
 obtain ⟨h1,e1⟩:=List.getElem?_eq_some_iff.1 hl;obtain ⟨h2,e2⟩:=List.getElem?_eq_some_iff.1 hr;rw[List.drop_eq_getElem_cons h1,List.drop_eq_getElem_cons h2,e1,e2];rfl
theorem zpx {f:Nat→Nat→Nat→(Bool×Int)×Nat} {l r:List Nat} {i:Nat} (h:l.length≤i):eqL f (l.drop i) (r.drop i) k=((true,0),k):=by
 rw[List.drop_eq_nil_of_le h];unfold eqL;rfl
theorem hsW_0:hsW o n p 0=((0,12),0):=by cases n<;>rfl
theorem hsW_d (hk:k≠0):hsW o 0 p k=((0,11),k-1):=by unfold hsW;rw[if_neg hk]
theorem hsW_v {u:PV} (hk:k≠0) (h1:o.T p=some u):hsW o (n+1) p k=((zix u,0),k-1):=by unfold hsW;rw[if_neg hk,h1]
theorem hsW_r (hk:k≠0) (h:o.T p=none):hsW o (n+1) p k=if o.K p=6 then hsL (hsW o n) (o.TI p) ((o.TI p).length:Int) (k-1)
 else if o.K p=10∨o.K p=13∨o.K p=14∨o.K p=15 then (o.N p,k-1) else ((0,10),k-1):=by
 rw[hsW.eq_def];simp only[]
 rw[if_neg hk,h]
theorem hsL_step {f:Nat→Nat→(Int×Int)×Nat} {l:List Nat} {i x:Nat} {m:Int} (hl:l[i]? =some x):hsL f (l.drop i) m k=if (f x k).1.2=0 then hsL f (l.drop (i+1)) (mixH m (f x k).1.1) (f x k).2 else ((0,(f x k).1.2),(f x k).2):=by
 obtain ⟨h1,e1⟩:=List.getElem?_eq_some_iff.1 hl;rw[List.drop_eq_getElem_cons h1,e1];rfl
theorem hsL_end {f:Nat→Nat→(Int×Int)×Nat} {l:List Nat} {i:Nat} {m:Int} (h:l.length≤i):hsL f (l.drop i) m k=((m,0),k):=by
 rw[List.drop_eq_nil_of_le h];rfl
end
end Go.Proofs.YtebjkmjfcijebaaGreat
namespace Go.Proofs.YtebjkmjfcijebaaGreat
open Go.RowKit
set_option maxHeartbeats 20000000
attribute [local irreducible] OW RS CW EW
def wkC (A:Option Addr) (W:List Nat) (c top left:Nat):Array Value:=#[.slice A W.length c,.int .i64 ((top:Nat):Int),.int .i64 ((left:Nat):Int)]
theorem vh {w:World} {g:Nat} {t:TypeId} {A:Option Addr} {W:List Nat} {c top left:Nat} (h:Blk w g t (wkC A W c top left)):∀(j:Nat) (v:Value),#[Value.slice A W.length c,.int .i64 ((top:Nat):Int)][j]? =some v→w.cell? ⟨g,0+j,none⟩=some v:=fun j v hj=>by
 have hj2:=(Array.getElem?_eq_some_iff.1 hj).1;rw[Nat.zero_add];match j,hj2 with
 | 0,_=>exact (h.cell 0).trans hj
 | 1,_=>exact (h.cell 1).trans hj
def stE (left d:Nat):Int:=if left=0 then 12 else if 40<d then 11 else 0
theorem ostep_any (w:World) (gk:Nat) (A:Option Addr) (W:List Nat) (c top left d:Nat) (hk:Blk w gk 78 (wkC A W c top left)) (hl:left≤20000) (hd:d≤41):Calls Tryz.prog 63 #[.pointer (some ⟨gk,0,none⟩),.int .i64 ((d:Nat):Int)] w fun e w'=>e= .returned (.int .i64 (stE left d))∧Blk w' gk 78 (wkC A W c top (left-1))∧Ext (Mut [some gk]) w w':=by
 have Bk:Blk w gk 78 #[.slice A W.length c,.int .i64 ((top:Nat):Int),.int .i64 ((left:Nat):Int)]:=hk;refine zh Tryz.func63 rfl Tryz.ntmps63 rfl (jq ?_);by_cases h0:left=0
 ·
  refine zf 9 (.bool true) rfl ((by rw[h0];rfl:(.bool (((left:Nat):Int)==0):Value)=_)) (yt ?_);exact ⟨by unfold stE;rw[if_pos h0];rfl,by rw[h0];rw[h0] at hk;exact hk,Ext.refl _ _⟩
 ·
  refine zf 9 (.bool false) rfl ((by congr 1;rw[beq_eq_false_iff_ne];omega:(.bool (((left:Nat):Int)==0):Value)=_)) (yt ?_);refine za rfl (qz rfl rfl (zg (by omega)) (zy ?_));refine zf 14 (.int .i64 ((left-1:Nat):Int)) rfl ((by first | rfl | (congr 1;omega):(.int .i64 (((left:Nat):Int)-1):Value)=_)) (zq (jz (cs':=#[.slice A W.length c,.int .i64 ((top:Nat):Int),.int .i64 ((left-1:Nat):Int)]) sz3 rfl rfl Bk rfl rfl (show 2<3 by decide) rfl ?_));rintro wT BT ET;refine qa ?_;by_cases h4:40<d
  ·
   refine zk 18 (.bool true) rfl ((by rw[decide_eq_true];omega:(.bool (decide (40<((d:Nat):Int))):Value)=_)) (qa ?_);exact ⟨by unfold stE;rw[if_neg h0,if_pos h4];rfl,BT,ET⟩
  ·
   refine zk 18 (.bool false) rfl ((by rw[decide_eq_false];omega:(.bool (decide (40<((d:Nat):Int))):Value)=_)) (zz ?_);exact ⟨by unfold stE;rw[if_neg h0,if_neg h4];rfl,BT,ET⟩
def RetEq (gk:Nat) (A:Option Addr) (W:List Nat) (c top:Nat) (w:World) (r:(Bool×Int)×Nat) (e:Ending) (w':World):Prop:=e= .returned (.tuple #[.bool r.1.1,.int .i64 r.1.2])∧Blk w' gk 78 (wkC A W c top r.2)∧Ext (Mut [some gk]) w w'
def EqAt (gk m:Nat) (A:Option Addr) (W:List Nat) (c top n:Nat):Prop:=∀(w:World) (p q left d:Nat),d+n=41→U64 p→U64 q→left≤20000→MemA m w A W top→m≤gk→Blk w gk 78 (wkC A W c top left)→Calls Tryz.prog 41 #[.pointer (some ⟨gk,0,none⟩),.int .u64 ((p:Nat):Int),.int .u64 ((q:Nat):Int),.int .i64 ((d:Nat):Int)] w (RetEq gk A W c top w (eqW (qd W top) n p q left))
theorem ytz {X:Nat→Prop} {w w':World} {A:Option Addr} {xs:List Nat} (h:Nums w A xs) (E:Ext X w w') (hX:∀q,X q→w.heap.size≤q):Nums w' A xs:=h.keep E.size fun p hp=>E.cell hp fun hx=>absurd (hX _ hx) (by omega)
theorem some_of {α:Type} {o:Option α} {d v:α} (hv:v=o.getD d) (h:o.isSome=true):o=some v:=by
 cases o with
 | none=>cases h
 | some x=>rw[hv];rfl
theorem xr {W:List Nat} {top x:Nat} (hW:∀y∈W,U64 y):∀y∈(ki W top x).getD [],U64 y:=by
 unfold ki;split
 · split
   · exact zuq hW _ _
   · split
     · exact zuq hW _ _
     · exact fun y h=>(by cases h)
 · exact fun y h=>(by cases h)
theorem zxv {W:List Nat} {top x:Nat} (h:W.length≤1048576):((ki W top x).getD []).length≤1048576:=by
 unfold ki;split
 · split
   · show (qq W _ _).length≤_
     rw[oh];exact lkT_le h
   · split
     · rename_i hL
       show (qq W _ _).length≤_
       rw[oh];exact (lsN_of hL h).2.1
     · exact Nat.zero_le _
 · exact Nat.zero_le _
set_option maxHeartbeats 20000000 in
theorem oeq_step (gk m:Nat) (A:Option Addr) (W:List Nat) (c top n:Nat) (ih:∀k,n=k+1→EqAt gk m A W c top k):EqAt gk m A W c top n:=by
 intro w p q left d hdn hp hq hl2 hM hmk hk;have hW:=hM.words.in_;obtain ⟨u,hu⟩:∃u,u=(vm W top p).getD vNil:=⟨_,rfl⟩;obtain ⟨v,hv⟩:∃v,v=(vm W top q).getD vNil:=⟨_,rfl⟩;obtain ⟨eu,heu⟩:∃eu:Int,eu=if (vm W top p).isSome then 0 else 9:=⟨_,rfl⟩
 obtain ⟨ev_,hev⟩:∃ev_:Int,ev_=if (vm W top q).isSome then 0 else 9:=⟨_,rfl⟩
 obtain ⟨l,hl⟩:∃l,l=(ki W top p).getD []:=⟨_,rfl⟩;obtain ⟨r,hr⟩:∃r,r=(ki W top q).getD []:=⟨_,rfl⟩;obtain ⟨e1,he1⟩:∃e:Int,e=if (ki W top p).isSome then 0 else 1:=⟨_,rfl⟩
 obtain ⟨e2,he2⟩:∃e:Int,e=if (ki W top q).isSome then 0 else 1:=⟨_,rfl⟩
 have ub:=yxk (top:=top) (x:=p) hW;have vb:=yxk (top:=top) (x:=q) hW;have ul:=(zqq W top p).2;have vl:=(zqq W top q).2;have hM1:∀z,Ext (Mut [some gk]) w z→MemA m z A W top:=fun z hz=>hM.low ⟨hz,fun q hq=>by have:=yj hq;omega⟩;rw[←hu] at ub ul;rw[←hv] at vb vl;refine zh Tryz.func41 rfl Tryz.ntmps41 rfl (yt ?_);refine za rfl (zd en63 rfl ((ostep_any _ gk A W c top left d hk hl2 (by omega)).mono ?_));rintro e w1 ⟨rfl,Bk,ES⟩;refine ⟨_,rfl,?_⟩;obtain ⟨wu1,hwu1⟩:∃z,z=w1:=⟨_,rfl⟩;refine qa ?_;by_cases h0:left=0
 ·
  have hst:stE left d=12:=if_pos h0;refine zk 30 (.bool true) rfl ((by rw[hst];rfl:(.bool ((stE left d) !=0):Value)=_)) (yt ?_);exact ⟨by rw[hst,h0,eqW_0];rfl,by rw[h0,eqW_0];rw[h0] at Bk;exact Bk,ES⟩
 ·
  by_cases h4:40<d
  ·
   have hst:stE left d=11:=by unfold stE;rw[if_neg h0,if_pos h4]
   have hn0:n=0:=by omega
   refine zk 30 (.bool true) rfl ((by rw[hst];rfl:(.bool ((stE left d) !=0):Value)=_)) (yt ?_);exact ⟨by rw[hst,hn0,eqW_d h0];rfl,by rw[hn0,eqW_d h0];exact Bk,ES⟩
  ·
   have hst:stE left d=0:=by unfold stE;rw[if_neg h0,if_neg h4]
   obtain ⟨n,rfl⟩:∃n',n=n'+1:=⟨n-1,by omega⟩;have ihn:=ih n rfl;refine zk 30 (.bool false) rfl ((by rw[hst];rfl:(.bool ((stE left d) !=0):Value)=_)) (yx ?_);refine za rfl (qy (cs:=#[.slice A W.length c,.int .i64 ((top:Nat):Int)]) u24 rfl kr rfl rfl (vh @Bk) (stp ?_));refine za rfl (zd en10 rfl ((otk_v _ A W c m top p (hM1 _ ES) hp u hu eu heu).mono ?_));rintro e w2 ⟨⟨A1,c1,rfl,hx1⟩,hb⟩;refine ⟨_,rfl,?_⟩;have E2:=Ext.of_below hb No;have B2:=Bk.ext E2 (fun h=>h.elim);have hE2:=ES.step E2 (fun _ h=>h.elim);obtain ⟨wu2,hwu2⟩:∃z,z=w2:=⟨_,rfl⟩;subst hwu2;have hs2:=hE2.size;refine qc ?_;refine za rfl (zp xt ?_);rintro g11 wA BA0 E3 GA;refine zq (zm kd rfl rfl BA0 rfl rfl rfl ?_);rintro wB BA E4;have F4:Ext (fun q=>wu2.heap.size≤q) wu2 wB:=(E3.noL wu2.heap.size).step E4 (fun q hq=>Or.inl (show wu2.heap.size≤q by have:=yj hq;omega));have hE4:=hE2.step F4 (fun q hq=>Or.inr (Nat.le_trans hs2 hq));have B4:=B2.ext F4 (fun h=>by have h:wu2.heap.size≤gk:=h;have:=B2.lt;omega);have lA:=BA.lt;refine yx ?_;refine za rfl (qy (cs:=#[.slice A W.length c,.int .i64 ((top:Nat):Int)]) u24 rfl kr rfl rfl (vh @B4) (stp ?_));refine za rfl (zd en10 rfl ((otk_v _ A W c m top q (hM1 _ hE4) hq v hv ev_ hev).mono ?_));rintro e w3 ⟨⟨A2,c2,rfl,hx2⟩,hb⟩;refine ⟨_,rfl,?_⟩;have E5:=Ext.of_below hb No;have B5:=B4.ext E5 (fun h=>h.elim);have hE5:=hE4.step E5 (fun _ h=>h.elim);have BA5:=BA.ext E5 (fun h=>h.elim);obtain ⟨wu5,hwu5⟩:∃z,z=w3:=⟨_,rfl⟩;subst hwu5;have hs5:=hE5.size;refine qc ?_;refine za rfl (zp xt ?_);rintro g13 wC BC0 E6 GC;refine zq (zm kd rfl rfl BC0 rfl rfl rfl ?_);rintro wD BC E7
   have F7:Ext (fun q=>wu5.heap.size≤q) wu5 wD:=(E6.noL wu5.heap.size).step E7 (fun q hq=>Or.inl (show wu5.heap.size≤q by have:=yj hq;omega));have hED:=hE5.step F7 (fun q hq=>Or.inr (Nat.le_trans hs5 hq));have BkD:=B5.ext F7 (fun h=>by have h:wu5.heap.size≤gk:=h;have:=B5.lt;omega);have BAD:=BA5.ext F7 (fun h=>by have h:wu5.heap.size≤g11:=h;have:=BA5.lt;omega);have F4s:=F4.size;have E5s:=E5.size;have hx1D:=ytz hx1 ((F4.step E5 (fun _ h=>h.elim)).step F7 (fun q hq=>Or.inl (show wu2.heap.size≤q by have hq:wu5.heap.size≤q:=hq;omega))) (fun q hq=>hq);have hx2D:=ytz hx2 F7 (fun q hq=>hq);obtain ⟨wu6,hwu6⟩:∃z,z=wD:=⟨_,rfl⟩;subst hwu6;refine yx ?_;by_cases su:(vm W top p).isSome=true
   ·
    have zu:eu=0:=by rw[heu,if_pos su]
    have tu:=some_of hu su;refine zf 51 (.bool true) rfl ((by rw[zu];rfl:(.bool (eu==0):Value)=_)) (qc ?_);by_cases sv:(vm W top q).isSome=true
    ·
     have zv:ev_=0:=by rw[hev,if_pos sv]
     have tv:=some_of hv sv;refine zf 54 (.bool true) rfl ((by rw[zv];rfl:(.bool (ev_==0):Value)=_)) (yx ?_);refine za rfl (zd en64 rfl ((pl_equal _ u v A1 none A2 none c1 0 c2 0 hx1D (by omega) ub hx2D (by omega) vb).mono ?_));rintro e w4 ⟨rfl,hb⟩;refine ⟨_,rfl,?_⟩;have E8:=Ext.of_below hb No;refine yu ?_;exact ⟨by rw[eqW_v h0 tu tv];rfl,by rw[eqW_v h0 tu tv];exact BkD.ext E8 (fun h=>h.elim),hED.step E8 (fun _ h=>h.elim)⟩
    ·
     have hsv:¬((vm W top p).isSome=true∧(vm W top q).isSome=true):=fun h=>sv h.2;have zv:ev_=9:=by rw[hev,if_neg sv]
     refine zf 54 (.bool false) rfl ((by rw[zv];rfl:(.bool (ev_==0):Value)=_)) (jt ?_);by_cases hpq:p=q
     ·
      refine zk 61 (.bool true) rfl ((by rw[hpq,beq_self_eq_true]:(.bool (((p:Nat):Int)==((q:Nat):Int)):Value)=_)) (zz ?_);exact ⟨by rw[yuq h0 hsv,if_pos hpq];rfl,by rw[yuq h0 hsv,if_pos hpq];exact BkD,hED⟩
     ·
      refine zk 61 (.bool false) rfl ((by congr 1;rw[beq_eq_false_iff_ne];omega:(.bool (((p:Nat):Int)==((q:Nat):Int)):Value)=_)) (yx ?_);refine za rfl (qy (cs:=#[.slice A W.length c,.int .i64 ((top:Nat):Int)]) u24 rfl kr rfl rfl (vh @BkD) (stp ?_));refine za rfl (zd ykv rfl ((gc _ A W c m top p (hM1 _ hED) hp).mono ?_));rintro e w5 ⟨rfl,hb⟩;refine ⟨_,rfl,?_⟩;have EG:=Ext.of_below hb No;have BkG:=BkD.ext EG (fun h=>h.elim);have hEG:=hED.step EG (fun _ h=>h.elim);obtain ⟨wuG,hwuG⟩:∃z,z=w5:=⟨_,rfl⟩;subst hwuG;have hsG:=hEG.size;refine qb ?_;refine za rfl (zp og ?_);rintro g16 wH BH0 EH GH;refine stp ?_;refine zq (zm xj rfl rfl BH0 rfl rfl rfl ?_);rintro wI BH EI;have FI:Ext (fun q=>wuG.heap.size≤q) wuG wI:=(EH.noL wuG.heap.size).step EI (fun q hq=>Or.inl (show wuG.heap.size≤q by have:=yj hq;omega));have hEI:=hEG.step FI (fun q hq=>Or.inr (Nat.le_trans hsG hq));have BkI:=BkG.ext FI (fun h=>by have h:wuG.heap.size≤gk:=h;have:=BkG.lt;omega);refine yx ?_;refine za rfl (qy (cs:=#[.slice A W.length c,.int .i64 ((top:Nat):Int)]) u24 rfl kr rfl rfl (vh @BkI) (stp ?_));refine za rfl (zd ykv rfl ((gc _ A W c m top q (hM1 _ hEI) hq).mono ?_));rintro e w6 ⟨rfl,hb⟩;refine ⟨_,rfl,?_⟩;have EJ:=Ext.of_below hb No;have BkJ:=BkI.ext EJ (fun h=>h.elim);have BHJ:=BH.ext EJ (fun h=>h.elim);have hEJ:=hEI.step EJ (fun _ h=>h.elim);obtain ⟨wuJ,hwuJ⟩:∃z,z=w6:=⟨_,rfl⟩;subst hwuJ;have hsJ:=hEJ.size;refine qb ?_;refine za rfl (zp og ?_);rintro g19 wK BK0 EK GK;refine stp ?_;refine zq (zm xj rfl rfl BK0 rfl rfl rfl ?_);rintro wL BL0 EL;have FL:Ext (fun q=>wuJ.heap.size≤q) wuJ wL:=(EK.noL wuJ.heap.size).step EL (fun q hq=>Or.inl (show wuJ.heap.size≤q by have:=yj hq;omega))
      have hE7:=hEJ.step FL (fun q hq=>Or.inr (Nat.le_trans hsJ hq));have B7:=BkJ.ext FL (fun h=>by have h:wuJ.heap.size≤gk:=h;have:=BkJ.lt;omega);have BP0:=BHJ.ext FL (fun h=>by have h:wuJ.heap.size≤g16:=h;have:=BHJ.lt;omega);have BP:Blk wL g16 68 #[.int .i64 ((lkK W top p:Nat):Int),.int .i64 ((lkT W top p:Nat):Int),.int .i64 ((lkR W top p:Nat):Int)]:=BP0;have BQ:Blk wL g19 68 #[.int .i64 ((lkK W top q:Nat):Int),.int .i64 ((lkT W top q:Nat):Int),.int .i64 ((lkR W top q:Nat):Int)]:=BL0;obtain ⟨wu7,hwu7⟩:∃z,z=wL:=⟨_,rfl⟩;subst hwu7;have hM7:∀z,Ext (fun q=>wu7.heap.size≤q) wu7 z→MemA m z A W top:=fun z hz=>hM1 z (hE7.step hz (fun q hq=>Or.inr (Nat.le_trans hE7.size hq)));refine yt ?_;by_cases hK:lkK W top p=lkK W top q
      ·
       refine zf 86 (.bool false) rfl ((by rw[hK,bne_self_eq_false]:(.bool (((lkK W top p:Nat):Int) !=((lkK W top q:Nat):Int)):Value)=_)) (qb ?_);by_cases k6:lkK W top p=6
       ·
        refine zf 90 (.bool false) rfl ((by rw[k6];rfl:(.bool (((lkK W top p:Nat):Int) !=6):Value)=_)) ?_;have hitem:=eqW_i (o:=qd W top) (n:=n) h0 hsv hpq (show ¬(lkK W top p≠lkK W top q∨(lkK W top p≠6∧lkK W top p≠5)) by omega) hl hr he1 he2;refine gh ?_;refine za rfl (qy (cs:=#[.slice A W.length c,.int .i64 ((top:Nat):Int)]) u24 rfl kr rfl rfl (vh @B7) (stp ?_));refine za rfl (zd en18 rfl ((ycx _ A W c m top p (hM7 _ (Ext.refl _ _)) hp l hl e1 he1).mono ?_));rintro e w7 ⟨⟨C1,d1,rfl,hC1⟩,hb⟩;refine ⟨_,rfl,?_⟩;have E8:=Ext.of_below hb No;have B8:=B7.ext E8 (fun h=>h.elim);obtain ⟨wu8,hwu8⟩:∃z,z=w7:=⟨_,rfl⟩;subst hwu8;refine qo ?_;refine za rfl (qy (cs:=#[.slice A W.length c,.int .i64 ((top:Nat):Int)]) u24 rfl kr rfl rfl (vh @B8) (stp ?_));refine za rfl (zd en18 rfl ((ycx _ A W c m top q (hM7 _ (E8.noL wu7.heap.size)) hq r hr e2 he2).mono ?_));rintro e w8 ⟨⟨C2,d2,rfl,hC2⟩,hb⟩;refine ⟨_,rfl,?_⟩;have E9:=Ext.of_below hb No;have B9:=B8.ext E9 (fun h=>h.elim);obtain ⟨wu9,hwu9⟩:∃z,z=w8:=⟨_,rfl⟩;subst hwu9;have hE9:=(hE7.step E8 (fun _ h=>h.elim)).step E9 (fun _ h=>h.elim);refine qo ?_;by_cases z1:e1=0
        ·
         refine zf 116 (.bool false) rfl ((by rw[z1];rfl:(.bool (e1 !=0):Value)=_)) (qc ?_);by_cases z2:e2=0
         ·
          refine zf 119 (.bool false) rfl ((by rw[z2];rfl:(.bool (e2 !=0):Value)=_)) (yu ?_);by_cases z3:l.length=r.length
          ·
           refine zf 126 (.bool false) rfl ((by rw[z3,bne_self_eq_false]:(.bool (((l.length:Nat):Int) !=((r.length:Nat):Int)):Value)=_)) ?_;obtain ⟨gl,rfl,Bl0,Gl⟩:=hC1 z1;obtain ⟨gr,rfl,Br,Gr⟩:=hC2 z2;have Bl:=Bl0.ext E9 (fun h=>h.elim);have hlu:∀y∈l,U64 y:=by rw[hl];exact xr hW
           have hru:∀y∈r,U64 y:=by rw[hr];exact xr hW
           have hs8:=E8.size;have hglk:gk<gl:=by have:=B7.lt;omega
           have hgrk:gk<gr:=by have:=B8.lt;omega
           have hll:l.length≤1048576:=by rw[hl];exact zxv hM.most
           have hres:eqW (qd W top) (n+1) p q left=eqL (eqW (qd W top) n) l r (left-1):=by
            rw[hitem,if_neg (fun h=>by rcases h with h | h | h<;>contradiction)]
           refine xb ?_;refine qw (ι:=Nat×Nat) (fun (i,f)=>[(0,.pointer (some ⟨gk,0,none⟩)),(3,.int .i64 ((d:Nat):Int)),(21,.slice (some ⟨gl,0,none⟩) l.length d1),(22,.slice (some ⟨gr,0,none⟩) r.length d2),(129,.int .i64 ((l.length:Nat):Int)),(130,.int .i64 ((i:Nat):Int))]) (fun (i,f) w'=>i≤l.length∧f≤20000∧Blk w' gk 78 (wkC A W c top f)∧Ext (Mut [some gk]) wu9 w'∧eqL (eqW (qd W top) n) l r (left-1)=eqL (eqW (qd W top) n) (l.drop i) (r.drop i) f) (fun (i,_)=>l.length-i) (0,left-1) ⟨rfl,rfl,rfl,rfl,rfl,rfl,trivial⟩ (⟨Nat.zero_le _,by omega,B9,Ext.refl _ _,rfl⟩) ?_;rintro ⟨i,f⟩ w10 ⟨hi0,hf2,Bi,hEi,hsum⟩;refine yb ?_;refine zx rfl (fun hc=>?_) (fun hc=>?_)
           ·
            have hc:=of_decide_eq_true hc;have hlt:i<l.length:=by omega
            have hli:l[i]? =some (wat l i):=ke hlt;have hri:r[i]? =some (wat r i):=ke (by omega);have Bli:=Bl.ext hEi (fun h=>by have:=yj h;omega);have Bri:=Br.ext hEi (fun h=>by have:=yj h;omega);refine yt ?_;refine zcz qt (zck 11 rfl ?_);refine zux (No) Mut.none_ [] [] (jh [Fx.of (.pointer (some ⟨gk,0,none⟩)),
             Fx.of (.slice (some ⟨gl,0,none⟩) l.length d1),
             Fx.of (.int .i64 ((i:Nat):Int)),
             Fx.of (.pointer (some ⟨gl,0+i,none⟩)),
             Fx.of (.int .u64 ((wat l i:Nat):Int)),
             Fx.of (.slice (some ⟨gr,0,none⟩) r.length d2),
             Fx.of (.int .i64 ((i:Nat):Int)),
             Fx.of (.pointer (some ⟨gr,0+i,none⟩)),
             Fx.of (.int .u64 ((wat r i:Nat):Int)),
             Fx.of (.int .i64 ((d:Nat):Int)),
             Fx.of (.int .i64 ((d+1:Nat):Int))]) rfl trivial (fun _ h=>by cases h) ?_ ?_
            · refine ⟨arm,arm,arm,?_,?_,arm,arm,?_,?_,arm,?_,trivial⟩
              · intro vs X wq K;obtain ⟨_,e1,k1⟩:=K.dep 1 rfl rfl rfl;refine zc 135 _ rfl e1 ?_;obtain ⟨_,e2,k2⟩:=K.dep 2 rfl rfl rfl;refine zc 136 _ rfl e2 ?_;exact zi (j:=i) u22 qk rfl rfl rfl hlt ⟨Below.refl _ _,Left.of rfl⟩
              · intro vs X wq K;have LE:=K.1;obtain ⟨_,e3,k3⟩:=K.dep 3 rfl rfl rfl;refine zc 137 _ rfl e3 ?_;exact zl u27 rfl rfl (yh LE Bli) (by rw[Nat.zero_add];exact ka hli) ⟨Below.refl _ _,Left.of rfl⟩
              · intro vs X wq K;obtain ⟨_,e5,k5⟩:=K.dep 5 rfl rfl rfl;refine zc 139 _ rfl e5 ?_;obtain ⟨_,e6,k6⟩:=K.dep 6 rfl rfl rfl;refine zc 140 _ rfl e6 ?_;exact zi (j:=i) u22 qk rfl rfl rfl (by omega) ⟨Below.refl _ _,Left.of rfl⟩
              · intro vs X wq K;have LE:=K.1;obtain ⟨_,e7,k7⟩:=K.dep 7 rfl rfl rfl;refine zc 141 _ rfl e7 ?_;exact zl u27 rfl rfl (yh LE Bri) (by rw[Nat.zero_add];exact ka hri) ⟨Below.refl _ _,Left.of rfl⟩
              · intro vs X wq K;obtain ⟨_,e9,k9⟩:=K.dep 9 rfl rfl rfl;refine zc 143 _ rfl e9 ?_;exact zr rfl rfl (zg (by omega)) ⟨Below.refl _ _,Left.of ((by first | rfl | (congr 1;omega):(.int .i64 (((d:Nat):Int)+1):Value)=_))⟩
            intro vs w11 LE AO AL AF AA;have hbd:Below (w10).heap.size (w10) w11:=(((Ext.refl No (w10)).drew).trans LE).toBelow;obtain ⟨_,e0,k0⟩:=AL.1;obtain ⟨_,e4,k4⟩:=AL.2.2.2.2.1;obtain ⟨_,e8,k8⟩:=AL.2.2.2.2.2.2.2.2.1;obtain ⟨_,e10,k10⟩:=AL.2.2.2.2.2.2.2.2.2.2.1;refine qe (τ:=[(0,_),(3,_),(21,_),(22,_),(129,_),(130,_),(134,.pointer (some ⟨gk,0,none⟩)),(138,.int .u64 ((wat l i:Nat):Int)),(142,.int .u64 ((wat r i:Nat):Int)),(144,.int .i64 ((d+1:Nat):Int))]) ⟨rfl,rfl,rfl,rfl,rfl,rfl,congrArg some e0,congrArg some e4,congrArg some e8,congrArg some e10,trivial⟩ ?_;clear AL AF AA AO;refine zov (gn (by kernel_rfl) (fun _ _ d_ _ _ h=>by cases d_<;>exact h) ?_);have EX:=Ext.of_below hbd No;have hEx:=hEi.step EX (fun _ h=>h.elim);have BiX:=Bi.ext EX (fun h=>h.elim);obtain ⟨z,hz⟩:∃z,z=eqW (qd W top) n (wat l i) (wat r i) f:=⟨_,rfl⟩;have hzl:z.2≤f:=by rw[hz];exact eqW_le _ _ _ _
            have hst2:=yuk (f:=eqW (qd W top) n) (k:=f) hli hri;rw[←hz] at hst2;refine za rfl (zd en41 rfl ((ihn _ (wat l i) (wat r i) f (d+1) (by omega) (hlu _ (List.mem_of_getElem? hli)) (hru _ (List.mem_of_getElem? hri)) hf2 (hM1 _ (hE9.step hEx (fun _ h=>Or.inl h))) hmk BiX).mono ?_));rintro e w12 ⟨rfl,BR,ER⟩;refine ⟨_,rfl,?_⟩;rw[←hz] at BR;have hER:=hEx.step ER (fun _ h=>Or.inl h);refine qo ?_;refine zf 25 (.int .i64 z.1.2) rfl ((by rw[hz]:(.int .i64 (eqW (qd W top) n (wat l i) (wat r i) f).1.2:Value)=_)) ?_;by_cases zb:z.1.1=true
            ·
             refine zf 150 (.bool false) rfl ((by rw[←hz,zb];rfl:(.bool (!(eqW (qd W top) n (wat l i) (wat r i) f).1.1):Value)=_)) (zy ?_);by_cases ze:z.1.2=0
             ·
              refine zf 152 (.bool false) rfl ((by rw[ze];rfl:(.bool (z.1.2 !=0):Value)=_)) ?_;rw[if_pos ⟨zb,ze⟩] at hst2;refine yx ?_;refine za rfl (zr rfl rfl (zg (by omega)) (zy ?_));exact qf (i+1,z.2) (by show l.length-(i+1)<l.length-i;omega) ⟨rfl,rfl,rfl,rfl,rfl,rfl,trivial⟩ (⟨hlt,by omega,BR,hER,hsum.trans hst2⟩)
             ·
              refine zf 152 (.bool true) rfl ((by congr 1;rw[bne_iff_ne];exact ze:(.bool (z.1.2 !=0):Value)=_)) ?_;rw[if_neg (fun h=>ze h.2)] at hst2;refine xm ?_;exact ⟨by rw[hres,hsum,hst2];rfl,by rw[hres,hsum,hst2];exact BR,hE9.step hER (fun _ h=>Or.inl h)⟩
            ·
             refine zf 150 (.bool true) rfl ((by rw[←hz,Bool.eq_false_iff.2 zb];rfl:(.bool (!(eqW (qd W top) n (wat l i) (wat r i) f).1.1):Value)=_)) ?_;rw[if_neg (fun h=>zb h.1)] at hst2;refine xl ?_;exact ⟨by rw[hres,hsum,hst2];rfl,by rw[hres,hsum,hst2];exact BR,hE9.step hER (fun _ h=>Or.inl h)⟩
           ·
            have hc:=of_decide_eq_false hc;refine jq ?_;exact ⟨by rw[hres,hsum,zpx (by omega)];rfl,by rw[hres,hsum,zpx (by omega)];exact Bi,hE9.step hEi (fun _ h=>Or.inl h)⟩
          ·
           refine zf 126 (.bool true) rfl ((by congr 1;rw[bne_iff_ne];omega:(.bool (((l.length:Nat):Int) !=((r.length:Nat):Int)):Value)=_)) (jq ?_);exact ⟨by rw[hitem,if_pos (Or.inr (Or.inr z3))];rfl,by rw[hitem,if_pos (Or.inr (Or.inr z3))];exact B9,hE9⟩
         ·
          refine zf 119 (.bool true) rfl ((by congr 1;rw[bne_iff_ne];exact z2:(.bool (e2 !=0):Value)=_)) (xl ?_);exact ⟨by rw[hitem,if_pos (Or.inr (Or.inl z2))];rfl,by rw[hitem,if_pos (Or.inr (Or.inl z2))];exact B9,hE9⟩
        ·
         refine zf 116 (.bool true) rfl ((by congr 1;rw[bne_iff_ne];exact z1:(.bool (e1 !=0):Value)=_)) (zoz ?_);exact ⟨by rw[hitem,if_pos (Or.inl z1)];rfl,by rw[hitem,if_pos (Or.inl z1)];exact B9,hE9⟩
       ·
        refine zf 90 (.bool true) rfl ((by congr 1;rw[bne_iff_ne];omega:(.bool (((lkK W top p:Nat):Int) !=6):Value)=_)) (qb ?_);by_cases k5:lkK W top p=5
        ·
         refine zf 94 (.bool false) rfl ((by rw[k5];rfl:(.bool (((lkK W top p:Nat):Int) !=5):Value)=_)) ?_;have hitem:=eqW_i (o:=qd W top) (n:=n) h0 hsv hpq (show ¬(lkK W top p≠lkK W top q∨(lkK W top p≠6∧lkK W top p≠5)) by omega) hl hr he1 he2;refine qo ?_;refine za rfl (qy (cs:=#[.slice A W.length c,.int .i64 ((top:Nat):Int)]) u24 rfl kr rfl rfl (vh @B7) (stp ?_));refine za rfl (zd en18 rfl ((ycx _ A W c m top p (hM7 _ (Ext.refl _ _)) hp l hl e1 he1).mono ?_));rintro e w13 ⟨⟨C1,d1,rfl,hC1⟩,hb⟩;refine ⟨_,rfl,?_⟩;have E8:=Ext.of_below hb No;have B8:=B7.ext E8 (fun h=>h.elim);obtain ⟨wu8,hwu8⟩:∃z,z=w13:=⟨_,rfl⟩;subst hwu8;refine qo ?_;refine za rfl (qy (cs:=#[.slice A W.length c,.int .i64 ((top:Nat):Int)]) u24 rfl kr rfl rfl (vh @B8) (stp ?_));refine za rfl (zd en18 rfl ((ycx _ A W c m top q (hM7 _ (E8.noL wu7.heap.size)) hq r hr e2 he2).mono ?_));rintro e w14 ⟨⟨C2,d2,rfl,hC2⟩,hb⟩;refine ⟨_,rfl,?_⟩;have E9:=Ext.of_below hb No;have B9:=B8.ext E9 (fun h=>h.elim);obtain ⟨wu9,hwu9⟩:∃z,z=w14:=⟨_,rfl⟩;subst hwu9;have hE9:=(hE7.step E8 (fun _ h=>h.elim)).step E9 (fun _ h=>h.elim);refine qo ?_;by_cases z1:e1=0
         ·
          refine zf 116 (.bool false) rfl ((by rw[z1];rfl:(.bool (e1 !=0):Value)=_)) (qc ?_);by_cases z2:e2=0
          ·
           refine zf 119 (.bool false) rfl ((by rw[z2];rfl:(.bool (e2 !=0):Value)=_)) (yu ?_);by_cases z3:l.length=r.length
           ·
            refine zf 126 (.bool false) rfl ((by rw[z3,bne_self_eq_false]:(.bool (((l.length:Nat):Int) !=((r.length:Nat):Int)):Value)=_)) ?_;obtain ⟨gl,rfl,Bl0,Gl⟩:=hC1 z1;obtain ⟨gr,rfl,Br,Gr⟩:=hC2 z2;have Bl:=Bl0.ext E9 (fun h=>h.elim);have hlu:∀y∈l,U64 y:=by rw[hl];exact xr hW
            have hru:∀y∈r,U64 y:=by rw[hr];exact xr hW
            have hs8:=E8.size;have hglk:gk<gl:=by have:=B7.lt;omega
            have hgrk:gk<gr:=by have:=B8.lt;omega
            have hll:l.length≤1048576:=by rw[hl];exact zxv hM.most
            have hres:eqW (qd W top) (n+1) p q left=eqL (eqW (qd W top) n) l r (left-1):=by
             rw[hitem,if_neg (fun h=>by rcases h with h | h | h<;>contradiction)]
            refine xb ?_;refine qw (ι:=Nat×Nat) (fun (i,f)=>[(0,.pointer (some ⟨gk,0,none⟩)),(3,.int .i64 ((d:Nat):Int)),(21,.slice (some ⟨gl,0,none⟩) l.length d1),(22,.slice (some ⟨gr,0,none⟩) r.length d2),(129,.int .i64 ((l.length:Nat):Int)),(130,.int .i64 ((i:Nat):Int))]) (fun (i,f) w'=>i≤l.length∧f≤20000∧Blk w' gk 78 (wkC A W c top f)∧Ext (Mut [some gk]) wu9 w'∧eqL (eqW (qd W top) n) l r (left-1)=eqL (eqW (qd W top) n) (l.drop i) (r.drop i) f) (fun (i,_)=>l.length-i) (0,left-1) ⟨rfl,rfl,rfl,rfl,rfl,rfl,trivial⟩ (⟨Nat.zero_le _,by omega,B9,Ext.refl _ _,rfl⟩) ?_;rintro ⟨i,f⟩ w16 ⟨hi0,hf2,Bi,hEi,hsum⟩;refine yb ?_;refine zx rfl (fun hc=>?_) (fun hc=>?_)
            ·
             have hc:=of_decide_eq_true hc;have hlt:i<l.length:=by omega
             have hli:l[i]? =some (wat l i):=ke hlt;have hri:r[i]? =some (wat r i):=ke (by omega);have Bli:=Bl.ext hEi (fun h=>by have:=yj h;omega);have Bri:=Br.ext hEi (fun h=>by have:=yj h;omega);refine yt ?_;refine zcz qt (zck 11 rfl ?_);refine zux (No) Mut.none_ [] [] (jh [Fx.of (.pointer (some ⟨gk,0,none⟩)),
              Fx.of (.slice (some ⟨gl,0,none⟩) l.length d1),
              Fx.of (.int .i64 ((i:Nat):Int)),
              Fx.of (.pointer (some ⟨gl,0+i,none⟩)),
              Fx.of (.int .u64 ((wat l i:Nat):Int)),
              Fx.of (.slice (some ⟨gr,0,none⟩) r.length d2),
              Fx.of (.int .i64 ((i:Nat):Int)),
              Fx.of (.pointer (some ⟨gr,0+i,none⟩)),
              Fx.of (.int .u64 ((wat r i:Nat):Int)),
              Fx.of (.int .i64 ((d:Nat):Int)),
              Fx.of (.int .i64 ((d+1:Nat):Int))]) rfl trivial (fun _ h=>by cases h) ?_ ?_
             · refine ⟨arm,arm,arm,?_,?_,arm,arm,?_,?_,arm,?_,trivial⟩
               · intro vs X wq K;obtain ⟨_,e1,k1⟩:=K.dep 1 rfl rfl rfl;refine zc 135 _ rfl e1 ?_;obtain ⟨_,e2,k2⟩:=K.dep 2 rfl rfl rfl;refine zc 136 _ rfl e2 ?_;exact zi (j:=i) u22 qk rfl rfl rfl hlt ⟨Below.refl _ _,Left.of rfl⟩
               · intro vs X wq K;have LE:=K.1;obtain ⟨_,e3,k3⟩:=K.dep 3 rfl rfl rfl;refine zc 137 _ rfl e3 ?_;exact zl u27 rfl rfl (yh LE Bli) (by rw[Nat.zero_add];exact ka hli) ⟨Below.refl _ _,Left.of rfl⟩
               · intro vs X wq K;obtain ⟨_,e5,k5⟩:=K.dep 5 rfl rfl rfl;refine zc 139 _ rfl e5 ?_;obtain ⟨_,e6,k6⟩:=K.dep 6 rfl rfl rfl;refine zc 140 _ rfl e6 ?_;exact zi (j:=i) u22 qk rfl rfl rfl (by omega) ⟨Below.refl _ _,Left.of rfl⟩
               · intro vs X wq K;have LE:=K.1;obtain ⟨_,e7,k7⟩:=K.dep 7 rfl rfl rfl;refine zc 141 _ rfl e7 ?_;exact zl u27 rfl rfl (yh LE Bri) (by rw[Nat.zero_add];exact ka hri) ⟨Below.refl _ _,Left.of rfl⟩
               · intro vs X wq K;obtain ⟨_,e9,k9⟩:=K.dep 9 rfl rfl rfl;refine zc 143 _ rfl e9 ?_;exact zr rfl rfl (zg (by omega)) ⟨Below.refl _ _,Left.of ((by first | rfl | (congr 1;omega):(.int .i64 (((d:Nat):Int)+1):Value)=_))⟩
             intro vs w17 LE AO AL AF AA;have hbd:Below (w16).heap.size (w16) w17:=(((Ext.refl No (w16)).drew).trans LE).toBelow;obtain ⟨_,e0,k0⟩:=AL.1;obtain ⟨_,e4,k4⟩:=AL.2.2.2.2.1;obtain ⟨_,e8,k8⟩:=AL.2.2.2.2.2.2.2.2.1;obtain ⟨_,e10,k10⟩:=AL.2.2.2.2.2.2.2.2.2.2.1;refine qe (τ:=[(0,_),(3,_),(21,_),(22,_),(129,_),(130,_),(134,.pointer (some ⟨gk,0,none⟩)),(138,.int .u64 ((wat l i:Nat):Int)),(142,.int .u64 ((wat r i:Nat):Int)),(144,.int .i64 ((d+1:Nat):Int))]) ⟨rfl,rfl,rfl,rfl,rfl,rfl,congrArg some e0,congrArg some e4,congrArg some e8,congrArg some e10,trivial⟩ ?_;clear AL AF AA AO;refine zov (gn (by kernel_rfl) (fun _ _ d_ _ _ h=>by cases d_<;>exact h) ?_);have EX:=Ext.of_below hbd No;have hEx:=hEi.step EX (fun _ h=>h.elim);have BiX:=Bi.ext EX (fun h=>h.elim);obtain ⟨z,hz⟩:∃z,z=eqW (qd W top) n (wat l i) (wat r i) f:=⟨_,rfl⟩;have hzl:z.2≤f:=by rw[hz];exact eqW_le _ _ _ _
             have hst2:=yuk (f:=eqW (qd W top) n) (k:=f) hli hri;rw[←hz] at hst2;refine za rfl (zd en41 rfl ((ihn _ (wat l i) (wat r i) f (d+1) (by omega) (hlu _ (List.mem_of_getElem? hli)) (hru _ (List.mem_of_getElem? hri)) hf2 (hM1 _ (hE9.step hEx (fun _ h=>Or.inl h))) hmk BiX).mono ?_));rintro e w18 ⟨rfl,BR,ER⟩;refine ⟨_,rfl,?_⟩;rw[←hz] at BR;have hER:=hEx.step ER (fun _ h=>Or.inl h);refine qo ?_;refine zf 25 (.int .i64 z.1.2) rfl ((by rw[hz]:(.int .i64 (eqW (qd W top) n (wat l i) (wat r i) f).1.2:Value)=_)) ?_;by_cases zb:z.1.1=true
             ·
              refine zf 150 (.bool false) rfl ((by rw[←hz,zb];rfl:(.bool (!(eqW (qd W top) n (wat l i) (wat r i) f).1.1):Value)=_)) (zy ?_);by_cases ze:z.1.2=0
              ·
               refine zf 152 (.bool false) rfl ((by rw[ze];rfl:(.bool (z.1.2 !=0):Value)=_)) ?_;rw[if_pos ⟨zb,ze⟩] at hst2;refine yx ?_;refine za rfl (zr rfl rfl (zg (by omega)) (zy ?_));exact qf (i+1,z.2) (by show l.length-(i+1)<l.length-i;omega) ⟨rfl,rfl,rfl,rfl,rfl,rfl,trivial⟩ (⟨hlt,by omega,BR,hER,hsum.trans hst2⟩)
              ·
               refine zf 152 (.bool true) rfl ((by congr 1;rw[bne_iff_ne];exact ze:(.bool (z.1.2 !=0):Value)=_)) ?_;rw[if_neg (fun h=>ze h.2)] at hst2;refine xm ?_;exact ⟨by rw[hres,hsum,hst2];rfl,by rw[hres,hsum,hst2];exact BR,hE9.step hER (fun _ h=>Or.inl h)⟩
             ·
              refine zf 150 (.bool true) rfl ((by rw[←hz,Bool.eq_false_iff.2 zb];rfl:(.bool (!(eqW (qd W top) n (wat l i) (wat r i) f).1.1):Value)=_)) ?_;rw[if_neg (fun h=>zb h.1)] at hst2;refine xl ?_;exact ⟨by rw[hres,hsum,hst2];rfl,by rw[hres,hsum,hst2];exact BR,hE9.step hER (fun _ h=>Or.inl h)⟩
            ·
             have hc:=of_decide_eq_false hc;refine jq ?_;exact ⟨by rw[hres,hsum,zpx (by omega)];rfl,by rw[hres,hsum,zpx (by omega)];exact Bi,hE9.step hEi (fun _ h=>Or.inl h)⟩
           ·
            refine zf 126 (.bool true) rfl ((by congr 1;rw[bne_iff_ne];omega:(.bool (((l.length:Nat):Int) !=((r.length:Nat):Int)):Value)=_)) (jq ?_);exact ⟨by rw[hitem,if_pos (Or.inr (Or.inr z3))];rfl,by rw[hitem,if_pos (Or.inr (Or.inr z3))];exact B9,hE9⟩
          ·
           refine zf 119 (.bool true) rfl ((by congr 1;rw[bne_iff_ne];exact z2:(.bool (e2 !=0):Value)=_)) (xl ?_);exact ⟨by rw[hitem,if_pos (Or.inr (Or.inl z2))];rfl,by rw[hitem,if_pos (Or.inr (Or.inl z2))];exact B9,hE9⟩
         ·
          refine zf 116 (.bool true) rfl ((by congr 1;rw[bne_iff_ne];exact z1:(.bool (e1 !=0):Value)=_)) (zoz ?_);exact ⟨by rw[hitem,if_pos (Or.inl z1)];rfl,by rw[hitem,if_pos (Or.inl z1)];exact B9,hE9⟩
        ·
         refine zf 94 (.bool true) rfl ((by congr 1;rw[bne_iff_ne];omega:(.bool (((lkK W top p:Nat):Int) !=5):Value)=_)) ?_;have hkk:eqW (qd W top) (n+1) p q left=((false,0),left-1):=by
          rw[yuq h0 hsv,if_neg hpq,if_pos (show (qd W top).K p≠(qd W top).K q∨((qd W top).K p≠6∧(qd W top).K p≠5) from Or.inr ⟨k6,k5⟩)]
         refine jt ?_;exact ⟨by rw[hkk];rfl,by rw[hkk];exact B7,hE7⟩
      ·
       refine zf 86 (.bool true) rfl ((by congr 1;rw[bne_iff_ne];omega:(.bool (((lkK W top p:Nat):Int) !=((lkK W top q:Nat):Int)):Value)=_)) ?_;have hkk:eqW (qd W top) (n+1) p q left=((false,0),left-1):=by
        rw[yuq h0 hsv,if_neg hpq,if_pos (show (qd W top).K p≠(qd W top).K q∨((qd W top).K p≠6∧(qd W top).K p≠5) from Or.inl hK)]
       refine yrz ?_;exact ⟨by rw[hkk];rfl,by rw[hkk];exact B7,hE7⟩
   ·
    have hsv:¬((vm W top p).isSome=true∧(vm W top q).isSome=true):=fun h=>su h.1;have zu:eu=9:=by rw[heu,if_neg su]
    refine zf 51 (.bool false) rfl ((by rw[zu];rfl:(.bool (eu==0):Value)=_)) (zhq ?_);by_cases hpq:p=q
    ·
     refine zk 61 (.bool true) rfl ((by rw[hpq,beq_self_eq_true]:(.bool (((p:Nat):Int)==((q:Nat):Int)):Value)=_)) (zz ?_);exact ⟨by rw[yuq h0 hsv,if_pos hpq];rfl,by rw[yuq h0 hsv,if_pos hpq];exact BkD,hED⟩
    ·
     refine zk 61 (.bool false) rfl ((by congr 1;rw[beq_eq_false_iff_ne];omega:(.bool (((p:Nat):Int)==((q:Nat):Int)):Value)=_)) (yx ?_);refine za rfl (qy (cs:=#[.slice A W.length c,.int .i64 ((top:Nat):Int)]) u24 rfl kr rfl rfl (vh @BkD) (stp ?_));refine za rfl (zd ykv rfl ((gc _ A W c m top p (hM1 _ hED) hp).mono ?_));rintro e w19 ⟨rfl,hb⟩;refine ⟨_,rfl,?_⟩;have EG:=Ext.of_below hb No;have BkG:=BkD.ext EG (fun h=>h.elim);have hEG:=hED.step EG (fun _ h=>h.elim);obtain ⟨wuG,hwuG⟩:∃z,z=w19:=⟨_,rfl⟩;subst hwuG;have hsG:=hEG.size;refine qb ?_;refine za rfl (zp og ?_);rintro g16 wH BH0 EH GH;refine stp ?_;refine zq (zm xj rfl rfl BH0 rfl rfl rfl ?_);rintro wI BH EI;have FI:Ext (fun q=>wuG.heap.size≤q) wuG wI:=(EH.noL wuG.heap.size).step EI (fun q hq=>Or.inl (show wuG.heap.size≤q by have:=yj hq;omega));have hEI:=hEG.step FI (fun q hq=>Or.inr (Nat.le_trans hsG hq));have BkI:=BkG.ext FI (fun h=>by have h:wuG.heap.size≤gk:=h;have:=BkG.lt;omega);refine yx ?_;refine za rfl (qy (cs:=#[.slice A W.length c,.int .i64 ((top:Nat):Int)]) u24 rfl kr rfl rfl (vh @BkI) (stp ?_));refine za rfl (zd ykv rfl ((gc _ A W c m top q (hM1 _ hEI) hq).mono ?_));rintro e w20 ⟨rfl,hb⟩;refine ⟨_,rfl,?_⟩;have EJ:=Ext.of_below hb No;have BkJ:=BkI.ext EJ (fun h=>h.elim);have BHJ:=BH.ext EJ (fun h=>h.elim);have hEJ:=hEI.step EJ (fun _ h=>h.elim);obtain ⟨wuJ,hwuJ⟩:∃z,z=w20:=⟨_,rfl⟩;subst hwuJ;have hsJ:=hEJ.size;refine qb ?_;refine za rfl (zp og ?_);rintro g19 wK BK0 EK GK;refine stp ?_;refine zq (zm xj rfl rfl BK0 rfl rfl rfl ?_);rintro wL BL0 EL;have FL:Ext (fun q=>wuJ.heap.size≤q) wuJ wL:=(EK.noL wuJ.heap.size).step EL (fun q hq=>Or.inl (show wuJ.heap.size≤q by have:=yj hq;omega))
     have hE7:=hEJ.step FL (fun q hq=>Or.inr (Nat.le_trans hsJ hq));have B7:=BkJ.ext FL (fun h=>by have h:wuJ.heap.size≤gk:=h;have:=BkJ.lt;omega);have BP0:=BHJ.ext FL (fun h=>by have h:wuJ.heap.size≤g16:=h;have:=BHJ.lt;omega);have BP:Blk wL g16 68 #[.int .i64 ((lkK W top p:Nat):Int),.int .i64 ((lkT W top p:Nat):Int),.int .i64 ((lkR W top p:Nat):Int)]:=BP0;have BQ:Blk wL g19 68 #[.int .i64 ((lkK W top q:Nat):Int),.int .i64 ((lkT W top q:Nat):Int),.int .i64 ((lkR W top q:Nat):Int)]:=BL0;obtain ⟨wu7,hwu7⟩:∃z,z=wL:=⟨_,rfl⟩;subst hwu7;have hM7:∀z,Ext (fun q=>wu7.heap.size≤q) wu7 z→MemA m z A W top:=fun z hz=>hM1 z (hE7.step hz (fun q hq=>Or.inr (Nat.le_trans hE7.size hq)));refine yt ?_;by_cases hK:lkK W top p=lkK W top q
     ·
      refine zf 86 (.bool false) rfl ((by rw[hK,bne_self_eq_false]:(.bool (((lkK W top p:Nat):Int) !=((lkK W top q:Nat):Int)):Value)=_)) (qb ?_);by_cases k6:lkK W top p=6
      ·
       refine zf 90 (.bool false) rfl ((by rw[k6];rfl:(.bool (((lkK W top p:Nat):Int) !=6):Value)=_)) ?_;have hitem:=eqW_i (o:=qd W top) (n:=n) h0 hsv hpq (show ¬(lkK W top p≠lkK W top q∨(lkK W top p≠6∧lkK W top p≠5)) by omega) hl hr he1 he2;refine gh ?_;refine za rfl (qy (cs:=#[.slice A W.length c,.int .i64 ((top:Nat):Int)]) u24 rfl kr rfl rfl (vh @B7) (stp ?_));refine za rfl (zd en18 rfl ((ycx _ A W c m top p (hM7 _ (Ext.refl _ _)) hp l hl e1 he1).mono ?_));rintro e w21 ⟨⟨C1,d1,rfl,hC1⟩,hb⟩;refine ⟨_,rfl,?_⟩;have E8:=Ext.of_below hb No;have B8:=B7.ext E8 (fun h=>h.elim);obtain ⟨wu8,hwu8⟩:∃z,z=w21:=⟨_,rfl⟩;subst hwu8;refine qo ?_;refine za rfl (qy (cs:=#[.slice A W.length c,.int .i64 ((top:Nat):Int)]) u24 rfl kr rfl rfl (vh @B8) (stp ?_));refine za rfl (zd en18 rfl ((ycx _ A W c m top q (hM7 _ (E8.noL wu7.heap.size)) hq r hr e2 he2).mono ?_));rintro e w22 ⟨⟨C2,d2,rfl,hC2⟩,hb⟩;refine ⟨_,rfl,?_⟩;have E9:=Ext.of_below hb No;have B9:=B8.ext E9 (fun h=>h.elim);obtain ⟨wu9,hwu9⟩:∃z,z=w22:=⟨_,rfl⟩;subst hwu9;have hE9:=(hE7.step E8 (fun _ h=>h.elim)).step E9 (fun _ h=>h.elim);refine qo ?_;by_cases z1:e1=0
       ·
        refine zf 116 (.bool false) rfl ((by rw[z1];rfl:(.bool (e1 !=0):Value)=_)) (qc ?_);by_cases z2:e2=0
        ·
         refine zf 119 (.bool false) rfl ((by rw[z2];rfl:(.bool (e2 !=0):Value)=_)) (yu ?_);by_cases z3:l.length=r.length
         ·
          refine zf 126 (.bool false) rfl ((by rw[z3,bne_self_eq_false]:(.bool (((l.length:Nat):Int) !=((r.length:Nat):Int)):Value)=_)) ?_;obtain ⟨gl,rfl,Bl0,Gl⟩:=hC1 z1;obtain ⟨gr,rfl,Br,Gr⟩:=hC2 z2;have Bl:=Bl0.ext E9 (fun h=>h.elim);have hlu:∀y∈l,U64 y:=by rw[hl];exact xr hW
          have hru:∀y∈r,U64 y:=by rw[hr];exact xr hW
          have hs8:=E8.size;have hglk:gk<gl:=by have:=B7.lt;omega
          have hgrk:gk<gr:=by have:=B8.lt;omega
          have hll:l.length≤1048576:=by rw[hl];exact zxv hM.most
          have hres:eqW (qd W top) (n+1) p q left=eqL (eqW (qd W top) n) l r (left-1):=by
           rw[hitem,if_neg (fun h=>by rcases h with h | h | h<;>contradiction)]
          refine xb ?_;refine qw (ι:=Nat×Nat) (fun (i,f)=>[(0,.pointer (some ⟨gk,0,none⟩)),(3,.int .i64 ((d:Nat):Int)),(21,.slice (some ⟨gl,0,none⟩) l.length d1),(22,.slice (some ⟨gr,0,none⟩) r.length d2),(129,.int .i64 ((l.length:Nat):Int)),(130,.int .i64 ((i:Nat):Int))]) (fun (i,f) w'=>i≤l.length∧f≤20000∧Blk w' gk 78 (wkC A W c top f)∧Ext (Mut [some gk]) wu9 w'∧eqL (eqW (qd W top) n) l r (left-1)=eqL (eqW (qd W top) n) (l.drop i) (r.drop i) f) (fun (i,_)=>l.length-i) (0,left-1) ⟨rfl,rfl,rfl,rfl,rfl,rfl,trivial⟩ (⟨Nat.zero_le _,by omega,B9,Ext.refl _ _,rfl⟩) ?_;rintro ⟨i,f⟩ w24 ⟨hi0,hf2,Bi,hEi,hsum⟩;refine yb ?_;refine zx rfl (fun hc=>?_) (fun hc=>?_)
          ·
           have hc:=of_decide_eq_true hc;have hlt:i<l.length:=by omega
           have hli:l[i]? =some (wat l i):=ke hlt;have hri:r[i]? =some (wat r i):=ke (by omega);have Bli:=Bl.ext hEi (fun h=>by have:=yj h;omega);have Bri:=Br.ext hEi (fun h=>by have:=yj h;omega);refine yt ?_;refine zcz qt (zck 11 rfl ?_);refine zux (No) Mut.none_ [] [] (jh [Fx.of (.pointer (some ⟨gk,0,none⟩)),
            Fx.of (.slice (some ⟨gl,0,none⟩) l.length d1),
            Fx.of (.int .i64 ((i:Nat):Int)),
            Fx.of (.pointer (some ⟨gl,0+i,none⟩)),
            Fx.of (.int .u64 ((wat l i:Nat):Int)),
            Fx.of (.slice (some ⟨gr,0,none⟩) r.length d2),
            Fx.of (.int .i64 ((i:Nat):Int)),
            Fx.of (.pointer (some ⟨gr,0+i,none⟩)),
            Fx.of (.int .u64 ((wat r i:Nat):Int)),
            Fx.of (.int .i64 ((d:Nat):Int)),
            Fx.of (.int .i64 ((d+1:Nat):Int))]) rfl trivial (fun _ h=>by cases h) ?_ ?_
           · refine ⟨arm,arm,arm,?_,?_,arm,arm,?_,?_,arm,?_,trivial⟩
             · intro vs X wq K;obtain ⟨_,e1,k1⟩:=K.dep 1 rfl rfl rfl;refine zc 135 _ rfl e1 ?_;obtain ⟨_,e2,k2⟩:=K.dep 2 rfl rfl rfl;refine zc 136 _ rfl e2 ?_;exact zi (j:=i) u22 qk rfl rfl rfl hlt ⟨Below.refl _ _,Left.of rfl⟩
             · intro vs X wq K;have LE:=K.1;obtain ⟨_,e3,k3⟩:=K.dep 3 rfl rfl rfl;refine zc 137 _ rfl e3 ?_;exact zl u27 rfl rfl (yh LE Bli) (by rw[Nat.zero_add];exact ka hli) ⟨Below.refl _ _,Left.of rfl⟩
             · intro vs X wq K;obtain ⟨_,e5,k5⟩:=K.dep 5 rfl rfl rfl;refine zc 139 _ rfl e5 ?_;obtain ⟨_,e6,k6⟩:=K.dep 6 rfl rfl rfl;refine zc 140 _ rfl e6 ?_;exact zi (j:=i) u22 qk rfl rfl rfl (by omega) ⟨Below.refl _ _,Left.of rfl⟩
             · intro vs X wq K;have LE:=K.1;obtain ⟨_,e7,k7⟩:=K.dep 7 rfl rfl rfl;refine zc 141 _ rfl e7 ?_;exact zl u27 rfl rfl (yh LE Bri) (by rw[Nat.zero_add];exact ka hri) ⟨Below.refl _ _,Left.of rfl⟩
             · intro vs X wq K;obtain ⟨_,e9,k9⟩:=K.dep 9 rfl rfl rfl;refine zc 143 _ rfl e9 ?_;exact zr rfl rfl (zg (by omega)) ⟨Below.refl _ _,Left.of ((by first | rfl | (congr 1;omega):(.int .i64 (((d:Nat):Int)+1):Value)=_))⟩
           intro vs w25 LE AO AL AF AA;have hbd:Below (w24).heap.size (w24) w25:=(((Ext.refl No (w24)).drew).trans LE).toBelow;obtain ⟨_,e0,k0⟩:=AL.1;obtain ⟨_,e4,k4⟩:=AL.2.2.2.2.1;obtain ⟨_,e8,k8⟩:=AL.2.2.2.2.2.2.2.2.1;obtain ⟨_,e10,k10⟩:=AL.2.2.2.2.2.2.2.2.2.2.1;refine qe (τ:=[(0,_),(3,_),(21,_),(22,_),(129,_),(130,_),(134,.pointer (some ⟨gk,0,none⟩)),(138,.int .u64 ((wat l i:Nat):Int)),(142,.int .u64 ((wat r i:Nat):Int)),(144,.int .i64 ((d+1:Nat):Int))]) ⟨rfl,rfl,rfl,rfl,rfl,rfl,congrArg some e0,congrArg some e4,congrArg some e8,congrArg some e10,trivial⟩ ?_;clear AL AF AA AO;refine zov (gn (by kernel_rfl) (fun _ _ d_ _ _ h=>by cases d_<;>exact h) ?_);have EX:=Ext.of_below hbd No;have hEx:=hEi.step EX (fun _ h=>h.elim);have BiX:=Bi.ext EX (fun h=>h.elim);obtain ⟨z,hz⟩:∃z,z=eqW (qd W top) n (wat l i) (wat r i) f:=⟨_,rfl⟩;have hzl:z.2≤f:=by rw[hz];exact eqW_le _ _ _ _
           have hst2:=yuk (f:=eqW (qd W top) n) (k:=f) hli hri;rw[←hz] at hst2;refine za rfl (zd en41 rfl ((ihn _ (wat l i) (wat r i) f (d+1) (by omega) (hlu _ (List.mem_of_getElem? hli)) (hru _ (List.mem_of_getElem? hri)) hf2 (hM1 _ (hE9.step hEx (fun _ h=>Or.inl h))) hmk BiX).mono ?_));rintro e w26 ⟨rfl,BR,ER⟩;refine ⟨_,rfl,?_⟩;rw[←hz] at BR;have hER:=hEx.step ER (fun _ h=>Or.inl h);refine qo ?_;refine zf 25 (.int .i64 z.1.2) rfl ((by rw[hz]:(.int .i64 (eqW (qd W top) n (wat l i) (wat r i) f).1.2:Value)=_)) ?_;by_cases zb:z.1.1=true
           ·
            refine zf 150 (.bool false) rfl ((by rw[←hz,zb];rfl:(.bool (!(eqW (qd W top) n (wat l i) (wat r i) f).1.1):Value)=_)) (zy ?_);by_cases ze:z.1.2=0
            ·
             refine zf 152 (.bool false) rfl ((by rw[ze];rfl:(.bool (z.1.2 !=0):Value)=_)) ?_;rw[if_pos ⟨zb,ze⟩] at hst2;refine yx ?_;refine za rfl (zr rfl rfl (zg (by omega)) (zy ?_));exact qf (i+1,z.2) (by show l.length-(i+1)<l.length-i;omega) ⟨rfl,rfl,rfl,rfl,rfl,rfl,trivial⟩ (⟨hlt,by omega,BR,hER,hsum.trans hst2⟩)
            ·
             refine zf 152 (.bool true) rfl ((by congr 1;rw[bne_iff_ne];exact ze:(.bool (z.1.2 !=0):Value)=_)) ?_;rw[if_neg (fun h=>ze h.2)] at hst2;refine xm ?_;exact ⟨by rw[hres,hsum,hst2];rfl,by rw[hres,hsum,hst2];exact BR,hE9.step hER (fun _ h=>Or.inl h)⟩
           ·
            refine zf 150 (.bool true) rfl ((by rw[←hz,Bool.eq_false_iff.2 zb];rfl:(.bool (!(eqW (qd W top) n (wat l i) (wat r i) f).1.1):Value)=_)) ?_;rw[if_neg (fun h=>zb h.1)] at hst2;refine xl ?_;exact ⟨by rw[hres,hsum,hst2];rfl,by rw[hres,hsum,hst2];exact BR,hE9.step hER (fun _ h=>Or.inl h)⟩
          ·
           have hc:=of_decide_eq_false hc;refine jq ?_;exact ⟨by rw[hres,hsum,zpx (by omega)];rfl,by rw[hres,hsum,zpx (by omega)];exact Bi,hE9.step hEi (fun _ h=>Or.inl h)⟩
         ·
          refine zf 126 (.bool true) rfl ((by congr 1;rw[bne_iff_ne];omega:(.bool (((l.length:Nat):Int) !=((r.length:Nat):Int)):Value)=_)) (jq ?_);exact ⟨by rw[hitem,if_pos (Or.inr (Or.inr z3))];rfl,by rw[hitem,if_pos (Or.inr (Or.inr z3))];exact B9,hE9⟩
        ·
         refine zf 119 (.bool true) rfl ((by congr 1;rw[bne_iff_ne];exact z2:(.bool (e2 !=0):Value)=_)) (xl ?_);exact ⟨by rw[hitem,if_pos (Or.inr (Or.inl z2))];rfl,by rw[hitem,if_pos (Or.inr (Or.inl z2))];exact B9,hE9⟩
       ·
        refine zf 116 (.bool true) rfl ((by congr 1;rw[bne_iff_ne];exact z1:(.bool (e1 !=0):Value)=_)) (zoz ?_);exact ⟨by rw[hitem,if_pos (Or.inl z1)];rfl,by rw[hitem,if_pos (Or.inl z1)];exact B9,hE9⟩
      ·
       refine zf 90 (.bool true) rfl ((by congr 1;rw[bne_iff_ne];omega:(.bool (((lkK W top p:Nat):Int) !=6):Value)=_)) (qb ?_);by_cases k5:lkK W top p=5
       ·
        refine zf 94 (.bool false) rfl ((by rw[k5];rfl:(.bool (((lkK W top p:Nat):Int) !=5):Value)=_)) ?_;have hitem:=eqW_i (o:=qd W top) (n:=n) h0 hsv hpq (show ¬(lkK W top p≠lkK W top q∨(lkK W top p≠6∧lkK W top p≠5)) by omega) hl hr he1 he2;refine qo ?_;refine za rfl (qy (cs:=#[.slice A W.length c,.int .i64 ((top:Nat):Int)]) u24 rfl kr rfl rfl (vh @B7) (stp ?_));refine za rfl (zd en18 rfl ((ycx _ A W c m top p (hM7 _ (Ext.refl _ _)) hp l hl e1 he1).mono ?_));rintro e w27 ⟨⟨C1,d1,rfl,hC1⟩,hb⟩;refine ⟨_,rfl,?_⟩;have E8:=Ext.of_below hb No;have B8:=B7.ext E8 (fun h=>h.elim);obtain ⟨wu8,hwu8⟩:∃z,z=w27:=⟨_,rfl⟩;subst hwu8;refine qo ?_;refine za rfl (qy (cs:=#[.slice A W.length c,.int .i64 ((top:Nat):Int)]) u24 rfl kr rfl rfl (vh @B8) (stp ?_));refine za rfl (zd en18 rfl ((ycx _ A W c m top q (hM7 _ (E8.noL wu7.heap.size)) hq r hr e2 he2).mono ?_));rintro e w28 ⟨⟨C2,d2,rfl,hC2⟩,hb⟩;refine ⟨_,rfl,?_⟩;have E9:=Ext.of_below hb No;have B9:=B8.ext E9 (fun h=>h.elim);obtain ⟨wu9,hwu9⟩:∃z,z=w28:=⟨_,rfl⟩;subst hwu9;have hE9:=(hE7.step E8 (fun _ h=>h.elim)).step E9 (fun _ h=>h.elim);refine qo ?_;by_cases z1:e1=0
        ·
         refine zf 116 (.bool false) rfl ((by rw[z1];rfl:(.bool (e1 !=0):Value)=_)) (qc ?_);by_cases z2:e2=0
         ·
          refine zf 119 (.bool false) rfl ((by rw[z2];rfl:(.bool (e2 !=0):Value)=_)) (yu ?_);by_cases z3:l.length=r.length
          ·
           refine zf 126 (.bool false) rfl ((by rw[z3,bne_self_eq_false]:(.bool (((l.length:Nat):Int) !=((r.length:Nat):Int)):Value)=_)) ?_;obtain ⟨gl,rfl,Bl0,Gl⟩:=hC1 z1;obtain ⟨gr,rfl,Br,Gr⟩:=hC2 z2;have Bl:=Bl0.ext E9 (fun h=>h.elim);have hlu:∀y∈l,U64 y:=by rw[hl];exact xr hW
           have hru:∀y∈r,U64 y:=by rw[hr];exact xr hW
           have hs8:=E8.size;have hglk:gk<gl:=by have:=B7.lt;omega
           have hgrk:gk<gr:=by have:=B8.lt;omega
           have hll:l.length≤1048576:=by rw[hl];exact zxv hM.most
           have hres:eqW (qd W top) (n+1) p q left=eqL (eqW (qd W top) n) l r (left-1):=by
            rw[hitem,if_neg (fun h=>by rcases h with h | h | h<;>contradiction)]
           refine xb ?_;refine qw (ι:=Nat×Nat) (fun (i,f)=>[(0,.pointer (some ⟨gk,0,none⟩)),(3,.int .i64 ((d:Nat):Int)),(21,.slice (some ⟨gl,0,none⟩) l.length d1),(22,.slice (some ⟨gr,0,none⟩) r.length d2),(129,.int .i64 ((l.length:Nat):Int)),(130,.int .i64 ((i:Nat):Int))]) (fun (i,f) w'=>i≤l.length∧f≤20000∧Blk w' gk 78 (wkC A W c top f)∧Ext (Mut [some gk]) wu9 w'∧eqL (eqW (qd W top) n) l r (left-1)=eqL (eqW (qd W top) n) (l.drop i) (r.drop i) f) (fun (i,_)=>l.length-i) (0,left-1) ⟨rfl,rfl,rfl,rfl,rfl,rfl,trivial⟩ (⟨Nat.zero_le _,by omega,B9,Ext.refl _ _,rfl⟩) ?_;rintro ⟨i,f⟩ w30 ⟨hi0,hf2,Bi,hEi,hsum⟩;refine yb ?_;refine zx rfl (fun hc=>?_) (fun hc=>?_)
           ·
            have hc:=of_decide_eq_true hc;have hlt:i<l.length:=by omega
            have hli:l[i]? =some (wat l i):=ke hlt;have hri:r[i]? =some (wat r i):=ke (by omega);have Bli:=Bl.ext hEi (fun h=>by have:=yj h;omega);have Bri:=Br.ext hEi (fun h=>by have:=yj h;omega);refine yt ?_;refine zcz qt (zck 11 rfl ?_);refine zux (No) Mut.none_ [] [] (jh [Fx.of (.pointer (some ⟨gk,0,none⟩)),
             Fx.of (.slice (some ⟨gl,0,none⟩) l.length d1),
             Fx.of (.int .i64 ((i:Nat):Int)),
             Fx.of (.pointer (some ⟨gl,0+i,none⟩)),
             Fx.of (.int .u64 ((wat l i:Nat):Int)),
             Fx.of (.slice (some ⟨gr,0,none⟩) r.length d2),
             Fx.of (.int .i64 ((i:Nat):Int)),
             Fx.of (.pointer (some ⟨gr,0+i,none⟩)),
             Fx.of (.int .u64 ((wat r i:Nat):Int)),
             Fx.of (.int .i64 ((d:Nat):Int)),
             Fx.of (.int .i64 ((d+1:Nat):Int))]) rfl trivial (fun _ h=>by cases h) ?_ ?_
            · refine ⟨arm,arm,arm,?_,?_,arm,arm,?_,?_,arm,?_,trivial⟩
              · intro vs X wq K;obtain ⟨_,e1,k1⟩:=K.dep 1 rfl rfl rfl;refine zc 135 _ rfl e1 ?_;obtain ⟨_,e2,k2⟩:=K.dep 2 rfl rfl rfl;refine zc 136 _ rfl e2 ?_;exact zi (j:=i) u22 qk rfl rfl rfl hlt ⟨Below.refl _ _,Left.of rfl⟩
              · intro vs X wq K;have LE:=K.1;obtain ⟨_,e3,k3⟩:=K.dep 3 rfl rfl rfl;refine zc 137 _ rfl e3 ?_;exact zl u27 rfl rfl (yh LE Bli) (by rw[Nat.zero_add];exact ka hli) ⟨Below.refl _ _,Left.of rfl⟩
              · intro vs X wq K;obtain ⟨_,e5,k5⟩:=K.dep 5 rfl rfl rfl;refine zc 139 _ rfl e5 ?_;obtain ⟨_,e6,k6⟩:=K.dep 6 rfl rfl rfl;refine zc 140 _ rfl e6 ?_;exact zi (j:=i) u22 qk rfl rfl rfl (by omega) ⟨Below.refl _ _,Left.of rfl⟩
              · intro vs X wq K;have LE:=K.1;obtain ⟨_,e7,k7⟩:=K.dep 7 rfl rfl rfl;refine zc 141 _ rfl e7 ?_;exact zl u27 rfl rfl (yh LE Bri) (by rw[Nat.zero_add];exact ka hri) ⟨Below.refl _ _,Left.of rfl⟩
              · intro vs X wq K;obtain ⟨_,e9,k9⟩:=K.dep 9 rfl rfl rfl;refine zc 143 _ rfl e9 ?_;exact zr rfl rfl (zg (by omega)) ⟨Below.refl _ _,Left.of ((by first | rfl | (congr 1;omega):(.int .i64 (((d:Nat):Int)+1):Value)=_))⟩
            intro vs w31 LE AO AL AF AA;have hbd:Below (w30).heap.size (w30) w31:=(((Ext.refl No (w30)).drew).trans LE).toBelow;obtain ⟨_,e0,k0⟩:=AL.1;obtain ⟨_,e4,k4⟩:=AL.2.2.2.2.1;obtain ⟨_,e8,k8⟩:=AL.2.2.2.2.2.2.2.2.1;obtain ⟨_,e10,k10⟩:=AL.2.2.2.2.2.2.2.2.2.2.1;refine qe (τ:=[(0,_),(3,_),(21,_),(22,_),(129,_),(130,_),(134,.pointer (some ⟨gk,0,none⟩)),(138,.int .u64 ((wat l i:Nat):Int)),(142,.int .u64 ((wat r i:Nat):Int)),(144,.int .i64 ((d+1:Nat):Int))]) ⟨rfl,rfl,rfl,rfl,rfl,rfl,congrArg some e0,congrArg some e4,congrArg some e8,congrArg some e10,trivial⟩ ?_;clear AL AF AA AO;refine zov (gn (by kernel_rfl) (fun _ _ d_ _ _ h=>by cases d_<;>exact h) ?_);have EX:=Ext.of_below hbd No;have hEx:=hEi.step EX (fun _ h=>h.elim);have BiX:=Bi.ext EX (fun h=>h.elim);obtain ⟨z,hz⟩:∃z,z=eqW (qd W top) n (wat l i) (wat r i) f:=⟨_,rfl⟩;have hzl:z.2≤f:=by rw[hz];exact eqW_le _ _ _ _
            have hst2:=yuk (f:=eqW (qd W top) n) (k:=f) hli hri;rw[←hz] at hst2;refine za rfl (zd en41 rfl ((ihn _ (wat l i) (wat r i) f (d+1) (by omega) (hlu _ (List.mem_of_getElem? hli)) (hru _ (List.mem_of_getElem? hri)) hf2 (hM1 _ (hE9.step hEx (fun _ h=>Or.inl h))) hmk BiX).mono ?_));rintro e w32 ⟨rfl,BR,ER⟩;refine ⟨_,rfl,?_⟩;rw[←hz] at BR;have hER:=hEx.step ER (fun _ h=>Or.inl h);refine qo ?_;refine zf 25 (.int .i64 z.1.2) rfl ((by rw[hz]:(.int .i64 (eqW (qd W top) n (wat l i) (wat r i) f).1.2:Value)=_)) ?_;by_cases zb:z.1.1=true
            ·
             refine zf 150 (.bool false) rfl ((by rw[←hz,zb];rfl:(.bool (!(eqW (qd W top) n (wat l i) (wat r i) f).1.1):Value)=_)) (zy ?_);by_cases ze:z.1.2=0
             ·
              refine zf 152 (.bool false) rfl ((by rw[ze];rfl:(.bool (z.1.2 !=0):Value)=_)) ?_;rw[if_pos ⟨zb,ze⟩] at hst2;refine yx ?_;refine za rfl (zr rfl rfl (zg (by omega)) (zy ?_));exact qf (i+1,z.2) (by show l.length-(i+1)<l.length-i;omega) ⟨rfl,rfl,rfl,rfl,rfl,rfl,trivial⟩ (⟨hlt,by omega,BR,hER,hsum.trans hst2⟩)
             ·
              refine zf 152 (.bool true) rfl ((by congr 1;rw[bne_iff_ne];exact ze:(.bool (z.1.2 !=0):Value)=_)) ?_;rw[if_neg (fun h=>ze h.2)] at hst2;refine xm ?_;exact ⟨by rw[hres,hsum,hst2];rfl,by rw[hres,hsum,hst2];exact BR,hE9.step hER (fun _ h=>Or.inl h)⟩
            ·
             refine zf 150 (.bool true) rfl ((by rw[←hz,Bool.eq_false_iff.2 zb];rfl:(.bool (!(eqW (qd W top) n (wat l i) (wat r i) f).1.1):Value)=_)) ?_;rw[if_neg (fun h=>zb h.1)] at hst2;refine xl ?_;exact ⟨by rw[hres,hsum,hst2];rfl,by rw[hres,hsum,hst2];exact BR,hE9.step hER (fun _ h=>Or.inl h)⟩
           ·
            have hc:=of_decide_eq_false hc;refine jq ?_;exact ⟨by rw[hres,hsum,zpx (by omega)];rfl,by rw[hres,hsum,zpx (by omega)];exact Bi,hE9.step hEi (fun _ h=>Or.inl h)⟩
          ·
           refine zf 126 (.bool true) rfl ((by congr 1;rw[bne_iff_ne];omega:(.bool (((l.length:Nat):Int) !=((r.length:Nat):Int)):Value)=_)) (jq ?_);exact ⟨by rw[hitem,if_pos (Or.inr (Or.inr z3))];rfl,by rw[hitem,if_pos (Or.inr (Or.inr z3))];exact B9,hE9⟩
         ·
          refine zf 119 (.bool true) rfl ((by congr 1;rw[bne_iff_ne];exact z2:(.bool (e2 !=0):Value)=_)) (xl ?_);exact ⟨by rw[hitem,if_pos (Or.inr (Or.inl z2))];rfl,by rw[hitem,if_pos (Or.inr (Or.inl z2))];exact B9,hE9⟩
        ·
         refine zf 116 (.bool true) rfl ((by congr 1;rw[bne_iff_ne];exact z1:(.bool (e1 !=0):Value)=_)) (zoz ?_);exact ⟨by rw[hitem,if_pos (Or.inl z1)];rfl,by rw[hitem,if_pos (Or.inl z1)];exact B9,hE9⟩
       ·
        refine zf 94 (.bool true) rfl ((by congr 1;rw[bne_iff_ne];omega:(.bool (((lkK W top p:Nat):Int) !=5):Value)=_)) ?_;have hkk:eqW (qd W top) (n+1) p q left=((false,0),left-1):=by
         rw[yuq h0 hsv,if_neg hpq,if_pos (show (qd W top).K p≠(qd W top).K q∨((qd W top).K p≠6∧(qd W top).K p≠5) from Or.inr ⟨k6,k5⟩)]
        refine jt ?_;exact ⟨by rw[hkk];rfl,by rw[hkk];exact B7,hE7⟩
     ·
      refine zf 86 (.bool true) rfl ((by congr 1;rw[bne_iff_ne];omega:(.bool (((lkK W top p:Nat):Int) !=((lkK W top q:Nat):Int)):Value)=_)) ?_;have hkk:eqW (qd W top) (n+1) p q left=((false,0),left-1):=by
       rw[yuq h0 hsv,if_neg hpq,if_pos (show (qd W top).K p≠(qd W top).K q∨((qd W top).K p≠6∧(qd W top).K p≠5) from Or.inl hK)]
      refine yrz ?_;exact ⟨by rw[hkk];rfl,by rw[hkk];exact B7,hE7⟩
theorem oeq_any (gk m:Nat) (A:Option Addr) (W:List Nat) (c top:Nat):∀n,EqAt gk m A W c top n
 | 0=>oeq_step gk m A W c top 0 (fun k h=>by omega)
 | n+1=>oeq_step gk m A W c top (n+1) (fun k h=>by
  obtain rfl:k=n:=by omega
  exact oeq_any gk m A W c top k)
end Go.Proofs.YtebjkmjfcijebaaGreat
namespace Go.Proofs.YtebjkmjfcijebaaGreat
open Go.RowKit
set_option maxHeartbeats 20000000
attribute [local irreducible] OW RS CW EW
def RetHs (gk:Nat) (A:Option Addr) (W:List Nat) (c top:Nat) (w:World) (r:(Int×Int)×Nat) (e:Ending) (w':World):Prop:=e= .returned (.tuple #[.int .i64 r.1.1,.int .i64 r.1.2])∧Blk w' gk 78 (wkC A W c top r.2)∧Ext (Mut [some gk]) w w'
def HsAt (gk m:Nat) (A:Option Addr) (W:List Nat) (c top n:Nat):Prop:=∀(w:World) (p left d:Nat),d+n=41→U64 p→left≤20000→MemA m w A W top→m≤gk→Blk w gk 78 (wkC A W c top left)→Calls Tryz.prog 42 #[.pointer (some ⟨gk,0,none⟩),.int .u64 ((p:Nat):Int),.int .i64 ((d:Nat):Int)] w (RetHs gk A W c top w (hsW (qd W top) n p left))
theorem numO_none {W:List Nat} {top x:Nat} {o:Option PV} {d v:PV} (_:v=o.getD d) (h:¬o.isSome=true):o=none:=by
 cases o with
 | none=>rfl
 | some x=>exact absurd rfl h
set_option maxHeartbeats 20000000 in
theorem ohs_step (gk m:Nat) (A:Option Addr) (W:List Nat) (c top n:Nat) (ih:∀k,n=k+1→HsAt gk m A W c top k):HsAt gk m A W c top n:=by
 intro w p left d hdn hp hl2 hM hmk hk;have hW:=hM.words.in_;have hWm:=hM.most;obtain ⟨u,hu⟩:∃u,u=(vm W top p).getD vNil:=⟨_,rfl⟩;obtain ⟨eu,heu⟩:∃eu:Int,eu=if (vm W top p).isSome then 0 else 9:=⟨_,rfl⟩
 have ub:=yxk (top:=top) (x:=p) hW;have ul:=(zqq W top p).2;rw[←hu] at ub ul;have hM1:∀z,Ext (Mut [some gk]) w z→MemA m z A W top:=fun z hz=>hM.low ⟨hz,fun q hq=>by have:=yj hq;omega⟩;refine zh Tryz.func42 rfl Tryz.ntmps42 rfl (yt ?_);refine za rfl (zd en63 rfl ((ostep_any _ gk A W c top left d hk hl2 (by omega)).mono ?_));rintro e w1 ⟨rfl,Bk,ES⟩;refine ⟨_,rfl,(qa ?_)⟩;by_cases h0:left=0
 ·
  have hst:stE left d=12:=if_pos h0;refine zk 22 (.bool true) rfl ((by rw[hst];rfl:(.bool ((stE left d) !=0):Value)=_)) (yt ?_);exact ⟨by rw[hst,h0,hsW_0];rfl,by rw[h0,hsW_0];rw[h0] at Bk;exact Bk,ES⟩
 ·
  by_cases h4:40<d
  ·
   have hst:stE left d=11:=by unfold stE;rw[if_neg h0,if_pos h4]
   have hn0:n=0:=by omega
   refine zk 22 (.bool true) rfl ((by rw[hst];rfl:(.bool ((stE left d) !=0):Value)=_)) (yt ?_);exact ⟨by rw[hst,hn0,hsW_d h0];rfl,by rw[hn0,hsW_d h0];exact Bk,ES⟩
  ·
   have hst:stE left d=0:=by unfold stE;rw[if_neg h0,if_neg h4]
   obtain ⟨n,rfl⟩:∃n',n=n'+1:=⟨n-1,by omega⟩;have ihn:=ih n rfl;refine zk 22 (.bool false) rfl ((by rw[hst];rfl:(.bool ((stE left d) !=0):Value)=_)) (qa ?_);refine za rfl (qy (cs:=#[.slice A W.length c,.int .i64 ((top:Nat):Int)]) u24 rfl kr rfl rfl (vh @Bk) (stp ?_));refine za rfl (zd en10 rfl ((otk_v _ A W c m top p (hM1 _ ES) hp u hu eu heu).mono ?_));rintro e w2 ⟨⟨A1,c1,rfl,hx1⟩,hb⟩;refine ⟨_,rfl,?_⟩;have E2:=Ext.of_below hb No;have B2:=Bk.ext E2 (fun h=>h.elim);have hE2:=ES.step E2 (fun _ h=>h.elim);obtain ⟨wu2,hwu2⟩:∃z,z=w2:=⟨_,rfl⟩;subst hwu2;have hs2:=hE2.size;refine qc ?_;refine za rfl (zp xt ?_);rintro g9 wA BA0 E3 GA;refine zq (zm kd rfl rfl BA0 rfl rfl rfl ?_);rintro wB BA E4;have F4:Ext (fun q=>wu2.heap.size≤q) wu2 wB:=(E3.noL wu2.heap.size).step E4 (fun q hq=>Or.inl (show wu2.heap.size≤q by have:=yj hq;omega));have hE4:=hE2.step F4 (fun q hq=>Or.inr (Nat.le_trans hs2 hq));have B4:=B2.ext F4 (fun h=>by have h:wu2.heap.size≤gk:=h;have:=B2.lt;omega);have hx1D:=ytz hx1 F4 (fun q hq=>hq);refine qa ?_;by_cases su:(vm W top p).isSome=true
   ·
    have zu:eu=0:=by rw[heu,if_pos su]
    have tu:=some_of hu su;refine zk 34 (.bool true) rfl ((by rw[zu];rfl:(.bool (eu==0):Value)=_)) (qb ?_);refine za rfl (zd en65 rfl ((pl_hash _ u A1 none c1 0 hx1D (by omega) ub).mono ?_));rintro e w3 ⟨rfl,hb⟩;refine ⟨_,rfl,?_⟩;have E8:=Ext.of_below hb No;refine yu ?_;exact ⟨by rw[hsW_v h0 tu];rfl,by rw[hsW_v h0 tu];exact B4.ext E8 (fun h=>h.elim),hE4.step E8 (fun _ h=>h.elim)⟩
   ·
    have zu:eu=9:=by rw[heu,if_neg su]
    have tn:(qd W top).T p=none:=numO_none (W:=W) (top:=top) (x:=p) hu su;refine zk 34 (.bool false) rfl ((by rw[zu];rfl:(.bool (eu==0):Value)=_)) (yx ?_);refine za rfl (qy (cs:=#[.slice A W.length c,.int .i64 ((top:Nat):Int)]) u24 rfl kr rfl rfl (vh @B4) (stp ?_));refine za rfl (zd ykv rfl ((gc _ A W c m top p (hM1 _ hE4) hp).mono ?_));rintro e w4 ⟨rfl,hb⟩;refine ⟨_,rfl,?_⟩;have EG:=Ext.of_below hb No;have BkG:=B4.ext EG (fun h=>h.elim);have hEG:=hE4.step EG (fun _ h=>h.elim);obtain ⟨wuG,hwuG⟩:∃z,z=w4:=⟨_,rfl⟩;subst hwuG;have hsG:=hEG.size;refine qb ?_;refine za rfl (zp og ?_);rintro g12 wH BH0 EH GH;refine stp ?_;refine zq (zm xj rfl rfl BH0 rfl rfl rfl ?_);rintro wI BH EI;have FI:Ext (fun q=>wuG.heap.size≤q) wuG wI:=(EH.noL wuG.heap.size).step EI (fun q hq=>Or.inl (show wuG.heap.size≤q by have:=yj hq;omega));have hE7:=hEG.step FI (fun q hq=>Or.inr (Nat.le_trans hsG hq));have B7:=BkG.ext FI (fun h=>by have h:wuG.heap.size≤gk:=h;have:=BkG.lt;omega);have BP:Blk wI g12 68 #[.int .i64 ((lkK W top p:Nat):Int),.int .i64 ((lkT W top p:Nat):Int),.int .i64 ((lkR W top p:Nat):Int)]:=BH;have hgk12:gk<g12:=by have:=BkG.lt;omega
    obtain ⟨wu7,hwu7⟩:∃z,z=wI:=⟨_,rfl⟩;subst hwu7;have hM7:=hM1 _ hE7;refine zhq ?_;by_cases k6:lkK W top p=6
    ·
     refine zk 49 (.bool true) rfl ((by rw[k6];rfl:(.bool (((lkK W top p:Nat):Int)==6):Value)=_)) ?_;have hB:lkB W top p=true:=by
      cases hb2:lkB W top p
      · have h9:lkK W top p=0:=by unfold lkK;rw[hb2];rfl
        omega
      · rfl
     obtain ⟨hk0,hS⟩:=zxk hB;obtain ⟨t,ht⟩:∃t,t=lkT W top p:=⟨_,rfl⟩;have htl:t≤1048576:=by rw[ht];exact lkT_le hWm
     have hll:(qq W (p/4) t).length=t:=oh _ _ _;have hres:hsW (qd W top) (n+1) p left=hsL (hsW (qd W top) n) (qq W (p/4) t) ((t:Nat):Int) (left-1):=by
      rw[hsW_r h0 tn,if_pos (show (qd W top).K p=6 from k6)];show hsL _ (qq W (p/4) (lkT W top p)) (((qq W (p/4) (lkT W top p)).length:Nat):Int) _=_
      rw[←ht,hll]
     refine qb ?_;refine zf 11 (.int .i64 ((p/4:Nat):Int)) rfl ((by rw[yux hk0]:(.int .i64 ((lkA p:Nat):Int):Value)=_)) (yx ?_);refine zf 14 (.int .i64 ((t:Nat):Int)) rfl ((by rw[ht]:(.int .i64 ((lkT W top p:Nat):Int):Value)=_)) (stp ?_);refine zf 54 (.int .i64 ((t:Nat):Int)) rfl ((by rw[ht]:(.int .i64 ((lkT W top p:Nat):Int):Value)=_)) (qb ?_);refine qw (ι:=Nat×Int×Nat) (fun (i,h,f)=>[(0,.pointer (some ⟨gk,0,none⟩)),(2,.int .i64 ((d:Nat):Int)),(11,.int .i64 ((p/4:Nat):Int)),(14,.int .i64 h),(54,.int .i64 ((t:Nat):Int)),(55,.int .i64 ((i:Nat):Int))]) (fun (i,h,f) w'=>i≤t∧f≤20000∧(0≤h∧h<2147483647)∧Blk w' gk 78 (wkC A W c top f)∧Ext (Mut [some gk]) wu7 w'∧hsL (hsW (qd W top) n) (qq W (p/4) t) ((t:Nat):Int) (left-1)=hsL (hsW (qd W top) n) ((qq W (p/4) t).drop i) h f) (fun (i,_)=>t-i) (0,((t:Nat):Int),left-1) ⟨rfl,rfl,rfl,rfl,rfl,rfl,trivial⟩ (⟨Nat.zero_le _,by omega,by omega,B7,Ext.refl _ _,rfl⟩) ?_;rintro ⟨i,h,f⟩ w6 ⟨hi0,hf2,hh,Bi,hEi,hsum⟩;have hEiw:=hE7.step hEi (fun _ h=>Or.inl h);refine yb ?_;refine zx rfl (fun hc=>?_) (fun hc=>?_)
     ·
      have hc:=of_decide_eq_true hc;have hlt:i<t:=by omega
      have hli:=yfq (W:=W) (a:=p/4) hlt;obtain ⟨z,hz⟩:∃z,z=hsW (qd W top) n (vr W (p/4) i) f:=⟨_,rfl⟩;have hzl:z.2≤f:=by rw[hz];exact hsW_le _ _ _
      have hst2:=hsL_step (f:=hsW (qd W top) n) (k:=f) (m:=h) hli;rw[←hz] at hst2;refine gh ?_;refine za rfl (qy (cs:=#[.slice A W.length c,.int .i64 ((top:Nat):Int)]) u24 rfl kr rfl rfl (vh @Bi) (zy ?_));refine za rfl (zd en35 rfl ((zmk _ A W c m top (p/4) i (hM1 _ hEiw) hS).mono ?_));rintro e w7 ⟨rfl,hb⟩;refine ⟨_,rfl,?_⟩;have EX:=Ext.of_below hb No;have BX:=Bi.ext EX (fun h=>h.elim);have hEx:=hEi.step EX (fun _ h=>h.elim);refine stp ?_;refine za rfl (zr rfl rfl (zg (by omega)) (zf 68 (.int .i64 ((d+1:Nat):Int)) rfl ((by first | rfl | (congr 1;omega):(.int .i64 (((d:Nat):Int)+1):Value)=_)) (za rfl (zd en42 rfl ((ihn _ (vr W (p/4) i) f (d+1) (by omega) (ydk hW _ _) hf2 (hM1 _ (hE7.step hEx (fun _ h=>Or.inl h))) hmk BX).mono ?_)))));rintro e w8 ⟨rfl,BR,ER⟩;refine ⟨_,rfl,?_⟩;rw[←hz] at BR;have hER:=hEx.step ER (fun _ h=>Or.inl h);refine jt ?_;refine zk 16 (.int .i64 z.1.1) rfl ((by rw[hz]:(.int .i64 (hsW (qd W top) n (vr W (p/4) i) f).1.1:Value)=_)) (zk 17 (.int .i64 z.1.2) rfl ((by rw[hz]:(.int .i64 (hsW (qd W top) n (vr W (p/4) i) f).1.2:Value)=_)) ?_);by_cases ze:z.1.2=0
      ·
       refine zk 73 (.bool false) rfl ((by rw[←hz,ze];rfl:(.bool ((hsW (qd W top) n (vr W (p/4) i) f).1.2 !=0):Value)=_)) ?_;rw[if_pos ze] at hst2;obtain ⟨t1,ht1⟩:∃t1,t1=z.1.1.tmod 2147483647:=⟨_,rfl⟩;have b1:=Int.tmod_lt_of_pos z.1.1 (show (0:Int)<2147483647 by decide);have b2:=Int.lt_tmod_of_pos z.1.1 (show (0:Int)<2147483647 by decide);rw[←ht1] at b1 b2;obtain ⟨t2,ht2⟩:∃t2,t2=(t1+2147483647).tmod 2147483647:=⟨_,rfl⟩;have b3:=Int.tmod_lt_of_pos (t1+2147483647) (show (0:Int)<2147483647 by decide);have b4:0≤(t1+2147483647).tmod 2147483647:=Int.tmod_nonneg _ (by omega);rw[←ht2] at b3 b4;have hmx:(31*h+t2+1).tmod 2147483647=mixH h z.1.1:=by unfold mixH;rw[ht2,ht1]
       have hmi:=mixH_in (h:=h) (x:=z.1.1) hh.1;refine yk ?_;refine za rfl (vn rfl rfl (show IntKind.i64.wrap (31*h)=31*h from zg (by omega)) (stp ?_));refine za rfl (ju rfl rfl (by decide) (show z.1.1.tmod 2147483647=t1 from ht1.symm) (za rfl (zr rfl rfl (show IntKind.i64.wrap (t1+2147483647)=t1+2147483647 from zg (by omega)) (za rfl (ju rfl rfl (by decide) (show (t1+2147483647).tmod 2147483647=t2 from ht2.symm) (za rfl (zr rfl rfl (show IntKind.i64.wrap (31*h+t2)=31*h+t2 from zg (by omega)) (za rfl (zr rfl rfl (show IntKind.i64.wrap (31*h+t2+1)=31*h+t2+1 from zg (by omega)) (za rfl (ju rfl rfl (by decide) (show (31*h+t2+1).tmod 2147483647=mixH h z.1.1 from hmx) (yk ?_))))))))))));refine za rfl (zr rfl rfl (zg (by omega)) (zy ?_));exact qf (i+1,mixH h z.1.1,z.2) (by show t-(i+1)<t-i;omega) ⟨rfl,rfl,rfl,rfl,rfl,rfl,trivial⟩ (⟨hlt,by omega,hmi,BR,hER,hsum.trans hst2⟩)
      ·
       refine zk 73 (.bool true) rfl ((by congr 1;rw[bne_iff_ne,←hz];exact ze:(.bool ((hsW (qd W top) n (vr W (p/4) i) f).1.2 !=0):Value)=_)) ?_;rw[if_neg ze] at hst2;refine xm ?_;exact ⟨by rw[hres,hsum,hst2];rfl,by rw[hres,hsum,hst2];exact BR,hE7.step hER (fun _ h=>Or.inl h)⟩
     ·
      have hc:=of_decide_eq_false hc;refine gh ?_;exact ⟨by rw[hres,hsum,hsL_end (by omega)];rfl,by rw[hres,hsum,hsL_end (by omega)];exact Bi,hEiw⟩
    ·
     refine zk 49 (.bool false) rfl ((by congr 1;rw[beq_eq_false_iff_ne];omega:(.bool (((lkK W top p:Nat):Int)==6):Value)=_)) (yu ?_);by_cases k10:lkK W top p=10
     ·
      refine zk 86 (.bool true) rfl ((by rw[k10];rfl:(.bool (((lkK W top p:Nat):Int)==10):Value)=_)) ?_;have hB:lkB W top p=true:=by
       cases hb2:lkB W top p
       · have h9:lkK W top p=0:=by unfold lkK;rw[hb2];rfl
         omega
       · rfl
      have hres:hsW (qd W top) (n+1) p left=(jy W top p 0,left-1):=by
       rw[hsW_r h0 tn,if_neg (show ¬(qd W top).K p=6 from (show ¬lkK W top p=6 by omega)),if_pos (show (qd W top).K p=10∨(qd W top).K p=13∨(qd W top).K p=14∨(qd W top).K p=15 from (show lkK W top p=10∨lkK W top p=13∨lkK W top p=14∨lkK W top p=15 by omega))];show (jy W top p (if lkK W top p=10 then 0 else 1),left-1)=_
       rw[if_pos (by omega)]
      refine zy ?_;refine yv (No) Mut.none_ [] [] (jh [Fx.of (.pointer (some ⟨gk,0,none⟩)),
       Fx.of (.pointer (some ⟨gk,0,none⟩)),
       Fx.of (.pointer (some ⟨gk,0,none⟩)),
       Fx.of (.agg #[.slice A W.length c,.int .i64 ((top:Nat):Int)]),
       Fx.of (.int .i64 ((lkA p:Nat):Int)),
       Fx.of (.agg #[.int .i64 ((lkK W top p:Nat):Int),.int .i64 ((lkT W top p:Nat):Int),.int .i64 ((lkR W top p:Nat):Int)]),
       Fx.of (.tuple #[.int .i64 (jy W top p 0).1,.int .i64 (jy W top p 0).2]),
       Fx.of (.int .i64 (jy W top p 0).1),
       Fx.of (.int .i64 (jy W top p 0).2),
       Fx.of (.int .i64 (jy W top p 0).1),
       Fx.of (.int .i64 (jy W top p 0).2)]) qt rfl trivial (fun _ h=>by cases h) ?_ ?_
      · refine ⟨arm,arm,arm,?_,arm,?_,?_,arm,arm,arm,arm,trivial⟩
        · intro vs X wq K;have LE:=K.1;obtain ⟨_,e2,k2⟩:=K.dep 2 rfl rfl rfl;refine zc 90 _ rfl e2 ?_;exact qy (cs:=#[.slice A W.length c,.int .i64 ((top:Nat):Int)]) u24 rfl kr rfl rfl (vh (yh LE B7)) ⟨Below.refl _ _,Left.of rfl⟩
        · intro vs X wq K;have LE:=K.1;exact yy u68 rfl xj rfl (yh LE BP) rfl ⟨Below.refl _ _,Left.of rfl⟩
        · intro vs X wq K;have LE:=K.1;obtain ⟨_,e3,k3⟩:=K.dep 3 rfl rfl rfl;refine zc 91 _ rfl e3 ?_;obtain ⟨_,e4,k4⟩:=K.dep 4 rfl rfl rfl;refine zc 92 _ rfl e4 ?_;obtain ⟨_,e5,k5⟩:=K.dep 5 rfl rfl rfl;refine zc 93 _ rfl e5 (zd en66 rfl ((ytx _ A W c m top p (hM7.no ((Ext.refl No _).drew.trans LE)) hp 0 hB (by omega)).mono ?_));rintro e w2 ⟨rfl,hb⟩;exact ⟨_,rfl,hb,Left.of rfl⟩
      intro vs w9 LE AO AL AF AA;have hbd:Below (wu7).heap.size (wu7) w9:=(((Ext.refl No (wu7)).drew).trans LE).toBelow;obtain ⟨_,e9,k9⟩:=AL.2.2.2.2.2.2.2.2.2.1;obtain ⟨_,e10,k10⟩:=AL.2.2.2.2.2.2.2.2.2.2.1;refine qe (τ:=[(6,.int .i64 (jy W top p 0).1),(7,.int .i64 (jy W top p 0).2)]) ⟨congrArg some e9,congrArg some e10,trivial⟩ ?_;clear AL AF AA AO;have EX:=Ext.of_below hbd No;refine yk ?_;exact ⟨by rw[hres];rfl,by rw[hres];exact B7.ext EX (fun h=>h.elim),hE7.step EX (fun _ h=>h.elim)⟩
     ·
      refine zk 86 (.bool false) rfl ((by congr 1;rw[beq_eq_false_iff_ne];omega:(.bool (((lkK W top p:Nat):Int)==10):Value)=_)) (yx ?_);by_cases k13:lkK W top p=13
      ·
       refine zk 97 (.bool true) rfl ((by rw[k13];rfl:(.bool (((lkK W top p:Nat):Int)==13):Value)=_)) ?_;have hB:lkB W top p=true:=by
        cases hb2:lkB W top p
        · have h9:lkK W top p=0:=by unfold lkK;rw[hb2];rfl
          omega
        · rfl
       have hres:hsW (qd W top) (n+1) p left=(jy W top p 1,left-1):=by
        rw[hsW_r h0 tn,if_neg (show ¬(qd W top).K p=6 from (show ¬lkK W top p=6 by omega)),if_pos (show (qd W top).K p=10∨(qd W top).K p=13∨(qd W top).K p=14∨(qd W top).K p=15 from (show lkK W top p=10∨lkK W top p=13∨lkK W top p=14∨lkK W top p=15 by omega))];show (jy W top p (if lkK W top p=10 then 0 else 1),left-1)=_
        rw[if_neg (by omega)]
       refine yk ?_;refine yv (No) Mut.none_ [] [] (jh [Fx.of (.pointer (some ⟨gk,0,none⟩)),
        Fx.of (.pointer (some ⟨gk,0,none⟩)),
        Fx.of (.pointer (some ⟨gk,0,none⟩)),
        Fx.of (.agg #[.slice A W.length c,.int .i64 ((top:Nat):Int)]),
        Fx.of (.int .i64 ((lkA p:Nat):Int)),
        Fx.of (.agg #[.int .i64 ((lkK W top p:Nat):Int),.int .i64 ((lkT W top p:Nat):Int),.int .i64 ((lkR W top p:Nat):Int)]),
        Fx.of (.tuple #[.int .i64 (jy W top p 1).1,.int .i64 (jy W top p 1).2]),
        Fx.of (.int .i64 (jy W top p 1).1),
        Fx.of (.int .i64 (jy W top p 1).2),
        Fx.of (.int .i64 (jy W top p 1).1),
        Fx.of (.int .i64 (jy W top p 1).2)]) qt rfl trivial (fun _ h=>by cases h) ?_ ?_
       · refine ⟨arm,arm,arm,?_,arm,?_,?_,arm,arm,arm,arm,trivial⟩
         · intro vs X wq K;have LE:=K.1;obtain ⟨_,e2,k2⟩:=K.dep 2 rfl rfl rfl;refine zc 103 _ rfl e2 ?_;exact qy (cs:=#[.slice A W.length c,.int .i64 ((top:Nat):Int)]) u24 rfl kr rfl rfl (vh (yh LE B7)) ⟨Below.refl _ _,Left.of rfl⟩
         · intro vs X wq K;have LE:=K.1;exact yy u68 rfl xj rfl (yh LE BP) rfl ⟨Below.refl _ _,Left.of rfl⟩
         · intro vs X wq K;have LE:=K.1;obtain ⟨_,e3,k3⟩:=K.dep 3 rfl rfl rfl;refine zc 104 _ rfl e3 ?_;obtain ⟨_,e4,k4⟩:=K.dep 4 rfl rfl rfl;refine zc 105 _ rfl e4 ?_;obtain ⟨_,e5,k5⟩:=K.dep 5 rfl rfl rfl;refine zc 106 _ rfl e5 (zd en66 rfl ((ytx _ A W c m top p (hM7.no ((Ext.refl No _).drew.trans LE)) hp 1 hB (by omega)).mono ?_));rintro e w2 ⟨rfl,hb⟩;exact ⟨_,rfl,hb,Left.of rfl⟩
       intro vs w10 LE AO AL AF AA;have hbd:Below (wu7).heap.size (wu7) w10:=(((Ext.refl No (wu7)).drew).trans LE).toBelow;obtain ⟨_,e9,k9⟩:=AL.2.2.2.2.2.2.2.2.2.1;obtain ⟨_,e10,k10⟩:=AL.2.2.2.2.2.2.2.2.2.2.1;refine qe (τ:=[(6,.int .i64 (jy W top p 1).1),(7,.int .i64 (jy W top p 1).2)]) ⟨congrArg some e9,congrArg some e10,trivial⟩ ?_;clear AL AF AA AO;have EX:=Ext.of_below hbd No;refine yk ?_;exact ⟨by rw[hres];rfl,by rw[hres];exact B7.ext EX (fun h=>h.elim),hE7.step EX (fun _ h=>h.elim)⟩
      ·
       refine zk 97 (.bool false) rfl ((by congr 1;rw[beq_eq_false_iff_ne];omega:(.bool (((lkK W top p:Nat):Int)==13):Value)=_)) (yu ?_);by_cases k14:lkK W top p=14
       ·
        refine zk 97 (.bool true) rfl ((by rw[k14];rfl:(.bool (((lkK W top p:Nat):Int)==14):Value)=_)) ?_;have hB:lkB W top p=true:=by
         cases hb2:lkB W top p
         · have h9:lkK W top p=0:=by unfold lkK;rw[hb2];rfl
           omega
         · rfl
        have hres:hsW (qd W top) (n+1) p left=(jy W top p 1,left-1):=by
         rw[hsW_r h0 tn,if_neg (show ¬(qd W top).K p=6 from (show ¬lkK W top p=6 by omega)),if_pos (show (qd W top).K p=10∨(qd W top).K p=13∨(qd W top).K p=14∨(qd W top).K p=15 from (show lkK W top p=10∨lkK W top p=13∨lkK W top p=14∨lkK W top p=15 by omega))];show (jy W top p (if lkK W top p=10 then 0 else 1),left-1)=_
         rw[if_neg (by omega)]
        refine yk ?_;refine yv (No) Mut.none_ [] [] (jh [Fx.of (.pointer (some ⟨gk,0,none⟩)),
         Fx.of (.pointer (some ⟨gk,0,none⟩)),
         Fx.of (.pointer (some ⟨gk,0,none⟩)),
         Fx.of (.agg #[.slice A W.length c,.int .i64 ((top:Nat):Int)]),
         Fx.of (.int .i64 ((lkA p:Nat):Int)),
         Fx.of (.agg #[.int .i64 ((lkK W top p:Nat):Int),.int .i64 ((lkT W top p:Nat):Int),.int .i64 ((lkR W top p:Nat):Int)]),
         Fx.of (.tuple #[.int .i64 (jy W top p 1).1,.int .i64 (jy W top p 1).2]),
         Fx.of (.int .i64 (jy W top p 1).1),
         Fx.of (.int .i64 (jy W top p 1).2),
         Fx.of (.int .i64 (jy W top p 1).1),
         Fx.of (.int .i64 (jy W top p 1).2)]) qt rfl trivial (fun _ h=>by cases h) ?_ ?_
        · refine ⟨arm,arm,arm,?_,arm,?_,?_,arm,arm,arm,arm,trivial⟩
          · intro vs X wq K;have LE:=K.1;obtain ⟨_,e2,k2⟩:=K.dep 2 rfl rfl rfl;refine zc 103 _ rfl e2 ?_;exact qy (cs:=#[.slice A W.length c,.int .i64 ((top:Nat):Int)]) u24 rfl kr rfl rfl (vh (yh LE B7)) ⟨Below.refl _ _,Left.of rfl⟩
          · intro vs X wq K;have LE:=K.1;exact yy u68 rfl xj rfl (yh LE BP) rfl ⟨Below.refl _ _,Left.of rfl⟩
          · intro vs X wq K;have LE:=K.1;obtain ⟨_,e3,k3⟩:=K.dep 3 rfl rfl rfl;refine zc 104 _ rfl e3 ?_;obtain ⟨_,e4,k4⟩:=K.dep 4 rfl rfl rfl;refine zc 105 _ rfl e4 ?_;obtain ⟨_,e5,k5⟩:=K.dep 5 rfl rfl rfl;refine zc 106 _ rfl e5 (zd en66 rfl ((ytx _ A W c m top p (hM7.no ((Ext.refl No _).drew.trans LE)) hp 1 hB (by omega)).mono ?_));rintro e w2 ⟨rfl,hb⟩;exact ⟨_,rfl,hb,Left.of rfl⟩
        intro vs w11 LE AO AL AF AA;have hbd:Below (wu7).heap.size (wu7) w11:=(((Ext.refl No (wu7)).drew).trans LE).toBelow;obtain ⟨_,e9,k9⟩:=AL.2.2.2.2.2.2.2.2.2.1;obtain ⟨_,e10,k10⟩:=AL.2.2.2.2.2.2.2.2.2.2.1;refine qe (τ:=[(6,.int .i64 (jy W top p 1).1),(7,.int .i64 (jy W top p 1).2)]) ⟨congrArg some e9,congrArg some e10,trivial⟩ ?_;clear AL AF AA AO;have EX:=Ext.of_below hbd No;refine yk ?_;exact ⟨by rw[hres];rfl,by rw[hres];exact B7.ext EX (fun h=>h.elim),hE7.step EX (fun _ h=>h.elim)⟩
       ·
        refine zk 97 (.bool false) rfl ((by congr 1;rw[beq_eq_false_iff_ne];omega:(.bool (((lkK W top p:Nat):Int)==14):Value)=_)) (yb ?_);by_cases k15:lkK W top p=15
        ·
         refine zk 97 (.bool true) rfl ((by rw[k15];rfl:(.bool (((lkK W top p:Nat):Int)==15):Value)=_)) ?_;have hB:lkB W top p=true:=by
          cases hb2:lkB W top p
          · have h9:lkK W top p=0:=by unfold lkK;rw[hb2];rfl
            omega
          · rfl
         have hres:hsW (qd W top) (n+1) p left=(jy W top p 1,left-1):=by
          rw[hsW_r h0 tn,if_neg (show ¬(qd W top).K p=6 from (show ¬lkK W top p=6 by omega)),if_pos (show (qd W top).K p=10∨(qd W top).K p=13∨(qd W top).K p=14∨(qd W top).K p=15 from (show lkK W top p=10∨lkK W top p=13∨lkK W top p=14∨lkK W top p=15 by omega))];show (jy W top p (if lkK W top p=10 then 0 else 1),left-1)=_
          rw[if_neg (by omega)]
         refine zy ?_;refine yv (No) Mut.none_ [] [] (jh [Fx.of (.pointer (some ⟨gk,0,none⟩)),
          Fx.of (.pointer (some ⟨gk,0,none⟩)),
          Fx.of (.pointer (some ⟨gk,0,none⟩)),
          Fx.of (.agg #[.slice A W.length c,.int .i64 ((top:Nat):Int)]),
          Fx.of (.int .i64 ((lkA p:Nat):Int)),
          Fx.of (.agg #[.int .i64 ((lkK W top p:Nat):Int),.int .i64 ((lkT W top p:Nat):Int),.int .i64 ((lkR W top p:Nat):Int)]),
          Fx.of (.tuple #[.int .i64 (jy W top p 1).1,.int .i64 (jy W top p 1).2]),
          Fx.of (.int .i64 (jy W top p 1).1),
          Fx.of (.int .i64 (jy W top p 1).2),
          Fx.of (.int .i64 (jy W top p 1).1),
          Fx.of (.int .i64 (jy W top p 1).2)]) qt rfl trivial (fun _ h=>by cases h) ?_ ?_
         · refine ⟨arm,arm,arm,?_,arm,?_,?_,arm,arm,arm,arm,trivial⟩
           · intro vs X wq K;have LE:=K.1;obtain ⟨_,e2,k2⟩:=K.dep 2 rfl rfl rfl;refine zc 103 _ rfl e2 ?_;exact qy (cs:=#[.slice A W.length c,.int .i64 ((top:Nat):Int)]) u24 rfl kr rfl rfl (vh (yh LE B7)) ⟨Below.refl _ _,Left.of rfl⟩
           · intro vs X wq K;have LE:=K.1;exact yy u68 rfl xj rfl (yh LE BP) rfl ⟨Below.refl _ _,Left.of rfl⟩
           · intro vs X wq K;have LE:=K.1;obtain ⟨_,e3,k3⟩:=K.dep 3 rfl rfl rfl;refine zc 104 _ rfl e3 ?_;obtain ⟨_,e4,k4⟩:=K.dep 4 rfl rfl rfl;refine zc 105 _ rfl e4 ?_;obtain ⟨_,e5,k5⟩:=K.dep 5 rfl rfl rfl;refine zc 106 _ rfl e5 (zd en66 rfl ((ytx _ A W c m top p (hM7.no ((Ext.refl No _).drew.trans LE)) hp 1 hB (by omega)).mono ?_));rintro e w2 ⟨rfl,hb⟩;exact ⟨_,rfl,hb,Left.of rfl⟩
         intro vs w12 LE AO AL AF AA;have hbd:Below (wu7).heap.size (wu7) w12:=(((Ext.refl No (wu7)).drew).trans LE).toBelow;obtain ⟨_,e9,k9⟩:=AL.2.2.2.2.2.2.2.2.2.1;obtain ⟨_,e10,k10⟩:=AL.2.2.2.2.2.2.2.2.2.2.1;refine qe (τ:=[(6,.int .i64 (jy W top p 1).1),(7,.int .i64 (jy W top p 1).2)]) ⟨congrArg some e9,congrArg some e10,trivial⟩ ?_;clear AL AF AA AO;have EX:=Ext.of_below hbd No;refine yk ?_;exact ⟨by rw[hres];rfl,by rw[hres];exact B7.ext EX (fun h=>h.elim),hE7.step EX (fun _ h=>h.elim)⟩
        ·
         refine zk 97 (.bool false) rfl ((by congr 1;rw[beq_eq_false_iff_ne];omega:(.bool (((lkK W top p:Nat):Int)==15):Value)=_)) ?_;have hres:hsW (qd W top) (n+1) p left=((0,10),left-1):=by
          rw[hsW_r h0 tn,if_neg (show ¬(qd W top).K p=6 from k6),if_neg (show ¬((qd W top).K p=10∨(qd W top).K p=13∨(qd W top).K p=14∨(qd W top).K p=15) from fun h=>by rcases h with h | h | h | h<;>contradiction)]
         refine qo ?_;exact ⟨by rw[hres];rfl,by rw[hres];exact B7,hE7⟩
theorem ohs_any (gk m:Nat) (A:Option Addr) (W:List Nat) (c top:Nat):∀n,HsAt gk m A W c top n
 | 0=>ohs_step gk m A W c top 0 (fun k h=>by omega)
 | n+1=>ohs_step gk m A W c top (n+1) (fun k h=>by
  obtain rfl:k=n:=by omega
  exact ohs_any gk m A W c top k)
end Go.Proofs.YtebjkmjfcijebaaGreat
namespace Go.Proofs.YtebjkmjfcijebaaGreat
open Go.RowKit
set_option maxHeartbeats 20000000
attribute [local irreducible] OW RS CW EW
section
variable (w:World) (A:Option Addr) (W:List Nat) (c n top p q:Nat) (hM:MemA n w A W top) (hp:U64 p) (hq:U64 q)
include hM hp
theorem oequal_any (hq:U64 q):Calls Tryz.prog 12 #[xg A W c top,.int .u64 ((p:Nat):Int),.int .u64 ((q:Nat):Int)] w fun e w'=>e= .returned (.tuple #[.bool (eqT W top p q).1,.int .i64 (eqT W top p q).2])∧Below w.heap.size w w':=by
 refine zh Tryz.func12 rfl Tryz.ntmps12 rfl (zy ?_);refine za rfl (zn rfl ?_);rintro g1 wA B1 E1 G1;refine qa ?_;refine za rfl (zd en40 rfl ((yzk _ A W c n top p (hM.no E1) hp).mono ?_));rintro e w1 ⟨rfl,hb⟩;refine ⟨_,rfl,?_⟩;have E2:=Ext.of_below hb No;have hE2:=E1.trans E2;have B12:=B1.ext E2 (fun h=>h.elim);refine zy ?_;by_cases gp:gdW W top p=true
 ·
  refine zf 13 (.bool false) rfl ((by rw[gp];rfl:(.bool (!(gdW W top p)):Value)=_)) (zy ?_);refine onx rfl (zd en40 rfl ((yzk _ A W c n top q (hM.no hE2) hq).mono ?_));rintro e w2 ⟨rfl,hb⟩;refine ⟨_,rfl,?_⟩;have E3:=Ext.of_below hb No;have hEZ:=hE2.trans E3;have B1z:=B12.ext E3 (fun h=>h.elim);refine qb ?_;by_cases gq:gdW W top q=true
  ·
   refine zk 18 (.bool false) rfl ((by rw[gq];rfl:(.bool (!(gdW W top q)):Value)=_)) ?_;have hres:eqT W top p q=(eqW (qd W top) 40 p q 20000).1:=by unfold eqT;rw[gp,gq];rfl
   have hEZs:=hEZ.size;refine yb ?_;refine za rfl (ye (cs:=#[.slice A W.length c,.int .i64 ((top:Nat):Int),.int .i64 20000]) pl78 zr78 rfl rfl (za rfl (zn rfl ?_)));rintro gk wK BK0 EK GK;have BK:Blk wK gk 78 (wkC A W c top 20000):=BK0;have hEK:=hEZ.trans EK;have hnk:n≤gk:=by have:=hM.size;omega
   refine yx ?_;refine za rfl (zd en41 rfl ((oeq_any gk n A W c top 40 _ p q 20000 1 (by omega) hp hq (by omega) (hM.no hEK) hnk BK).mono ?_));rintro e w3 ⟨rfl,BR,ER⟩;refine ⟨_,rfl,(yx ?_)⟩;exact ⟨by rw[hres];rfl,((hEK.noL w.heap.size).step ER (fun x hx=>Or.inl (show w.heap.size≤x by have:=yj hx;omega))).below (fun _ h=>h)⟩
  ·
   refine zk 18 (.bool true) rfl ((by rw[Bool.eq_false_iff.2 gq];rfl:(.bool (!(gdW W top q)):Value)=_)) ?_;have hres:eqT W top p q=(false,1):=by unfold eqT;rw[Bool.eq_false_iff.2 gq,Bool.and_false];rfl
   refine zz ?_;exact ⟨by rw[hres];rfl,hEZ.toBelow⟩
 ·
  refine zf 13 (.bool true) rfl ((by rw[Bool.eq_false_iff.2 gp];rfl:(.bool (!(gdW W top p)):Value)=_)) ?_;have hres:eqT W top p q=(false,1):=by unfold eqT;rw[Bool.eq_false_iff.2 gp,Bool.false_and];rfl
  refine zhq ?_;exact ⟨by rw[hres];rfl,hE2.toBelow⟩
theorem ohash_any:Calls Tryz.prog 13 #[xg A W c top,.int .u64 ((p:Nat):Int)] w fun e w'=>e= .returned (.tuple #[.int .i64 (hsT W top p).1,.int .i64 (hsT W top p).2])∧Below w.heap.size w w':=by
 refine zh Tryz.func13 rfl Tryz.ntmps13 rfl (zy ?_);refine za rfl (zn rfl ?_);rintro g1 wA B1 E1 G1;refine qa ?_;refine za rfl (zd en40 rfl ((yzk _ A W c n top p (hM.no E1) hp).mono ?_));rintro e w1 ⟨rfl,hb⟩;refine ⟨_,rfl,?_⟩;have E2:=Ext.of_below hb No;have hEZ:=E1.trans E2;have B1z:=B1.ext E2 (fun h=>h.elim);refine qc ?_;by_cases gp:gdW W top p=true
 ·
  refine zk 10 (.bool false) rfl ((by rw[gp];rfl:(.bool (!(gdW W top p)):Value)=_)) ?_;have hres:hsT W top p=(hsW (qd W top) 40 p 20000).1:=by unfold hsT;rw[gp];rfl
  have hEZs:=hEZ.size;refine yb ?_;refine za rfl (ye (cs:=#[.slice A W.length c,.int .i64 ((top:Nat):Int),.int .i64 20000]) pl78 zr78 rfl rfl (za rfl (zn rfl ?_)));rintro gk wK BK0 EK GK;have BK:Blk wK gk 78 (wkC A W c top 20000):=BK0;have hEK:=hEZ.trans EK;have hnk:n≤gk:=by have:=hM.size;omega
  refine yu ?_;refine za rfl (zd en42 rfl ((ohs_any gk n A W c top 40 _ p 20000 1 (by omega) hp (by omega) (hM.no hEK) hnk BK).mono ?_));rintro e w2 ⟨rfl,BR,ER⟩;refine ⟨_,rfl,(yx ?_)⟩;exact ⟨by rw[hres];rfl,((hEK.noL w.heap.size).step ER (fun x hx=>Or.inl (show w.heap.size≤x by have:=yj hx;omega))).below (fun _ h=>h)⟩
 ·
  refine zk 10 (.bool true) rfl ((by rw[Bool.eq_false_iff.2 gp];rfl:(.bool (!(gdW W top p)):Value)=_)) ?_;have hres:hsT W top p=(0,1):=by unfold hsT;rw[Bool.eq_false_iff.2 gp];rfl
  refine zz ?_;exact ⟨by rw[hres];rfl,hEZ.toBelow⟩
end
section
variable (w:World) (A:Option Addr) (W:List Nat) (c n:Nat) (top:Int) (p q:Nat) (hw:WordsA n w A W) (htop:I64 top) (hn:n≤w.heap.size) (hp:U64 p) (hq:U64 q)
include hw htop hn hp hq
end
end Go.Proofs.YtebjkmjfcijebaaGreat
namespace Go.Proofs.YtebjkmjfcijebaaGreat
open Go.RowKit
/-! ### a string's words are read as its bytes -/
theorem pkN_byte (s:ByteArray) {j r:Nat} (hr:r<8):∀n,8*j+r<n→pkN s n j/2^(8*r)%256=ku s (8*j+r)
 | 0,h=>absurd h (Nat.not_lt_zero _)
 | n+1,h=>by
  rw[pkN];have hP:0<2^(8*r):=Nat.pow_pos (by decide);by_cases hn:n/8=j
  · rw[if_pos hn];have hA:=pkN_at s n;rw[hn] at hA;by_cases hrq:r=n%8
    · rw[←hrq] at hA ⊢;rw[Nat.add_mul_div_right _ _ hP,Nat.div_eq_of_lt hA,Nat.zero_add,show 8*j+r=n by omega];exact Nat.mod_eq_of_lt (byteN_lt s n)
    · have hnr:8*j+r<n:=by omega
      have ih:=pkN_byte s (j:=j) hr n hnr;have hnj:n=8*j+n%8:=by omega
      obtain ⟨d,hd⟩:∃d:Nat,n%8=r+(d+1):=⟨n%8-r-1,by omega⟩;have e:2^(8*(n%8))=2^(8*r)*(256*2^(8*d)):=by rw[hd,show 8*(r+(d+1))=8*r+(8+8*d) by omega,Nat.pow_add,Nat.pow_add]
      rw[e,show ku s n*(2^(8*r)*(256*2^(8*d)))=2^(8*r)*(256*(ku s n*2^(8*d))) by rw[Nat.mul_left_comm,Nat.mul_left_comm (ku s n) 256],Nat.add_mul_div_left _ _ hP,Nat.add_mul_mod_self_left];exact ih
  · rw[if_neg hn,Nat.add_zero];exact pkN_byte s (j:=j) hr n (by omega)
theorem pack_0 (s:ByteArray):wat (jo s) 0=s.size:=rfl
theorem byW_pack (s:ByteArray) {i:Nat} (h:i<s.size):(byW (jo s) i).toNat=ku s i:=by
 have e1:wat (jo s) (1+i/8)=pkN s s.size (i/8):=wat_of (pkL_at s (by omega));unfold byW;rw[e1,UInt8.toNat_ofNat'];have:=pkN_byte s (j:=i/8) (r:=i%8) (by omega) s.size (by omega);rw[show 8*(i/8)+i%8=i by omega] at this;exact this
theorem bytes_pack (s:ByteArray):jp (jo s)=s:=by
 cases s with
 | mk d=>
  unfold jp;congr 1
  refine Array.ext (by rw[List.size_toArray,List.length_map,List.length_range];rfl) fun i h1 h2=>?_;rw[List.getElem_toArray,List.getElem_map,List.getElem_range];have hs:i<(ByteArray.mk d).size:=h2;have h3:=byW_pack ⟨d⟩ hs;have h4:=byteN_some hs;have h5:d[i]? =some d[i]:=Array.getElem?_eq_getElem h2;rw[show (ByteArray.mk d).data[i]? =some d[i] from h5] at h4;have h6:d[i].toNat=ku ⟨d⟩ i:=Option.some.inj h4;exact UInt8.toNat_inj.1 (h3.trans h6.symm)
/-! ### the value that is taken -/
def PV.taken (v:PV):PV:=if v.k=3 then vFlt (yc v.bits) else v
theorem bare_bare (b:Nat):yc (yc b)=yc b:=by
 unfold yc;split
 · rw[if_pos (by decide)]
 · rfl
theorem qfz {s:ByteArray} (h:s.toList= []):s= ⟨#[]⟩:=by
 rw[ByteArray.toList_eq] at h;cases s with
 | mk d=>
  have h2:d.toList= []:=h;congr 1
  exact Array.toList_eq_nil_iff.1 h2
theorem PV.as {v:PV} (h:v.good=true):(v.k=0∧v=vNil)∨(v.k=1∧v=vBool v.yes)∨(v.k=2∧v=vInt v.neg v.xs∧yq v.neg v.xs=true)∨(v.k=3∧v=vFlt v.bits)∨(v.k=4∧v=vStr v.s∧v.s.size≤20000):=by
 have hk:=PV.kinds h;obtain ⟨k,yes,neg,xs,bits,s,ni⟩:=v;unfold PV.good at h;rcases hk with hk | hk | hk | hk | hk<;>(simp only at hk;subst hk;simp at h)
 · obtain ⟨h0,⟨⟨⟨h1,h2,h3⟩,h4⟩,h5⟩⟩:=h;exact Or.inl ⟨rfl,by subst h0 h1 h2 h3 h4;have hs:s= ⟨#[]⟩:=qfz h5;subst hs;rfl⟩
 · obtain ⟨h0,⟨⟨⟨h2,h3⟩,h4⟩,h5⟩⟩:=h;exact Or.inr (Or.inl ⟨rfl,by subst h0 h2 h3 h4;have hs:s= ⟨#[]⟩:=qfz h5;subst hs;rfl⟩)
 · obtain ⟨h0,⟨⟨⟨h2,h3⟩,h4⟩,h5⟩⟩:=h;exact Or.inr (Or.inr (Or.inl ⟨rfl,by subst h0 h3 h4;have hs:s= ⟨#[]⟩:=qfz h5;subst hs;rfl,h2⟩))
 · obtain ⟨h0,⟨⟨⟨h2,h3⟩,h4⟩,h5⟩⟩:=h;exact Or.inr (Or.inr (Or.inr (Or.inl ⟨rfl,by subst h0 h2 h3 h4;have hs:s= ⟨#[]⟩:=qfz h5;subst hs;rfl⟩)))
 · obtain ⟨h0,⟨⟨⟨⟨h2,h3⟩,h4⟩,h5⟩,h6⟩⟩:=h;exact Or.inr (Or.inr (Or.inr (Or.inr ⟨rfl,by subst h0 h2 h3 h4 h5;rfl,h6⟩)))
theorem PV.taken_as {v:PV} (h:v.good=true) (hk:v.k≠3):v.taken=v:=if_neg hk
theorem PV.taken_f {v:PV} (hk:v.k=3):v.taken=vFlt (yc v.bits):=if_pos hk
theorem rawO_put {v:PV} (h:v.good=true) (hb:v.big) (h64:v.bits<18446744073709551616):zox v.k.natAbs v.raw=some v.taken:=by
 rcases PV.as h with ⟨hk,_⟩ | ⟨hk,_⟩ | ⟨hk,e,hg⟩ | ⟨hk,e⟩ | ⟨hk,e,hs⟩
 · unfold PV.big at hb;omega
 · unfold PV.big at hb;omega
 · have hl:2≤v.xs.length:=by unfold PV.big at hb;omega
   have hr:v.raw=(if v.neg then 1 else 0)::v.xs:=by unfold PV.raw;rw[if_neg (by omega),if_neg (by omega)]
   have hw:wat v.raw 0=if v.neg then 1 else 0:=by rw[hr];rfl
   have hd:decide (wat v.raw 0=1)=v.neg:=by rw[hw];cases v.neg<;>decide
   have ht:v.raw.tail=v.xs:=by rw[hr];rfl
   rw[rawO_i ⟨by rw[hk];rfl,by rw[hr,List.length_cons];omega,by rw[hw];split<;>decide⟩,hd,ht,if_pos hg,PV.taken_as h (by omega),←e]
 · have hr:v.raw= [yc v.bits]:=if_pos hk;have hw:wat v.raw 0=yc v.bits:=by rw[hr];rfl
   rw[rawO_f ⟨by rw[hk];rfl,by rw[hr];rfl,by rw[hw,yiq (bare_lt h64),bare_bare]⟩,hw,PV.taken_f hk]
 · have hr:v.raw=jo v.s:=by unfold PV.raw;rw[if_neg (by omega),if_pos hk]
   rw[rawO_s ⟨by rw[hk];rfl,by rw[hr,zjq];omega,by rw[hr,pack_0];exact hs,by rw[hr,zjq,pack_0]⟩,hr];unfold qcz;rw[bytes_pack,if_pos rfl,PV.taken_as h (by omega),←e]
theorem raw_len {v:PV} (h:v.good=true):v.raw.length≤2502:=by
 rcases PV.as h with ⟨hk,e⟩ | ⟨hk,e⟩ | ⟨hk,e,hg⟩ | ⟨hk,e⟩ | ⟨hk,e,hs⟩
 · rw[e];decide
 · rw[e];cases v.yes<;>decide
 · have:=goodB_len hg;unfold PV.raw;rw[if_neg (by omega),if_neg (by omega),List.length_cons];omega
 · unfold PV.raw;rw[if_pos hk];exact Nat.le_trans (Nat.le_refl 1) (by decide)
 · unfold PV.raw;rw[if_neg (by omega),if_pos hk,zjq];omega
theorem takeO_lies {W:List Nat} {top a k:Nat} {R:List Nat} (ha:1≤a∧a<1048576) (hS:Seen W top a) (hh:wat W a=jr k 0 (2+0+R.length)) (hk:k<256) (hR:R.length<1000000) (hi:∀i,i<R.length→wat W (a+2+i)=wat R i):vm W top (4*a)=zox k R:=by
 have hw:zw (4*a)=0:=wkind_of ha;have ea:4*a/4=a:=by omega
 have hS':Seen W top (4*a/4):=by rw[ea];exact hS
 have e1:yf (wat W a)=k:=by rw[hh];exact ydz hk
 have e2:yg (wat W a)=0:=by rw[hh];exact yjx hk (by decide)
 have e3:zt (wat W a)=2+0+R.length:=by rw[hh];exact zbv hk (by decide) (by omega)
 have hT:lkT W top (4*a)=0:=by rw[lkT_yes hw hS',ea,e2]
 rw[takeO_raw (by omega) (by omega) ⟨ytv hw hS',hT⟩,lkK_yes hw hS',lkR_yes hw hS',ea,e1,e2,e3,show 2+0+R.length-2-0=R.length by omega];congr 1
 refine List.ext_getElem? fun i=>?_;by_cases h:i<R.length
 · rw[yfq h,getW_in (by rw[e3];omega),hi i h,ke h]
 · rw[List.getElem?_eq_none (by rw[oh];omega),List.getElem?_eq_none (by omega)]
theorem num_small {neg:Bool} {xs:List Nat} (h:yq neg xs=true):decide (num neg xs<0)=neg:=by
 obtain ⟨i,e1,e2,e3⟩:=yjq h;have e:num neg xs=i:=by rw[e1,e2,ja]
 rw[e,e1]
theorem smallW_kind {n:Int} (h:-999999999999999999≤n∧n≤999999999999999999):zw (zdz n)=1∧zzv (zdz n)=n:=by
 have hw:zzv (zdz n)=n∧zdz n%4=1:=by
  unfold zdz;split
  · rw[zkv (by omega)];omega
  · rw[wnum_big (by omega)];omega
 exact ⟨by rw[ziq hw.2,hw.1,if_pos ⟨h.2,h.1⟩],hw.1⟩
theorem form_put {v:PV} {W W':List Nat} {t t' x:Nat} {e:Int} {l:List Nat} (hF:FormL W t l) (h:PutCase v W t x e W' t'):(∃l',FormL W' t' l')∧ymk W W' t∧t≤t'∧W'.length=W.length:=by
 cases h with
 | bad _=>exact ⟨⟨l,hF⟩,fun _ _=>rfl,Nat.le_refl _,rfl⟩
 | small _ _ _=>exact ⟨⟨l,hF⟩,fun _ _=>rfl,Nat.le_refl _,rfl⟩
 | full _ _ _=>exact ⟨⟨l,hF⟩,fun _ _=>rfl,Nat.le_refl _,rfl⟩
 | laid hg hb hf=>
  have hk:2≤v.k.natAbs∧v.k.natAbs<256:=by unfold PV.big at hb;omega
  exact ⟨⟨_,hF.laid (tagged:=[]) (raw:=v.raw) hf (by omega) hk.2 (fun w hw=>by cases hw)⟩,laid_lt (tagged:=[]) hf,by omega,zbq (tagged:=[]) hf⟩
theorem takeO_put {v:PV} {W W' V:List Nat} {t t' s x:Nat} {l:List Nat} (hF:FormL W t l) (h64:v.bits<18446744073709551616) (h:PutCase v W t x 0 W' t') (hA:ymk W' V t') (hs:t'≤s) (hl:s≤V.length) (hV:V.length=W.length):vm V s x=some v.taken:=by
 have hm:=hF.most;have h1:=hF.one;cases h with
 | small hg hb hx=>
  rcases PV.as hg with ⟨hk,e⟩ | ⟨hk,e⟩ | ⟨hk,e,hgb⟩ | ⟨hk,e⟩ | ⟨hk,e,_⟩
  · have hx2:x=2:=by rw[hx];exact if_pos hk
    rw[PV.taken_as hg (by omega),hx2,qfx (by decide),if_pos rfl,←e]
  · have hx2:x=if v.yes then 10 else 6:=by rw[hx];unfold PV.small;rw[if_neg (by omega),if_pos hk]
    rw[PV.taken_as hg (by omega)];cases hy:v.yes
    · rw[hy] at hx2 e;rw[show x=6 from hx2,qfx (by decide),if_neg (by decide),if_pos rfl,←e]
    · rw[hy] at hx2 e;rw[show x=10 from hx2,qfx (by decide),if_neg (by decide),if_neg (by decide),if_pos rfl,←e]
  · have hx2:x=zdz (num v.neg v.xs):=by rw[hx];unfold PV.small;rw[if_neg (by omega),if_neg (by omega)]
    have hl2:v.xs.length<2:=by unfold PV.big at hb;omega
    obtain ⟨s1,s2,_⟩:=yxv hgb hl2;obtain ⟨k1,k2⟩:=smallW_kind ⟨s1,s2⟩;rw[PV.taken_as hg (by omega),hx2,takeO_1 k1,qhk k1,k2,num_small hgb,limbs_num hgb,←e]
  · unfold PV.big at hb;omega
  · unfold PV.big at hb;omega
 | laid hg hb hf=>
  have hk:2≤v.k.natAbs∧v.k.natAbs<256:=by unfold PV.big at hb;omega
  have hr:=raw_len hg;have hS:=(laid_seen (T:=[]) (R:=v.raw) (k:=v.k.natAbs) h1 (by omega) hk.2 hf hm).1.agree hA hs hl;have hh:wat V t=jr v.k.natAbs 0 (2+0+v.raw.length):=(hA t (by omega)).trans (ou (tagged:=[]) hf);rw[takeO_lies (R:=v.raw) ⟨h1,by omega⟩ hS hh hk.2 (by omega) (fun i hi=>(hA (t+2+i) (by omega)).trans (yiv (tagged:=[]) hf (ke hi)))];exact rawO_put hg hb h64
theorem ypk {v:PV} (h:v.good=true):v.taken.good=true:=by
 by_cases hk:v.k=3
 · rw[PV.taken_f hk];unfold PV.good vFlt;simp
 · rw[PV.taken_as h hk];exact h
theorem cmpO_self (b:Bool) (i:Int):cmpO b i i=0:=by
 unfold cmpO xy;split
 · rw[if_neg (Int.lt_irrefl i)];exact if_neg (Int.lt_irrefl i)
 · rfl
theorem same_taken {v:PV} (h:v.good=true) (h64:v.bits<18446744073709551616):zhk v.taken v=true:=by
 have hg:=ypk h;by_cases hk:v.k=3
 · have hkt:v.taken.k=3:=by rw[PV.taken_f hk];rfl
   have hbt:v.taken.bits=yc v.bits:=by rw[PV.taken_f hk];rfl
   unfold zhk;rw[hg,h,hkt,hk];rw[hbt,neg_bare h64];simp
 · rw[PV.taken_as h hk];unfold zhk;rw[h,cmpO_self];simp[hk]
theorem eq_taken {v:PV} (h:v.good=true):eqV v.taken v.taken=eqV v v:=by
 by_cases hk:v.k=3
 · by_cases hn:isN v.bits=true
   · have hn2:isN (yc v.bits)=true:=by unfold yc;rw[if_pos hn];decide
     have e1:zsz v v=false:=by unfold zsz jd;rw[if_pos hk,if_pos hk,hn];rfl
     have e2:zsz v.taken v.taken=false:=by
      have hkt:v.taken.k=3:=by rw[PV.taken_f hk];rfl
      have hbt:v.taken.bits=yc v.bits:=by rw[PV.taken_f hk];rfl
      unfold zsz jd;rw[if_pos hkt,if_pos hkt,hbt,hn2];rfl
     have f1:eqV v v=false:=by unfold eqV;rw[e1,hk,h];rfl
     have f2:eqV v.taken v.taken=false:=by
      have hkt:v.taken.k=3:=by rw[PV.taken_f hk];rfl
      unfold eqV;rw[e2,hkt,ypk h];rfl
     rw[f1,f2]
   · have e:v.taken=v:=by
      rcases PV.as h with ⟨h0,_⟩ | ⟨h0,_⟩ | ⟨h0,_,_⟩ | ⟨h0,e⟩ | ⟨h0,_,_⟩<;>first | omega | skip
      rw[PV.taken_f hk,show yc v.bits=v.bits from if_neg hn];exact e.symm
     rw[e]
 · rw[PV.taken_as h hk]
end Go.Proofs.YtebjkmjfcijebaaGreat
