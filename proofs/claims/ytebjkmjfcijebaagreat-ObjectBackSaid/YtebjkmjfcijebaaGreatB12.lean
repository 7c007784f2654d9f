/- Texts of this claim. -/
import Derived.Test.YtebjkmjfcijebaaGreatB11
import Derived.Laws.StructEq
set_option maxRecDepth 100000
namespace Go.Proofs.YtebjkmjfcijebaaGreat
open Go.RowKit
def PlainV (P:Program) (t:TypeId) (v:Value):Prop:=(∃k k' n,P.underlying t=some (.int k')∧v= .int k n)∨(∃s,P.underlying t=some .string∧v= .string s)
section
variable {P:Program} {w:World}
theorem ybx {t:TypeId} {xs:Array Value} {off:Nat} {v:Value} (hx:xs[off]? =some v) (h:PlainV P t v):(part t xs off).run P w= .ok v w:=by
 rcases h with ⟨k,k',n,hu,rfl⟩ | ⟨s,hu,rfl⟩<;>simp[part,isAgg,run_underlying hu,hx]
theorem same_plainV {t:TypeId} {v:Value} (d:Nat) (h:PlainV P t v):(Op.equalIn (d+1) t v v).run P w= .ok true w:=by
 rcases h with ⟨k,k',n,hu,rfl⟩ | ⟨s,hu,rfl⟩
 · rw[run_equalIn_int w d t k k' n n hu,beq_self_eq_true]
 · rw[run_equalIn_string w d t s s hu,beq_self_eq_true]
theorem ymz {xs:Array Value} (d:Nat):∀(fs:List Field),(∀q∈fs.map (fun f=>(f.type,f.offset)),∃v,xs[q.2]? =some v∧PlainV P q.1 v)→(Op.eqFields (d+1) xs xs fs).run P w= .ok true w
 | [],_=>by simp[Op.eqFields]
 | f::fs,h=>by
  obtain ⟨v,hv,hp⟩:=h (f.type,f.offset) (by simp);have ih:=ymz d fs fun q hq=>h q (by simp only[List.map_cons,List.mem_cons];exact Or.inr hq);rw[Op.eqFields];split
  · simp only[Sem.run_bind,ybx hv hp,Result.andThen_ok,same_plainV d hp,Bool.not_true,Bool.false_eq_true,if_false]
    exact ih
  · exact ih
def PlainS (P:Program) (T:TypeId) (cs:Array Value):Prop:=P.underlying T=some (.struct (P.fieldsOf T))∧P.stoodInHeld T=false∧P.eqGuardType P.depth T=false∧ ∀q∈(P.fieldsOf T).toList.map (fun f=>(f.type,f.offset)),∃v,cs[q.2]? =some v∧PlainV P q.1 v
theorem run_same {T:TypeId} {cs:Array Value} (h:PlainS P T cs):(Op.equal T (.agg cs) (.agg cs)).run P w= .ok true w:=by
 unfold Op.equal;rw[show Op.maxDepth=9998+1+1 from rfl,run_equalIn_struct w (9998+1) T cs cs h.1 h.2.1];exact ymz 9998 _ h.2.2.2
variable {N:Nat} {ops:Array Oper} {Q:Exit→Act→World→Prop} {σ:Env} {ty:TypeId} {pos:String} {af:Array Edge} {dst:Option Nat} {Post:Value→World→Prop}
theorem ow_neqR {T U:TypeId} {x y:Operand} {cs:Array Value} (h:PlainS P T cs) (hx:ev σ x=some (.agg cs)) (hy:ev σ y=some (.agg cs)) (k:Post (.bool false) w):OW P N ops Q ⟨dst,.binOp .neq T x y U,ty,pos,af,none⟩ σ w Post:=
 yw (fun ρ ha=>by
  have e:=run_same (w:=w) h;simp only[execOp,ha hx,ha hy,eqGuard,binOp]
  simp[e,bne,go_sem,h.2.2.1]) k
end
/-! ### the structs of a function -/
theorem zoq (a b c:Int):PlainS Tryz.prog 68 #[.int .i64 a,.int .i64 b,.int .i64 c]:=by
 refine ⟨by kernel_rfl,by kernel_rfl,by kernel_rfl,fun q hq=>?_⟩;rw[show ((Tryz.prog.fieldsOf 68).toList.map (fun f=>(f.type,f.offset)))= [(3,0),(3,1),(3,2)] by kernel_rfl] at hq;simp only[List.mem_cons,List.not_mem_nil,or_false] at hq
 rcases hq with rfl | rfl | rfl<;>exact ⟨_,rfl,Or.inl ⟨_,_,_,Tryz.underlying3,rfl⟩⟩
end Go.Proofs.YtebjkmjfcijebaaGreat
namespace Go.Proofs.YtebjkmjfcijebaaGreat
open Go.RowKit
set_option maxHeartbeats 20000000
attribute [local irreducible] OW RS CW EW
theorem zkk (n:Nat):ym (List.replicate n 0)=List.replicate n (.int .u64 0):=by unfold ym;rw[List.map_replicate];rfl
theorem mcopy_any (w:World) (A:Option Addr) (W:List Nat) (c n:Nat) (top:Int) (hw:WordsA n w A W):Calls Tryz.prog 6 #[.agg #[.slice A W.length c,.int .i64 top]] w fun e w'=>(∃A' c',e= .returned (.agg #[.slice A' W.length c',.int .i64 top])∧w'.ownsRow w.heap.size 27 1 (.slice A' W.length c') W.length (ym W))∧Below w.heap.size w w':=by
 have hwl:=hw.len;refine zh Tryz.func6 rfl Tryz.ntmps6 rfl (zy ?_);refine za rfl (zn rfl ?_);rintro g1 wA B1 E1 G1;refine za rfl (zp zr24 ?_);rintro g2 wB B2 E2 G2;have hE:=E1.trans E2;have hs1:=E1.size;have B1b:=B1.ext E2 (fun h=>h.elim);have hwB:=hw.no hE;have hsB:=hE.size;have h2l:=B2.lt;refine qc ?_;refine zcz qt (zck 7 rfl ?_);refine zux (No) Mut.none_ [] [] (jh [⟨Nat,fun gz=>.slice (some ⟨gz,0,none⟩) 0 0,fun gz b=>(Blk b gz 27 #[]∧wB.heap.size≤gz)⟩,
  Fx.of (.pointer (some ⟨g1,0,none⟩)),
  Fx.of (.slice A W.length c),
  ⟨(Option Addr×Nat),fun (A5,c5)=>.slice A5 W.length c5,fun (A5,c5) b=>(b.ownsRow wB.heap.size 27 1 (.slice A5 W.length c5) W.length (ym W))⟩,
  Fx.of (.pointer (some ⟨g1,1,none⟩)),
  Fx.of (.int .i64 top),
  ⟨(Option Addr×Nat),fun (A5,c5)=>.agg #[.slice A5 W.length c5,.int .i64 top],fun (A5,c5) b=>(b.ownsRow wB.heap.size 27 1 (.slice A5 W.length c5) W.length (ym W))⟩]) rfl trivial (fun _ h=>by cases h) ?_ ?_
 · refine ⟨?_,arm,?_,?_,arm,?_,?_,trivial⟩
   · intro vs X wq K;have LE:=K.1;have XN:=K.2.1;refine ow_build0 u22 qk zr27 ?_;intro gz w5 Bz hb Gz;exact ⟨hb,⟨gz,rfl,(Per.blk Bz (fun hx=>by have:=XN gz hx;omega)).and (fun _ _=>Nat.le_trans LE.size Gz)⟩⟩
   · intro vs X wq K;have LE:=K.1;obtain ⟨_,e1,k1⟩:=K.dep 1 rfl rfl rfl;refine zc 4 _ rfl e1 ?_;exact zl u22 rfl rfl (yh LE B1b) rfl ⟨Below.refl _ _,Left.of rfl⟩
   · intro vs X wq K;have LE:=K.1;have XN:=K.2.1;obtain ⟨gz,e0,k0⟩:=K.dep 0 rfl rfl rfl;refine zc 3 _ rfl e0 ?_;obtain ⟨_,e2,k2⟩:=K.dep 2 rfl rfl rfl;refine zc 5 _ rfl e2 (ow_appendE u22 ymx rfl (by decide) rfl rfl ((hwB.no ((Ext.refl No _).drew.trans LE)).reads (Nat.le_refl _)) ynx (by unfold maxLen;omega) (by omega) ?_);intro A5 c5 w6 hb ho5;exact ⟨hb,⟨(A5,c5),rfl,Per.zown k0 hb XN (show wB.heap.size≤_ from LE.size) ho5⟩⟩
   · intro vs X wq K;have LE:=K.1;obtain ⟨_,e4,k4⟩:=K.dep 4 rfl rfl rfl;refine zc 7 _ rfl e4 ?_;exact zl Tryz.underlying3 rfl rfl (yh LE B1b) rfl ⟨Below.refl _ _,Left.of rfl⟩
   · intro vs X wq K;obtain ⟨⟨A5,c5⟩,e3,k3⟩:=K.dep 3 rfl rfl rfl;refine zc 6 _ rfl e3 ?_;obtain ⟨_,e5,k5⟩:=K.dep 5 rfl rfl rfl;refine zc 8 _ rfl e5 ?_;exact ye (cs:=#[.slice A5 W.length c5,.int .i64 top]) pl24 zr24 rfl rfl ⟨Below.refl _ _,⟨⟨A5,c5⟩,rfl,(k3.map (fun _ h=>h))⟩⟩
 intro vs w1 LE AO AL AF AA;have hbd:Below (wB).heap.size (wB) w1:=(((Ext.refl No (wB)).drew).trans LE).toBelow;obtain ⟨⟨A5,c5⟩,e6,k6⟩:=AL.2.2.2.2.2.2.1;have Wc3:=k6.here;refine qe (τ:=[(2,_),(9,.agg #[.slice A5 W.length c5,.int .i64 top])]) ⟨rfl,congrArg some e6,trivial⟩ ?_;clear AL AF AA AO;refine zov (gn (by kernel_rfl) (fun _ _ d_ _ _ h=>by cases d_<;>exact h) ?_);have hEd:=Ext.of_below hbd No;have B2d:=B2.ext hEd (fun h=>h.elim);refine zq (zm kr rfl rfl B2d rfl rfl rfl ?_);rintro wC B2e E4;have hO:=zlv Wc3 B2d (by decide) E4;refine qc ?_;refine vc (rs:=[.cell 2 24]) (vs:=[_]) rfl ⟨⟨_,rfl,xd u24 rfl kr B2e rfl⟩,trivial⟩ ?_;exact ⟨⟨A5,c5,rfl,yhz hO hsB⟩,(((hE.trans hEd).noL w.heap.size).step E4 (fun q hq=>Or.inl (show w.heap.size≤q by have:=yj hq;omega))).below (fun _ h=>h)⟩
structure IsList (W:List Nat) (top x n bk:Nat):Prop where
 kind:zw x=0
 seen:Seen W top (x/4)
 five:yf (wat W (x/4))=5
 two:yg (wat W (x/4))=2
 four:zt (wat W (x/4))=4
 num:wat W (x/4+2)=4*n+1
 most:n≤20000
 blk:wat W (x/4+3)=bk
 none_:bk=2→n=0
 some_:bk≠2→zw bk=0∧Seen W top (bk/4)∧yf (wat W (bk/4))=11∧yg (wat W (bk/4))=n
section
variable (w:World) (A:Option Addr) (W:List Nat) (c m top x n bk:Nat) (hM:MemA m w A W top) (hx:U64 x) (hL:IsList W top x n bk)
include hM hx hL
theorem alist_any:Calls Tryz.prog 47 #[xg A W c top,.int .u64 ((x:Nat):Int)] w fun e w'=>e= .returned (.tuple #[.int .i64 ((x/4:Nat):Int),.int .i64 ((n:Nat):Int),.int .i64 ((if bk=2 then 0 else bk/4:Nat):Int),.int .i64 ((n:Nat):Int),.bool true])∧Below w.heap.size w w':=by
 have hn:=hL.most;have hbu:U64 bk:=by rw[←hL.blk];exact zax hM.words.in_ _
 have e5:zt (wat W (x/4))-2-yg (wat W (x/4))=0:=by rw[hL.two,hL.four]
 have h4:=hL.four;have hlook:∀(z:World),Ext No w z→Calls Tryz.prog 34 #[xg A W c top,.int .u64 ((x:Nat):Int)] z fun e w'=>e= .returned (.tuple #[.int .i64 ((x/4:Nat):Int),.agg #[.int .i64 5,.int .i64 2,.int .i64 0],.bool true])∧Below z.heap.size z w':=fun z hz=>by
  have:=zsk z A W c m top x (hM.no hz) hx hL.kind hL.seen;rw[hL.five,e5,hL.two] at this;exact this
 refine zh Tryz.func47 rfl Tryz.ntmps47 rfl (zy ?_);refine za rfl (zn rfl ?_);rintro g1 wA B1 E1 G1;have hs1:=E1.size;refine yt ?_;refine za rfl (zd ykv rfl ((hlook _ E1).mono ?_));rintro e w1 ⟨rfl,hb⟩;refine ⟨_,rfl,?_⟩;have E2:=E1.trans (Ext.of_below hb No);have B12:=B1.ext (Ext.of_below hb No) (fun h=>h.elim);have hs2:=(Ext.of_below hb No).size;refine qb ?_;refine za rfl (zp og ?_);rintro g9 wB B9 E3 G9;refine stp ?_;refine zq (zm xj rfl rfl B9 rfl rfl rfl ?_);rintro wC B9a E4;have hEC:=((E2.trans E3).noL w.heap.size).step E4 (fun q hq=>Or.inl (show w.heap.size≤q by have:=yj hq;omega));have h1l:=B1.lt;have B13:Blk wC g1 24 #[.slice A W.length c,.int .i64 ((top:Nat):Int)]:=(B12.ext E3 (fun h=>h.elim)).ext E4 (fun h=>by have:=yj h;omega);have hMC:=hM.low ⟨hEC,fun q hq=>Nat.le_trans hM.size hq⟩;obtain ⟨wu1,hwu1⟩:∃wu1,wu1=wC:=⟨_,rfl⟩;subst hwu1;refine zz ?_;refine onx rfl (ye (cs:=#[.int .i64 5,.int .i64 2,.int .i64 0]) pl68 og rfl rfl (onx rfl (ow_neqR (zoq _ _ _) rfl rfl (zz ?_))));refine za rfl (zd en35 rfl ((ycz _ A W c m top (x/4) hMC hL.seen 0 (by omega)).mono ?_));rintro e w2 ⟨rfl,hb⟩;refine ⟨_,rfl,?_⟩;have E5:=Ext.of_below hb No;refine zf 32 (.int .u64 ((4*n+1:Nat):Int)) rfl ((by rw[←hL.num]:(.int .u64 ((wat W (x/4+2+0):Nat):Int):Value)=_)) (za rfl (zd en31 rfl ((num_any _ (4*n+1) (by unfold U64;omega) (by rw[ziq (by omega),zkv (by omega),if_pos (by omega)]) (by omega)).mono ?_)));rintro e w3 ⟨rfl,hb⟩;refine ⟨_,rfl,(zf 33 (.tuple #[.int .i64 ((n:Nat):Int),.int .i64 0]) rfl ((by rw[zkv (by omega),show (4*n+1)/4=n by omega]:(.tuple #[.int .i64 (zzv (4*n+1)),.int .i64 0]:Value)=_)) ?_)⟩;have E6:=E5.trans (Ext.of_below hb No);have B14:=B13.ext E6 (fun h=>h.elim);refine xm ?_
 refine zk 41 (.bool false) rfl ((by rw[decide_eq_false];omega:(.bool (decide (((n:Nat):Int)<0)):Value)=_)) (yx ?_);refine za rfl (zd en35 rfl ((ycz _ A W c m top (x/4) (hMC.no E6) hL.seen 1 (by omega)).mono ?_));rintro e w4 ⟨rfl,hb⟩;refine ⟨_,rfl,(zf 44 (.int .u64 ((bk:Nat):Int)) rfl ((by rw[←hL.blk]:(.int .u64 ((wat W (x/4+2+1):Nat):Int):Value)=_)) ?_)⟩;have E7:=E6.trans (Ext.of_below hb No);have B15:=B13.ext E7 (fun h=>h.elim);refine qa ?_;by_cases hb2:bk=2
 ·
  refine zk 46 (.bool false) rfl ((by rw[hb2];rfl:(.bool (((bk:Nat):Int) !=2):Value)=_)) ?_;have hn0:=hL.none_ hb2;refine xl ?_;refine ew_set 8 (.bool true) rfl ((by rw[hn0];rfl:(.bool (decide (((n:Nat):Int)≤0)):Value)=_)) (vc (rs:=[.tmp 4,.tmp 5,.tmp 6,.tmp 7,.tmp 8]) (vs:=[_,_,_,_,_]) rfl ⟨rfl,rfl,rfl,rfl,rfl,trivial⟩ ?_);exact ⟨by rw[if_pos hb2,hn0];rfl,(hEC.step E7 (fun _ h=>h.elim)).below (fun _ h=>h)⟩
 ·
  refine zk 46 (.bool true) rfl ((by congr 1;rw[bne_iff_ne];omega:(.bool (((bk:Nat):Int) !=2):Value)=_)) ?_;obtain ⟨hk,hS,h11,htn⟩:=hL.some_ hb2;refine yk ?_;refine za rfl (zd ykv rfl ((zsk _ A W c m top bk (hMC.no E7) hbu hk hS).mono ?_));rintro e w5 ⟨rfl,hb⟩;refine ⟨_,rfl,?_⟩;have E8:=E7.trans (Ext.of_below hb No);have hs8:=E8.size;have hsc:=hEC.size;refine qb ?_;refine za rfl (zp og ?_);rintro g13 wD Bd E9 Gd;refine stp ?_;refine zq (zm xj rfl rfl Bd rfl rfl rfl ?_);rintro wE Be E10;have hEE:=(hEC.step (E8.trans E9) (fun _ h=>h.elim)).step E10 (fun q hq=>Or.inl (show w.heap.size≤q by have:=yj hq;omega));have Bf:Blk wE g13 68 #[.int .i64 11,.int .i64 ((n:Nat):Int),.int .i64 ((zt (wat W (bk/4))-2-n:Nat):Int)]:=by
   rw[h11,htn] at Be;exact Be
  refine xm ?_;refine yv (No) Mut.none_ [] [] (jh [Fx.of (.int .i64 ((bk/4:Nat):Int)),
   Fx.of (.pointer (some ⟨g13,1,none⟩)),
   Fx.of (.int .i64 ((n:Nat):Int)),
   Fx.of (.int .i64 ((bk/4:Nat):Int)),
   Fx.of (.int .i64 ((n:Nat):Int))]) qt rfl trivial (fun _ h=>by cases h) ?_ ?_
  · refine ⟨arm,arm,?_,arm,arm,trivial⟩
    · intro vs X wq K;have LE:=K.1;obtain ⟨_,e1,k1⟩:=K.dep 1 rfl rfl rfl;refine zc 62 _ rfl e1 ?_;exact zl Tryz.underlying3 rfl rfl (yh LE Bf) rfl ⟨Below.refl _ _,Left.of rfl⟩
  intro vs w6 LE AO AL AF AA;have hbd:Below (wE).heap.size (wE) w6:=(((Ext.refl No (wE)).drew).trans LE).toBelow;obtain ⟨_,e3,k3⟩:=AL.2.2.2.1;obtain ⟨_,e4,k4⟩:=AL.2.2.2.2.1;refine qe (τ:=[(4,_),(5,_),(6,.int .i64 ((bk/4:Nat):Int)),(7,.int .i64 ((n:Nat):Int)),(8,_)]) ⟨rfl,rfl,congrArg some e3,congrArg some e4,rfl,trivial⟩ ?_;clear AL AF AA AO;refine xm ?_;refine ew_set 8 (.bool true) rfl ((by rw[decide_eq_true (Int.le_refl _)]:(.bool (decide (((n:Nat):Int)≤((n:Nat):Int))):Value)=_)) (vc (rs:=[.tmp 4,.tmp 5,.tmp 6,.tmp 7,.tmp 8]) (vs:=[_,_,_,_,_]) rfl ⟨rfl,rfl,rfl,rfl,rfl,trivial⟩ ?_);exact ⟨by rw[if_neg hb2];rfl,(hEE.step (Ext.of_below hbd No) (fun _ h=>h.elim)).below (fun _ h=>h)⟩
end
structure HasItems (W:List Nat) (top x:Nat) (T:List Nat):Prop where
 kind:zw x=0
 seen:Seen W top (x/4)
 or:(yf (wat W (x/4))=6∧yg (wat W (x/4))=T.length∧ ∀i v,T[i]? =some v→wat W (x/4+2+i)=v)∨(∃bk,IsList W top x T.length bk∧ ∀i v,T[i]? =some v→wat W (bk/4+2+i)=v)
section
variable (w:World) (A:Option Addr) (W T:List Nat) (c m top x:Nat) (hM:MemA m w A W top) (hx:U64 x) (hI:HasItems W top x T)
include hM hx hI
set_option maxHeartbeats 20000000 in
theorem items_any:Calls Tryz.prog 18 #[xg A W c top,.int .u64 ((x:Nat):Int)] w fun e w'=>(∃g,e= .returned (.tuple #[.slice (some ⟨g,0,none⟩) T.length T.length,.int .i64 0])∧Blk w' g 27 (ym T).toArray∧w.heap.size≤g)∧Below w.heap.size w w':=by
 have hWl:=hM.most;have hT:∀v∈T,U64 v:=fun v hv=>by
  obtain ⟨i,hi⟩:=List.mem_iff_getElem?.1 hv;rcases hI.or with ⟨_,_,h⟩ | ⟨bk,_,h⟩
  · rw[←h i v hi];exact zax hM.words.in_ _
  · rw[←h i v hi];exact zax hM.words.in_ _
 refine zh Tryz.func18 rfl Tryz.ntmps18 rfl (zy ?_);refine za rfl (zn rfl ?_);rintro g1 wA B1 E1 G1;have hs1:=E1.size;refine yx ?_;refine za rfl (zd ykv rfl ((zsk _ A W c m top x (hM.no E1) hx hI.kind hI.seen).mono ?_));rintro e w1 ⟨rfl,hb⟩;refine ⟨_,rfl,?_⟩;have E2:=E1.trans (Ext.of_below hb No);have B12:=B1.ext (Ext.of_below hb No) (fun h=>h.elim);have hs2:=(Ext.of_below hb No).size;refine qb ?_;refine za rfl (zp og ?_);rintro g7 wB B7 E3 G7;refine stp ?_;refine zq (zm xj rfl rfl B7 rfl rfl rfl ?_);rintro wC B7a E4;have B7b:Blk wC g7 68 #[.int .i64 ((yf (wat W (x/4)):Nat):Int),.int .i64 ((yg (wat W (x/4)):Nat):Int),.int .i64 ((zt (wat W (x/4))-2-yg (wat W (x/4)):Nat):Int)]:=B7a;have hEC:=((E2.trans E3).noL w.heap.size).step E4 (fun q hq=>Or.inl (show w.heap.size≤q by have:=yj hq;omega));have h1l:=B1.lt;have B13:Blk wC g1 24 #[.slice A W.length c,.int .i64 ((top:Nat):Int)]:=(B12.ext E3 (fun h=>h.elim)).ext E4 (fun h=>by have:=yj h;omega);have hMC:=hM.low ⟨hEC,fun q hq=>Nat.le_trans hM.size hq⟩;obtain ⟨wu1,hwu1⟩:∃wu1,wu1=wC:=⟨_,rfl⟩;subst hwu1;refine stp27 ?_;obtain ⟨from_,hfrom⟩:∃f:Nat,f=if yf (wat W (x/4))=6 then x/4 else wat W (x/4+3)/4:=⟨_,rfl⟩
 have hget:∀i v,T[i]? =some v→Seen W top from_∧i+2<zt (wat W from_)∧wat W (from_+2+i)=v∧v<18446744073709551616:=fun i v hi=>by
  have hil:=(List.getElem?_eq_some_iff.1 hi).1;have hv:v<18446744073709551616:=hT v (List.mem_of_getElem? hi);rcases hI.or with ⟨h6,ht,h⟩ | ⟨bk,hL,h⟩
  · rw[if_pos h6] at hfrom;rw[hfrom];have:=hI.seen.fit;exact ⟨hI.seen,by omega,h i v hi,hv⟩
  · rw[hL.five,if_neg (by decide),hL.blk] at hfrom;rw[hfrom];by_cases hb:bk=2
    · have:=hL.none_ hb;omega
    · obtain ⟨_,hS,_,ht⟩:=hL.some_ hb;have:=hS.fit;exact ⟨hS,by omega,h i v hi,hv⟩
 have hTl:T.length≤1048576:=by
  rcases hI.or with ⟨h6,ht,h⟩ | ⟨bk,hL,h⟩
  · have:=hI.seen.fit;have:=hI.seen.room;have:=hI.seen.len;omega
  · have:=hL.most;omega
 refine qc ?_;by_cases h6:yf (wat W (x/4))=6
 ·
  have ht:yg (wat W (x/4))=T.length:=by
   rcases hI.or with ⟨_,ht,_⟩ | ⟨bk,hL,_⟩
   · exact ht
   · rw[hL.five] at h6;cases h6
  rw[if_pos h6] at hfrom;refine zk 27 (.bool false) rfl ((by rw[h6];rfl:(.bool (((yf (wat W (x/4)):Nat):Int) !=6):Value)=_)) (zk 9 (.int .i64 ((T.length:Nat):Int)) rfl ((by rw[ht]:(.int .i64 ((yg (wat W (x/4)):Nat):Int):Value)=_)) (zk 10 (.int .i64 ((from_:Nat):Int)) rfl ((by rw[hfrom]:(.int .i64 ((x/4:Nat):Int):Value)=_)) ?_));have hEZ:=hEC;have B1z:=B13;refine yb ?_;refine za rfl (ziv (n:=T.length) u22 ymx rfl rfl rfl rfl rfl (by omega) (by omega) ?_);rintro gs wS Bs0 ES Gs;have hsz:=hEZ.size;have Bs:Blk wS gs 27 (ym (qh T 0 0)).toArray:=by
   rw[yoz,zkk];exact Bs0
  have B1s:=B1z.ext ES (fun h=>h.elim);have hES:=hEZ.step ES (fun _ h=>h.elim);have hgs:w.heap.size≤gs:=by omega
  have h1s:g1<gs:=by have:=B1z.lt;omega
  refine qo ?_;refine qw (ι:=Nat) (fun i=>[(2,.pointer (some ⟨g1,0,none⟩)),(10,.int .i64 ((from_:Nat):Int)),(11,.slice (some ⟨gs,0,none⟩) T.length T.length),(42,.int .i64 ((T.length:Nat):Int)),(43,.int .i64 ((i:Nat):Int))]) (fun i w'=>i≤T.length∧Blk w' gs 27 (ym (qh T 0 i)).toArray∧Ext (fun q=>gs≤q) wS w') (fun i=>T.length-i) 0 ⟨rfl,rfl,rfl,rfl,rfl,trivial⟩ (⟨Nat.zero_le _,Bs,Ext.refl _ _⟩) ?_;rintro i w3 ⟨hi0,Bi,hEi⟩;have hEiw:=hES.step hEi (fun q hq=>Or.inl (show w.heap.size≤q by have hq:gs≤q:=hq;omega));refine yb ?_;refine zx rfl (fun hc=>?_) (fun hc=>?_)
  ·
   have hc:=of_decide_eq_true hc;have hlt:i<T.length:=by omega
   obtain ⟨v,hv⟩:∃v,T[i]? =some v:=⟨_,List.getElem?_eq_getElem hlt⟩;obtain ⟨hSf,hsf,hvf,_⟩:=hget i v hv;have B1i:=B1s.ext hEi (fun h=>by have h:gs≤g1:=h;omega);have hMi:=hM.low ⟨hEiw,fun q hq=>Nat.le_trans hM.size hq⟩;refine gh ?_;refine za rfl (zd en35 rfl ((ycz _ A W c m top from_ hMi hSf i hsf).mono ?_));rintro e w4 ⟨rfl,hb⟩;refine ⟨_,rfl,?_⟩;have E9:=Ext.of_below hb No;have Bj:=Bi.ext E9 (fun h=>h.elim);refine zf 51 (.int .u64 ((v:Nat):Int)) rfl ((by rw[hvf]:(.int .u64 ((wat W (from_+2+i):Nat):Int):Value)=_)) (za rfl (zi (j:=i) u22 qk rfl rfl rfl hlt (zq (jz (cs':=(ym (qh T 0 (i+1))).toArray) qk rfl rfl Bj rfl rfl (by rw[List.size_toArray,kk,zav hi0];omega) (by rw[Nat.zero_add,List.setIfInBounds_toArray,gu,zlq hv]) ?_))));rintro wT BT ET;refine qb ?_;refine za rfl (zr rfl rfl (zg (by omega)) (zy ?_));exact qf (i+1) (by show T.length-(i+1)<T.length-i;omega) ⟨rfl,rfl,rfl,rfl,rfl,trivial⟩ (⟨hlt,BT,(hEi.step E9 (fun _ h=>h.elim)).step ET (fun q hq=>Or.inl (show gs≤q by have:=yj hq;omega))⟩)
  ·
   have hc:=of_decide_eq_false hc;have hie:i=T.length:=by omega
   rw[hie,zlk] at Bi;refine jt ?_;exact ⟨⟨gs,rfl,Bi,hgs⟩,hEiw.below (fun _ h=>h)⟩
 ·
  obtain ⟨bk,hL,_⟩:∃bk,IsList W top x T.length bk∧ ∀i v,T[i]? =some v→wat W (bk/4+2+i)=v:=hI.or.resolve_left (fun h=>h6 h.1);rw[if_neg h6,hL.blk] at hfrom;refine zk 27 (.bool true) rfl ((by congr 1;rw[bne_iff_ne];omega:(.bool (((yf (wat W (x/4)):Nat):Int) !=6):Value)=_)) (yk ?_);refine za rfl (zd en47 rfl ((alist_any _ A W c m top x T.length bk hMC hx hL).mono ?_));rintro e w5 ⟨rfl,hb⟩;refine ⟨_,rfl,?_⟩;have hEZ:=hEC.step (Ext.of_below hb No) (fun _ h=>h.elim);have B1z:=B13.ext (Ext.of_below hb No) (fun h=>h.elim);refine zoz ?_;refine zf 10 (.int .i64 ((from_:Nat):Int)) rfl ((by rw[hfrom];split<;>simp_all:(.int .i64 ((if bk=2 then 0 else bk/4:Nat):Int):Value)=_)) (za rfl (ziv (n:=T.length) u22 ymx rfl rfl rfl rfl rfl (by omega) (by omega) ?_));rintro gs wS Bs0 ES Gs;have hsz:=hEZ.size;have Bs:Blk wS gs 27 (ym (qh T 0 0)).toArray:=by
   rw[yoz,zkk];exact Bs0
  have B1s:=B1z.ext ES (fun h=>h.elim);have hES:=hEZ.step ES (fun _ h=>h.elim);have hgs:w.heap.size≤gs:=by omega
  have h1s:g1<gs:=by have:=B1z.lt;omega
  refine qo ?_;refine qw (ι:=Nat) (fun i=>[(2,.pointer (some ⟨g1,0,none⟩)),(10,.int .i64 ((from_:Nat):Int)),(11,.slice (some ⟨gs,0,none⟩) T.length T.length),(42,.int .i64 ((T.length:Nat):Int)),(43,.int .i64 ((i:Nat):Int))]) (fun i w'=>i≤T.length∧Blk w' gs 27 (ym (qh T 0 i)).toArray∧Ext (fun q=>gs≤q) wS w') (fun i=>T.length-i) 0 ⟨rfl,rfl,rfl,rfl,rfl,trivial⟩ (⟨Nat.zero_le _,Bs,Ext.refl _ _⟩) ?_;rintro i w7 ⟨hi0,Bi,hEi⟩;have hEiw:=hES.step hEi (fun q hq=>Or.inl (show w.heap.size≤q by have hq:gs≤q:=hq;omega));refine yb ?_;refine zx rfl (fun hc=>?_) (fun hc=>?_)
  ·
   have hc:=of_decide_eq_true hc;have hlt:i<T.length:=by omega
   obtain ⟨v,hv⟩:∃v,T[i]? =some v:=⟨_,List.getElem?_eq_getElem hlt⟩;obtain ⟨hSf,hsf,hvf,_⟩:=hget i v hv;have B1i:=B1s.ext hEi (fun h=>by have h:gs≤g1:=h;omega);have hMi:=hM.low ⟨hEiw,fun q hq=>Nat.le_trans hM.size hq⟩;refine gh ?_;refine za rfl (zd en35 rfl ((ycz _ A W c m top from_ hMi hSf i hsf).mono ?_));rintro e w8 ⟨rfl,hb⟩;refine ⟨_,rfl,?_⟩;have E9:=Ext.of_below hb No;have Bj:=Bi.ext E9 (fun h=>h.elim);refine zf 51 (.int .u64 ((v:Nat):Int)) rfl ((by rw[hvf]:(.int .u64 ((wat W (from_+2+i):Nat):Int):Value)=_)) (za rfl (zi (j:=i) u22 qk rfl rfl rfl hlt (zq (jz (cs':=(ym (qh T 0 (i+1))).toArray) qk rfl rfl Bj rfl rfl (by rw[List.size_toArray,kk,zav hi0];omega) (by rw[Nat.zero_add,List.setIfInBounds_toArray,gu,zlq hv]) ?_))));rintro wT BT ET;refine qb ?_;refine za rfl (zr rfl rfl (zg (by omega)) (zy ?_));exact qf (i+1) (by show T.length-(i+1)<T.length-i;omega) ⟨rfl,rfl,rfl,rfl,rfl,trivial⟩ (⟨hlt,BT,(hEi.step E9 (fun _ h=>h.elim)).step ET (fun q hq=>Or.inl (show gs≤q by have:=yj hq;omega))⟩)
  ·
   have hc:=of_decide_eq_false hc;have hie:i=T.length:=by omega
   rw[hie,zlk] at Bi;refine jt ?_;exact ⟨⟨gs,rfl,Bi,hgs⟩,hEiw.below (fun _ h=>h)⟩
end
end Go.Proofs.YtebjkmjfcijebaaGreat
namespace Go.Proofs.YtebjkmjfcijebaaGreat
open Go.RowKit
theorem IsList.agree {W W':List Nat} {top top' x n bk:Nat} (h:IsList W top x n bk) (hA:ymk W W' top) (ht:top≤top') (hl:top'≤W'.length):IsList W' top' x n bk:=by
 have h1:=h.seen.room;have h2:=h.four;have h3:=h.seen.lo;have e0:wat W' (x/4)=wat W (x/4):=hA _ (by omega);have e2:wat W' (x/4+2)=wat W (x/4+2):=hA _ (by omega);have e3:wat W' (x/4+3)=wat W (x/4+3):=hA _ (by omega);refine ⟨h.kind,h.seen.agree hA ht hl,by rw[e0];exact h.five,by rw[e0];exact h.two,by rw[e0];exact h.four,by rw[e2];exact h.num,h.most,by rw[e3];exact h.blk,h.none_,fun hb=>?_⟩;obtain ⟨k1,k2,k3,k4⟩:=h.some_ hb;have k5:=k2.hi;have e:wat W' (bk/4)=wat W (bk/4):=hA _ (by omega);exact ⟨k1,k2.agree hA ht hl,by rw[e];exact k3,by rw[e];exact k4⟩
theorem HasItems.agree {W W' T:List Nat} {top top' x:Nat} (h:HasItems W top x T) (hA:ymk W W' top) (ht:top≤top') (hl:top'≤W'.length):HasItems W' top' x T:=by
 refine ⟨h.kind,h.seen.agree hA ht hl,?_⟩;have h1:=h.seen.room;have h2:=h.seen.fit;have e0:wat W' (x/4)=wat W (x/4):=hA _ (by omega);rcases h.or with ⟨h6,htg,hi⟩ | ⟨bk,hL,hi⟩
 · refine Or.inl ⟨by rw[e0];exact h6,by rw[e0];exact htg,fun i v hv=>?_⟩;have:=(List.getElem?_eq_some_iff.1 hv).1;rw[hA _ (by omega)];exact hi i v hv
 · refine Or.inr ⟨bk,hL.agree hA ht hl,fun i v hv=>?_⟩;have h9:=(List.getElem?_eq_some_iff.1 hv).1;by_cases hb:bk=2
   · have:=hL.none_ hb;omega
   · obtain ⟨k1,k2,k3,k4⟩:=hL.some_ hb;have:=k2.room;have:=k2.fit;rw[hA _ (by omega)];exact hi i v hv
theorem laid_seen {W T R:List Nat} {top k:Nat} (h1:1≤top) (hk:0<k) (hk2:k<256) (hf:top+(2+T.length+R.length)≤W.length) (hW:W.length≤1048576):Seen (laid W top k T R) (top+(2+T.length+R.length)) top∧yf (wat (laid W top k T R) top)=k∧yg (wat (laid W top k T R) top)=T.length∧zt (wat (laid W top k T R) top)=2+T.length+R.length:=by
 have e1:yf (wat (laid W top k T R) top)=k:=by rw[ou hf,ydz hk2]
 have e2:yg (wat (laid W top k T R) top)=T.length:=by rw[ou hf,yjx hk2 (by omega)]
 have e3:zt (wat (laid W top k T R) top)=2+T.length+R.length:=by rw[ou hf,zbv hk2 (by omega) (by omega)]
 exact ⟨⟨h1,by omega,by rw[zbq hf];exact hf,by omega,by omega,by omega⟩,e1,e2,e3⟩
structure Grown2 (W:List Nat) (top:Nat) (l:List Nat) (W':List Nat) (top':Nat) (l':List Nat):Prop where
 form:FormL W' top' l'
 len:W'.length=W.length
 agree:ymk W W' top
 top:top≤top'
 objs:∀x∈l,x∈l'
theorem Grown2.refl {W l:List Nat} {top:Nat} (h:FormL W top l):Grown2 W top l W top l:=⟨h,rfl,fun _ _=>rfl,Nat.le_refl _,fun _ h=>h⟩
theorem Grown2.ok {W l W' l':List Nat} {top top' x:Nat} (h:Grown2 W top l W' top' l') (hx:WordOk l x):WordOk l' x:=⟨hx.1,fun h0=>h.objs _ (hx.2 h0)⟩
end Go.Proofs.YtebjkmjfcijebaaGreat
namespace Go.Proofs.YtebjkmjfcijebaaGreat
open Go.RowKit
set_option maxHeartbeats 20000000
attribute [local irreducible] OW RS CW EW
theorem Objs.step {W:List Nat} {top a:Nat} {r:List Nat} (h:Objs W top a r) (ha:a<top):∃r',r=a::r'∧Lies W top a∧Objs W top (a+zt (wat W a)) r':=by
 cases h with
 | nil=>omega
 | cons h1 h2=>exact ⟨_,rfl,h1,h2⟩
theorem Objs.stop {W:List Nat} {top a:Nat} {r:List Nat} (h:Objs W top a r) (ha:¬a<top):r= []:=by
 cases h with
 | nil=>rfl
 | cons h1 h2=>have:=h1.hi;omega
theorem Lies.small {W:List Nat} {top a:Nat} (h:Lies W top a):wat W a/2^56=0:=by
 have h1:yf (wat W a)<256:=by unfold yf;omega
 have h2:yg (wat W a)<16777216:=by unfold yg;omega
 have h3:zt (wat W a)<16777216:=by unfold zt;omega
 rw[h.head];unfold jr;omega
section
variable (w:World) (A:Option Addr) (W l:List Nat) (c n top:Nat) (hM:MemA n w A W top) (hF:FormL W top l) (hcap:W.length≤c)
include hM hF hcap
set_option maxHeartbeats 20000000 in
theorem walk_any:Calls Tryz.prog 28 #[xg A W c top] w fun e w'=>(∃v,e= .returned (.tuple #[v,.bool true]))∧Below w.heap.size w w':=by
 have h2:=hF.two;have h3:=hM.len;have h4:=hM.most;have h1:=hM.one;have hn:=hM.size;refine zh Tryz.func28 rfl Tryz.ntmps28 rfl (zy ?_);refine za rfl (zn rfl ?_);rintro g1 wA B1 E1 G1;have hsA:=E1.size;have h1A:=B1.lt;have hMA:=hM.no E1;refine yt ?_;refine zf 22 (.bool false) rfl ((by rw[decide_eq_false];omega:(.bool (decide (((W.length:Nat):Int)<2)):Value)=_)) (yk ?_);refine zf 27 (.bool false) rfl ((by rw[decide_eq_false];omega:(.bool (decide ((1048576:Int)<((W.length:Nat):Int))):Value)=_)) (yk ?_);refine zf 32 (.bool false) rfl ((by rw[decide_eq_false];omega:(.bool (decide (((top:Nat):Int)<1)):Value)=_)) (yx ?_);refine zf 40 (.bool false) rfl ((by rw[decide_eq_false];omega:(.bool (decide (((W.length:Nat):Int)<((top:Nat):Int))):Value)=_)) ?_;obtain ⟨gm,om,hA,hgm,hcm⟩:=hMA.words.at (show 0<W.length by omega);refine qb ?_;refine onx rfl (zi (j:=0) u22 qk (congrArg (fun z↦some (Value.slice z W.length c)) hA) rfl rfl (by omega) (onx rfl (yl u27 rfl rfl hcm (stp ?_))));refine zf 47 (.bool false) rfl ((by rw[hF.zero];rfl:(.bool (((wat W 0:Nat):Int) !=0):Value)=_)) (zz ?_);refine za rfl (ziv (n:=top) u87 inf4 rfl rfl rfl rfl rfl (by omega) (by omega) ?_);rintro gs wB Bs0 E2 Gs;have Bs:Blk wB gs 4 (xc top []):=by
  rw[startsV_0];have e:(List.replicate top (Value.bool false)).toArray=((List.range top).map fun _=>Value.bool false).toArray:=by rw[List.map_const',List.length_range]
  rw[←e];exact Bs0
 have hEB:Ext No w wB:=E1.trans E2;have hsB:=hEB.size;have hE2s:=E2.size;have hgs:=Bs.lt;have hMB:=hM.no hEB;have B1B:=B1.ext E2 (fun h=>h.elim);refine xb ?_;refine qw (ι:=Nat×List Nat×List Nat×Option Addr×Nat) (fun (a,p,r,A5,c5)=>[(1,.pointer (some ⟨g1,0,none⟩)),(4,.slice (some ⟨gs,0,none⟩) top top),(5,.slice A5 p.length c5),(6,.int .i64 ((a:Nat):Int))]) (fun (a,p,r,A5,c5) w'=>p++r=l∧Objs W top a r∧p.length<a∧a≤top∧Ext (fun q=>gs≤q) wB w'∧w'.ownsRow wB.heap.size 3 1 (.slice A5 p.length c5) p.length (zzx p)∧Blk w' gs 4 (xc top p)) (fun (a,_)=>top-a) (1,[],l,none,0) ⟨rfl,rfl,rfl,rfl,trivial⟩ (⟨rfl,hF.objs,Nat.zero_lt_one,h1,Ext.refl _ _,owns_nil,Bs⟩) ?_;rintro ⟨a,p,r,A5,c5⟩ w2 ⟨hpr,hO,hla,hat,hEa,hOa,Bsa⟩;have hgB1:g1<gs:=by omega
 have B1a:=B1B.ext hEa (fun h=>by have h:gs≤g1:=h;omega);have hXn:∀q,gs≤q→n≤q:=fun q hq=>by omega
 have hMa:MemA n w2 A W top:=hMB.low ⟨hEa,fun q hq=>hXn q hq⟩;have hEw:Ext (fun q=>w.heap.size≤q) w w2:=(hEB.noL w.heap.size).step hEa (fun q hq=>Or.inl (show w.heap.size≤q by have hq:gs≤q:=hq;omega));refine qa ?_;refine zx rfl (fun hc2=>?_) (fun hc2=>?_)
 ·
  have hc2:=of_decide_eq_true hc2;have hlt:a<top:=by omega
  obtain ⟨r',hr',hLa,hO'⟩:=hO.step hlt;have hS:=hLa.toSeen;obtain ⟨wa,hwa⟩:∃wa,wa=w2:=⟨_,rfl⟩;subst hwa;refine yu ?_;refine za rfl (zd en56 rfl ((znq _ A W c n top a hMa hS).mono ?_));rintro e w3 ⟨rfl,hb⟩;refine ⟨_,rfl,?_⟩;have E5:=Ext.of_below hb No;have hs5:=E5.size;refine qc ?_;refine za rfl (zp zfz ?_);rintro g8 wu5 B80 E6 G8;refine zq (zm xk rfl rfl B80 rfl rfl rfl ?_);rintro wu6 B81 E7;have B8:Blk wu6 g8 101 #[.int .i64 ((a:Nat):Int),.int .i64 ((yf (wat W a):Nat):Int),.int .i64 ((yg (wat W a):Nat):Int),.int .i64 ((zt (wat W a):Nat):Int)]:=B81;have hE67:Ext (fun q=>wa.heap.size≤q) wa wu6:=((E5.trans E6).noL wa.heap.size).step E7 (fun q hq=>Or.inl (show wa.heap.size≤q by have:=yj hq;omega));have B16:=B1a.ext hE67 (fun h=>by have:=B1a.lt;have h:wa.heap.size≤g1:=h;omega);have Bs6:=Bsa.ext hE67 (fun h=>by have:=Bsa.lt;have h:wa.heap.size≤gs:=h;omega);have hO6:=qr hOa hE67 (fun q hq h=>by have:=zvk hOa q hq;have h:wa.heap.size≤q:=h;omega);have hM6:MemA n wu6 A W top:=hMa.low ⟨hE67,fun q hq=>by have hq:wa.heap.size≤q:=hq;have:=hMa.size;omega⟩;have hS2:=hS.hi;have hS3:=hS.room;have hS4:=hS.fit;have h8:=ydq (wat W a);have h9:=zok (wat W a);have h10:=zcx (wat W a);obtain ⟨gm,om,hA,hgm,hcm⟩:=hM6.words.at (show a<W.length by omega);have hcm1:wu6.cell? ⟨gm,om+(a+1),none⟩=some (.int .u64 ((wat W (a+1):Nat):Int)):=by
   obtain ⟨gm2,om2,hA2,_,hc2⟩:=hM6.words.at (show a+1<W.length by omega);rw[hA] at hA2;cases hA2
   exact hc2
  refine qo ?_;refine onx rfl (zi (j:=a) u22 qk (congrArg (fun z↦some (Value.slice z W.length c)) hA) rfl rfl (by omega) (onx rfl (yl u27 rfl rfl hcm (onx rfl (je rfl rfl (by decide) (ylq (x:=wat W a) (k:=56) (by decide)) (zf 70 (.int .u64 0) rfl ((by rw[hLa.small];rfl:(.int .u64 ((wat W a/2^56:Nat):Int):Value)=_)) (stp ?_)))))));refine zf 71 (.bool false) rfl ((by rfl:(.bool ((0:Int) !=0):Value)=_)) (yk ?_);refine onx rfl (zr rfl rfl (zg (by omega)) (onx rfl (zi (j:=a+1) u22 qk (congrArg (fun z↦some (Value.slice z W.length c)) hA) rfl (by omega) (by omega) (onx rfl (yl u27 rfl rfl hcm1 (stp ?_))))));refine zf 80 (.bool false) rfl ((by rw[hLa.nil];rfl:(.bool (((wat W (a+1):Nat):Int) !=0):Value)=_)) (zz ?_);refine za rfl (zi (j:=a) u87 sz4 rfl rfl rfl hlt (zq (jz (cs':=xc top (p++ [a])) sz4 rfl rfl Bs6 rfl rfl (by rw[zaq];omega) (by rw[Nat.zero_add];exact qck hlt) ?_)));rintro wu7 Bs8 E8;have B88:=blk_blk B8 Bs6 (by decide) E8;have hO8:=zlv hO6 Bs6 (by decide) E8;refine yb ?_;refine za rfl (vi (cs:=#[.int .i64 ((a:Nat):Int)]) u55 sz3 zr3 (by decide) rfl (by rw[kc];rfl) ?_);rintro gx wu8 Bx E9 Gx;have hO9:=qr hO8 E9 (fun _ _ h=>h.elim);have hs67:=hE67.size;have hs8:=E8.size;have hs9:=E9.size;have hsa:=hEa.size;refine za rfl (zmq (n':=(p++ [a]).length) (xs':=zzx (p++ [a])) u55 inf3 rfl (by decide) rfl hO9 rfl (ynv Bx Bx.lt rfl) (by simp[Value.oneCell']) (by rw[List.length_append];rfl) (by rw[←natsV_add]) (by rw[List.length_append];unfold maxLen;simp;omega) (by rw[List.length_append];simp;omega) (by omega) ?_);rintro A6 c6 wu9 hO10 E10 N10
  have B810:=zek (B88.ext E9 (fun h=>h.elim)) hO9 (by decide) E10;have Bs10:=zek (Bs8.ext E9 (fun h=>h.elim)) hO9 (by decide) E10;refine yu ?_;have hEn:Ext (fun q=>gs≤q) wB wu9:=(((hEa.step hE67 (fun q hq=>Or.inl (show gs≤q by have hq:wa.heap.size≤q:=hq;omega))).step E8 (fun q hq=>Or.inl (show gs≤q by have:=yj hq;omega))).step E9 (fun _ h=>h.elim)).step E10 (fun q hq=>Or.inl (show gs≤q by have:=own_ge hO9 q hq;omega));refine za rfl (zr rfl rfl (zg (by omega)) (qc ?_));exact qf (a+zt (wat W a),p++ [a],r',A6,c6) (by show top-(a+zt (wat W a))<top-a;omega) ⟨rfl,rfl,rfl,rfl,trivial⟩ (⟨by rw[←hpr,hr',List.append_assoc];rfl,hO',by rw[List.length_append];simp;omega,hS3,hEn,hO10,Bs10⟩)
 ·
  have hc2:=of_decide_eq_false hc2;have hre:r= []:=hO.stop (by omega);have hpl:p=l:=by rw[←hpr,hre,List.append_nil]
  subst hpl;obtain ⟨wL,hwL⟩:∃wL,wL=w2:=⟨_,rfl⟩;subst hwL;have hlt:=B1a.lt;have hgsl:=Bsa.lt;refine jt ?_;refine qw (ι:=Nat) (fun m=>[(1,.pointer (some ⟨g1,0,none⟩)),(4,.slice (some ⟨gs,0,none⟩) top top),(5,.slice A5 p.length c5),(93,.slice A5 p.length c5),(94,.int .i64 ((p.length:Nat):Int)),(95,.int .i64 ((m:Nat):Int))]) (fun m w'=>m≤p.length∧Ext (fun q=>wL.heap.size≤q) wL w') (fun m=>p.length-m) 0 ⟨rfl,rfl,rfl,rfl,rfl,rfl,trivial⟩ (⟨Nat.zero_le _,Ext.refl _ _⟩) ?_;rintro m w5 ⟨hml,hEm⟩;have hEmw:Ext (fun q=>w.heap.size≤q) w w5:=hEw.step hEm (fun q hq=>Or.inl (show w.heap.size≤q by have hq:wL.heap.size≤q:=hq;have:=hEw.size;omega));obtain ⟨wm,hwm⟩:∃wm,wm=w5:=⟨_,rfl⟩;subst hwm;have B1m:=B1a.ext hEm (fun h=>by have h:wL.heap.size≤g1:=h;omega);have hOm:=qr hOa hEm (fun q hq h=>by have:=zvk hOa q hq;have h:wL.heap.size≤q:=h;omega);have hMm:MemA n wm A W top:=hMa.low ⟨hEm,fun q hq=>by have hq:wL.heap.size≤q:=hq;have:=hMa.size;omega⟩;have Bsm:=Bsa.ext hEm (fun h=>by have h:wL.heap.size≤gs:=h;omega);refine yb ?_;refine zx rfl (fun hc3=>?_) (fun hc3=>?_)
  ·
   have hc3:=of_decide_eq_true hc3;have hmlt:m<p.length:=by omega
   obtain ⟨x,hx⟩:∃x,p[m]? =some x:=⟨_,List.getElem?_eq_getElem hmlt⟩;have hSx:=hF.seen (List.mem_of_getElem? hx);have hS2:=hSx.hi;have hS3:=hSx.room;have hS4:=hSx.fit;have h9:=zok (wat W x);obtain ⟨gl,hAl,hgl,hgl2,hcl⟩:=zvv hOm (by omega);refine yb ?_;refine za rfl (zi (j:=m) u55 sz3 (congrArg (fun z↦some (Value.slice z p.length c5)) hAl) rfl rfl hmlt (za rfl (yl Tryz.underlying3 rfl rfl (by rw[Nat.zero_add];exact hcl m _ (natsV_at hx)) (yu ?_))));refine za rfl (zd en56 rfl ((znq _ A W c n top x hMm hSx).mono ?_));rintro e w6 ⟨rfl,hb⟩;refine ⟨_,rfl,?_⟩;have E11:=Ext.of_below hb No;have hs11:=E11.size;refine qc ?_;refine za rfl (zp zfz ?_);rintro g11 wv1 B110 E12 G11;refine zq (zm xk rfl rfl B110 rfl rfl rfl ?_);rintro wv2 B111 E13;have B11:Blk wv2 g11 101 #[.int .i64 ((x:Nat):Int),.int .i64 ((yf (wat W x):Nat):Int),.int .i64 ((yg (wat W x):Nat):Int),.int .i64 ((zt (wat W x):Nat):Int)]:=B111;have hEv:Ext (fun q=>wm.heap.size≤q) wm wv2:=((E11.trans E12).noL wm.heap.size).step E13 (fun q hq=>Or.inl (show wm.heap.size≤q by have:=yj hq;omega));have B1v:=B1m.ext hEv (fun h=>by have:=B1m.lt;have h:wm.heap.size≤g1:=h;omega);have Bsv:=Bsm.ext hEv (fun h=>by have:=Bsm.lt;have h:wm.heap.size≤gs:=h;omega);have hMv:MemA n wv2 A W top:=hMm.low ⟨hEv,fun q hq=>by have hq:wm.heap.size≤q:=hq;have:=hMm.size;omega⟩;have hEmv:=hEm.step hEv (fun q hq=>Or.inl (show wL.heap.size≤q by have hq:wm.heap.size≤q:=hq;have:=hEm.size;omega));have hEvw:=hEmw.step hEv (fun q hq=>Or.inl (show w.heap.size≤q by have hq:wm.heap.size≤q:=hq;have:=hEmw.size;omega));obtain ⟨gm,om,hA,hgm,_⟩:=hMv.words.at (show 0<W.length by omega)
   have hcv:∀(z:World),Ext No wv2 z→ ∀j,j<W.length→z.cell? ⟨gm,om+j,none⟩=some (.int .u64 ((wat W j:Nat):Int)):=fun z hz j hj=>by
    obtain ⟨gm2,om2,hA2,_,hc2⟩:=(hMv.no hz).words.at hj;rw[hA] at hA2;cases hA2
    exact hc2
   obtain ⟨S,hSd⟩:∃S,S=(if c=x+2 then A else A.map (·.add ((x+2)*1))):=⟨_,rfl⟩;have hSe:x+2<c→S=some ⟨gm,om+(x+2),none⟩:=fun h=>by rw[hSd,if_neg (by omega),hA,Nat.mul_one];rfl
   refine yx ?_;refine za rfl (zr rfl rfl (zg (by omega)) (stp ?_));refine za rfl (zr rfl rfl (zg (by omega)) (zy ?_));refine za rfl (zr rfl rfl (zg (by omega)) (zf 108 (.int .i64 ((x+2:Nat):Int)) rfl ((by first | rfl | (congr 1;omega):(.int .i64 (((x:Nat):Int)+2):Value)=_)) (zf 113 (.int .i64 ((x+2+yg (wat W x):Nat):Int)) rfl ((by first | rfl | (congr 1;omega):(.int .i64 ((((x:Nat):Int)+2)+((yg (wat W x):Nat):Int)):Value)=_)) (za rfl (ysq (l:=x+2) (h:=x+2+yg (wat W x)) u22 qk rfl ⟨_,rfl⟩ ⟨_,rfl⟩ (by omega) (by omega) (zf 114 (.slice S (yg (wat W x)) (c-(x+2))) rfl ((by rw[hSd,show x+2+yg (wat W x)-(x+2)=yg (wat W x) by omega]:(.slice (if c=x+2 then A else A.map (·.add ((x+2)*1))) (x+2+yg (wat W x)-(x+2)) (c-(x+2)):Value)=_)) (yk ?_)))))));refine qw (ι:=Nat) (fun i=>[(1,.pointer (some ⟨g1,0,none⟩)),(4,.slice (some ⟨gs,0,none⟩) top top),(5,.slice A5 p.length c5),(93,.slice A5 p.length c5),(94,.int .i64 ((p.length:Nat):Int)),(95,.int .i64 ((m:Nat):Int)),(114,.slice S (yg (wat W x)) (c-(x+2))),(115,.int .i64 ((yg (wat W x):Nat):Int)),(116,.int .i64 ((i:Nat):Int))]) (fun i w'=>i≤yg (wat W x)∧Ext No wv2 w') (fun i=>yg (wat W x)-i) 0 ⟨rfl,rfl,rfl,rfl,rfl,rfl,rfl,rfl,rfl,trivial⟩ (⟨Nat.zero_le _,Ext.refl _ _⟩) ?_;rintro i w8 ⟨hit,hEi⟩;refine yb ?_;refine zx rfl (fun hc4=>?_) (fun hc4=>?_)
   ·
    have hc4:=of_decide_eq_true hc4;have hil:i<yg (wat W x):=by omega
    obtain ⟨wo,hwo⟩:∃wo,wo=wat W (x+2+i):=⟨_,rfl⟩;have hwou:U64 wo:=by rw[hwo];exact zax hM.words.in_ _
    have hci:=hcv _ hEi (x+2+i) (by omega);rw[←hwo] at hci;have hok:WordOk p wo:=by rw[hwo];exact hF.words x (List.mem_of_getElem? hx) i hil
    refine yb ?_;refine za rfl (zi (j:=i) u22 qk (congrArg (fun z↦some (Value.slice z (yg (wat W x)) (c-(x+2)))) (hSe (by omega))) rfl rfl hil (za rfl (yl u27 rfl rfl (by rw[Nat.add_assoc];exact hci) (yb ?_))));refine za rfl (zd en30 rfl ((ji _ wo hwou).mono ?_));rintro e w9 ⟨rfl,hb⟩;refine ⟨_,rfl,?_⟩;have hE3:=hEi.trans (Ext.of_below hb No);refine yb ?_;have hk3:=hok.1;refine zf 123 (.bool false) rfl ((by congr 1;rw[beq_eq_false_iff_ne];omega:(.bool (((zw wo:Nat):Int)==3):Value)=_)) (yu ?_);by_cases hk0:zw wo=0
    ·
     refine zf 125 (.bool true) rfl ((by rw[hk0];rfl:(.bool (((zw wo:Nat):Int)==0):Value)=_)) ?_;have hin:=hok.2 hk0;have hin2:=(hF.seen hin).hi;refine yu ?_;refine za rfl (zd en57 rfl (((at_any _ wo hwou).mono (fun _ _ h=>by rw[if_pos hk0] at h;exact h)).mono ?_));rintro e w10 ⟨rfl,hb⟩;refine ⟨_,rfl,?_⟩;have hE4:=hE3.trans (Ext.of_below hb No);refine yt ?_;refine za rfl (zl Tryz.underlying3 rfl rfl (B1v.ext hE4 (fun h↦h.elim)) rfl (stp ?_));refine zf 134 (.bool false) rfl ((by rw[decide_eq_false];omega:(.bool (decide (((top:Nat):Int)≤((wo/4:Nat):Int))):Value)=_)) (qc ?_);refine onx rfl (zi (j:=wo/4) u87 sz4 rfl rfl rfl (by omega) (onx rfl (zl u4 rfl rfl (Bsv.ext hE4 (fun h↦h.elim)) (by rw[Nat.zero_add];exact zfk (by omega)) (zf 139 (.bool true) rfl ((by rw[decide_eq_true hin]:(.bool (decide (wo/4∈p)):Value)=_)) (zz ?_)))));refine za rfl (zr rfl rfl (zg (by omega)) (zy ?_));exact qf (i+1) (by show yg (wat W x)-(i+1)<yg (wat W x)-i;omega) ⟨rfl,rfl,rfl,rfl,rfl,rfl,rfl,rfl,rfl,trivial⟩ (⟨hil,hE4⟩)
    ·
     refine zf 125 (.bool false) rfl ((by congr 1;rw[beq_eq_false_iff_ne];omega:(.bool (((zw wo:Nat):Int)==0):Value)=_)) (qa ?_);refine za rfl (zr rfl rfl (zg (by omega)) (zy ?_));exact qf (i+1) (by show yg (wat W x)-(i+1)<yg (wat W x)-i;omega) ⟨rfl,rfl,rfl,rfl,rfl,rfl,rfl,rfl,rfl,trivial⟩ (⟨hil,hE3⟩)
   ·
    refine yu ?_;refine za rfl (zr rfl rfl (zg (by omega)) (zy ?_));exact qf (m+1) (by show p.length-(m+1)<p.length-m;omega) ⟨rfl,rfl,rfl,rfl,rfl,rfl,trivial⟩ (⟨hmlt,hEmv.step hEi (fun _ h=>h.elim)⟩)
  ·
   refine qo ?_;refine za rfl (ysq (l:=top) (h:=W.length) u22 qk rfl ⟨_,rfl⟩ rfl h3 hcap ?_);obtain ⟨S,hSd⟩:∃S,S=(if c=top then A else A.map (·.add (top*1))):=⟨_,rfl⟩;obtain ⟨gm,om,hA,hgm,_⟩:=hMm.words.at (show 0<W.length by omega);have hSe:top<c→S=some ⟨gm,om+top,none⟩:=fun h=>by rw[hSd,if_neg (by omega),hA,Nat.mul_one,Option.map_some,Lib.add_plain]
   have hcv:∀(z:World),Ext No wm z→ ∀j,j<W.length→z.cell? ⟨gm,om+j,none⟩=some (.int .u64 ((wat W j:Nat):Int)):=fun z hz j hj=>by
    obtain ⟨gm2,om2,hA2,_,hc2⟩:=(hMm.no hz).words.at hj;rw[hA] at hA2;cases hA2
    exact hc2
   refine zf 148 (.slice S (W.length-top) (c-top)) rfl ((by rw[hSd]:(.slice (if c=top then A else A.map (·.add (top*1))) (W.length-top) (c-top):Value)=_)) (yk ?_);refine qw (ι:=Nat) (fun i=>[(5,.slice A5 p.length c5),(148,.slice S (W.length-top) (c-top)),(149,.int .i64 ((W.length-top:Nat):Int)),(150,.int .i64 ((i:Nat):Int))]) (fun i w'=>i≤W.length-top∧Ext No wm w') (fun i=>W.length-top-i) 0 ⟨rfl,rfl,rfl,rfl,trivial⟩ (⟨Nat.zero_le _,Ext.refl _ _⟩) ?_;rintro i w12 ⟨hit,hEi⟩;refine yb ?_;refine zx rfl (fun hc4=>?_) (fun hc4=>?_)
   ·
    have hc4:=of_decide_eq_true hc4;have hil:i<W.length-top:=by omega
    have hci:=hcv _ hEi (top+i) (by omega);rw[hF.rest (top+i) (by omega)] at hci;refine yb ?_;refine za rfl (zi (j:=i) u22 qk (congrArg (fun z↦some (Value.slice z (W.length-top) (c-top))) (hSe (by omega))) rfl rfl hil (za rfl (yl u27 rfl rfl (by rw[Nat.add_assoc];exact hci) (qa ?_))));refine zk 155 (.bool false) rfl ((by rfl:(.bool (((0:Nat):Int) !=0):Value)=_)) (yk ?_);refine za rfl (zr rfl rfl (zg (by omega)) (zy ?_));exact qf (i+1) (by show W.length-top-(i+1)<W.length-top-i;omega) ⟨rfl,rfl,rfl,rfl,trivial⟩ (⟨hil,hEi⟩)
   ·
    refine jt ?_;exact ⟨⟨_,rfl⟩,(hEmw.step hEi (fun _ h=>h.elim)).below (fun _ h=>h)⟩
theorem check_any:Calls Tryz.prog 8 #[xg A W c top] w fun e w'=>e= .returned (.int .i64 0)∧Below w.heap.size w w':=by
 refine zh Tryz.func8 rfl Tryz.ntmps8 rfl (zy ?_);refine za rfl (zn rfl ?_);rintro g1 wA B1 E1 G1;refine yu ?_;refine za rfl (zd en28 rfl ((walk_any _ A W l c n top (hM.no E1) hF hcap).mono ?_));rintro e w1 ⟨⟨v,rfl⟩,hb⟩;refine ⟨_,rfl,(zoz ?_)⟩;exact ⟨rfl,(E1.trans (Ext.of_below hb No)).toBelow⟩
end
end Go.Proofs.YtebjkmjfcijebaaGreat
namespace Go.Proofs.YtebjkmjfcijebaaGreat
open Go.RowKit
set_option maxHeartbeats 20000000
attribute [local irreducible] OW RS CW EW
def ku (s:ByteArray) (i:Nat):Nat:=((s.data[i]?).map (·.toNat)).getD 0
theorem byteN_some {s:ByteArray} {i:Nat} (h:i<s.size):(s.data[i]?).map (·.toNat)=some (ku s i):=by
 have h':i<s.data.size:=h;unfold ku;rw[Array.getElem?_eq_getElem h'];rfl
theorem byteN_lt (s:ByteArray) (i:Nat):ku s i<256:=by
 unfold ku;cases h:s.data[i]? with
 | none=>decide
 | some b=>exact UInt8.toNat_lt b
def pkN (s:ByteArray):Nat→Nat→Nat
 | 0,_=>0
 | i+1,j=>pkN s i j+if i/8=j then ku s i*2^(8*(i%8)) else 0
theorem pkN_low (s:ByteArray) {i j:Nat} (h:i≤8*j):pkN s i j=0:=by
 induction i with
 | zero=>rfl
 | succ i ih=>rw[pkN,ih (by omega),if_neg (by omega)]
theorem pkN_lt (s:ByteArray) (j:Nat):∀r,r≤8→pkN s (8*j+r) j<2^(8*r)
 | 0,_=>by rw[Nat.add_zero,pkN_low s (Nat.le_refl _)];decide
 | r+1,h=>by
  have ih:=pkN_lt s j r (by omega);rw[←Nat.add_assoc,pkN,if_pos (by omega),show (8*j+r)%8=r by omega];have hb:=byteN_lt s (8*j+r);have e:2^(8*(r+1))=2^(8*r)*256:=by rw[show 8*(r+1)=8*r+8 by omega,Nat.pow_add]
  have h2:ku s (8*j+r)*2^(8*r)≤255*2^(8*r):=Nat.mul_le_mul_right _ (by omega);omega
theorem pkN_at (s:ByteArray) (i:Nat):pkN s i (i/8)<2^(8*(i%8)):=by
 have h:=pkN_lt s (i/8) (i%8) (by omega);rwa [show 8*(i/8)+i%8=i by omega] at h
theorem pkN_u64 (s:ByteArray) (i j:Nat):pkN s i j<18446744073709551616:=by
 by_cases h:i≤8*j+8
 · by_cases h2:i≤8*j
   · rw[pkN_low s h2];decide
   · have h3:=pkN_lt s j (i-8*j) (by omega);rw[show 8*j+(i-8*j)=i by omega] at h3;have h4:2^(8*(i-8*j))≤2^64:=Nat.pow_le_pow_right (by decide) (by omega);have h5:(18446744073709551616:Nat)=2^64:=rfl;omega
 · have key:∀d,pkN s (8*j+8+d) j=pkN s (8*j+8) j:=fun d=>by
    induction d with
    | zero=>rfl
    | succ d ih=>rw[←Nat.add_assoc,pkN,ih,if_neg (by omega),Nat.add_zero]
   have h3:=pkN_lt s j 8 (by omega);have h4:=key (i-(8*j+8));rw[show 8*j+8+(i-(8*j+8))=i by omega] at h4;rw[h4];exact h3
def pkL (s:ByteArray) (i m:Nat):List Nat:=s.size::(List.range m).map (pkN s i)
def jo (s:ByteArray):List Nat:=pkL s s.size ((s.size+7)/8)
theorem ysz (s:ByteArray) (i m:Nat):(pkL s i m).length=1+m:=by unfold pkL;simp;omega
theorem zjq (s:ByteArray):(jo s).length=1+(s.size+7)/8:=ysz _ _ _
theorem pkL_at (s:ByteArray) {i m j:Nat} (h:j<m):(pkL s i m)[1+j]? =some (pkN s i j):=by
 unfold pkL;rw[Nat.add_comm,List.getElem?_cons_succ,List.getElem?_map,List.getElem?_range h];rfl
theorem pkL_0 (s:ByteArray) (m:Nat):pkL s 0 m=s.size::List.replicate m 0:=by
 unfold pkL;congr 1
 apply List.ext_getElem?
 intro j;rw[List.getElem?_map,List.getElem?_replicate];by_cases h:j<m
 · rw[List.getElem?_range h,if_pos h];rfl
 · rw[List.getElem?_eq_none (by simpa using Nat.le_of_not_lt h),if_neg h];rfl
theorem pkL_next (s:ByteArray) {i m:Nat} (h:i/8<m):(pkL s i m).set (1+i/8) (pkN s i (i/8)+ku s i*2^(8*(i%8)))=pkL s (i+1) m:=by
 apply List.ext_getElem?
 intro j;rw[List.getElem?_set,ysz];match j with
 | 0=>rw[if_neg (by omega)];rfl
 | j+1=>
  by_cases hj:j<m
  · rw[Nat.add_comm j 1,pkL_at s hj,pkL_at s hj,pkN];by_cases e:i/8=j
    · rw[if_pos (by omega),if_pos (by omega),if_pos e,e]
    · rw[if_neg (by omega),if_neg e,Nat.add_zero]
  · rw[if_neg (by omega),List.getElem?_eq_none (by rw[ysz];omega),List.getElem?_eq_none (by rw[ysz];omega)]
theorem pkL_u64 (s:ByteArray) (hs:s.size<18446744073709551616) (i m:Nat):∀x∈pkL s i m,U64 x:=fun x hx=>by
 unfold pkL at hx;rcases List.mem_cons.1 hx with rfl | hx
 · exact hs
 · obtain ⟨j,_,rfl⟩:=List.mem_map.1 hx;exact pkN_u64 s i j
theorem ka {W:List Nat} {j v:Nat} (h:W[j]? =some v):(ym W).toArray[j]? =some (.int .u64 ((v:Nat):Int)):=by
 unfold ym;rw[List.getElem?_toArray,List.getElem?_map,h];rfl
theorem yoq (w:World) (s:ByteArray) (hs:s.size≤20000):Calls Tryz.prog 25 #[.string s] w fun e w'=>(∃g,e= .returned (.slice (some ⟨g,0,none⟩) (jo s).length (jo s).length)∧Blk w' g 27 (ym (jo s)).toArray∧w.heap.size≤g)∧Below w.heap.size w w':=by
 obtain ⟨m,hm⟩:∃m,m=(s.size+7)/8:=⟨_,rfl⟩;have hpl:(jo s).length=1+m:=by rw[hm];exact zjq s
 refine zh Tryz.func25 rfl Tryz.ntmps25 rfl (yx ?_);refine za rfl (zfx Tryz.underlying9 rfl (za rfl (zr rfl rfl (zg (by omega)) (zf 7 (.int .i64 ((s.size+7:Nat):Int)) rfl (by first | rfl | (congr 1;omega)) (za rfl (oi rfl rfl (by decide) (show IntKind.i64.wrap (((s.size+7:Nat):Int).tdiv 8)=((m:Nat):Int) from by rw[Int.tdiv_eq_ediv_of_nonneg (by omega),hm];exact zg (by omega)) (za rfl (zr rfl rfl (zg (by omega)) (zf 9 (.int .i64 ((1+m:Nat):Int)) rfl ((by first | rfl | (congr 1;omega):(.int .i64 (1+((m:Nat):Int)):Value)=_)) (za rfl (ziv (n:=1+m) u22 ymx rfl rfl rfl rfl rfl (by omega) (by omega) ?_)))))))))));rintro gs wB Bs E1 Gs;refine yu ?_;refine za rfl (zfx Tryz.underlying9 rfl (za rfl (yi u27 Tryz.underlying3 rfl (wrap_u64 (by omega)) (za rfl (zi (j:=0) u22 qk rfl rfl rfl (by omega) (zq (jz (cs':=(ym (pkL s 0 m)).toArray) qk rfl rfl Bs rfl rfl (by simp;omega) (by rw[pkL_0,Nat.add_comm 1 m,List.replicate_succ,List.setIfInBounds_toArray,List.set_cons_zero];unfold ym;rw[List.map_cons,List.map_replicate];rfl) ?_)))))));rintro wC B0 E2;have hEC:Ext (fun q=>w.heap.size≤q) w wC:=(E1.noL w.heap.size).step E2 (fun q hq=>Or.inl (show w.heap.size≤q by have:=yj hq;omega));refine yb ?_;refine za rfl (zfx Tryz.underlying9 rfl (qb ?_));refine qw (ι:=Nat) (fun i=>[(0,.string s),(3,.slice (some ⟨gs,0,none⟩) (1+m) (1+m)),(17,.int .i64 ((s.size:Nat):Int)),(18,.int .i64 ((i:Nat):Int))]) (fun i w'=>i≤s.size∧Blk w' gs 27 (ym (pkL s i m)).toArray∧Ext (fun q=>w.heap.size≤q) w w') (fun i=>s.size-i) 0 ⟨rfl,rfl,rfl,rfl,trivial⟩ (⟨Nat.zero_le _,B0,hEC⟩) ?_;rintro i w2 ⟨hi0,Bi,hEi⟩;refine yb ?_;refine zx rfl (fun hc=>?_) (fun hc=>?_)
 ·
  have hc:=of_decide_eq_true hc;have hlt:i<s.size:=by omega
  have hjm:i/8<m:=by omega
  have hbl:=byteN_lt s i;have hsh:ku s i*2^(8*(i%8))<18446744073709551616:=by
   have h1:2^(8*(i%8))≤2^56:=Nat.pow_le_pow_right (by decide) (by omega);have h2:ku s i*2^(8*(i%8))≤255*2^(8*(i%8)):=Nat.mul_le_mul_right _ (by omega);omega
  obtain ⟨r8,hr8⟩:∃r8,r8=8*(i%8):=⟨_,rfl⟩;have hr64:r8<64:=by omega
  rw[←hr8] at hsh;have hor:=yzq (x:=pkN s i (i/8)) (y:=ku s i*2^r8) (k:=r8) (by rw[hr8];exact pkN_at s i) hsh (by omega) (Nat.mul_mod_left _ _);refine zz ?_;refine zcz qt (zck 16 rfl ?_);refine zux (No) Mut.none_ [] [] (jh [Fx.of (.slice (some ⟨gs,0,none⟩) (1+m) (1+m)),
   Fx.of (.int .i64 ((i:Nat):Int)),
   Fx.of (.int .i64 ((i/8:Nat):Int)),
   Fx.of (.int .i64 ((1+i/8:Nat):Int)),
   Fx.of (.pointer (some ⟨gs,0+(1+i/8),none⟩)),
   Fx.of (.int .u64 ((pkN s i (i/8):Nat):Int)),
   Fx.of (.string s),
   Fx.of (.int .i64 ((i:Nat):Int)),
   Fx.of (.int .u8 ((ku s i:Nat):Int)),
   Fx.of (.int .u64 ((ku s i:Nat):Int)),
   Fx.of (.int .i64 ((i:Nat):Int)),
   Fx.of (.int .i64 ((i%8:Nat):Int)),
   Fx.of (.int .i64 ((r8:Nat):Int)),
   Fx.of (.int .u64 ((ku s i*2^r8:Nat):Int)),
   Fx.of (.int .u64 ((pkN s i (i/8)+ku s i*2^r8:Nat):Int)),
   Fx.of (.pointer (some ⟨gs,0+(1+i/8),none⟩))]) rfl trivial (fun _ h=>by cases h) ?_ ?_
  · refine ⟨arm,arm,?_,?_,?_,?_,arm,arm,?_,?_,arm,?_,?_,?_,?_,?_,trivial⟩
    · intro vs X wq K;obtain ⟨_,e1,k1⟩:=K.dep 1 rfl rfl rfl;refine zc 22 _ rfl e1 ?_;exact oi rfl rfl (by decide) (show IntKind.i64.wrap (((i:Nat):Int).tdiv 8)=((i/8:Nat):Int) from by rw[Int.tdiv_eq_ediv_of_nonneg (by omega)];exact zg (by omega)) ⟨Below.refl _ _,Left.of rfl⟩
    · intro vs X wq K;obtain ⟨_,e2,k2⟩:=K.dep 2 rfl rfl rfl;refine zc 23 _ rfl e2 ?_;exact zr rfl rfl (show IntKind.i64.wrap (1+((i/8:Nat):Int))=((1+i/8:Nat):Int) from by rw[zg (by omega)];omega) ⟨Below.refl _ _,Left.of rfl⟩
    · intro vs X wq K;obtain ⟨_,e0,k0⟩:=K.dep 0 rfl rfl rfl;refine zc 21 _ rfl e0 ?_;obtain ⟨_,e3,k3⟩:=K.dep 3 rfl rfl rfl;refine zc 24 _ rfl e3 ?_;exact zi (j:=1+i/8) u22 qk rfl rfl rfl (by omega) ⟨Below.refl _ _,Left.of rfl⟩
    · intro vs X wq K;have LE:=K.1;obtain ⟨_,e4,k4⟩:=K.dep 4 rfl rfl rfl;refine zc 25 _ rfl e4 ?_;exact zl u27 rfl rfl (yh LE Bi) (by rw[Nat.zero_add];exact ka (pkL_at s hjm)) ⟨Below.refl _ _,Left.of rfl⟩
    · intro vs X wq K;obtain ⟨_,e6,k6⟩:=K.dep 6 rfl rfl rfl;refine zc 27 _ rfl e6 ?_;obtain ⟨_,e7,k7⟩:=K.dep 7 rfl rfl rfl;refine zc 28 _ rfl e7 ?_;exact ow_indexSL (j:=i) (b:=ku s i) Tryz.underlying9 rfl rfl rfl (byteN_some hlt) ⟨Below.refl _ _,Left.of rfl⟩
    · intro vs X wq K;obtain ⟨_,e8,k8⟩:=K.dep 8 rfl rfl rfl;refine zc 29 _ rfl e8 ?_;exact yi u27 u5 rfl (show IntKind.u64.wrap ((ku s i:Nat):Int)=_ from wrap_u64 (by omega)) ⟨Below.refl _ _,Left.of rfl⟩
    · intro vs X wq K;obtain ⟨_,e10,k10⟩:=K.dep 10 rfl rfl rfl;refine zc 31 _ rfl e10 ?_;exact ju rfl rfl (by decide) (show (((i:Nat):Int).tmod 8)=((i%8:Nat):Int) from by rw[Int.tmod_eq_emod_of_nonneg (by omega)];rfl) ⟨Below.refl _ _,Left.of rfl⟩
    · intro vs X wq K;obtain ⟨_,e11,k11⟩:=K.dep 11 rfl rfl rfl;refine zc 32 _ rfl e11 ?_;exact vn rfl rfl (show IntKind.i64.wrap (8*((i%8:Nat):Int))=((r8:Nat):Int) from by rw[hr8,zg (by omega)];omega) ⟨Below.refl _ _,Left.of rfl⟩
    · intro vs X wq K;obtain ⟨_,e9,k9⟩:=K.dep 9 rfl rfl rfl;refine zc 30 _ rfl e9 ?_;obtain ⟨_,e12,k12⟩:=K.dep 12 rfl rfl rfl;refine zc 33 _ rfl e12 ?_;exact xn rfl rfl (by omega) (shl_O (x:=ku s i) (k:=r8) hr64 hsh) ⟨Below.refl _ _,Left.of rfl⟩
    · intro vs X wq K;obtain ⟨_,e5,k5⟩:=K.dep 5 rfl rfl rfl;refine zc 26 _ rfl e5 ?_;obtain ⟨_,e13,k13⟩:=K.dep 13 rfl rfl rfl;refine zc 34 _ rfl e13 ?_;exact zrq rfl rfl hor ⟨Below.refl _ _,Left.of rfl⟩
    · intro vs X wq K;obtain ⟨_,e0,k0⟩:=K.dep 0 rfl rfl rfl;refine zc 21 _ rfl e0 ?_;obtain ⟨_,e3,k3⟩:=K.dep 3 rfl rfl rfl;refine zc 24 _ rfl e3 ?_;exact zi (j:=1+i/8) u22 qk rfl rfl rfl (by omega) ⟨Below.refl _ _,Left.of rfl⟩
  intro vs w3 LE AO AL AF AA;have hbd:Below (w2).heap.size (w2) w3:=(((Ext.refl No (w2)).drew).trans LE).toBelow;obtain ⟨_,e14,k14⟩:=AL.2.2.2.2.2.2.2.2.2.2.2.2.2.2.1;obtain ⟨_,e15,k15⟩:=AL.2.2.2.2.2.2.2.2.2.2.2.2.2.2.2.1;refine qe (τ:=[(0,_),(3,_),(17,_),(18,_),(35,.int .u64 ((pkN s i (i/8)+ku s i*2^r8:Nat):Int)),(36,.pointer (some ⟨gs,0+(1+i/8),none⟩))]) ⟨rfl,rfl,rfl,rfl,congrArg some e14,congrArg some e15,trivial⟩ ?_;clear AL AF AA AO;refine zov (gn (by kernel_rfl) (fun _ _ d_ _ _ h=>by cases d_<;>exact h) ?_);have hEd:=Ext.of_below hbd No;have Bd:=Bi.ext hEd (fun h=>h.elim);refine zq (jz (cs':=(ym (pkL s (i+1) m)).toArray) qk rfl rfl Bd rfl rfl (by rw[List.size_toArray,kk,ysz];omega) (by rw[hr8,Nat.zero_add,List.setIfInBounds_toArray,gu,pkL_next s hjm]) ?_);rintro wT BT ET;refine qb ?_;refine za rfl (zr rfl rfl (zg (by omega)) (zy ?_));exact qf (i+1) (by show s.size-(i+1)<s.size-i;omega) ⟨rfl,rfl,rfl,rfl,trivial⟩ (⟨hlt,BT,(hEi.step hEd (fun _ h=>h.elim)).step ET (fun q hq=>Or.inl (show w.heap.size≤q by have:=yj hq;omega))⟩)
 ·
  have hc:=of_decide_eq_false hc;have hie:i=s.size:=by omega
  rw[hie,hm] at Bi;refine jq ?_;exact ⟨⟨gs,by rw[hpl];rfl,Bi,by omega⟩,hEi.below (fun _ h=>h)⟩
end Go.Proofs.YtebjkmjfcijebaaGreat
namespace Go.Proofs.YtebjkmjfcijebaaGreat
open Go.RowKit
set_option maxHeartbeats 20000000
attribute [local irreducible] OW RS CW EW
theorem wo21_1:Gives 21 #[.agg #[.int .i64 4,.bool false,.bool false,.slice none 0 0,.int .u64 0,.string ⟨#[97,98]⟩,.slice none 0 0]] (.bool true):=by
 intro w;refine zh Tryz.func21 rfl Tryz.ntmps21 rfl ?_;have HF:Per (No) w (fun _=>True):=Per.true_;have LW:=erx (No) w;have XLW:=grx (No) w;have E:=erx (No) w;refine zy ?_;refine za rfl (zn rfl ?_);intro gb1 w2 Bb1 Eb1 Gb1;have Gb1:_≤gb1:=Nat.le_trans E.size Gb1;have GLb1:=Nat.le_trans LW.size Gb1;replace E:=E.trans Eb1.no;replace HF:=HF.cons (zj Gb1);replace E:=E.cons (some gb1);replace XLW:=Mut.grow XLW (fun k e=>Or.inr (Nat.le_trans LW.size ((zj Gb1) k e)));replace HF:=HF.on E;replace LW:=LW.step E XLW;have SB:∀q9,No q9→Mut [(some gb1)] q9:=(Mut.skip Mut.nil_);replace HF:=HF.less SB;replace XLW:=fun k h=>XLW k (SB k h);clear SB;replace E:=erx (No) w2;replace HF:=HF.and (Per.blkN Bb1 NotIn.nil);refine qa ?_;refine zf 6 (.int .i64 0) rfl (by kernel_rfl:(.int .i64 (0:Nat):Value)=_) (zhq ?_);refine zf 16 (.int .i64 0) rfl (by kernel_rfl:(.int .i64 (0:Nat):Value)=_) (stp40 ?_);refine stp24 ?_;refine onx rfl (zfx Tryz.underlying9 rfl (yx ?_));refine vc (rs:=[.tmp 2]) (vs:=[.bool true]) rfl ⟨rfl,trivial⟩ ?_;exact ⟨rfl,(LW.step E XLW).toBelow⟩
theorem pack_ab:jo ⟨#[97,98]⟩= [2,25185]:=by decide
theorem putab_any (lo gm gW cap top:Nat) (w:World) (W:List Nat) (hM:OwnM lo w gm gW cap W top) (hmW:gm≠gW) (hz:∀i,top≤i→wat W i=0) (hf:top+4≤W.length):Calls Tryz.prog 7 #[.pointer (some ⟨gm,0,none⟩),.agg #[.int .i64 4,.bool false,.bool false,.slice none 0 0,.int .u64 0,.string ⟨#[97,98]⟩,.slice none 0 0]] w fun e w'=>e= .returned (.tuple #[.int .u64 ((4*top:Nat):Int),.int .i64 0])∧OwnM lo w' gm gW cap (laid W top 4 [] [2,25185]) (top+4)∧Ext (Mut [some gm,some gW]) w w':=by
 have hlt:=hM.lt;refine zh Tryz.func7 rfl Tryz.ntmps7 rfl (zy ?_);refine za rfl (zn rfl ?_);rintro g3 wA B3 E1 G3;refine yx ?_;refine za rfl (zd ylx rfl ((wo21_1 _).mono ?_));rintro e w1 ⟨rfl,hb⟩;refine ⟨_,rfl,?_⟩;have E2:=E1.trans (Ext.of_below hb No);have B4:=B3.ext (Ext.of_below hb No) (fun h=>h.elim);refine zz ?_;refine za rfl (zrv u37 rfl rfl (stp40 ?_));refine yb ?_;refine za rfl (zd en25 rfl ((yoq _ ⟨#[97,98]⟩ (by decide)).mono ?_));rintro e w2 ⟨⟨gs,rfl,Bs,Gs⟩,hb⟩;refine ⟨_,rfl,?_⟩;have E3:=E2.trans (Ext.of_below hb No);have hs2:=E2.size;have hM3:=hM.ext E3 (fun h=>h) (fun h=>h);rw[pack_ab] at Bs;refine zf 47 (.slice (some ⟨gs,0,none⟩) 2 2) rfl ((by rw[pack_ab];rfl:(.slice (some ⟨gs,0,none⟩) (jo ⟨#[97,98]⟩).length (jo ⟨#[97,98]⟩).length:Value)=_)) (za rfl (zd en23 rfl ((zgx lo gm gW cap top 4 0 2 (gs+1) _ W [] [2,25185] none (some ⟨gs,0,none⟩) hM3 (by omega) (Nat.zero_le _) (by decide) hmW (fun z hz=>.nil _ _ _) (fun z hz=>zqz z (Bs.ext hz (fun h=>by rcases h with h | h | h<;>first | exact h.elim | (have:=Option.some.inj h;omega))) (Nat.lt_succ_self gs) (by unfold U64;decide) (by unfold U64;decide)) (fun x hx=>(by cases hx)) hz hf).mono ?_)));rintro e w3 ⟨rfl,hMT,hET⟩;refine ⟨_,rfl,(zz ?_)⟩;exact ⟨rfl,hMT,(E3.mono (Y:=Mut [some gm,some gW]) (fun _ h _=>h.elim)).step hET (fun q hq=>Or.inl hq)⟩
theorem str_any (w:World) (s:ByteArray):Calls Tryz.prog 16 #[.string s] w fun e w'=>e= .returned (.agg #[.int .i64 4,.bool false,.bool false,.slice none 0 0,.int .u64 0,.string s,.slice none 0 0])∧Below w.heap.size w w':=by
 refine zh Tryz.func16 rfl Tryz.ntmps16 rfl (zy ?_);refine za rfl (zp xt ?_);rintro g2 wB B2 E2 G2;refine yk ?_;refine za rfl (ye (cs:=#[.int .i64 4,.bool false,.bool false,.slice none 0 0,.int .u64 0,.string s,.slice none 0 0]) zhz xt rfl rfl (zq (zm kd rfl rfl B2 rfl rfl rfl ?_)));rintro wC B2e E4;refine qc ?_;refine vc (rs:=[.cell 2 30]) (vs:=[_]) rfl ⟨⟨_,rfl,xd u30 rfl kd B2e rfl⟩,trivial⟩ ?_;exact ⟨rfl,((E2.noL w.heap.size).step E4 (fun q hq=>Or.inl (show w.heap.size≤q by have:=yj hq;omega))).below (fun _ h=>h)⟩
def K0:List Nat:=List.replicate 30 0
def K1:List Nat:=laid K0 1 4 [] [2,25185]
def K2:List Nat:=laid K1 5 11 [21,2] []
def K3:List Nat:=laid K2 9 5 [9,20] []
theorem k1_len:K1.length=30:=by decide
theorem k0_nil (i:Nat):wat K0 i=0:=by
 unfold wat K0;rw[List.getD_eq_getElem?_getD,List.getElem?_replicate];split<;>rfl
theorem k0_form:FormL K0 1 []:=⟨by decide,by decide,by decide,by decide,k0_nil 0,fun i _=>k0_nil i,.nil,fun a ha=>(by cases ha)⟩
theorem k1_form:FormL K1 5 [1]:=k0_form.laid (top:=1) (k:=4) (tagged:=[]) (raw:=[2,25185]) (by decide) (by decide) (by decide) (fun w hw=>(by cases hw))
theorem k_seen:Seen K3 13 5:=⟨by decide,by decide,by decide,by decide,by decide,by decide⟩
theorem k_list:IsList K3 13 36 2 20:=⟨by decide,⟨by decide,by decide,by decide,by decide,by decide,by decide⟩,by decide,by decide,by decide,by decide,by decide,by decide,fun h=>(by omega),fun _=>⟨by decide,k_seen,by decide,by decide⟩⟩
theorem k_items:HasItems K3 13 36 [21,2]:=⟨by decide,k_list.seen,Or.inr ⟨20,k_list,fun i v hi=>by
 match i,hi with
 | 0,hi=>cases hi;decide
 | 1,hi=>cases hi;decide
 | i+2,hi=>cases hi⟩⟩
theorem ownM_new {w:World} {lo gm g n:Nat} (hb:Blk w gm 24 #[.slice (some ⟨g,0,none⟩) n n,.int .i64 1]) (hB:Blk w g 27 (List.replicate n (Value.int .u64 0)).toArray) (hg:lo≤g) (h1:1≤n) (hn:n≤1048576):OwnM lo w gm g n (List.replicate n 0) 1:=
 ⟨by rw[List.length_replicate];exact hb,by
  rw[List.length_replicate,zkk];exact ⟨by simp,Or.inr ⟨g,n,_,rfl,hg,hB,Nat.le_refl _,by unfold maxLen;omega,by simp,by simp⟩⟩,fun x hx=>by rw[(List.mem_replicate.1 hx).2];unfold U64;decide,Nat.le_refl _,by rw[List.length_replicate];exact h1,by rw[List.length_replicate];exact hn⟩
theorem known_any (w:World):Calls Tryz.prog 4 #[] w fun e w'=>e= .returned (.bool true)∧Below w.heap.size w w':=by
 refine zh Tryz.func4 rfl Tryz.ntmps4 rfl (yu ?_);refine za rfl (zd en15 rfl ((new_any _ 30 (by decide) (by decide)).mono ?_));rintro e w1 ⟨⟨gW,rfl,BW,GW⟩,hb⟩;refine ⟨_,rfl,?_⟩;have E1:=Ext.of_below hb No;have hlW:=BW.lt;refine qc ?_;refine za rfl (zp zr24 ?_);rintro gm wA B1 E2 G1;have BW2:=BW.ext E2 (fun h=>h.elim);refine zq (zm kr rfl rfl B1 rfl rfl rfl ?_);rintro wB B1b E3;have hmW:gm≠gW:=by omega
 have BW3:=BW2.ext E3 (fun h=>by have:=yj h;omega);have hM0:OwnM w.heap.size wB gm gW 30 K0 1:=ownM_new B1b BW3 GW (by decide) (by decide);have hE3:Ext (fun q=>w.heap.size≤q) w wB:=((E1.trans E2).noL w.heap.size).step E3 (fun q hq=>Or.inl (show w.heap.size≤q by have:=yj hq;have:=E1.size;omega));have hgm:w.heap.size≤gm:=by have:=E1.size;omega
 have hX:∀q,Mut [some gm,some gW] q→w.heap.size≤q:=fun q hq=>by rcases hq with h | h | h<;>first | exact h.elim | (have:=Option.some.inj h;omega)
 refine yk ?_;refine za rfl (zd en16 rfl ((str_any _ ⟨#[97,98]⟩).mono ?_));rintro e w2 ⟨rfl,hb⟩;refine ⟨_,rfl,?_⟩;have E4:=Ext.of_below hb No;have hM1:=hM0.ext E4 (fun h=>h) (fun h=>h);refine za rfl (zd en7 rfl ((putab_any w.heap.size gm gW 30 1 _ K0 hM1 hmW (fun i _=>k0_nil i) (by decide)).mono ?_));rintro e w3 ⟨rfl,hM2,E5⟩;refine ⟨_,rfl,(zf 15 (.tuple #[.int .u64 4,.int .i64 0]) rfl ((by rfl:(.tuple #[.int .u64 ((4*1:Nat):Int),.int .i64 0]:Value)=_)) ?_)⟩;have hE5:=(hE3.step E4 (fun _ h=>h.elim)).step E5 (fun q hq=>Or.inl (hX q hq));refine qa ?_;refine za rfl (vi (cs:=#[.int .u64 ((21:Nat):Int),.int .u64 ((2:Nat):Int)]) u22 qk zr27 (by decide) rfl (by rw[kc];rfl) ?_);rintro gx wX Bx Ex Gx;have hM3:OwnM w.heap.size wX gm gW 30 K1 5:=hM2.ext Ex (fun h=>h) (fun h=>h);have hXx:∀q,Mut [some gm,some gW] q→q≠gx:=fun q hq=>by
  have:=E5.size;have h3:=E3.size;have h4:=E4.size;have:=B1b.lt;rcases hq with h | h | h<;>first | exact h.elim | (have:=Option.some.inj h;have:=hM2.lt;omega)
 obtain ⟨wu1,hwu1⟩:∃wu1,wu1=wX:=⟨_,rfl⟩;subst hwu1;have hList:=(olist_any w.heap.size gm gW 30 5 2 (gx+1) wu1 K1 [21,2] (some ⟨gx,0,none⟩) [1] hM3 k1_form hmW (fun z hz=>zqz z (Bx.ext hz (fun h=>hXx gx h rfl)) (Nat.lt_succ_self gx) (by unfold U64;decide) (by unfold U64;decide)) Bx.lt (fun x hx=>by simp only[List.mem_cons,List.not_mem_nil,or_false] at hx;rcases hx with rfl | rfl<;>exact ⟨by decide,fun h=>absurd h (by decide)⟩)).mono (R':=fun e w'=>e= .returned (.tuple #[.int .u64 ((36:Nat):Int),.int .i64 0])∧OwnM w.heap.size w' gm gW 30 K3 13∧Ext (Mut [some gm,some gW]) wu1 w') (fun e w' h=>by
  rcases h with ⟨er,_,_,_,hn⟩ | ⟨W1,top1,bk,rfl,_,h,_,hM,hE⟩
  · have:=hn (by decide);rw[k1_len] at this;exact absurd this (by decide)
  · rcases h with ⟨h,_⟩ | ⟨_,rfl,rfl,rfl⟩
    · cases h
    · exact ⟨rfl,hM,hE⟩)
 refine za rfl (zd en17 rfl ((hList).mono ?_));rintro e w4 ⟨rfl,hM4,E6⟩;refine ⟨_,rfl,?_⟩;have hE6:=(hE5.step Ex (fun _ h=>h.elim)).step E6 (fun q hq=>Or.inl (hX q hq));refine qa ?_;refine za rfl (yy u24 rfl kr rfl hM4.mb rfl (stp ?_));refine za rfl (zd en18 rfl ((items_any _ (some ⟨gW,0,none⟩) K3 [21,2] 30 _ 13 36 hM4.mem (by unfold U64;decide) k_items).mono ?_));rintro e w5 ⟨⟨gr,rfl,Br,Gr⟩,hb⟩;refine ⟨_,rfl,?_⟩;have E7:=Ext.of_below hb No;have hM5:=hM4.ext E7 (fun h=>h) (fun h=>h);have hE7:=hE6.step E7 (fun _ h=>h.elim);obtain ⟨gm4,om4,hA4,_,hc4⟩:=hM5.mem.words.at (show 4<K3.length by decide);cases hA4
 refine zhq ?_;refine onx rfl (zl u22 rfl rfl hM5.mb rfl (onx rfl (zi (j:=4) u22 qk rfl rfl rfl (by decide) (onx rfl (yl u27 rfl rfl hc4 (zf 39 (.int .u64 25185) rfl ((by rw[show wat K3 4=25185 by decide];rfl:(.int .u64 ((wat K3 4:Nat):Int):Value)=_)) (qo ?_)))))));refine onx rfl (vi (cs:=#[.int .u64 ((21:Nat):Int),.int .u64 ((2:Nat):Int)]) u22 qk zr27 (by decide) rfl (by rw[kc];rfl) ?_);rintro gy wY By Ey Gy;have hwr:WordsA wY.heap.size wY (some ⟨gr,0,none⟩) [21,2]:=yqz (W:=[21,2]) (Br.ext Ey (fun h=>h.elim)) (Br.ext Ey (fun h=>h.elim)).lt (by decide) (fun x hx=>by simp only[List.mem_cons,List.not_mem_nil,or_false] at hx;rcases hx with rfl | rfl<;>(unfold U64;decide));have hwy:WordsA wY.heap.size wY (some ⟨gy,0,none⟩) [21,2]:=zqz wY By By.lt (by unfold U64;decide) (by unfold U64;decide);refine onx rfl (zd en19 rfl ((same_words _ (some ⟨gr,0,none⟩) (some ⟨gy,0,none⟩) 2 2 _ _ [21,2] hwr hwy).mono ?_));rintro e w6 ⟨rfl,hb⟩;refine ⟨_,rfl,(yb ?_)⟩;exact ⟨rfl,((hE7.step Ey (fun _ h=>h.elim)).step (Ext.of_below hb No) (fun _ h=>h.elim)).below (fun _ h=>h)⟩
end Go.Proofs.YtebjkmjfcijebaaGreat
namespace Go.Proofs.YtebjkmjfcijebaaGreat
open Go.RowKit
section
variable {P:Program} {w:World}
theorem yuv {xs ys:Array Value} (d:Nat):∀(fs:List Field),(∀q∈fs.map (fun f=>(f.type,f.offset)),∃k k' m n,P.underlying q.1=some (.int k')∧xs[q.2]? =some (.int k m)∧ys[q.2]? =some (.int k n))→ ∃b,(Op.eqFields (d+1) xs ys fs).run P w= .ok b w∧(b=true↔ ∀q∈(fs.filter (fun f=>f.name != "_")).map (fun f=>f.offset),xs[q]? =ys[q]?)
 | [],_=>⟨true,by simp[Op.eqFields],by simp⟩
 | f::fs,h=>by
  obtain ⟨k,k',m,n,hu,hx,hy⟩:=h (f.type,f.offset) (by simp);obtain ⟨b,hr,hb⟩:=yuv d fs fun q hq=>h q (by simp only[List.map_cons,List.mem_cons];exact Or.inr hq);rw[Op.eqFields];by_cases hn:f.name= "_"
  · refine ⟨b,by rw[if_neg (fun h=>h hn)];exact hr,?_⟩;rw[List.filter_cons_of_neg (by simp[hn])];exact hb
  · rw[if_pos hn,List.filter_cons_of_pos (by simp[hn])];simp only[Sem.run_bind,ybx hx (Or.inl ⟨k,k',m,hu,rfl⟩),ybx hy (Or.inl ⟨k,k',n,hu,rfl⟩),Result.andThen_ok,run_equalIn_int w d f.type k k' m n hu]
    by_cases he:m=n
    · refine ⟨b,by rw[he,beq_self_eq_true,Bool.not_true,if_neg (by decide)];exact hr,?_⟩;simp only[List.map_cons,List.mem_cons,forall_eq_or_imp]
      rw[hx,hy,he];simp[hb]
    · refine ⟨false,by rw[show (m==n)=false from beq_eq_false_iff_ne.2 he,Bool.not_false,if_pos rfl];rfl,?_⟩;simp only[List.map_cons,List.mem_cons,forall_eq_or_imp]
      rw[hx,hy];simp[he]
end
theorem shape_run (w:World) (a b c d e f:Int):(Op.equal 68 (.agg #[.int .i64 a,.int .i64 b,.int .i64 c]) (.agg #[.int .i64 d,.int .i64 e,.int .i64 f])).run Tryz.prog w= .ok (decide (a=d∧b=e∧c=f)) w:=by
 have hp:=zoq 0 0 0;unfold Op.equal;rw[show Op.maxDepth=9998+1+1 from rfl,run_equalIn_struct w (9998+1) 68 _ _ hp.1 hp.2.1];obtain ⟨r,h1,h2⟩:=yuv (P:=Tryz.prog) (w:=w) (xs:=#[.int .i64 a,.int .i64 b,.int .i64 c]) (ys:=#[.int .i64 d,.int .i64 e,.int .i64 f]) 9998 (Tryz.prog.fieldsOf 68).toList (by
  rw[show ((Tryz.prog.fieldsOf 68).toList.map (fun f=>(f.type,f.offset)))= [(3,0),(3,1),(3,2)] by kernel_rfl];intro q hq;simp only[List.mem_cons,List.not_mem_nil,or_false] at hq
  rcases hq with rfl | rfl | rfl<;>exact ⟨_,_,_,_,Tryz.underlying3,rfl,rfl⟩)
 rw[h1];congr 1
 rw[show (((Tryz.prog.fieldsOf 68).toList.filter (fun f=>f.name != "_")).map (fun f=>f.offset))= [0,1,2] by kernel_rfl] at h2;rw[Bool.eq_iff_iff,h2,decide_eq_true_iff];simp
section
variable {N:Nat} {ops:Array Oper} {Q:Exit→Act→World→Prop} {σ:Env} {w:World} {ty:TypeId} {pos:String} {af:Array Edge} {dst:Option Nat} {Post:Value→World→Prop}
theorem ow_shapeE {U:TypeId} {x y:Operand} {a b c d e f:Int} (hx:ev σ x=some (.agg #[.int .i64 a,.int .i64 b,.int .i64 c])) (hy:ev σ y=some (.agg #[.int .i64 d,.int .i64 e,.int .i64 f])) (k:Post (.bool (decide (a=d∧b=e∧c=f))) w):OW Tryz.prog N ops Q ⟨dst,.binOp .eql 68 x y U,ty,pos,af,none⟩ σ w Post:=
 yw (fun ρ ha=>by
  have e:=shape_run w a b c d e f;simp only[execOp,ha hx,ha hy,eqGuard,binOp]
  simp[e,go_sem,(zoq 0 0 0).2.2.1]) k
theorem ow_shapeN {U:TypeId} {x y:Operand} {a b c d e f:Int} (hx:ev σ x=some (.agg #[.int .i64 a,.int .i64 b,.int .i64 c])) (hy:ev σ y=some (.agg #[.int .i64 d,.int .i64 e,.int .i64 f])) (k:Post (.bool (!decide (a=d∧b=e∧c=f))) w):OW Tryz.prog N ops Q ⟨dst,.binOp .neq 68 x y U,ty,pos,af,none⟩ σ w Post:=
 yw (fun ρ ha=>by
  have e:=shape_run w a b c d e f;simp only[execOp,ha hx,ha hy,eqGuard,binOp]
  simp[e,go_sem,(zoq 0 0 0).2.2.1]) k
theorem ow_shapeT {U:TypeId} {x y:Operand} {a b c d e f:Int} (hx:ev σ x=some (.agg #[.int .i64 a,.int .i64 b,.int .i64 c])) (hy:ev σ y=some (.agg #[.int .i64 d,.int .i64 e,.int .i64 f])) (h:a=d∧b=e∧c=f) (k:Post (.bool true) w):OW Tryz.prog N ops Q ⟨dst,.binOp .eql 68 x y U,ty,pos,af,none⟩ σ w Post:=
 ow_shapeE hx hy (by rw[decide_eq_true h];exact k)
theorem zrz {U:TypeId} {x y:Operand} {a b c d e f:Int} (hx:ev σ x=some (.agg #[.int .i64 a,.int .i64 b,.int .i64 c])) (hy:ev σ y=some (.agg #[.int .i64 d,.int .i64 e,.int .i64 f])) (h:¬(a=d∧b=e∧c=f)) (k:Post (.bool false) w):OW Tryz.prog N ops Q ⟨dst,.binOp .eql 68 x y U,ty,pos,af,none⟩ σ w Post:=
 ow_shapeE hx hy (by rw[decide_eq_false h];exact k)
theorem ow_sliceOne {P:Program} {T e:TypeId} {x y:Operand} {g n c m:Nat} {q:IntKind} (hd:P.underlying T=some (.slice e)) (hs:vf P e 1) (hx:ev σ x=some (.slice (some ⟨g,0,none⟩) n c)) (hy:ev σ y=some (.int q 1)) (hn:n=m+1) (hc:n≤c) (h2:1<c)
 (k:Post (.slice (some ⟨g,1,none⟩) m (c-1)) w):OW P N ops Q ⟨dst,.slice T x (some y) none none,ty,pos,af,none⟩ σ w Post:=
 ysq (l:=1) (h:=n) hd hs hx ⟨q,hy⟩ rfl (by omega) hc (by
  rw[if_neg (by omega)];subst hn;exact k)
end
end Go.Proofs.YtebjkmjfcijebaaGreat
