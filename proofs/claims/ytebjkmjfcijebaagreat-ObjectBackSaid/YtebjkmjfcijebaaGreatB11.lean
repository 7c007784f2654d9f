/- Texts of this claim. -/
import Derived.Test.YtebjkmjfcijebaaGreatB10
set_option maxRecDepth 100000
namespace Go.Proofs.YtebjkmjfcijebaaGreat
open Go.RowKit
set_option maxHeartbeats 20000000
attribute [local irreducible] OW RS CW EW
theorem oroom_any (lo gm gW cap top j:Nat) (w:World) (W:List Nat) (hM:OwnM lo w gm gW cap W top):Calls Tryz.prog 46 #[.pointer (some ⟨gm,0,none⟩),.int .i64 ((j:Nat):Int)] w fun e w'=>e= .returned (.bool (decide (top+j≤W.length)))∧Below w.heap.size w w':=by
 have h3:=hM.len;have h4:=hM.most;refine zh Tryz.func46 rfl Tryz.ntmps46 rfl (yb ?_);refine yv (No) Mut.none_ [] [] (jh [Fx.of (.int .i64 ((j:Nat):Int)),
  Fx.of (.pointer (some ⟨gm,0,none⟩)),
  Fx.of (.pointer (some ⟨gm,0,none⟩)),
  Fx.of (.pointer (some ⟨gm,0,none⟩)),
  Fx.of (.slice (some ⟨gW,0,none⟩) W.length cap),
  Fx.of (.int .i64 (((W.length:Nat)):Int)),
  Fx.of (.pointer (some ⟨gm,0,none⟩)),
  Fx.of (.pointer (some ⟨gm,0,none⟩)),
  Fx.of (.pointer (some ⟨gm,1,none⟩)),
  Fx.of (.int .i64 ((top:Nat):Int)),
  Fx.of (.int .i64 ((((W.length:Nat)):Int)-((top:Nat):Int))),
  Fx.of (.bool (decide (top+j≤W.length))),
  Fx.of (.bool (decide (top+j≤W.length)))]) qt rfl trivial (fun _ h=>by cases h) ?_ ?_
 · refine ⟨arm,arm,arm,arm,?_,arm,arm,arm,arm,?_,?_,?_,arm,trivial⟩
   · intro vs X wq K;have LE:=K.1;obtain ⟨_,e3,k3⟩:=K.dep 3 rfl rfl rfl;refine zc 8 _ rfl e3 ?_;exact zl u22 rfl rfl (yh LE hM.mb) rfl ⟨Below.refl _ _,Left.of rfl⟩
   · intro vs X wq K;have LE:=K.1;obtain ⟨_,e8,k8⟩:=K.dep 8 rfl rfl rfl;refine zc 13 _ rfl e8 ?_;exact zl Tryz.underlying3 rfl rfl (yh LE hM.mb) rfl ⟨Below.refl _ _,Left.of rfl⟩
   · intro vs X wq K;obtain ⟨_,e5,k5⟩:=K.dep 5 rfl rfl rfl;refine zc 10 _ rfl e5 ?_;obtain ⟨_,e9,k9⟩:=K.dep 9 rfl rfl rfl;refine zc 14 _ rfl e9 ?_;exact qz rfl rfl (zg (by omega)) ⟨Below.refl _ _,Left.of rfl⟩
   · intro vs X wq K;obtain ⟨_,e0,k0⟩:=K.dep 0 rfl rfl rfl;refine zc 5 _ rfl e0 ?_;obtain ⟨_,e10,k10⟩:=K.dep 10 rfl rfl rfl;refine zc 15 _ rfl e10 ?_;exact yzx rfl rfl ⟨Below.refl _ _,Left.of ((by congr 1;rw[decide_eq_decide];omega:(.bool (decide (((j:Nat):Int)≤((((W.length:Nat)):Int)-((top:Nat):Int)))):Value)=_))⟩
 intro vs w1 LE AO AL AF AA;have hbd:Below (w).heap.size (w) w1:=(((Ext.refl No (w)).drew).trans LE).toBelow;obtain ⟨_,e12,k12⟩:=AL.2.2.2.2.2.2.2.2.2.2.2.2.1;refine qe (τ:=[(4,.bool (decide (top+j≤W.length)))]) ⟨congrArg some e12,trivial⟩ ?_;clear AL AF AA AO;refine qc ?_;exact ⟨rfl,hbd⟩
theorem small_any (w:World) (n:Nat) (hn:n≤20000):Calls Tryz.prog 27 #[.int .i64 ((n:Nat):Int)] w fun e w'=>e= .returned (.tuple #[.int .u64 ((4*n+1:Nat):Int),.int .i64 0])∧Below w.heap.size w w':=by
 refine zh Tryz.func27 rfl Tryz.ntmps27 rfl (yt ?_);refine zf 5 (.bool false) rfl ((by rw[decide_eq_false];omega:(.bool (decide (((n:Nat):Int)< -999999999999999999)):Value)=_)) (qc ?_);refine zf 8 (.bool false) rfl ((by rw[decide_eq_false];omega:(.bool (decide ((999999999999999999:Int)<((n:Nat):Int))):Value)=_)) (qa ?_);refine za rfl (yi u27 Tryz.underlying3 rfl (wrap_u64 (by omega)) (za rfl (xn rfl rfl (by decide) (shl_O (x:=n) (k:=2) (by decide) (by omega)) (za rfl (zrq rfl rfl (or_maskO (x:=n*2^2) (y:=1) (k:=2) (by omega) (by decide) (by decide) (by omega)) (zf 13 (.int .u64 ((4*n+1:Nat):Int)) rfl ((by congr 1;omega:(.int .u64 ((n*2^2+1:Nat):Int):Value)=_)) (yb ?_)))))));exact ⟨rfl,Below.refl _ _⟩
theorem num_any (w:World) (x:Nat) (hx:U64 x) (hk:zw x=1) (h4:x%4=1):Calls Tryz.prog 31 #[.int .u64 ((x:Nat):Int)] w fun e w'=>e= .returned (.tuple #[.int .i64 (zzv x),.int .i64 0])∧Below w.heap.size w w':=by
 have hx':x<18446744073709551616:=hx;refine zh Tryz.func31 rfl Tryz.ntmps31 rfl (zz ?_);refine za rfl (zd en30 rfl ((ji _ x hx).mono ?_));rintro e w1 ⟨rfl,hb⟩;refine ⟨_,rfl,(stp ?_)⟩;refine zf 6 (.bool false) rfl ((by rw[hk];rfl:(.bool (((zw x:Nat):Int) !=1):Value)=_)) (yx ?_);refine za rfl (yi Tryz.underlying2 u27 rfl rfl (za rfl (je rfl rfl (by decide) (ydx hx' h4) (yb ?_))));exact ⟨rfl,hb⟩
theorem small_kind {n b x:Nat} (hn:n≤20000) (hx:x∈ [4*n+1,b]) (hb:b=2∨(b%4=0∧1≤b/4∧b/4<1048576)):zw x≠3:=by
 simp only[List.mem_cons,List.not_mem_nil,or_false] at hx
 rcases hx with rfl | rfl
 · rw[ziq (by omega),zkv (by omega),if_pos (by omega)];decide
 · rcases hb with rfl | ⟨h1,h2⟩
   · decide
   · rw[zuk h1,if_pos h2];decide
theorem zqz (w:World) {g n a b:Nat} (hb:Blk w g 27 #[.int .u64 ((a:Nat):Int),.int .u64 ((b:Nat):Int)]) (hg:g<n) (ha:U64 a) (hb2:U64 b):WordsA n w (some ⟨g,0,none⟩) [a,b]:=
 yqz (W:=[a,b]) hb hg (by show 8*2≤_;decide) (fun x hx=>by
  simp only[List.mem_cons,List.not_mem_nil,or_false] at hx
  rcases hx with rfl | rfl
  · exact ha
  · exact hb2)
section
variable (lo gm gW cap top c n:Nat) (w:World) (W T:List Nat) (B:Option Addr) (l:List Nat) (hM:OwnM lo w gm gW cap W top) (hF:FormL W top l) (hmW:gm≠gW) (hT:∀z,Ext (Mut [some gm,some gW]) w z→WordsA n z B T) (hn:n≤w.heap.size) (hg:∀x∈T,WordOk l x)
include hM hF hmW hT hn hg
theorem olist_any:Calls Tryz.prog 17 #[.pointer (some ⟨gm,0,none⟩),.slice B T.length c] w fun e w'=>((∃er:Int,er≠0∧e= .returned (.tuple #[.int .u64 0,.int .i64 er])∧Below w.heap.size w w'∧(T.length≤20000→W.length<top+6+T.length))∨
 (∃W1 top1 bk,e= .returned (.tuple #[.int .u64 ((4*top1:Nat):Int),.int .i64 0])∧T.length≤20000∧((T= []∧W1=W∧top1=top∧bk=2)∨(T≠ []∧W1=laid W top 11 T []∧top1=top+(2+T.length+0)∧bk=4*top))∧top1+4≤W1.length∧OwnM lo w' gm gW cap (laid W1 top1 5 [4*T.length+1,bk] []) (top1+(2+2+0))∧Ext (Mut [some gm,some gW]) w w')):=by
 have hT0:=hT w (Ext.refl _ _);have hTl:=hT0.len;have hgs:∀x∈T,zw x≠3∧(zw x=0→Seen W top (x/4)):=fun x hx=>⟨(hg x hx).1,fun h0=>hF.seen ((hg x hx).2 h0)⟩;have hlt:=hM.lt;have hm4:=hM.most;refine zh Tryz.func17 rfl Tryz.ntmps17 rfl (yt ?_);refine za rfl (zrv u37 rfl rfl (qc ?_));refine onx rfl (yy u24 rfl kr rfl hM.mb rfl (stp ?_));refine onx rfl (zd en45 rfl ((oall_any _ (some ⟨gW,0,none⟩) B W T cap c _ top hM.mem (hT0.up hn) hgs).mono ?_));rintro e w1 ⟨rfl,hb⟩;refine ⟨_,rfl,?_⟩;have E1:=Ext.of_below hb No;have hM1:=hM.ext E1 (fun h=>h) (fun h=>h);have hT1:∀z,Ext (Mut [some gm,some gW]) w1 z→WordsA n z B T:=fun z hz=>hT z ((E1.mono (Y:=Mut [some gm,some gW]) (fun _ h _=>h.elim)).step hz (fun q hq=>Or.inl hq));refine jt ?_;by_cases hlen:T.length≤20000
 ·
  refine zk 20 (.bool false) rfl ((by rw[decide_eq_false];omega:(.bool (decide (20000<(((T.length:Nat)):Int))):Value)=_)) (yu ?_);by_cases h0:T.length=0
  ·
   refine zf 27 (.bool true) rfl ((by rw[h0];rfl:(.bool (((T.length:Nat):Int)==0):Value)=_)) (zy ?_);refine onx rfl (zd en46 rfl ((oroom_any lo gm gW cap top 4 _ W hM1).mono ?_));rintro e w2 ⟨rfl,hb⟩;refine ⟨_,rfl,?_⟩;have E2:=E1.trans (Ext.of_below hb No);have hM2:=hM.ext E2 (fun h=>h) (fun h=>h);by_cases hr:top+4≤W.length
   ·
    refine zf 30 (.bool true) rfl ((by rw[decide_eq_true hr]:(.bool (decide (top+4≤W.length)):Value)=_)) (zz ?_);refine zf 35 (.bool false) rfl ((by rw[decide_eq_false];omega:(.bool (decide ((0:Int)<((T.length:Nat):Int))):Value)=_)) (ylz ?_);refine za rfl (zd en27 rfl ((small_any _ T.length hlen).mono ?_));rintro e w3 ⟨rfl,hb⟩;refine ⟨_,rfl,?_⟩;have E3:=E2.trans (Ext.of_below hb No);refine xm ?_;refine zf 52 (.bool false) rfl ((by rw[decide_eq_false];omega:(.bool (decide ((0:Int)<((T.length:Nat):Int))):Value)=_)) (zz ?_);refine za rfl (vi (cs:=#[.int .u64 ((4*T.length+1:Nat):Int),.int .u64 2]) u22 qk zr27 (by decide) rfl (by rw[kc];rfl) ?_);rintro gx wX Bx Ex Gx;have E4:=E3.trans Ex;have hM4:=hM.ext E4 (fun h=>h) (fun h=>h);have hl4:=E3.size;have hxg:∀q,Mut [some gm,some gW] q→q≠gx:=fun q hq=>by
     rcases hq with h | h | h
     · have:q=gm:=Option.some.inj h;omega
     · have:q=gW:=Option.some.inj h;omega
     · exact h.elim
    refine za rfl (zd en23 rfl ((zgx lo gm gW cap top 5 2 0 (gx+1) _ W [4*T.length+1,2] [] (some ⟨gx,0,none⟩) none hM4 (by omega) (by show 2≤1048576;decide) (Nat.zero_le _) hmW (fun z hz=>zqz z (Bx.ext hz (fun h=>hxg gx h rfl)) (Nat.lt_succ_self gx) (by unfold U64;omega) (by unfold U64;omega)) (fun z hz=>.nil _ _ _) (fun x hx=>small_kind hlen hx (Or.inl rfl)) hF.rest (by show top+(2+2+0)≤W.length;omega)).mono ?_));rintro e w4 ⟨rfl,hMT,hET⟩;refine ⟨_,rfl,(yx ?_)⟩;exact Or.inr ⟨W,top,2,rfl,hlen,Or.inl ⟨List.eq_nil_of_length_eq_zero h0,rfl,rfl,rfl⟩,hr,hMT,(E4.mono (Y:=Mut [some gm,some gW]) (fun _ h _=>h.elim)).step hET (fun q hq=>Or.inl hq)⟩
   ·
    refine zf 30 (.bool false) rfl ((by rw[decide_eq_false hr]:(.bool (decide (top+4≤W.length)):Value)=_)) (ylz ?_);exact Or.inl ⟨5,by decide,rfl,E2.toBelow,fun _=>by omega⟩
  ·
   refine zf 27 (.bool false) rfl ((by congr 1;rw[beq_eq_false_iff_ne];omega:(.bool (((T.length:Nat):Int)==0):Value)=_)) (jq ?_);refine zf 35 (.bool true) rfl ((by rw[decide_eq_true];omega:(.bool (decide ((0:Int)<((T.length:Nat):Int))):Value)=_)) (qb ?_);refine onx rfl (zr rfl rfl (zg (by omega)) (zf 40 (.int .i64 ((6+T.length:Nat):Int)) rfl ((by first | rfl | (congr 1;omega):(.int .i64 (6+(((T.length:Nat)):Int)):Value)=_)) (onx rfl (zd en46 rfl ((oroom_any lo gm gW cap top (6+T.length) _ W hM1).mono ?_)))));rintro e w5 ⟨rfl,hb⟩;refine ⟨_,rfl,?_⟩;have E2:=E1.trans (Ext.of_below hb No);by_cases hr:top+(6+T.length)≤W.length
   ·
    have hfit:top+(2+T.length+([]:List Nat).length)≤W.length:=by show top+(2+T.length+0)≤W.length;omega
    have h1:=hM.one;refine zf 41 (.bool true) rfl ((by rw[decide_eq_true hr]:(.bool (decide (top+(6+T.length)≤W.length)):Value)=_)) (jq ?_);refine za rfl (zd en27 rfl ((small_any _ T.length hlen).mono ?_));rintro e w6 ⟨rfl,hb⟩;refine ⟨_,rfl,?_⟩;have E3:=E2.trans (Ext.of_below hb No);have hM3:=hM.ext E3 (fun h=>h) (fun h=>h);have hT3:∀z,Ext (Mut [some gm,some gW]) w6 z→WordsA n z B T:=fun z hz=>hT z ((E3.mono (Y:=Mut [some gm,some gW]) (fun _ h _=>h.elim)).step hz (fun q hq=>Or.inl hq));refine xm ?_;refine zf 52 (.bool true) rfl ((by rw[decide_eq_true];omega:(.bool (decide ((0:Int)<((T.length:Nat):Int))):Value)=_)) (yb ?_);refine za rfl (zd en23 rfl ((zgx lo gm gW cap top 11 c 0 n _ W T [] B none hM3 (by omega) (by omega) (Nat.zero_le _) hmW hT3 (fun z hz=>.nil _ _ _) (fun x hx=>(hg x hx).1) hF.rest hfit).mono ?_));rintro e w7 ⟨rfl,hMA,hEA⟩;refine ⟨_,rfl,?_⟩;have hEA2:=(E3.mono (Y:=Mut [some gm,some gW]) (fun _ h _=>h.elim)).step hEA (fun q hq=>Or.inl hq);have hll:=zbq (k:=11) hfit;refine yt ?_;refine za rfl (vi (cs:=#[.int .u64 ((4*T.length+1:Nat):Int),.int .u64 ((4*top:Nat):Int)]) u22 qk zr27 (by decide) rfl (by rw[kc];rfl) ?_);rintro gx wX Bx Ex Gx;have hl4:=hEA2.size;have hM4:=hMA.ext Ex (fun h=>h) (fun h=>h);have hxg:∀q,Mut [some gm,some gW] q→q≠gx:=fun q hq=>by
     rcases hq with h | h | h
     · have:q=gm:=Option.some.inj h;omega
     · have:q=gW:=Option.some.inj h;omega
     · exact h.elim
    refine za rfl (zd en23 rfl ((zgx lo gm gW cap (top+(2+T.length+0)) 5 2 0 (gx+1) _ (laid W top 11 T []) [4*T.length+1,4*top] [] (some ⟨gx,0,none⟩) none hM4 (by omega) (by show 2≤1048576;decide) (Nat.zero_le _) hmW (fun z hz=>zqz z (Bx.ext hz (fun h=>hxg gx h rfl)) (Nat.lt_succ_self gx) (by unfold U64;omega) (by unfold U64;omega)) (fun z hz=>.nil _ _ _) (fun x hx=>small_kind hlen hx (Or.inr (by omega))) (fun i hi=>by rw[yzv hfit hi];exact hF.rest i (by omega)) (by rw[hll];show top+(2+T.length+0)+(2+2+0)≤W.length;omega)).mono ?_));rintro e w8 ⟨rfl,hMT,hET⟩;refine ⟨_,rfl,(yx ?_)⟩;exact Or.inr ⟨laid W top 11 T [],top+(2+T.length+0),4*top,rfl,hlen,Or.inr ⟨fun e=>h0 (by rw[e];rfl),rfl,rfl,rfl⟩,by rw[hll];omega,hMT,(hEA2.step Ex (fun _ h=>h.elim)).step hET (fun q hq=>Or.inl hq)⟩
   ·
    refine zf 41 (.bool false) rfl ((by rw[decide_eq_false hr]:(.bool (decide (top+(6+T.length)≤W.length)):Value)=_)) (gh ?_);exact Or.inl ⟨5,by decide,rfl,E2.toBelow,fun _=>by omega⟩
 ·
  refine zk 20 (.bool true) rfl ((by rw[decide_eq_true];omega:(.bool (decide (20000<(((T.length:Nat)):Int))):Value)=_)) (yt ?_);exact Or.inl ⟨2,by decide,rfl,E1.toBelow,fun h=>absurd h hlen⟩
end
end Go.Proofs.YtebjkmjfcijebaaGreat
namespace Go.Proofs.YtebjkmjfcijebaaGreat
open Go.RowKit
set_option maxHeartbeats 20000000
attribute [local irreducible] OW RS CW EW
theorem new_any (w:World) (n:Nat) (h2:2≤n) (hn:n≤1048576):Calls Tryz.prog 15 #[.int .i64 ((n:Nat):Int)] w fun e w'=>(∃g,e= .returned (.tuple #[.agg #[.slice (some ⟨g,0,none⟩) n n,.int .i64 1],.int .i64 0])∧Blk w' g 27 (List.replicate n (Value.int .u64 0)).toArray∧w.heap.size≤g)∧Below w.heap.size w w':=by
 refine zh Tryz.func15 rfl Tryz.ntmps15 rfl (zy ?_);refine za rfl (zp zr24 ?_);rintro g2 wA B2 E1 G2;refine yx ?_;refine zf 5 (.bool false) rfl ((by rw[decide_eq_false];omega:(.bool (decide (((n:Nat):Int)<2)):Value)=_)) (qc ?_);refine zf 8 (.bool false) rfl ((by rw[decide_eq_false];omega:(.bool (decide ((1048576:Int)<((n:Nat):Int))):Value)=_)) (qa ?_);refine za rfl (ziv (n:=n) u22 ymx rfl rfl rfl rfl rfl (by omega) (by omega) ?_);rintro gs wB Bs E2 Gs;have B2b:=B2.ext E2 (fun h=>h.elim);have hs1:=E1.size;have h2l:=B2.lt;refine za rfl (ye (cs:=#[.slice (some ⟨gs,0,none⟩) n n,.int .i64 1]) pl24 zr24 rfl rfl (zq (zm kr rfl rfl B2b rfl rfl rfl ?_)));rintro wC Bz E3;refine yk ?_;exact ⟨⟨gs,rfl,Bs.ext E3 (fun h=>by have:=yj h;omega),by omega⟩,(((E1.trans E2).noL w.heap.size).step E3 (fun q hq=>Or.inl (show w.heap.size≤q by have:=yj hq;omega))).below (fun _ h=>h)⟩
end Go.Proofs.YtebjkmjfcijebaaGreat
namespace Go.Proofs.YtebjkmjfcijebaaGreat
open Go.RowKit
section
variable {P:Program} {N:Nat} {ops:Array Oper} {Q:Exit→Act→World→Prop} {σ:Env} {w:World} {ty:TypeId} {pos:String} {af:Array Edge} {dst:Option Nat} {Post:Value→World→Prop}
end
end Go.Proofs.YtebjkmjfcijebaaGreat
namespace Go.Proofs.YtebjkmjfcijebaaGreat
theorem zzz:Ext_ Tryz.prog 55 Extern.MathFloatBits.float64frombits:=⟨_,Tryz.func55,by kernel_rfl,by kernel_rfl,by kernel_rfl,by kernel_rfl⟩
theorem ex74:Ext_ Tryz.prog 74 Extern.MathFloatBits.float64bits:=⟨_,Tryz.func74,by kernel_rfl,by kernel_rfl,by kernel_rfl,by kernel_rfl⟩
theorem ex115:Ext_ Tryz.prog 115 (Extern.MathFloor.toIntegral "math.archTrunc" .zero):=⟨_,Tryz.func115,by kernel_rfl,by kernel_rfl,by kernel_rfl,by kernel_rfl⟩
end Go.Proofs.YtebjkmjfcijebaaGreat
namespace Go.Proofs.YtebjkmjfcijebaaGreat
open Go.RowKit
attribute [local irreducible] OW RS CW EW
set_option maxHeartbeats 20000000
def yc (m:Nat):Nat:=if isN m then 9221120237041090560 else m
def ansF (z:Option Nat):Nat:=z.getD 9221120237041090560
theorem FRes.bare {op:BinOp} {a b r:Nat} {w w':World} (h:FRes (fop op a b) r w w'):yc r=ansF (fop op a b):=by
 rcases h with ⟨hz,_⟩ | ⟨hz,hn,_⟩
 · rw[hz];unfold yc ansF;rw[(fop_num hz).1];rfl
 · rw[hz];unfold yc ansF;rw[nan_isN hn];rfl
theorem bareN_lt {m:Nat} (h:m<18446744073709551616):yc m<18446744073709551616:=by unfold yc;split<;>omega
theorem jj (m:Nat):(jf m m !=some .eq)=isN m:=by
 cases h:isN m with
 | true=>rw[zgv (.inl h)];rfl
 | false=>rw[ztk h h,ykx];rfl
theorem zjk (m:Nat) (h:m<18446744073709551616):(BitVec.ofInt 64 (m:Int)).toNat=m:=by
 rw[BitVec.toNat_ofInt];omega
theorem zzk {m:Nat} (h:m<18446744073709551616):IntKind.u64.wrap (m:Int)=(m:Int):=wrap_u64 (by omega)
theorem ywq {m n:Nat} (hm:m<18446744073709551616) (hn:n<18446744073709551616):IntKind.u64.wrap (BitVec.ofInt IntKind.u64.bits (m:Int) &&& BitVec.ofInt IntKind.u64.bits (n:Int)).toNat=((m &&& n:Nat):Int):=by
 have h1:=zjk m hm;have h2:=zjk n hn;show IntKind.u64.wrap (((BitVec.ofInt 64 (m:Int) &&& BitVec.ofInt 64 (n:Int)).toNat:Nat):Int)=_
 rw[BitVec.toNat_and,h1,h2];exact zzk (Nat.lt_of_le_of_lt Nat.and_le_left hm)
theorem and_low {m:Nat} (hm:m<18446744073709551616):IntKind.u64.wrap (BitVec.ofInt IntKind.u64.bits (m:Int) &&& BitVec.ofInt IntKind.u64.bits 9223372036854775807).toNat=((rg m:Nat):Int):=by
 have:=ywq (n:=9223372036854775807) hm (by decide);rw[show m &&& 9223372036854775807=rg m from Nat.and_two_pow_sub_one_eq_mod m 63] at this;exact this
def isZ (b:Nat):Bool:=decide (rg b=0)
theorem ztq (b:Nat):(jf b 0==some .eq)=isZ b:=by
 cases h:isN b with
 | true=>
  rw[zgv (.inl h)];have:isZ b=false:=by unfold isN at h;unfold isZ;simp at h ⊢;omega
  rw[this];rfl
 | false=>
  rw[ztk h (by decide)];have h0:pc 0=0:=by decide
  rw[h0,zqx,isZ];by_cases hz:rg b=0
  · have:pc b=0:=by unfold pc;split<;>omega
    rw[this];simp[hz]
  · have:pc b≠0:=by unfold pc;split<;>omega
    rw[if_neg this];split<;>simp[hz]<;>decide
def divV (a b:Nat):Nat:=if isZ b then 0 else ansF (fop .quo a b)
def divE (b:Nat):Int:=if isZ b then 6 else 0
def ordI (x y:Int):Int:=if x<y then -1 else if x>y then 1 else 0
def jd (a b:Nat):Bool:=!(isN a)&& !(isN b)
def cmpF (a b:Nat):Int:=if jd a b then ordI (pc a) (pc b) else 0
theorem zjx {a b:Nat} {o:Ordering} (h:(jf a b==some o)=true):jd a b=true:=by
 unfold jd;cases ha:isN a with
 | true=>rw[zgv (.inl ha)] at h;cases h
 | false=>
  cases hbq:isN b with
  | true=>rw[zgv (.inr hbq)] at h;cases h
  | false=>rfl
theorem ybk {a b:Nat} (h:jd a b=true):jf a b=some (zqx (pc a) (pc b)):=by
 unfold jd at h;simp at h
 exact ztk h.1 h.2
theorem cmpF_lt {a b:Nat} (h:(jf a b==some .lt)=true):cmpF a b= -1:=by
 have ho:=zjx h;rw[ybk ho] at h;rw[cmpF,if_pos ho,ordI];unfold zqx at h;split at h
 · rename_i h1;rw[if_pos h1]
 · split at h<;>cases h
theorem cmpF_gt {a b:Nat} (h:(jf a b==some .gt)=true):cmpF a b=1:=by
 have ho:=zjx h;rw[ybk ho] at h;rw[cmpF,if_pos ho,ordI];unfold zqx at h;split at h
 · cases h
 · split at h
   · cases h
   · rename_i h1 h2;rw[if_neg h1,if_pos (by omega)]
theorem cmpF_no {a b:Nat} (h:(jf a b==some .lt)=false) (h2:(jf a b==some .gt)=false):cmpF a b=0∧jd a b=(jf a b==some .eq):=by
 cases ho:jd a b with
 | true=>
  rw[ybk ho] at h h2 ⊢;rw[cmpF,if_pos ho,ordI];rcases Int.lt_trichotomy (pc a) (pc b) with h1 | h1 | h1
  · rw[ykz h1] at h;cases h
  · rw[h1,ykx];exact ⟨by rw[if_neg (by omega),if_neg (by omega)],rfl⟩
  · rw[ywx h1] at h2;cases h2
 | false=>
  refine ⟨by rw[cmpF,if_neg (by rw[ho];decide)],?_⟩;unfold jd at ho;cases ha:isN a with
  | true=>rw[zgv (.inl ha)];rfl
  | false=>
   cases hbq:isN b with
   | true=>rw[zgv (.inr hbq)];rfl
   | false=>rw[ha,hbq] at ho;cases ho
section
variable (w:World)
/-! ### package real -/
theorem bare_any (m:Nat):Calls Tryz.prog 54 #[.float .f64 m] w fun e w'=>e= .returned (.int .u64 ((yc m:Nat):Int))∧Below w.heap.size w w':=by
 refine zh Tryz.func54 rfl Tryz.ntmps54 rfl ?_;have LW:=erx (No) w;have XLW:=grx (No) w;have E:=erx (No) w;refine zz ?_;refine za rfl (xf rfl rfl (zy ?_));refine zk 5 (.bool (isN m)) rfl ((by rw[jj]:(.bool (jf m m !=some .eq):Value)=_)) (zx rfl (fun h=>?_) (fun h=>?_))
 ·
  refine yx ?_;exact ⟨by rw[yc,if_pos h];rfl,(LW.step E XLW).toBelow⟩
 ·
  refine yk ?_;refine za rfl (zwk ex74 rfl (yk ?_));exact ⟨by rw[yc,if_neg (by rw[h];decide)];rfl,(LW.step E XLW).toBelow⟩
section
variable (a b:Nat)
theorem zjv:Calls Tryz.prog 24 #[.int .u64 ((a:Nat):Int)] w fun e w'=>e= .returned (.int .u64 ((yc (ya a):Nat):Int))∧Below w.heap.size w w':=by
 refine zh Tryz.func24 rfl Tryz.ntmps24 rfl ?_;have LW:=erx (No) w;have XLW:=grx (No) w;have E:=erx (No) w;refine yx ?_;refine za rfl (qp (b:=a) zzz rfl (za rfl (ow_fneg rfl (za rfl (zd en54 rfl ((bare_any _ (ya a)).mono ?_))))));rintro e w1 ⟨rfl,hb⟩;refine ⟨_,rfl,?_⟩;replace E:=blx E hb;refine yk ?_;exact ⟨rfl,(LW.step E XLW).toBelow⟩
theorem cmp_any_r:Calls Tryz.prog 88 #[.int .u64 ((a:Nat):Int),.int .u64 ((b:Nat):Int)] w fun e w'=>e= .returned (.tuple #[.int .i64 (cmpF a b),.bool (jd a b)])∧Below w.heap.size w w':=by
 refine zh Tryz.func88 rfl Tryz.ntmps88 rfl ?_;have LW:=erx (No) w;have XLW:=grx (No) w;have E:=erx (No) w;refine qa ?_;refine za rfl (qp (b:=a) zzz rfl (stp ?_));refine za rfl (qp (b:=b) zzz rfl (zz ?_));refine za rfl (yhq rfl rfl (qc ?_));refine zx rfl (fun h=>?_) (fun h=>?_)
 ·
  refine zz ?_;exact ⟨by rw[cmpF_lt h,zjx h];rfl,(LW.step E XLW).toBelow⟩
 ·
  refine qb ?_;refine za rfl (ow_fgtr rfl rfl (qc ?_));refine zx rfl (fun h2=>?_) (fun h2=>?_)
  ·
   refine zz ?_;exact ⟨by rw[cmpF_gt h2,zjx h2];rfl,(LW.step E XLW).toBelow⟩
  ·
   refine yu ?_;refine za rfl (yhk rfl rfl (yb ?_));exact ⟨by rw[(cmpF_no h h2).1,(cmpF_no h h2).2];rfl,(LW.step E XLW).toBelow⟩
end
end
/-! ### the document's -/
section
variable (w:World)
section
variable (a:Nat) (ha:a<18446744073709551616)
include ha
theorem qax:Calls Tryz.prog 62 #[.int .u64 ((a:Nat):Int)] w fun e w'=>e= .returned (.bool (isN a))∧Below w.heap.size w w':=by
 refine zh Tryz.func62 rfl Tryz.ntmps62 rfl ?_;have LW:=erx (No) w;have XLW:=grx (No) w;have E:=erx (No) w;refine yx ?_;refine za rfl (kw rfl rfl (and_low ha) (yb ?_));exact ⟨by rw[show isN a=decide (((rg a:Nat):Int)>9218868437227405312) from by unfold isN;congr 1;apply propext;omega];rfl,(LW.step E XLW).toBelow⟩
theorem below_any_r:Calls Tryz.prog 83 #[.int .u64 ((a:Nat):Int)] w fun e w'=>e= .returned (.bool (ng a))∧Below w.heap.size w w':=by
 refine zh Tryz.func83 rfl Tryz.ntmps83 rfl ?_;have LW:=erx (No) w;have XLW:=grx (No) w;have E:=erx (No) w;refine jt ?_;exact ⟨by rw[ng_of ha,show decide (9223372036854775808≤a)=decide (((a:Nat):Int)≥9223372036854775808) from by congr 1;apply propext;omega];rfl,(LW.step E XLW).toBelow⟩
theorem place_any:Calls Tryz.prog 81 #[.int .u64 ((a:Nat):Int)] w fun e w'=>e= .returned (.int .i64 (pc a))∧Below w.heap.size w w':=by
 have hr:=rg_lt a;refine zh Tryz.func81 rfl Tryz.ntmps81 rfl ?_;have LW:=erx (No) w;have XLW:=grx (No) w;have E:=erx (No) w;refine qa ?_;refine za rfl (zd en83 rfl ((below_any_r _ a ha).mono ?_));rintro e w1 ⟨rfl,hb⟩;refine ⟨_,rfl,?_⟩;replace E:=blx E hb;refine zy ?_;refine zx rfl (fun h=>?_) (fun h=>?_)
 ·
  refine qc ?_;refine za rfl (kw rfl rfl (and_low ha) (za rfl (yi Tryz.underlying3 u27 rfl (zg (by omega)) (za rfl (yyv rfl (zg (by omega)) (yb ?_))))));exact ⟨by rw[pc,if_pos h,←Int.zero_sub];rfl,(LW.step E XLW).toBelow⟩
 ·
  have hlt:a<9223372036854775808:=by rw[ng_of ha] at h;simpa using h
  refine yk ?_;refine za rfl (yi Tryz.underlying3 u27 rfl (zg (by omega)) (yk ?_));exact ⟨by rw[pc,if_neg (by rw[h];decide),show rg a=a from Nat.mod_eq_of_lt hlt];rfl,(LW.step E XLW).toBelow⟩
end
theorem order_any (x y:Int):Calls Tryz.prog 80 #[.int .i64 x,.int .i64 y] w fun e w'=>e= .returned (.int .i64 (ordI x y))∧Below w.heap.size w w':=by
 refine zh Tryz.func80 rfl Tryz.ntmps80 rfl ?_;have LW:=erx (No) w;have XLW:=grx (No) w;have E:=erx (No) w;refine jq ?_;refine zx rfl (fun h=>?_) (fun h=>?_)
 ·
  refine yx ?_;exact ⟨by rw[ordI,if_pos (of_decide_eq_true h)];rfl,(LW.step E XLW).toBelow⟩
 ·
  refine zz ?_;refine zx rfl (fun h2=>?_) (fun h2=>?_)
  ·
   refine yx ?_;exact ⟨by rw[ordI,if_neg (of_decide_eq_false h),if_pos (of_decide_eq_true h2)];rfl,(LW.step E XLW).toBelow⟩
  ·
   refine qa ?_;exact ⟨by rw[ordI,if_neg (of_decide_eq_false h),if_neg (of_decide_eq_false h2)];rfl,(LW.step E XLW).toBelow⟩
section
variable (a b:Nat) (ha:a<18446744073709551616) (hbq:b<18446744073709551616)
include ha hbq
theorem rcmp_any_r:Calls Tryz.prog 67 #[.int .u64 ((a:Nat):Int),.int .u64 ((b:Nat):Int)] w fun e w'=>e= .returned (.tuple #[.int .i64 (cmpF a b),.bool (jd a b)])∧Below w.heap.size w w':=by
 refine zh Tryz.func67 rfl Tryz.ntmps67 rfl ?_;have LW:=erx (No) w;have XLW:=grx (No) w;have E:=erx (No) w;refine zz ?_;refine za rfl (zd en62 rfl ((qax _ a ha).mono ?_));rintro e w1 ⟨rfl,hb⟩;refine ⟨_,rfl,?_⟩;replace E:=blx E hb;refine stp ?_;refine yn 8 rfl (fun q=>?_) (fun q=>?_)
 ·
  refine xb ?_;exact ⟨by rw[cmpF,if_neg (by rw[jd,q];simp),jd,q];rfl,(LW.step E XLW).toBelow⟩
 ·
  refine stp ?_;refine onx rfl (zd en62 rfl ((qax _ b hbq).mono ?_));rintro e w2 ⟨rfl,hb⟩;refine ⟨_,rfl,?_⟩;replace E:=blx E hb;refine qc ?_;refine zx rfl (fun q2=>?_) (fun q2=>?_)
  ·
   refine qa ?_;exact ⟨by rw[cmpF,if_neg (by rw[jd,q,q2];decide),jd,q,q2];rfl,(LW.step E XLW).toBelow⟩
  ·
   refine yk ?_;refine za rfl (zd en81 rfl ((place_any _ a ha).mono ?_));rintro e w3 ⟨rfl,hb⟩;refine ⟨_,rfl,?_⟩;replace E:=blx E hb;refine stp ?_;refine za rfl (zd en81 rfl ((place_any _ b hbq).mono ?_));rintro e w4 ⟨rfl,hb⟩;refine ⟨_,rfl,?_⟩;replace E:=blx E hb;refine za rfl (zd en80 rfl ((order_any _ (pc a) (pc b)).mono ?_));rintro e w5 ⟨rfl,hb⟩;refine ⟨_,rfl,?_⟩;replace E:=blx E hb;refine yb ?_;exact ⟨by rw[cmpF,if_pos (by rw[jd,q,q2];rfl),jd,q,q2];rfl,(LW.step E XLW).toBelow⟩
end
end
end Go.Proofs.YtebjkmjfcijebaaGreat
namespace Go.Proofs.YtebjkmjfcijebaaGreat
open Go.RowKit
attribute [local irreducible] OW RS CW EW
set_option maxHeartbeats 20000000
theorem zxx (m:Nat):BitVec.ofInt 64 ((m:Nat):Int)=BitVec.ofNat 64 m:=BitVec.ofInt_natCast 64 m
theorem qeq {a:Nat} (ha:a<18446744073709551616):IntKind.u64.wrap (BitVec.ofInt IntKind.u64.bits ((a:Nat):Int) &&& ~~~BitVec.ofInt IntKind.u64.bits 9223372036854775808).toNat=((rg a:Nat):Int):=by
 have h:=andNot_sign_nat ha;show IntKind.u64.wrap (((BitVec.ofInt 64 ((a:Nat):Int) &&& ~~~BitVec.ofInt 64 ((9223372036854775808:Nat):Int)).toNat:Nat):Int)=_
 rw[zxx,zxx,h];exact zzk (Nat.lt_trans (rg_lt a) (by decide))
theorem ypv {a:Nat} (ha:a<18446744073709551616):IntKind.u64.wrap (BitVec.ofInt IntKind.u64.bits ((a:Nat):Int) &&& ~~~BitVec.ofInt IntKind.u64.bits 9218868437227405312).toNat=((a/9223372036854775808*9223372036854775808+a%4503599627370496:Nat):Int):=by
 have h:=andNot_exp_nat ha;show IntKind.u64.wrap (((BitVec.ofInt 64 ((a:Nat):Int) &&& ~~~BitVec.ofInt 64 ((9218868437227405312:Nat):Int)).toNat:Nat):Int)=_
 rw[zxx,zxx,h];exact zzk (by omega)
theorem ysv {m n:Nat} (hm:m<18446744073709551616) (hn:n<18446744073709551616):IntKind.u64.wrap (BitVec.ofInt IntKind.u64.bits (m:Int) ||| BitVec.ofInt IntKind.u64.bits (n:Int)).toNat=((m ||| n:Nat):Int):=by
 have h1:=zjk m hm;have h2:=zjk n hn;show IntKind.u64.wrap (((BitVec.ofInt 64 (m:Int) ||| BitVec.ofInt 64 (n:Int)).toNat:Nat):Int)=_
 rw[BitVec.toNat_or,h1,h2];exact zzk (Nat.or_lt_two_pow (n:=64) (by omega) (by omega))
theorem and_sign {a:Nat} (ha:a<18446744073709551616):IntKind.u64.wrap (BitVec.ofInt IntKind.u64.bits ((a:Nat):Int) &&& BitVec.ofInt IntKind.u64.bits 9223372036854775808).toNat=((if ng a then 9223372036854775808 else 0:Nat):Int):=by
 have:=ywq (n:=9223372036854775808) ha (by decide);rw[and_sign_nat a ha] at this;exact this
theorem isN_rg (a:Nat):isN (rg a)=isN a:=by unfold isN rg;rw[Nat.mod_mod]
theorem rg_rg (a:Nat):rg (rg a)=rg a:=Nat.mod_mod _ _
theorem ng_rg (a:Nat):ng (rg a)=false:=by
 have:=rg_lt a;unfold ng;rw[Nat.div_eq_of_lt this];rfl
theorem pc_rg (a:Nat):pc (rg a)=((rg a:Nat):Int):=by rw[pc,ng_rg,rg_rg];rfl
theorem ford_rg {a c:Nat} (ha:isN a=false) (hc:isN c=false):jf (rg a) (rg c)=some (zqx ((rg a:Nat):Int) ((rg c:Nat):Int)):=by
 rw[ztk (by rw[isN_rg];exact ha) (by rw[isN_rg];exact hc),pc_rg,pc_rg]
theorem isinf_cond (a:Nat):(jf (rg a) 9218868437227405311==some .gt)=decide (rg a=9218868437227405312):=by
 cases h:isN a with
 | true=>
  rw[zgv (.inl (by rw[isN_rg];exact h))];have:¬rg a=9218868437227405312:=by have:=of_decide_eq_true h;omega
  rw[decide_eq_false this];rfl
 | false=>
  have h2:=ford_rg (c:=9218868437227405311) h (by decide);rw[show rg 9218868437227405311=9218868437227405311 from by decide] at h2;have h3:¬9218868437227405312<rg a:=of_decide_eq_false h;rw[h2];by_cases h4:rg a=9218868437227405312
  · rw[h4];decide
  · rw[decide_eq_false h4,zqx];split
    · rfl
    · split
      · rfl
      · omega
theorem sub_cond {a:Nat} (h:isN a=false):(jf (rg a) 4503599627370496==some .lt)=decide (rg a<4503599627370496):=by
 have h2:=ford_rg (c:=4503599627370496) h (by decide);rw[show rg 4503599627370496=4503599627370496 from by decide] at h2;rw[h2];by_cases h4:rg a<4503599627370496
 · rw[decide_eq_true h4,ykz (by omega)];rfl
 · rw[decide_eq_false h4,zqx,if_neg (by omega)];split<;>rfl
section
variable (w:World) (a:Nat) (ha:a<18446744073709551616)
include ha
theorem ywv:Calls Tryz.prog 93 #[.float .f64 a] w fun e w'=>e= .returned (.float .f64 (rg a))∧Below w.heap.size w w':=by
 refine zh Tryz.func93 rfl Tryz.ntmps93 rfl ?_;have LW:=erx (No) w;have XLW:=grx (No) w;have E:=erx (No) w;refine yx ?_;refine za rfl (zwk ex74 rfl (za rfl (zsx rfl rfl (qeq ha) (za rfl (qp (b:=rg a) zzz rfl (yk ?_))))));exact ⟨rfl,(LW.step E XLW).toBelow⟩
theorem jm:Calls Tryz.prog 91 #[.float .f64 a,.int .i64 0] w fun e w'=>e= .returned (.bool (decide (rg a=9218868437227405312)))∧Below w.heap.size w w':=by
 refine zh Tryz.func91 rfl Tryz.ntmps91 rfl ?_;have LW:=erx (No) w;have XLW:=grx (No) w;have E:=erx (No) w;refine xb ?_;refine za rfl (zd en93 rfl ((ywv _ a ha).mono ?_));rintro e w1 ⟨rfl,hb⟩;refine ⟨_,rfl,?_⟩;replace E:=blx E hb;refine yb ?_;refine za rfl (ow_fgtr rfl rfl (yk ?_));exact ⟨by rw[←isinf_cond];rfl,(LW.step E XLW).toBelow⟩
omit ha in
theorem ypx:Calls Tryz.prog 117 #[.float .f64 a] w fun e w'=>e= .returned (.bool (isN a))∧Below w.heap.size w w':=by
 refine zh Tryz.func117 rfl Tryz.ntmps117 rfl ?_;have LW:=erx (No) w;have XLW:=grx (No) w;have E:=erx (No) w;refine qa ?_;refine za rfl (xf rfl rfl (yk ?_));exact ⟨by rw[←jj];rfl,(LW.step E XLW).toBelow⟩
theorem copysign_any (b:Nat) (hb:b<18446744073709551616):Calls Tryz.prog 101 #[.float .f64 a,.float .f64 b] w fun e w'=>e= .returned (.float .f64 (Ieee.double.word (ng b) (rg a)))∧Below w.heap.size w w':=by
 have hr:=rg_lt a;have ho:(rg a ||| (if ng b then 9223372036854775808 else 0:Nat))=Ieee.double.word (ng b) (rg a):=by
  unfold Ieee.Format.word;rw[c1];split
  · rw[Nat.or_comm];exact or_add 63 hr rfl
  · exact Nat.or_zero _
 have hs:(if ng b then 9223372036854775808 else 0:Nat)<18446744073709551616:=by split<;>decide
 refine zh Tryz.func101 rfl Tryz.ntmps101 rfl ?_;have LW:=erx (No) w;have XLW:=grx (No) w;have E:=erx (No) w;refine yx ?_;refine za rfl (zwk ex74 rfl (za rfl (zsx rfl rfl (qeq ha) (stp ?_))));refine za rfl (zwk ex74 rfl (za rfl (kw rfl rfl (and_sign hb) (za rfl (zrq rfl rfl (ysv (Nat.lt_trans hr (by decide)) hs) (za rfl (qp (b:=rg a ||| (if ng b then 9223372036854775808 else 0:Nat)) zzz rfl (yk ?_))))))));exact ⟨by rw[←ho];rfl,(LW.step E XLW).toBelow⟩
end
end Go.Proofs.YtebjkmjfcijebaaGreat
namespace Go.Proofs.YtebjkmjfcijebaaGreat
open Go.RowKit
attribute [local irreducible] OW RS CW EW
set_option maxHeartbeats 20000000
theorem word_self {a:Nat} (ha:a<18446744073709551616):Ieee.double.word (ng a) (rg a)=a:=by
 obtain ⟨h1,h2,h3⟩:=gg (ng a) (rg a) (rg_lt a);exact rg_ng_inj h3 ha h1 h2
def nzB (a:Nat):Nat:=Ieee.double.word (ng a) (nr (rg a))
def nzE (a:Nat):Int:=if rg a<4503599627370496 then -52 else 0
theorem nzB_big {a:Nat} (ha:a<18446744073709551616) (h:¬rg a<4503599627370496):nzB a=a:=by
 rw[nzB,nr,if_neg h];exact word_self ha
theorem nzB_lt {a:Nat} (h0:rg a≠0) (hf:rg a<9218868437227405312):nzB a<18446744073709551616:=(gg (ng a) (nr (rg a)) (Nat.lt_trans (yiz h0 hf) (by decide))).2.2
theorem FRes.some {z:Option Nat} {r q:Nat} {w w':World} (h:FRes z r w w') (hz:z=some q):r=q:=by
 rcases h with ⟨h1,_⟩ | ⟨h1,_⟩
 · rw[hz] at h1;exact (Option.some.inj h1).symm
 · rw[hz] at h1;cases h1
theorem qiz {a:Nat} (hf:rg a<9218868437227405312):isN a=false:=decide_eq_false (by omega)
theorem shr52 (m:Nat):((m:Nat):Int).fdiv (2^(min (52:Int).toNat IntKind.u64.bits))=((m/4503599627370496:Nat):Int):=by
 show ((m:Nat):Int).fdiv (2^52)=_
 rw[show (2:Int)^52=((4503599627370496:Nat):Int) from rfl,Int.fdiv_eq_ediv_of_nonneg _ (by omega)];rfl
theorem and_2047 {m:Nat} (hm:m<18446744073709551616):IntKind.u64.wrap (BitVec.ofInt IntKind.u64.bits ((m:Nat):Int) &&& BitVec.ofInt IntKind.u64.bits 2047).toNat=((m%2048:Nat):Int):=by
 have:=ywq (n:=2047) hm (by decide);rw[show m &&& 2047=m%2048 from Nat.and_two_pow_sub_one_eq_mod m 11] at this;exact this
theorem ynz (s:Bool) {r:Nat} (hr:r<9218868437227405312):Ieee.double.word s r/4503599627370496%2048=r/4503599627370496∧Ieee.double.word s r/9223372036854775808*9223372036854775808+Ieee.double.word s r%4503599627370496=Ieee.double.word s (r%4503599627370496):=by
 unfold Ieee.Format.word;rw[c1];cases s
 · simp only[Bool.false_eq_true,if_false];omega
 · simp only[if_true];omega
theorem frac_or {f x:Nat} (hf:f<4503599627370496) (hx:x%4503599627370496=0):f ||| x=x+f:=by
 rw[Nat.or_comm];exact or_add 52 hf hx
theorem qaz (s:Bool) {f x:Nat} (hf:f<4503599627370496) (hx:x%4503599627370496=0) (hl:x+f<9223372036854775808):Ieee.double.word s f ||| x=Ieee.double.word s (x+f):=by
 have h1:=frac_or hf hx;unfold Ieee.Format.word;rw[c1];cases s
 · exact h1
 · show (9223372036854775808+f) ||| x=9223372036854775808+(x+f)
   rw[←or_add 63 (a:=9223372036854775808) (b:=f) (Nat.lt_trans hf (by decide)) rfl,Nat.or_assoc,h1];exact or_add 63 hl rfl
section
variable (w:World) (a:Nat) (ha:a<18446744073709551616) (h0:rg a≠0) (hf:rg a<9218868437227405312)
include ha h0 hf
theorem zpk:Calls Tryz.prog 118 #[.float .f64 a] w fun e w'=>e= .returned (.tuple #[.float .f64 (nzB a),.int .i64 (nzE a)])∧Below w.heap.size w w':=by
 refine zh Tryz.func118 rfl Tryz.ntmps118 rfl ?_;have LW:=erx (No) w;have XLW:=grx (No) w;have E:=erx (No) w;refine zz ?_;refine za rfl (zd en93 rfl ((ywv _ a ha).mono ?_));rintro e w1 ⟨rfl,hb⟩;refine ⟨_,rfl,?_⟩;replace E:=blx E hb;refine za rfl (yhq rfl rfl (zy ?_));refine zk 6 (.bool (decide (rg a<4503599627370496))) rfl ((by rw[sub_cond (qiz hf)]:(.bool (jf (rg a) 4503599627370496==some .lt):Value)=_)) (zx rfl (fun h=>?_) (fun h=>?_))
 ·
  refine qc ?_;refine za rfl (ow_float (m:=a) (n:=4841369599423283200) (.inr (.inr (.inl rfl))) rfl rfl ?_);intro r w2 hr;have Ec:=hr.ext;replace E:=E.trans Ec.no;refine yu ?_;exact ⟨by rw[hr.some (normalize_mul h0 (of_decide_eq_true h)),nzE,if_pos (of_decide_eq_true h)];rfl,(LW.step E XLW).toBelow⟩
 ·
  refine yt ?_;exact ⟨by rw[nzB_big ha (of_decide_eq_false h),nzE,if_neg (of_decide_eq_false h)];rfl,(LW.step E XLW).toBelow⟩
theorem frexp_num:Calls Tryz.prog 106 #[.float .f64 a] w fun e w'=>e= .returned (.tuple #[.float .f64 (frF a),.int .i64 (frE a)])∧Below w.heap.size w w':=by
 have hz:isZ a=false:=decide_eq_false h0;have hinf:decide (rg a=9218868437227405312)=false:=decide_eq_false (by omega);have hn:=qiz hf;have hlt:=nzB_lt h0 hf;have hlow:=nr_low h0;have hhigh:=yiz h0 hf;obtain ⟨hp1,hp2⟩:=ynz (ng a) hhigh;have hex:nr (rg a)/4503599627370496=ex (nr (rg a))+1:=by unfold ex;rw[if_neg (by omega)];omega
 have hmg:mg (nr (rg a))=4503599627370496+nr (rg a)%4503599627370496:=by unfold mg;rw[if_neg (by omega)]
 have hexb:ex (nr (rg a))≤2045:=by omega
 have hfl:nr (rg a)%4503599627370496<4503599627370496:=Nat.mod_lt _ (by decide);have hnze:nzE a=0∨nzE a= -52:=by unfold nzE;split<;>simp
 have hfw:Ieee.double.word (ng a) (nr (rg a)%4503599627370496)<18446744073709551616:=(gg _ _ (by omega)).2.2;have hor:=qaz (ng a) (x:=4602678819172646912) hfl (by decide) (by omega);have hfrF:Ieee.double.word (ng a) (4602678819172646912+nr (rg a)%4503599627370496)=frF a:=by rw[frF,hmg,Nat.add_sub_cancel_left]
 have hfrE:nzE a+(((ex (nr (rg a))+1:Nat):Int)-1023+1)=frE a:=by
  unfold nzE frE;split<;>omega
 refine zh Tryz.func106 rfl Tryz.ntmps106 rfl ?_;have LW:=erx (No) w;have XLW:=grx (No) w;have E:=erx (No) w;refine yt ?_;refine za rfl (yhk rfl rfl (qc ?_));refine zk 5 (.bool false) rfl ((by rw[ztq,hz]:(.bool (jf a 0==some .eq):Value)=_)) (qb ?_);refine za rfl (zd en91 rfl ((jm _ a ha).mono ?_));rintro e w1 ⟨rfl,hb⟩;refine ⟨_,rfl,?_⟩;replace E:=blx E hb;refine zf 11 (.bool false) rfl ((by rw[hinf]:(.bool (decide (rg a=9218868437227405312)):Value)=_)) (zy ?_);refine onx rfl (zd en117 rfl ((ypx _ a).mono ?_));rintro e w2 ⟨rfl,hb⟩;refine ⟨_,rfl,?_⟩;replace E:=blx E hb;refine zf 14 (.bool false) rfl ((by rw[hn]:(.bool (isN a):Value)=_)) (yt ?_);refine za rfl (zd en118 rfl ((zpk _ a ha h0 hf).mono ?_));rintro e w3 ⟨rfl,hb⟩;refine ⟨_,rfl,?_⟩;replace E:=blx E hb;refine zz ?_;refine za rfl (zwk ex74 rfl (yu ?_));refine za rfl (je rfl rfl (by decide) (shr52 (nzB a)) (za rfl (kw rfl rfl (and_2047 (by omega)) (zf 27 (.int .u64 ((ex (nr (rg a))+1:Nat):Int)) rfl ((by rw[show nzB a/4503599627370496%2048=_ from hp1,hex]:(.int .u64 ((nzB a/4503599627370496%2048:Nat):Int):Value)=_)) (za rfl (yi Tryz.underlying3 u27 rfl (zg (by omega)) (za rfl (qz rfl rfl (zg (by omega)) (za rfl (zr rfl rfl (zg (by omega)) (za rfl (zr rfl rfl (zg (by omega)) (yb ?_)))))))))))));refine za rfl (zsx rfl rfl (ypv hlt) (zf 33 (.int .u64 ((Ieee.double.word (ng a) (nr (rg a)%4503599627370496):Nat):Int)) rfl ((by rw[show nzB a/9223372036854775808*9223372036854775808+nzB a%4503599627370496=_ from hp2]:(.int .u64 ((nzB a/9223372036854775808*9223372036854775808+nzB a%4503599627370496:Nat):Int):Value)=_)) (yb ?_)))
 refine za rfl (zrq rfl rfl (ysv (n:=4602678819172646912) hfw (by decide)) (zf 35 (.int .u64 ((frF a:Nat):Int)) rfl ((by rw[show Ieee.double.word (ng a) (nr (rg a)%4503599627370496) ||| 4602678819172646912=frF a from hor.trans hfrF]:(.int .u64 ((Ieee.double.word (ng a) (nr (rg a)%4503599627370496) ||| 4602678819172646912:Nat):Int):Value)=_)) (yb ?_)));refine za rfl (qp (b:=frF a) zzz rfl (yk ?_));exact ⟨by rw[←hfrE];rfl,(LW.step E XLW).toBelow⟩
end
end Go.Proofs.YtebjkmjfcijebaaGreat
namespace Go.Proofs.YtebjkmjfcijebaaGreat
open Go.RowKit
attribute [local irreducible] OW RS CW EW
set_option maxHeartbeats 20000000
theorem and_2047i {m:Nat} (hm:m<18446744073709551616):IntKind.i64.wrap (BitVec.ofInt IntKind.i64.bits ((m:Nat):Int) &&& BitVec.ofInt IntKind.i64.bits 2047).toNat=((m%2048:Nat):Int):=by
 have h1:=zjk m hm;have h2:=zjk 2047 (by decide);show IntKind.i64.wrap (((BitVec.ofInt 64 (m:Int) &&& BitVec.ofInt 64 ((2047:Nat):Int)).toNat:Nat):Int)=_
 rw[BitVec.toNat_and,h1,h2,show m &&& 2047=m%2048 from Nat.and_two_pow_sub_one_eq_mod m 11];exact zg (by omega)
theorem sum_rung {x m f q:Nat} (h1:x*4503599627370496+m=q) (h2:m=4503599627370496+f):(x+1)*4503599627370496+f=q:=by rw[←h1,h2,Nat.add_mul,Nat.one_mul,Nat.add_assoc]
theorem nzE_nd (a:Nat):nzE a= -((nd (rg a):Nat):Int):=by unfold nzE nd;split<;>rfl
theorem one_mul_f {s:Bool} {q:Nat} (hq:q<9218868437227405312):fop .mul 4607182418800017408 (Ieee.double.word s q)=some (Ieee.double.word s q):=by
 obtain ⟨h1,h2,_⟩:=gg s q (Nat.lt_trans hq (by decide));have hc:rg 4607182418800017408=4607182418800017408∧ng 4607182418800017408=false∧vl 4607182418800017408=2^1074:=by decide +kernel
 have:=mul_exact' (a:=4607182418800017408) (b:=Ieee.double.word s q) (r:=q) (by rw[hc.1];decide) (by rw[h1];exact hq) hq (fun P hP=>by rewrite [hc.1,hc.2.2,←hP,h1];exact Nat.mul_comm P (vl q));rw[this,hc.2.1,h2,Bool.false_xor]
theorem p_split {P i j n:Nat} (h:P=2^n) (hn:n=i+j):P=2^i*2^j:=by rw[h,hn,Nat.pow_add]
theorem m53_aux {A B P q v1 v2:Nat} (h1:v1=A) (h2:v2=q*B) (h3:P=A*B):v1*v2=q*P:=by rw[h1,h2,h3,Nat.mul_left_comm]
theorem m53_mul {s:Bool} {q:Nat} (h0:q≠0) (hq:q<4503599627370496):fop .mul 4368491638549381120 (Ieee.double.word s ((ex (nr q)+1)*4503599627370496+mg (nr q)))=some (Ieee.double.word s q):=by
 obtain ⟨hm1,hm2⟩:=mg_nr h0;have he:ex (nr q)≤51:=by rw[(yov h0 hq).1];exact (zqk h0 hq).1
 obtain ⟨Q,hQ⟩:∃Q,Q=(ex (nr q)+1)*4503599627370496+mg (nr q):=⟨_,rfl⟩;obtain ⟨p1,p2⟩:=zvq (e:=ex (nr q)+1) hm1 hm2;rw[←hQ] at p1 p2 ⊢;have hQl:Q<9218868437227405312:=by omega
 obtain ⟨h1,h2,_⟩:=gg s Q (Nat.lt_trans hQl (by decide));have hc:rg 4368491638549381120=4368491638549381120∧ng 4368491638549381120=false∧vl 4368491638549381120=2^1021:=by decide +kernel
 have hvQ:vl Q=q*2^53:=by
  rw[vl,p1,p2,Nat.pow_succ,←Nat.mul_assoc];have:=vl_nr h0 hq;unfold vl at this;rw[this,Nat.mul_assoc]
 have:=mul_exact' (a:=4368491638549381120) (b:=Ieee.double.word s Q) (r:=q) (by rw[hc.1];decide) (by rw[h1];exact hQl) (by omega) (fun P hP=>by
  rewrite [hc.1,h1,vl_sub hq]
  exact m53_aux hc.2.2 hvQ (p_split (i:=1021) (j:=53) (n:=1074) hP (by decide)))
 rw[this,hc.2.1,h2,Bool.false_xor]
section
variable (w:World) (a k q:Nat) (ha:a<18446744073709551616) (h0:rg a≠0) (hf:rg a<9218868437227405312) (hk:k<4096) (hq:q<9218868437227405312) (hv:vl q=vl (rg a)*2^k)
include ha h0 hf hk hq hv
theorem ldexp_norm (hn:4503599627370496≤q):Calls Tryz.prog 108 #[.float .f64 a,.int .i64 ((k:Nat):Int)] w fun e w'=>e= .returned (.float .f64 (Ieee.double.word (ng a) q))∧Below w.heap.size w w':=by
 have hz:isZ a=false:=decide_eq_false h0;have hinf:decide (rg a=9218868437227405312)=false:=decide_eq_false (by omega);have hnn:=qiz hf;have hlt:=nzB_lt h0 hf;have hlow:=nr_low h0;have hhigh:=yiz h0 hf;obtain ⟨hp1,hp2⟩:=ynz (ng a) hhigh;have hex:nr (rg a)/4503599627370496=ex (nr (rg a))+1:=by unfold ex;rw[if_neg (by omega)];omega
 have hmg:mg (nr (rg a))=4503599627370496+nr (rg a)%4503599627370496:=by unfold mg;rw[if_neg (by omega)]
 have hexb:ex (nr (rg a))≤2045:=by omega
 have hfl:nr (rg a)%4503599627370496<4503599627370496:=Nat.mod_lt _ (by decide);have hnze:=nzE_nd a;have hndb:nd (rg a)≤52:=by unfold nd;split<;>omega
 have hfw:Ieee.double.word (ng a) (nr (rg a)%4503599627370496)<18446744073709551616:=(gg _ _ (by omega)).2.2;obtain ⟨hM,hE⟩:=qcv h0 (q:=q) (by omega) hv;have hnq:nr q=q:=by rw[nr,if_neg (by omega)]
 have hndq:nd q=0:=by unfold nd;rw[if_neg (by omega)]
 rw[hnq] at hM hE;rw[hndq] at hE;have hrq:=rung_of (r:=q);have heq:ex q≤2045:=by unfold ex;rw[if_neg (by omega)];omega
 have hB:((k:Nat):Int)+nzE a+(((ex (nr (rg a))+1:Nat):Int)-1023)=((ex q:Nat):Int)-1022:=by omega
 have hor:=qaz (ng a) (x:=(ex q+1)*4503599627370496) hfl (Nat.mul_mod_left _ _) (by omega);have hsum:=sum_rung hrq (hM.trans hmg);have jr:=congrArg (Ieee.double.word (ng a)) hsum;refine zh Tryz.func108 rfl Tryz.ntmps108 rfl ?_;have LW:=erx (No) w;have XLW:=grx (No) w;have E:=erx (No) w;refine zz ?_;refine za rfl (yhk rfl rfl (qc ?_));refine zk 8 (.bool false) rfl ((by rw[ztq,hz]:(.bool (jf a 0==some .eq):Value)=_)) (qb ?_);refine za rfl (zd en91 rfl ((jm _ a ha).mono ?_));rintro e w1 ⟨rfl,hb⟩;refine ⟨_,rfl,?_⟩;replace E:=blx E hb;refine zf 14 (.bool false) rfl ((by rw[hinf]:(.bool (decide (rg a=9218868437227405312)):Value)=_)) (zy ?_);refine onx rfl (zd en117 rfl ((ypx _ a).mono ?_));rintro e w2 ⟨rfl,hb⟩;refine ⟨_,rfl,?_⟩;replace E:=blx E hb;refine zf 17 (.bool false) rfl ((by rw[hnn]:(.bool (isN a):Value)=_)) (yt ?_);refine za rfl (zd en118 rfl ((zpk _ a ha h0 hf).mono ?_));rintro e w3 ⟨rfl,hb⟩;refine ⟨_,rfl,?_⟩;replace E:=blx E hb;refine yt ?_;refine za rfl (zr rfl rfl (zg (by omega)) (yb ?_));refine za rfl (zwk ex74 rfl (yu ?_));refine za rfl (je rfl rfl (by decide) (shr52 (nzB a)) (za rfl (yi Tryz.underlying3 u27 rfl (zg (by omega)) (za rfl (kw rfl rfl (and_2047i (by omega)) (zf 34 (.int .i64 ((ex (nr (rg a))+1:Nat):Int)) rfl ((by rw[show nzB a/4503599627370496%2048=_ from hp1,hex]:(.int .i64 ((nzB a/4503599627370496%2048:Nat):Int):Value)=_)) (za rfl (qz rfl rfl (zg (by omega)) (za rfl (zr rfl rfl (zg (by omega)) (zz ?_)))))))))))
 refine zk 38 (.bool false) rfl ((by rw[hB,decide_eq_false (by omega)]:(.bool (decide (((((k:Nat):Int)+(nzE a))+(((ex (nr (rg a))+1:Nat):Int)-1023))<(-1075))):Value)=_)) (zk 1 (.int .i64 (((ex q:Nat):Int)-1022)) rfl ((by rw[hB]:(.int .i64 ((((k:Nat):Int)+(nzE a))+(((ex (nr (rg a))+1:Nat):Int)-1023)):Value)=_)) (zz ?_));refine zk 42 (.bool false) rfl ((by rw[decide_eq_false (by omega)]:(.bool (decide (1023<(((ex q:Nat):Int)-1022))):Value)=_)) (xb ?_);refine zk 48 (.bool false) rfl ((by rw[decide_eq_false (by omega)]:(.bool (decide ((((ex q:Nat):Int)-1022)<(-1022))):Value)=_)) (yb ?_);refine za rfl (zsx rfl rfl (ypv hlt) (zf 52 (.int .u64 ((Ieee.double.word (ng a) (nr (rg a)%4503599627370496):Nat):Int)) rfl ((by rw[show nzB a/9223372036854775808*9223372036854775808+nzB a%4503599627370496=_ from hp2]:(.int .u64 ((nzB a/9223372036854775808*9223372036854775808+nzB a%4503599627370496:Nat):Int):Value)=_)) (yu ?_)));refine za rfl (zr rfl rfl (zg (by omega)) (za rfl (yi u27 Tryz.underlying3 rfl (wrap_u64 (by omega)) (za rfl (xn (z:=(((ex q+1)*4503599627370496:Nat):Int)) rfl rfl (by decide) (by show IntKind.u64.wrap ((((ex q:Nat):Int)-1022+1023)*4503599627370496)=_;rw[wrap_u64 (by omega)];omega) (za rfl (zrq rfl rfl (ysv hfw (by omega)) (zf 58 (.int .u64 ((Ieee.double.word (ng a) q:Nat):Int)) rfl ((by rw[hor.trans jr]:(.int .u64 ((Ieee.double.word (ng a) (nr (rg a)%4503599627370496) ||| (ex q+1)*4503599627370496:Nat):Int):Value)=_)) (yu ?_)))))))));refine za rfl (qp (b:=Ieee.double.word (ng a) q) zzz rfl (za rfl (ow_float (m:=4607182418800017408) (n:=Ieee.double.word (ng a) q) (.inr (.inr (.inl rfl))) rfl rfl ?_)));intro r w4 hr;have Ec:=hr.ext;replace E:=E.trans Ec.no
 refine yk ?_;exact ⟨by rw[hr.some (one_mul_f hq)];rfl,(LW.step E XLW).toBelow⟩
theorem ldexp_sub (hn:q<4503599627370496) (hq0:q≠0):Calls Tryz.prog 108 #[.float .f64 a,.int .i64 ((k:Nat):Int)] w fun e w'=>e= .returned (.float .f64 (Ieee.double.word (ng a) q))∧Below w.heap.size w w':=by
 have _:=hq;have hz:isZ a=false:=decide_eq_false h0;have hinf:decide (rg a=9218868437227405312)=false:=decide_eq_false (by omega);have hnn:=qiz hf;have hlt:=nzB_lt h0 hf;have hlow:=nr_low h0;have hhigh:=yiz h0 hf;obtain ⟨hp1,hp2⟩:=ynz (ng a) hhigh;have hex:nr (rg a)/4503599627370496=ex (nr (rg a))+1:=by unfold ex;rw[if_neg (by omega)];omega
 have hmg:mg (nr (rg a))=4503599627370496+nr (rg a)%4503599627370496:=by unfold mg;rw[if_neg (by omega)]
 have hexb:ex (nr (rg a))≤2045:=by omega
 have hfl:nr (rg a)%4503599627370496<4503599627370496:=Nat.mod_lt _ (by decide);have hnze:=nzE_nd a;have hndb:nd (rg a)≤52:=by unfold nd;split<;>omega
 have hfw:Ieee.double.word (ng a) (nr (rg a)%4503599627370496)<18446744073709551616:=(gg _ _ (by omega)).2.2;obtain ⟨hM,hE⟩:=qcv h0 (q:=q) hq0 hv;have hndq:nd q=52:=by unfold nd;rw[if_pos hn]
 rw[hndq] at hE;have heq:ex (nr q)≤51:=by rw[(yov hq0 hn).1];exact (zqk hq0 hn).1
 have hB:((k:Nat):Int)+nzE a+(((ex (nr (rg a))+1:Nat):Int)-1023)=((ex (nr q):Nat):Int)-1074:=by omega
 have hor:=qaz (ng a) (x:=(ex (nr q)+2)*4503599627370496) hfl (Nat.mul_mod_left _ _) (by omega);have hsum:=sum_rung (x:=ex (nr q)+1) (m:=mg (nr q)) rfl (hM.trans hmg);have jr:=congrArg (Ieee.double.word (ng a)) hsum;refine zh Tryz.func108 rfl Tryz.ntmps108 rfl ?_;have LW:=erx (No) w;have XLW:=grx (No) w;have E:=erx (No) w;refine zz ?_;refine za rfl (yhk rfl rfl (qc ?_));refine zk 8 (.bool false) rfl ((by rw[ztq,hz]:(.bool (jf a 0==some .eq):Value)=_)) (qb ?_);refine za rfl (zd en91 rfl ((jm _ a ha).mono ?_));rintro e w1 ⟨rfl,hb⟩;refine ⟨_,rfl,?_⟩;replace E:=blx E hb;refine zf 14 (.bool false) rfl ((by rw[hinf]:(.bool (decide (rg a=9218868437227405312)):Value)=_)) (zy ?_);refine onx rfl (zd en117 rfl ((ypx _ a).mono ?_));rintro e w2 ⟨rfl,hb⟩;refine ⟨_,rfl,?_⟩;replace E:=blx E hb;refine zf 17 (.bool false) rfl ((by rw[hnn]:(.bool (isN a):Value)=_)) (yt ?_);refine za rfl (zd en118 rfl ((zpk _ a ha h0 hf).mono ?_));rintro e w3 ⟨rfl,hb⟩;refine ⟨_,rfl,?_⟩;replace E:=blx E hb;refine yt ?_;refine za rfl (zr rfl rfl (zg (by omega)) (yb ?_));refine za rfl (zwk ex74 rfl (yu ?_));refine za rfl (je rfl rfl (by decide) (shr52 (nzB a)) (za rfl (yi Tryz.underlying3 u27 rfl (zg (by omega)) (za rfl (kw rfl rfl (and_2047i (by omega)) (zf 34 (.int .i64 ((ex (nr (rg a))+1:Nat):Int)) rfl ((by rw[show nzB a/4503599627370496%2048=_ from hp1,hex]:(.int .i64 ((nzB a/4503599627370496%2048:Nat):Int):Value)=_)) (za rfl (qz rfl rfl (zg (by omega)) (za rfl (zr rfl rfl (zg (by omega)) (zz ?_)))))))))))
 refine zk 38 (.bool false) rfl ((by rw[hB,decide_eq_false (by omega)]:(.bool (decide (((((k:Nat):Int)+(nzE a))+(((ex (nr (rg a))+1:Nat):Int)-1023))<(-1075))):Value)=_)) (zk 1 (.int .i64 (((ex (nr q):Nat):Int)-1074)) rfl ((by rw[hB]:(.int .i64 ((((k:Nat):Int)+(nzE a))+(((ex (nr (rg a))+1:Nat):Int)-1023)):Value)=_)) (zz ?_));refine zk 42 (.bool false) rfl ((by rw[decide_eq_false (by omega)]:(.bool (decide (1023<(((ex (nr q):Nat):Int)-1074))):Value)=_)) (xb ?_);refine zk 48 (.bool true) rfl ((by rw[decide_eq_true (by omega)]:(.bool (decide ((((ex (nr q):Nat):Int)-1074)<(-1022))):Value)=_)) (qb ?_);refine za rfl (zr rfl rfl (zg (by omega)) (zz ?_));refine za rfl (zsx rfl rfl (ypv hlt) (zf 52 (.int .u64 ((Ieee.double.word (ng a) (nr (rg a)%4503599627370496):Nat):Int)) rfl ((by rw[show nzB a/9223372036854775808*9223372036854775808+nzB a%4503599627370496=_ from hp2]:(.int .u64 ((nzB a/9223372036854775808*9223372036854775808+nzB a%4503599627370496:Nat):Int):Value)=_)) (yu ?_)));refine za rfl (zr rfl rfl (zg (by omega)) (za rfl (yi u27 Tryz.underlying3 rfl (wrap_u64 (by omega)) (za rfl (xn (z:=(((ex (nr q)+2)*4503599627370496:Nat):Int)) rfl rfl (by decide) (by show IntKind.u64.wrap ((((ex (nr q):Nat):Int)-1074+53+1023)*4503599627370496)=_;rw[wrap_u64 (by omega)];omega) (za rfl (zrq rfl rfl (ysv hfw (by omega)) (zf 58 (.int .u64 ((Ieee.double.word (ng a) ((ex (nr q)+1)*4503599627370496+mg (nr q)):Nat):Int)) rfl ((by rw[hor.trans jr]:(.int .u64 ((Ieee.double.word (ng a) (nr (rg a)%4503599627370496) ||| (ex (nr q)+2)*4503599627370496:Nat):Int):Value)=_)) (yu ?_)))))))))
 refine za rfl (qp (b:=Ieee.double.word (ng a) ((ex (nr q)+1)*4503599627370496+mg (nr q))) zzz rfl (za rfl (ow_float (m:=4368491638549381120) (n:=Ieee.double.word (ng a) ((ex (nr q)+1)*4503599627370496+mg (nr q))) (.inr (.inr (.inl rfl))) rfl rfl ?_)));intro r w4 hr;have Ec:=hr.ext;replace E:=E.trans Ec.no;refine yk ?_;exact ⟨by rw[hr.some (m53_mul hq0 hn)];rfl,(LW.step E XLW).toBelow⟩
end
end Go.Proofs.YtebjkmjfcijebaaGreat
namespace Go.Proofs.YtebjkmjfcijebaaGreat
open Ieee
theorem two_split {p q s P:Nat} (hP:P=2^p) (h:p=q+s):P=2^q*2^s:=by rw[hP,h,Nat.pow_add]
theorem two_mono {k K P:Nat} (h:k≤K) (hP:P=2^K):2^k≤P:=by rw[hP];exact Nat.pow_le_pow_right (by decide) h
theorem zik (n:Nat):0<2^n:=Nat.pow_pos (by decide)
theorem div_mul_p {x P w:Nat} (h:w=x/P):w*P≤x:=by rw[h];exact Nat.div_mul_le_self _ _
theorem cut_zero (s:Bool) (n t:Nat):Toward.zero.cut s n t=n/2^t:=by
 have e:Toward.zero.cut s n t=n/(1 <<< min t (n.log2+2)):=by
  unfold Toward.cut;simp only[Bool.toNat_false,Nat.add_zero]
 rw[e,Nat.shiftLeft_eq,Nat.one_mul];rcases Nat.le_total t (n.log2+2) with h | h
 · rw[Nat.min_eq_left h]
 · rw[Nat.min_eq_right h];have h1:=@Nat.lt_log2_self n;have h2:(2:Nat)^(n.log2+1)≤2^(n.log2+2):=Nat.pow_le_pow_right (by decide) (by omega);have h3:(2:Nat)^(n.log2+2)≤2^t:=Nat.pow_le_pow_right (by decide) h;rw[Nat.div_eq_of_lt (by omega),Nat.div_eq_of_lt (by omega)]
theorem shl_div (m i j:Nat):m*2^(i-j)/2^(j-i)=m*2^i/2^j:=by
 rcases Nat.le_total j i with h | h
 · rw[show j-i=0 by omega,Nat.pow_zero,Nat.div_one,qgk h,Nat.mul_div_cancel _ (Nat.pow_pos (by decide))]
 · rw[show i-j=0 by omega,Nat.pow_zero,Nat.mul_one];rw[show (2:Nat)^j=2^(j-i)*2^i by rw[←Nat.pow_add];congr 1;omega,Nat.mul_div_mul_right _ _ (Nat.pow_pos (by decide))]
def ve (a:Nat):Nat:=vl (rg a)/2^1074
theorem ylv {a:Nat} (ha:rg a<9218868437227405312):(double.read a).integral .zero= .number (ng a) (ve a) 0:=by
 rw[zak ha,Datum.integral,cut_zero,Nat.shiftLeft_eq];have e1:(-1074+(ex (rg a):Int)).toNat=ex (rg a)-1074:=by omega
 have e2:(-(-1074+(ex (rg a):Int))).toNat=1074-ex (rg a):=by omega
 rw[e1,e2,shl_div];rfl
theorem signed_zero (s:Bool) (m:Nat):signed s m 0=if s then -(m:Int) else (m:Int):=by
 unfold signed;rw[Nat.shiftLeft_zero]
theorem toInt_fin {a:Nat} (ha:rg a<9218868437227405312):(FloatKind.f64.decode a).toInt .zero=some (if ng a then -(ve a:Int) else (ve a:Int)):=by
 show Datum.toInt .zero (double.read a)=_
 unfold Datum.toInt;rw[ylv ha];simp only[signed_zero]
theorem f2i_i64 {a:Nat} (ha:rg a<9218868437227405312) (h:ve a<9223372036854775808):floatToIntVal .f64 a .i64=some (if ng a then -(ve a:Int) else (ve a:Int)):=by
 unfold floatToIntVal;rw[toInt_fin ha];have h1:IntKind.i64.min= -9223372036854775808:=rfl;have h2:IntKind.i64.max=9223372036854775807:=rfl;simp only[h1,h2]
 rw[if_pos (by split<;>omega)]
theorem f2i_u64 {a:Nat} (ha:rg a<9218868437227405312) (hs:ng a=false) (h:ve a<18446744073709551616):floatToIntVal .f64 a .u64=some (ve a:Int):=by
 unfold floatToIntVal;rw[toInt_fin ha,hs];have h1:IntKind.u64.min=0:=rfl;have h2:IntKind.u64.max=18446744073709551615:=rfl;simp only[h1,h2,Bool.false_eq_true,if_false]
 rw[if_pos (by omega)]
theorem mul_div_p {m P x:Nat} (hP:0<P) (h:x=m*P):x/P=m:=by rw[h,Nat.mul_div_cancel _ hP]
theorem yax (s:Bool) {q m:Nat} (hq:q<9218868437227405312) (h:vl q=m*2^1074):ve (double.word s q)=m:=by
 unfold ve;rewrite [(gg s q (Nat.lt_trans hq (by decide))).1]
 exact mul_div_p (zik 1074) h
theorem ydv {a:Nat} (ha:rg a<9218868437227405312):∃q,vl q=ve a*2^1074∧q≤rg a∧od .zero a=double.word (ng a) q:=by
 have key:∃q,vl q=ve a*2^1074∧q≤rg a:=by
  have hle:ve a*2^1074≤vl (rg a):=div_mul_p rfl;rcases Nat.le_total (ex (rg a)) 1074 with h | h
  · refine rep_le (ve a) 1074 (rg a) ?_ hle;have:=mg_lt (rg a);have h2:vl (rg a)≤mg (rg a)*2^1074:=Nat.mul_le_mul_left _ (two_mono h rfl);have h3:ve a≤mg (rg a):=Nat.le_of_mul_le_mul_right (Nat.le_trans hle h2) (zik 1074);exact Nat.lt_of_le_of_lt h3 this
  · refine ⟨rg a,?_,Nat.le_refl _⟩;have e:vl (rg a)=mg (rg a)*2^(ex (rg a)-1074)*2^1074:=qgk h _;have e2:ve a=mg (rg a)*2^(ex (rg a)-1074):=mul_div_p (zik 1074) e;rw[e2];exact e
 obtain ⟨q,h1,h2⟩:=key;refine ⟨q,h1,h2,?_⟩;show double.write ((double.read a).integral .zero)=_
 rw[ylv ha];exact qbz (u:=1074) (d:=0) (Nat.lt_of_le_of_lt h2 ha) (by omega) (by rw[h1,Nat.pow_zero,Nat.mul_one])
/-! ### rests -/
def addS (a b:Nat):Bool:=if sv a+sv b=0 then ng a&&ng b else decide (sv a+sv b<0)
theorem dvd_p {x m P:Nat} (h:x=m*P):P∣x:=⟨m,by rw[h,Nat.mul_comm]⟩
theorem zero_p {x j P:Nat} (h:x=j*P) (e:j=0):x=0:=by rw[h,e,Nat.zero_mul]
def isWh (r:Nat):Prop:=2^1074∣vl r
theorem isWh_iff {a:Nat}:isWh (rg a)↔vl (rg a)=ve a*2^1074:=by
 constructor
 · intro h;exact (Nat.div_mul_cancel h).symm
 · intro h;exact dvd_p h
noncomputable def modR (a b:Nat):Nat:=if rg b=9218868437227405312 then rg a else rungOf (vl (rg a)%vl (rg b))
noncomputable def m0F (a b:Nat):Nat:=double.word (ng a) (modR a b)
theorem gi {b:Nat} (hb:rg b<9218868437227405312):isN b=false:=decide_eq_false (by omega)
def nanCase (a b:Nat):Bool:=isN a || isN b || decide (rg a=9218868437227405312)
noncomputable def flipB (a b:Nat):Bool:=decide (modR a b≠0)&&(ng a !=ng b)
noncomputable def modF (a b:Nat):Nat:=if nanCase a b then 9221120237041090560 else if modR a b=0 then double.word (ng b) 0 else if flipB a b then ansF (fop .add (m0F a b) b) else m0F a b
noncomputable def subF (a b:Nat):Nat:=ansF (fop .sub a (m0F a b))
noncomputable def d0F (a b:Nat):Nat:=ansF (fop .quo (subF a b) b)
noncomputable def d1F (a b:Nat):Nat:=if flipB a b then ansF (fop .sub (d0F a b) 4607182418800017408) else d0F a b
def upB (d:Nat):Bool:=match fop .sub d (od .down d) with
 | some z=>jf z 4602678819172646912==some .gt
 | none=>false
def wholeF (d:Nat):Nat:=if upB d then ansF (fop .add (od .down d) 4607182418800017408) else od .down d
noncomputable def floorF (a b:Nat):Nat:=if nanCase a b then 9221120237041090560 else if isZ (d1F a b) then double.word (ng a ^^ ng b) 0 else wholeF (d1F a b)
section
variable {a b:Nat} (ha:a<18446744073709551616) (hf:rg a<9218868437227405312) (hb:b<18446744073709551616) (hn:isN b=false) (h0:rg b≠0)
include hf h0
include hn ha
end
theorem ford_neg {b:Nat} (hn:isN b=false) (h0:rg b≠0):(jf b 0==some .lt)=ng b:=by
 rw[ztk hn (by decide)];have hp:pc 0=0:=by decide
 rw[hp];obtain ⟨p1,p2⟩:=yox b;cases h:ng b with
 | true=>rw[ykz (by rw[p1 h];omega)];rfl
 | false=>rw[ywx (by rw[p2 h];omega)];rfl
theorem ford_nan_no {a b:Nat} (h:isN a=true) (o:Ordering):(jf a b==some o)=false:=by rw[zgv (.inl h)];rfl
end Go.Proofs.YtebjkmjfcijebaaGreat
namespace Go.Proofs.YtebjkmjfcijebaaGreat
open Go.RowKit
attribute [local irreducible] OW RS CW EW
set_option maxHeartbeats 20000000
theorem ygv {r:Nat} (h:r<9223372036854775808):rg r=r∧ng r=false:=by
 have:=gg false r h;exact ⟨this.1,this.2.1⟩
theorem frF_pos {r:Nat} (hr:r<9218868437227405312):frF r=4602678819172646912+(mg (nr r)-4503599627370496):=by
 obtain ⟨h1,h2⟩:=ygv (r:=r) (by omega);rw[frF,h1,h2];rfl
theorem frE_pos {r:Nat} (hr:r<9218868437227405312):frE r=(ex (nr r):Int)-1021-(nd r:Int):=by
 obtain ⟨h1,_⟩:=ygv (r:=r) (by omega);unfold frE nd;rw[h1];split<;>rfl
theorem frE_bound {r:Nat} (hr:r<9218868437227405312):-1100≤frE r∧frE r≤1100:=by
 rw[frE_pos hr];have h1:ex (nr r)≤2045:=by
  by_cases h0:r=0
  · subst h0;decide
  · have:=yiz h0 hr;unfold ex;split<;>omega
 have h2:nd r≤52:=by unfold nd;split<;>omega
 omega
section
variable (w:World)
section
variable (a:Nat) (ha:a<18446744073709551616) (h0:rg a≠0) (hf:rg a<9218868437227405312)
include ha
section
include h0 hf
theorem qbx:Calls Tryz.prog 92 #[.float .f64 a] w fun e w'=>e= .returned (.tuple #[.float .f64 (frF a),.int .i64 (frE a)])∧Below w.heap.size w w':=by
 refine zh Tryz.func92 rfl Tryz.ntmps92 rfl ?_;have LW:=erx (No) w;have XLW:=grx (No) w;have E:=erx (No) w;refine jq ?_;refine za rfl (zd en106 rfl ((frexp_num _ a ha h0 hf).mono ?_));rintro e w1 ⟨rfl,hb⟩;refine ⟨_,rfl,?_⟩;replace E:=blx E hb;refine yx ?_;exact ⟨rfl,(LW.step E XLW).toBelow⟩
theorem ldexp_all (k q:Nat) (hk:k<4096) (hq:q<9218868437227405312) (hv:vl q=vl (rg a)*2^k):Calls Tryz.prog 108 #[.float .f64 a,.int .i64 ((k:Nat):Int)] w fun e w'=>e= .returned (.float .f64 (Ieee.double.word (ng a) q))∧Below w.heap.size w w':=by
 rcases Nat.lt_or_ge q 4503599627370496 with hn | hn
 · refine ldexp_sub w a k q ha h0 hf hk hq hv hn (fun e=>?_);subst e;rw[zaz] at hv;have h1:0<vl (rg a):=by
    rcases Nat.eq_zero_or_pos (vl (rg a)) with h' | h'
    · exact absurd (qbv.1 h') h0
    · exact h'
   have:=Nat.mul_pos h1 (show 0<2^k from Nat.pow_pos (by decide));omega
 · exact ldexp_norm w a k q ha h0 hf hk hq hv hn
theorem qav (k q:Nat) (hk:k<4096) (hq:q<9218868437227405312) (hv:vl q=vl (rg a)*2^k):Calls Tryz.prog 94 #[.float .f64 a,.int .i64 ((k:Nat):Int)] w fun e w'=>e= .returned (.float .f64 (Ieee.double.word (ng a) q))∧Below w.heap.size w w':=by
 refine zh Tryz.func94 rfl Tryz.ntmps94 rfl ?_;have LW:=erx (No) w;have XLW:=grx (No) w;have E:=erx (No) w;refine jq ?_;refine za rfl (zd en108 rfl ((ldexp_all _ a ha h0 hf k q hk hq hv).mono ?_));rintro e w1 ⟨rfl,hb⟩;refine ⟨_,rfl,?_⟩;replace E:=blx E hb;refine yk ?_;exact ⟨rfl,(LW.step E XLW).toBelow⟩
end
section
variable (hz:rg a=0)
include hz
theorem frexp_zero:Calls Tryz.prog 106 #[.float .f64 a] w fun e w'=>e= .returned (.tuple #[.float .f64 a,.int .i64 0])∧Below w.heap.size w w':=by
 have _:=ha;have hz2:isZ a=true:=decide_eq_true hz;refine zh Tryz.func106 rfl Tryz.ntmps106 rfl ?_;have LW:=erx (No) w;have XLW:=grx (No) w;have E:=erx (No) w;refine yt ?_;refine za rfl (yhk rfl rfl (qc ?_));refine zk 5 (.bool true) rfl ((by rw[ztq,hz2]:(.bool (jf a 0==some .eq):Value)=_)) (qo ?_);exact ⟨rfl,(LW.step E XLW).toBelow⟩
theorem Frexp_zero:Calls Tryz.prog 92 #[.float .f64 a] w fun e w'=>e= .returned (.tuple #[.float .f64 a,.int .i64 0])∧Below w.heap.size w w':=by
 refine zh Tryz.func92 rfl Tryz.ntmps92 rfl ?_;have LW:=erx (No) w;have XLW:=grx (No) w;have E:=erx (No) w;refine jq ?_;refine za rfl (zd en106 rfl ((frexp_zero _ a ha hz).mono ?_));rintro e w1 ⟨rfl,hb⟩;refine ⟨_,rfl,?_⟩;replace E:=blx E hb;refine yx ?_;exact ⟨rfl,(LW.step E XLW).toBelow⟩
theorem ldexp_zero (k:Int):Calls Tryz.prog 108 #[.float .f64 a,.int .i64 k] w fun e w'=>e= .returned (.float .f64 a)∧Below w.heap.size w w':=by
 have _:=ha;have hz2:isZ a=true:=decide_eq_true hz;refine zh Tryz.func108 rfl Tryz.ntmps108 rfl ?_;have LW:=erx (No) w;have XLW:=grx (No) w;have E:=erx (No) w;refine zz ?_;refine za rfl (yhk rfl rfl (qc ?_));refine zk 8 (.bool true) rfl ((by rw[ztq,hz2]:(.bool (jf a 0==some .eq):Value)=_)) (yt ?_);exact ⟨rfl,(LW.step E XLW).toBelow⟩
theorem Ldexp_zero (k:Int):Calls Tryz.prog 94 #[.float .f64 a,.int .i64 k] w fun e w'=>e= .returned (.float .f64 a)∧Below w.heap.size w w':=by
 refine zh Tryz.func94 rfl Tryz.ntmps94 rfl ?_;have LW:=erx (No) w;have XLW:=grx (No) w;have E:=erx (No) w;refine jq ?_;refine za rfl (zd en108 rfl ((ldexp_zero _ a ha hz k).mono ?_));rintro e w1 ⟨rfl,hb⟩;refine ⟨_,rfl,?_⟩;replace E:=blx E hb;refine yk ?_;exact ⟨rfl,(LW.step E XLW).toBelow⟩
end
section
variable (hi:rg a=9218868437227405312)
include hi
end
end
/-! ### math.mod -/
section
variable (a b:Nat) (ha:a<18446744073709551616) (hbq:b<18446744073709551616) (hz:isZ b=false)
include ha hbq hz
section
variable (hf:rg a<9218868437227405312) (hn:isN b=false)
include hf hn
section
variable (ha0:rg a≠0)
include ha0
/-! ### the loop -/
variable (hq:rg b<9218868437227405312)
include hq
end
end
end
end
end Go.Proofs.YtebjkmjfcijebaaGreat
namespace Go.Proofs.YtebjkmjfcijebaaGreat
open Go.RowKit
attribute [local irreducible] OW RS CW EW
set_option maxHeartbeats 20000000
theorem shr_nat (m k:Nat) (hk:k<64):((m:Nat):Int).fdiv (2^(min ((k:Nat):Int).toNat IntKind.u64.bits))=((m/2^k:Nat):Int):=by
 rw[Int.toNat_natCast,show min k IntKind.u64.bits=k from Nat.min_eq_left (by show k≤64;omega),Int.fdiv_eq_ediv_of_nonneg _ (Int.le_of_lt (Int.pow_pos (by decide)))];rw[show (2:Int)^k=((2^k:Nat):Int) by simp];rfl
theorem wrap_mod (m:Nat):IntKind.u64.wrap ((m:Nat):Int)=((m%18446744073709551616:Nat):Int):=by
 unfold IntKind.wrap;simp only[IntKind.bits,IntKind.signed,Bool.false_and,Bool.false_eq_true,if_false]
 omega
theorem qfk (m k:Nat) (hk:k<64):IntKind.u64.wrap (((m:Nat):Int)*2^(min ((k:Nat):Int).toNat IntKind.u64.bits))=((m*2^k%18446744073709551616:Nat):Int):=by
 rw[Int.toNat_natCast,show min k IntKind.u64.bits=k from Nat.min_eq_left (by show k≤64;omega),show (2:Int)^k=((2^k:Nat):Int) by simp,←Int.natCast_mul];exact wrap_mod _
theorem yqq (m n:Nat):((m:Nat):Int).tmod ((n:Nat):Int)=((m%n:Nat):Int):=rfl
theorem bool_dec {p q:Prop} [Decidable p] [Decidable q] (h:p↔q):(Value.bool (decide p))= .bool (decide q):=by
 congr 1
 by_cases hp:p
 · rw[decide_eq_true hp,decide_eq_true (h.1 hp)]
 · rw[decide_eq_false hp,decide_eq_false (fun k=>hp (h.2 k))]
section
variable (w:World)
/-! ### rest -/
section
variable (a b:Nat) (ha:a<18446744073709551616) (hbq:b<18446744073709551616)
include ha hbq
section
variable (ha0:rg a≠0) (hb0:rg b≠0) (hf:rg a<9218868437227405312) (hq:rg b<9218868437227405312)
include ha0 hb0 hf hq
end
end
end
end Go.Proofs.YtebjkmjfcijebaaGreat
namespace Go.Proofs.YtebjkmjfcijebaaGreat
open Go.RowKit
attribute [local irreducible] OW RS CW EW
set_option maxHeartbeats 20000000
theorem tdiv_nat (m n:Nat):((m:Nat):Int).tdiv ((n:Nat):Int)=((m/n:Nat):Int):=rfl
theorem quo_nat {m n:Nat} (h:m<18446744073709551616):IntKind.u64.wrap (((m:Nat):Int).tdiv ((n:Nat):Int))=((m/n:Nat):Int):=by
 rw[tdiv_nat];exact zzk (Nat.lt_of_le_of_lt (Nat.div_le_self m n) h)
theorem qix (m n:Nat):IntKind.u64.wrap (((m:Nat):Int)*((n:Nat):Int))=((m*n%18446744073709551616:Nat):Int):=by rw[←Int.natCast_mul];exact wrap_mod _
theorem add_nat (m n:Nat):IntKind.u64.wrap (((m:Nat):Int)+((n:Nat):Int))=(((m+n)%18446744073709551616:Nat):Int):=by rw[←Int.natCast_add];exact wrap_mod _
theorem sub_mod_gen {M x y W:Nat} (hW:W<M) (h:(W+y)%M=x%M):((x:Int)-(y:Int))%(M:Int)=(W:Int):=by
 have h':((W:Int)+(y:Int))%(M:Int)=(x:Int)%(M:Int):=by exact_mod_cast h
 rw[Int.sub_emod,←h',←Int.sub_emod,Int.add_sub_cancel];exact Int.emod_eq_of_lt (by omega) (by omega)
theorem sub_nat {x y W:Nat} (hW:W<18446744073709551616) (h:(W+y)%18446744073709551616=x%18446744073709551616):IntKind.u64.wrap (((x:Nat):Int)-((y:Nat):Int))=((W:Nat):Int):=by
 rw[IntKind.wrap_u64];exact sub_mod_gen hW h
theorem shl_cut {lo B V:Nat} (hB:B=lo%2147483648) (hV:V=B*8589934592):lo*2^33%18446744073709551616=V:=by
 rw[hV,hB];exact Nat.mul_mod_mul_right 8589934592 lo 2147483648
theorem kv {U d q r:Nat} (hq:q=U/d) (hr:r=U%d):q*d+r=U:=by rw[hq,hr,Nat.mul_comm];exact Nat.div_add_mod U d
theorem oq {r U d:Nat} (hd:0<d) (hr:r=U%d):r<d:=by rw[hr];exact Nat.mod_lt _ hd
theorem wrap_rest {M m q r d e f W x y:Nat} (hU:q*d+r=e) (hW:W=r*m+f) (hx:x=(e*m%M+f)%M) (hy:y=q*(d*m)%M):(W+y)%M=x%M:=by
 subst hx hy hW;rw[Nat.mod_mod,Nat.add_mod_mod,Nat.mod_add_mod,←hU,Nat.add_mul,Nat.mul_assoc];congr 1
 omega
theorem div_gen {hi A B U V1 V0 q1 r1 q0 r0 m h y1 P a M:Nat} (hM:M=m*m) (hM2:M=a*h) (hU:U=hi*h+A) (hV:V1*m+V0=B*h)
 (h1:q1*y1+r1=U) (h3:q0*y1+r0=r1*m+V1) (hy:y1*m=P*h):(hi*M+(A*a+B))*h=(q1*m+q0)*P*h+(r0*m+V0):=by
 have e1:(hi*M+(A*a+B))*h=(hi*h+A)*M+B*h:=by
  rw[Nat.add_mul,Nat.add_mul,Nat.add_mul,Nat.mul_assoc A,←hM2,Nat.mul_right_comm hi M h,Nat.add_assoc]
 have e2:(q1*m+q0)*P*h=(q1*y1*m+q0*y1)*m:=by
  rw[Nat.mul_assoc,←hy,Nat.mul_comm y1 m,←Nat.mul_assoc,Nat.mul_right_comm,Nat.add_mul,Nat.mul_right_comm q1 m y1]
 rw[e1,←hU,←hV,←h1,hM,e2,Nat.add_mul,Nat.add_mul];have e3:q0*y1*m+r0*m=r1*m*m+V1*m:=by rw[←Nat.add_mul,h3,Nat.add_mul]
 rw[←Nat.mul_assoc,←Nat.mul_assoc];omega
theorem div_R {S Q P h m r0 V0 y1:Nat} (h0:0<h) (e:S*h=Q*P*h+(r0*m+V0)) (hr:r0<y1) (hv:V0<m) (hy:y1*m=P*h):∃R,r0*m+V0=R*h∧R<P∧S=Q*P+R:=by
 have hle:Q*P≤S:=Nat.le_of_mul_le_mul_right (by omega) h0;obtain ⟨R,rfl⟩:∃R,S=Q*P+R:=⟨S-Q*P,by omega⟩;rw[Nat.add_mul] at e;have e1:r0*m+V0=R*h:=by omega
 refine ⟨R,e1,?_,rfl⟩;have e2:(r0+1)*m≤y1*m:=Nat.mul_le_mul_right m hr;rw[Nat.add_mul,Nat.one_mul,hy] at e2;exact Nat.lt_of_mul_lt_mul_right (a:=h) (by omega)
theorem div_eqs {hi A B U V1 V0 q1 r1 q0 r0:Nat} (hU:U=hi*8589934592+A) (hV:V1*4294967296+V0=B*8589934592)
 (h1:q1*4294967294+r1=U) (h3:q0*4294967294+r0=r1*4294967296+V1) (h4:r0<4294967294) (h5:V0<4294967296) :
 ∃R,r0*4294967296+V0=R*8589934592∧R<2147483647∧hi*18446744073709551616+(A*2147483648+B)=(q1*4294967296+q0)*2147483647+R:=
 div_R (by decide) (div_gen (m:=4294967296) (a:=2147483648) rfl rfl hU hV h1 h3 rfl) h4 h5 rfl
theorem rr125_1:Gives 125 #[.int .u64 2147483647] (.int .i64 31):=by
 intro w;refine zh Tryz.func125 rfl Tryz.ntmps125 rfl ?_;have LW:=erx (No) w;have XLW:=grx (No) w;have E:=erx (No) w;refine stp26 ?_;refine za rfl (je (z:=32767) rfl rfl (by decide) (by kernel_rfl) (yk ?_));refine za rfl (zr (z:=16) rfl rfl (by kernel_rfl) (jt ?_));refine za rfl (je (z:=127) rfl rfl (by decide) (by kernel_rfl) (yk ?_));refine za rfl (zr (z:=24) rfl rfl (by kernel_rfl) (yu ?_));refine za rfl (yi (z:=127) u5 u27 rfl (by kernel_rfl) (za rfl (ow_indexSL (j:=127) (b:=7) Tryz.underlying9 rfl rfl rfl (by kernel_rfl) (za rfl (yi (z:=7) Tryz.underlying3 u5 rfl (by kernel_rfl) (za rfl (zr (z:=31) rfl rfl (by kernel_rfl) (qb ?_))))))));refine vc (rs:=[.tmp 2]) (vs:=[.int .i64 31]) rfl ⟨rfl,trivial⟩ ?_;exact ⟨rfl,(LW.step E XLW).toBelow⟩
theorem rr120_2:Gives 120 #[.int .u64 2147483647] (.int .i64 33):=by
 intro w;refine zh Tryz.func120 rfl Tryz.ntmps120 rfl ?_;have LW:=erx (No) w;have XLW:=grx (No) w;have E:=erx (No) w;refine yx ?_;refine za rfl (zd en125 rfl ((rr125_1 _).mono ?_));rintro e w1 ⟨rfl,hb⟩;refine ⟨_,rfl,?_⟩;replace E:=blx E hb;refine za rfl (qz (z:=33) rfl rfl (by kernel_rfl) (qb ?_));refine vc (rs:=[.tmp 2]) (vs:=[.int .i64 33]) rfl ⟨rfl,trivial⟩ ?_;exact ⟨rfl,(LW.step E XLW).toBelow⟩
section
variable (w:World)
theorem div64_prime (hi lo:Nat) (h1:hi<2147483647) (h2:lo<18446744073709551616):Calls Tryz.prog 109 #[.int .u64 ((hi:Nat):Int),.int .u64 ((lo:Nat):Int),.int .u64 2147483647] w fun e w'=>e= .returned (.tuple #[.int .u64 (((hi*18446744073709551616+lo)/2147483647:Nat):Int),.int .u64 (((hi*18446744073709551616+lo)%2147483647:Nat):Int)])∧Below w.heap.size w w':=by
 obtain ⟨A,hA⟩:∃A,A=lo/2147483648:=⟨_,rfl⟩;obtain ⟨B,hB⟩:∃B,B=lo%2147483648:=⟨_,rfl⟩;obtain ⟨U,hU⟩:∃U,U=hi*8589934592+A:=⟨_,rfl⟩;obtain ⟨V,hV⟩:∃V,V=B*8589934592:=⟨_,rfl⟩;have eV:lo*2^33%18446744073709551616=V:=shl_cut hB hV;have eA:lo/2^31=A:=hA.symm;have ehi:hi*2^33%18446744073709551616=hi*8589934592:=Nat.mod_eq_of_lt (Nat.lt_of_lt_of_le (Nat.mul_lt_mul_of_pos_right h1 (by decide)) (by decide));have bA:A<8589934592:=by omega
 have eor:hi*8589934592 ||| A=U:=by rw[hU];exact or_add 33 bA (Nat.mul_mod_left hi 8589934592)
 have bB:B<2147483648:=oq (by decide) hB;obtain ⟨V1,hV1⟩:∃V1,V1=V/4294967296:=⟨_,rfl⟩;obtain ⟨V0,hV0⟩:∃V0,V0=V%4294967296:=⟨_,rfl⟩;obtain ⟨q1,hq1⟩:∃q1,q1=U/4294967294:=⟨_,rfl⟩;obtain ⟨r1,hr1⟩:∃r1,r1=U%4294967294:=⟨_,rfl⟩;obtain ⟨W,hW⟩:∃W,W=r1*4294967296+V1:=⟨_,rfl⟩;obtain ⟨q0,hq0⟩:∃q0,q0=W/4294967294:=⟨_,rfl⟩;obtain ⟨r0,hr0⟩:∃r0,r0=W%4294967294:=⟨_,rfl⟩;obtain ⟨R,e1,e2,e3⟩:=div_eqs (hi:=hi) (A:=A) (B:=B) (U:=U) (V1:=V1) (V0:=V0) (q1:=q1) (r1:=r1) (q0:=q0) (r0:=r0) hU ((kv hV1 hV0).trans hV) (kv hq1 hr1) ((kv hq0 hr0).trans hW) (oq (by decide) hr0) (oq (by decide) hV0);have elo:A*2147483648+B=lo:=kv hA hB;have b1:=oq (by decide) hr1;have b0:=oq (by decide) hr0;have bV0:=oq (by decide) hV0;rw[elo] at e3;have eR:(hi*18446744073709551616+lo)%2147483647=R:=by rw[e3,Nat.add_comm,Nat.add_mul_mod_self_right,Nat.mod_eq_of_lt e2]
 have eQ:(hi*18446744073709551616+lo)/2147483647=q1*4294967296+q0:=by rw[e3,Nat.add_comm,Nat.add_mul_div_right _ _ (by decide),Nat.div_eq_of_lt e2,Nat.zero_add]
 have bU:U<18446744073709551616:=by omega
 have bq1:q1<4294967296:=by omega
 have bq0:q0<4294967296:=by omega
 have bW:W<18446744073709551616:=by omega
 refine zh Tryz.func109 rfl Tryz.ntmps109 rfl ?_;have LW:=erx (No) w;have XLW:=grx (No) w;have E:=erx (No) w;refine stp24 ?_;refine zk 24 (.bool false) rfl ((by rw[decide_eq_false (by omega)]:(.bool (decide (2147483647≤((hi:Nat):Int))):Value)=_)) (zz ?_);refine zx rfl (fun h=>?_) (fun h=>?_)
 ·
  have h:=beq_iff_eq.1 h;obtain rfl:hi=0:=by omega
  refine stp ?_;have OY:∀q9,(Mut (ybq [])) q9→q9<(World.drew w).heap.size→(No) q9:=fun k h _=>(Mut.none_) k h;refine yv (No) Mut.none_ [] [] (jh [Fx.of (.int .u64 ((lo:Nat):Int)),
   Fx.of (.int .u64 2147483647),
   Fx.of (.int .u64 ((lo/2147483647:Nat):Int)),
   Fx.of (.int .u64 ((lo:Nat):Int)),
   Fx.of (.int .u64 2147483647),
   Fx.of (.int .u64 ((lo%2147483647:Nat):Int)),
   Fx.of (.int .u64 ((lo/2147483647:Nat):Int)),
   Fx.of (.int .u64 ((lo%2147483647:Nat):Int))]) qt rfl trivial (fun _ h=>by cases h) ?_ ?_
  · refine ⟨arm,arm,?_,arm,arm,?_,arm,arm,trivial⟩
    · intro vs X wq K;obtain ⟨_,e0,k0⟩:=K.dep 0 rfl rfl rfl;refine zc 28 _ rfl e0 ?_;obtain ⟨_,e1,k1⟩:=K.dep 1 rfl rfl rfl;refine zc 29 _ rfl e1 ?_;exact oi (z:=((lo/2147483647:Nat):Int)) rfl rfl (by decide) (quo_nat (n:=2147483647) h2) ⟨Below.refl _ _,Left.of rfl⟩
    · intro vs X wq K;obtain ⟨_,e3,k3⟩:=K.dep 3 rfl rfl rfl;refine zc 31 _ rfl e3 ?_;obtain ⟨_,e4,k4⟩:=K.dep 4 rfl rfl rfl;refine zc 32 _ rfl e4 ?_;exact ju (z:=((lo%2147483647:Nat):Int)) rfl rfl (by decide) (yqq lo 2147483647) ⟨Below.refl _ _,Left.of rfl⟩
  intro vs w1 LE AO AL AF AA;replace E:=E.drew.trans (LE.mono OY);obtain ⟨_,e6,k6⟩:=AL.2.2.2.2.2.2.1;obtain ⟨_,e7,k7⟩:=AL.2.2.2.2.2.2.2.1;refine qe (τ:=[(0,_),(1,_),(2,_),(6,.int .u64 ((lo/2147483647:Nat):Int)),(7,.int .u64 ((lo%2147483647:Nat):Int))]) ⟨rfl,rfl,rfl,congrArg some e6,congrArg some e7,trivial⟩ ?_;clear AL AF AA LE AO OY e6 e7 k6 k7;refine qb ?_;exact ⟨by rw[Nat.zero_mul,Nat.zero_add];rfl,(LW.step E XLW).toBelow⟩
 ·
  refine yk ?_;refine za rfl (zd en120 rfl ((rr120_2 _).mono ?_));rintro e w2 ⟨rfl,hb⟩;refine ⟨_,rfl,?_⟩;replace E:=blx E hb;refine za rfl (yi (z:=33) Tryz.underlying94 Tryz.underlying3 rfl (by kernel_rfl) (yu ?_));refine za rfl (xn (z:=18446744065119617024) rfl rfl (by decide) (by kernel_rfl) (yb ?_));refine za rfl (je (z:=4294967294) rfl rfl (by decide) (by kernel_rfl) (yb ?_));refine za rfl (kw (z:=0) rfl rfl (by kernel_rfl) (yu ?_));refine za rfl (xn rfl rfl (by decide) (qfk hi 33 (by decide)) (zf 46 (.int .u64 ((hi*8589934592:Nat):Int)) rfl ((by rw[ehi]:(.int .u64 ((hi*2^33%18446744073709551616:Nat):Int):Value)=_)) (zy ?_)));refine za rfl (qz (z:=31) rfl rfl (by kernel_rfl) (za rfl (je rfl rfl (by decide) (shr_nat lo 31 (by decide)) (zf 50 (.int .u64 ((A:Nat):Int)) rfl ((by rw[eA]:(.int .u64 ((lo/2^31:Nat):Int):Value)=_)) (za rfl (zrq rfl rfl (ysv (by omega) (by omega)) (zf 51 (.int .u64 ((U:Nat):Int)) rfl ((by rw[eor]:(.int .u64 ((hi*8589934592 ||| A:Nat):Int):Value)=_)) (yu ?_))))))));refine za rfl (xn rfl rfl (by decide) (qfk lo 33 (by decide)) (zf 54 (.int .u64 ((V:Nat):Int)) rfl ((by rw[eV]:(.int .u64 ((lo*2^33%18446744073709551616:Nat):Int):Value)=_)) (yb ?_)));refine za rfl (je rfl rfl (by decide) (shr_nat V 32 (by decide)) (zf 56 (.int .u64 ((V1:Nat):Int)) rfl ((by rw[hV1]:(.int .u64 ((V/2^32:Nat):Int):Value)=_)) (yb ?_)));refine za rfl (kw rfl rfl (ywq (n:=4294967295) (by omega) (by decide)) (zf 58 (.int .u64 ((V0:Nat):Int)) rfl ((by rw[show V &&& 4294967295=V%4294967296 from Nat.and_two_pow_sub_one_eq_mod V 32,hV0]:(.int .u64 ((V &&& 4294967295:Nat):Int):Value)=_)) (yu ?_)))
  refine za rfl (oi (z:=((U/4294967294:Nat):Int)) rfl rfl (by decide) (quo_nat (n:=4294967294) bU) (zf 61 (.int .u64 ((q1:Nat):Int)) rfl ((by rw[hq1]:(.int .u64 ((U/4294967294:Nat):Int):Value)=_)) (yx ?_)));refine za rfl (vn rfl rfl (wrap_u64 (by omega)) (za rfl (qz rfl rfl (wrap_u64 (by omega)) (yk ?_))));refine qaq (yb ?_);refine zf 16 (.int .u64 ((r1:Nat):Int)) rfl ((by congr 1;omega:(.int .u64 (((U:Nat):Int)-(((q1:Nat):Int)*4294967294)):Value)=_)) (zf 69 (.bool false) rfl ((by rw[decide_eq_false (by omega)]:(.bool (decide (4294967296≤((q1:Nat):Int))):Value)=_)) (zy ?_));refine onx rfl (vn rfl rfl (wrap_u64 (by omega)) (stp ?_));refine onx rfl (vn rfl rfl (wrap_u64 (by omega)) (stp ?_));refine onx rfl (zr rfl rfl (wrap_u64 (by omega)) (qb ?_));refine zk 78 (.bool false) rfl ((by rw[decide_eq_false (by omega)]:(.bool (decide (((4294967296*((r1:Nat):Int))+((V1:Nat):Int))<(((q1:Nat):Int)*0))):Value)=_)) (qa ?_);refine za rfl (vn rfl rfl (qix U 4294967296) (stp ?_));refine za rfl (zr rfl rfl (add_nat _ V1) (zy ?_));refine za rfl (vn rfl rfl (qix q1 18446744065119617024) (za rfl (qz (z:=((W:Nat):Int)) rfl rfl (sub_nat bW (wrap_rest (m:=4294967296) (kv hq1 hr1) hW rfl rfl)) (yu ?_))));refine za rfl (oi (z:=((W/4294967294:Nat):Int)) rfl rfl (by decide) (quo_nat (n:=4294967294) bW) (zf 96 (.int .u64 ((q0:Nat):Int)) rfl ((by rw[hq0]:(.int .u64 ((W/4294967294:Nat):Int):Value)=_)) (yx ?_)));refine za rfl (vn rfl rfl (wrap_u64 (by omega)) (za rfl (qz rfl rfl (wrap_u64 (by omega)) (yk ?_))));refine qaq (yb ?_)
  refine zf 16 (.int .u64 ((r0:Nat):Int)) rfl ((by congr 1;omega:(.int .u64 (((W:Nat):Int)-(((q0:Nat):Int)*4294967294)):Value)=_)) (zf 104 (.bool false) rfl ((by rw[decide_eq_false (by omega)]:(.bool (decide (4294967296≤((q0:Nat):Int))):Value)=_)) (zy ?_));refine onx rfl (vn rfl rfl (wrap_u64 (by omega)) (stp ?_));refine onx rfl (vn rfl rfl (wrap_u64 (by omega)) (stp ?_));refine onx rfl (zr rfl rfl (wrap_u64 (by omega)) (qb ?_));refine zk 113 (.bool false) rfl ((by rw[decide_eq_false (by omega)]:(.bool (decide (((4294967296*((r0:Nat):Int))+((V0:Nat):Int))<(((q0:Nat):Int)*0))):Value)=_)) (qa ?_);refine za rfl (vn rfl rfl (wrap_u64 (by omega)) (stp ?_));refine za rfl (zr rfl rfl (wrap_u64 (by omega)) (stp ?_));refine zf 124 (.int .u64 ((q1*4294967296+q0:Nat):Int)) rfl ((by rw[Int.natCast_add,Int.natCast_mul];rfl:(.int .u64 ((((q1:Nat):Int)*4294967296)+((q0:Nat):Int)):Value)=_)) (za rfl (vn rfl rfl (qix W 4294967296) (stp ?_)));refine za rfl (zr rfl rfl (add_nat _ V0) (zy ?_));refine za rfl (vn rfl rfl (qix q0 18446744065119617024) (za rfl (qz (z:=((R*8589934592:Nat):Int)) rfl rfl (sub_nat (Nat.lt_of_lt_of_le (Nat.mul_lt_mul_of_pos_right e2 (by decide)) (by decide)) (wrap_rest (m:=4294967296) (kv hq0 hr0) e1.symm rfl rfl)) (stp ?_))));refine za rfl (je rfl rfl (by decide) (shr_nat (R*8589934592) 33 (by decide)) (zf 134 (.int .u64 ((R:Nat):Int)) rfl ((by rw[show R*8589934592/2^33=R from Nat.mul_div_cancel R (show 0<8589934592 by decide)]:(.int .u64 ((R*8589934592/2^33:Nat):Int):Value)=_)) (yb ?_)));exact ⟨by rw[eR,eQ];rfl,(LW.step E XLW).toBelow⟩
theorem yyz (hi lo:Nat) (h1:hi<18446744073709551616) (h2:lo<18446744073709551616):Calls Tryz.prog 96 #[.int .u64 ((hi:Nat):Int),.int .u64 ((lo:Nat):Int),.int .u64 2147483647] w fun e w'=>e= .returned (.int .u64 (((hi*18446744073709551616+lo)%2147483647:Nat):Int))∧Below w.heap.size w w':=by
 have e:(hi%2147483647*18446744073709551616+lo)%2147483647=(hi*18446744073709551616+lo)%2147483647:=by omega
 have _:=h1;refine zh Tryz.func96 rfl Tryz.ntmps96 rfl ?_;have LW:=erx (No) w;have XLW:=grx (No) w;have E:=erx (No) w;refine qa ?_;refine za rfl (ju (z:=((hi%2147483647:Nat):Int)) rfl rfl (by decide) (yqq hi 2147483647) (zy ?_));refine za rfl (zd en109 rfl ((div64_prime _ (hi%2147483647) lo (Nat.mod_lt _ (by decide)) h2).mono ?_));rintro e w1 ⟨rfl,hb⟩;refine ⟨_,rfl,?_⟩;replace E:=blx E hb;refine xb ?_;exact ⟨by rw[←e];rfl,(LW.step E XLW).toBelow⟩
end
end Go.Proofs.YtebjkmjfcijebaaGreat
namespace Go.Proofs.YtebjkmjfcijebaaGreat
open Go.RowKit
theorem frF_parts {r:Nat} (hr:r<9218868437227405312) (h0:r≠0):frF r<9218868437227405312∧frF r≠0∧vl (frF r)=mg (nr r)*2^1021:=by
 obtain ⟨m1,m2⟩:=mg_nr h0;obtain ⟨p1,p2⟩:=zvq (e:=1021) m1 m2;have e:frF r=1021*4503599627370496+mg (nr r):=by rw[frF_pos hr];omega
 refine ⟨by omega,by omega,?_⟩;rw[e,vl,p1,p2]
theorem fullQ {r:Nat} (h0:r≠0):vl (1074*4503599627370496+mg (nr r))=mg (nr r)*2^1074∧1074*4503599627370496+mg (nr r)<9218868437227405312:=by
 obtain ⟨m1,m2⟩:=mg_nr h0;obtain ⟨p1,p2⟩:=zvq (e:=1074) m1 m2;refine ⟨?_,by omega⟩;show mg _*2^ex _=_
 rewrite [p1,p2];rfl
theorem FRes.isn {r:Nat} {w w':World} (h:FRes none r w w'):isN r=true:=by
 rcases h with ⟨h1,_⟩ | ⟨_,hn,_⟩
 · cases h1
 · exact nan_isN hn
theorem FRes.nan {z:Option Nat} {r:Nat} {w w':World} (h:FRes z r w w') (hz:z=none):isN r=true:=by subst hz;exact h.isn
theorem bareN_num {m:Nat} (h:isN m=false):yc m=m:=by rw[yc,if_neg (by rw[h];decide)]
section
variable (w:World)
/-! ### package real's -/
section
variable (a b:Nat) (ha:a<18446744073709551616) (hbq:b<18446744073709551616) (hz:isZ b=false)
include ha hbq hz
section
variable (hf:rg a<9218868437227405312) (hn:isN b=false)
include hf hn
end
end
end
end Go.Proofs.YtebjkmjfcijebaaGreat
