/- Texts of this claim. -/
import Derived.Test.YtebjkmjfcijebaaGreatB16
set_option maxRecDepth 100000
namespace Go.Proofs.YtebjkmjfcijebaaGreat
open Go.RowKit
set_option maxHeartbeats 20000000
attribute [local irreducible] OW RS CW EW
theorem owns_words {w:World} {g:Nat} {W:List Nat} (hb:Blk w g 27 (ym W).toArray) (hm:W.length≤maxLen):w.ownsRow g 27 1 (.slice (some ⟨g,0,none⟩) W.length W.length) W.length (ym W):=
 ⟨by rw[kk,Nat.mul_one],Or.inr ⟨g,W.length,_,rfl,Nat.le_refl _,hb,Nat.le_refl _,hm,by rw[List.size_toArray,kk,Nat.mul_one],by rw[Nat.mul_one];exact List.take_of_length_le (by rw[kk];exact Nat.le_refl _)⟩⟩
theorem wv22_1:Gives 22 #[.int .i64 1] (.tuple #[.int .u64 6,.int .i64 0]):=by
 intro w;refine zh Tryz.func22 rfl Tryz.ntmps22 rfl ?_;have LW:=erx (No) w;have XLW:=grx (No) w;have E:=erx (No) w;refine zoz ?_;refine za rfl (yi (z:=1) u27 Tryz.underlying3 rfl (by kernel_rfl) (za rfl (xn (z:=4) rfl rfl (by decide) (by kernel_rfl) (za rfl (zrq (z:=6) rfl rfl (by kernel_rfl) (yk ?_))))));refine vc (rs:=[.tmp 2,.tmp 3]) (vs:=[.int .u64 6,.int .i64 0]) rfl ⟨rfl,rfl,trivial⟩ ?_;exact ⟨rfl,(LW.step E XLW).toBelow⟩
theorem wv22_2:Gives 22 #[.int .i64 2] (.tuple #[.int .u64 10,.int .i64 0]):=by
 intro w;refine zh Tryz.func22 rfl Tryz.ntmps22 rfl ?_;have LW:=erx (No) w;have XLW:=grx (No) w;have E:=erx (No) w;refine zoz ?_;refine za rfl (yi (z:=2) u27 Tryz.underlying3 rfl (by kernel_rfl) (za rfl (xn (z:=8) rfl rfl (by decide) (by kernel_rfl) (za rfl (zrq (z:=10) rfl rfl (by kernel_rfl) (yk ?_))))));refine vc (rs:=[.tmp 2,.tmp 3]) (vs:=[.int .u64 10,.int .i64 0]) rfl ⟨rfl,rfl,trivial⟩ ?_;exact ⟨rfl,(LW.step E XLW).toBelow⟩
theorem qgx {v:PV} (hx:∀y∈v.xs,U64 y) (hb:U64 v.bits) (hs:v.s.size≤20000∨v.k≠4):∀y∈v.raw,U64 y:=fun y hy=>by
 unfold PV.raw at hy;split at hy
 · rw[List.mem_singleton.1 hy];exact bareN_lt hb
 · split at hy
   · rename_i h4
     exact pkL_u64 v.s (by have:=hs.resolve_right (fun h=>h h4);omega) _ _ y hy
   · rcases List.mem_cons.1 hy with rfl | hy
     · split<;>(unfold U64;decide)
     · exact hx y hy
section
variable (lo gm gW cap top n:Nat) (w:World) (W:List Nat) (v:PV) (p:PVp) (hM:OwnM lo w gm gW cap W top) (hmW:gm≠gW) (hz:∀i,top≤i→wat W i=0) (hv:PVA n w v p) (hnm:n≤gm) (hnW:n≤gW)
include hM hmW hz hv hnm hnW
def RetPut (lo gm gW cap top:Nat) (w:World) (W:List Nat) (v:PV) (e:Ending) (w':World):Prop:=∃(x:Nat) (er:Int) (W':List Nat) (t':Nat),e= .returned (.tuple #[.int .u64 ((x:Nat):Int),.int .i64 er])∧PutCase v W top x er W' t'∧OwnM lo w' gm gW cap W' t'∧Ext (Mut [some gm,some gW]) w w'
set_option maxHeartbeats 20000000 in
theorem oput_any:Calls Tryz.prog 7 #[.pointer (some ⟨gm,0,none⟩),.agg #[.int .i64 v.k,.bool v.yes,.bool v.neg,.slice p.a v.xs.length p.c,.int .u64 ((v.bits:Nat):Int),.string v.s,.slice p.b v.ni p.d]] w (RetPut lo gm gW cap top w W v):=by
 have _:=hnW;have hlt:=hM.lt;have hW4:=hM.most;have hll:=hv.limbs.len;have hbits:v.bits<18446744073709551616:=hv.bits;have hnw:n≤w.heap.size:=by omega
 refine zh Tryz.func7 rfl Tryz.ntmps7 rfl (zy ?_);refine za rfl (zn rfl ?_);rintro g3 wA B3a E1 G3;have B3:Blk wA g3 30 #[.int .i64 v.k,.bool v.yes,.bool v.neg,.slice p.a v.xs.length p.c,.int .u64 ((v.bits:Nat):Int),.string v.s,.slice p.b v.ni p.d]:=B3a;refine yx ?_;have hs1:=E1.size;refine za rfl (zd ylx rfl ((pgood_any _ v.k v.yes v.neg p.a p.b v.xs p.c v.bits v.ni p.d v.s ((hv.limbs.no E1).nums (by omega)) (by omega)).mono ?_));rintro e w1 ⟨rfl,hb⟩;refine ⟨_,rfl,?_⟩;have E2:=E1.trans (Ext.of_below hb No);have B4:=B3.ext (Ext.of_below hb No) (fun h=>h.elim);have hs2:=E2.size;refine qc ?_;by_cases hg:v.good=true
 ·
  refine zk 11 (.bool false) rfl ((by rw[hg];rfl:(.bool (!v.good):Value)=_)) (yu ?_);refine za rfl (zrv u37 rfl rfl (gh ?_));by_cases h0:v.k=0
  ·
   refine zf 17 (.bool true) rfl ((by rw[h0];rfl:(.bool (v.k==0):Value)=_)) (yb ?_);refine za rfl (zd en22 rfl ((const0_any _).mono ?_));rintro e w2 ⟨rfl,hb⟩;refine ⟨_,rfl,?_⟩;have E3:=E2.trans (Ext.of_below hb No);refine zz ?_;exact ⟨2,0,W,top,rfl,.small hg (by unfold PV.big;omega) (by unfold PV.small;rw[if_pos h0]),hM.ext E3 (fun h=>h) (fun h=>h),E3.mono (fun _ h _=>h.elim)⟩
  ·
   refine zf 17 (.bool false) rfl ((by congr 1;rw[beq_eq_false_iff_ne];exact h0:(.bool (v.k==0):Value)=_)) (yu ?_);by_cases h1:v.k=1
   ·
    refine zf 22 (.bool true) rfl ((by rw[h1];rfl:(.bool (v.k==1):Value)=_)) (qa ?_);by_cases hy:v.yes=true
    ·
     refine zf 24 (.bool true) rfl ((by rw[hy]:(.bool v.yes:Value)=_)) (yk ?_);refine za rfl (zd en22 rfl ((wv22_2 _).mono ?_));rintro e w3 ⟨rfl,hb⟩;refine ⟨_,rfl,?_⟩;have E3:=E2.trans (Ext.of_below hb No);refine yt ?_;exact ⟨10,0,W,top,rfl,.small hg (by unfold PV.big;omega) (by unfold PV.small;rw[if_neg h0,if_pos h1,if_pos hy]),hM.ext E3 (fun h=>h) (fun h=>h),E3.mono (fun _ h _=>h.elim)⟩
    ·
     refine zf 24 (.bool false) rfl ((by rw[Bool.eq_false_iff.2 hy]:(.bool v.yes:Value)=_)) (yu ?_);refine za rfl (zd en22 rfl ((wv22_1 _).mono ?_));rintro e w4 ⟨rfl,hb⟩;refine ⟨_,rfl,?_⟩;have E3:=E2.trans (Ext.of_below hb No);refine zz ?_;exact ⟨6,0,W,top,rfl,.small hg (by unfold PV.big;omega) (by unfold PV.small;rw[if_neg h0,if_pos h1,if_neg hy]),hM.ext E3 (fun h=>h) (fun h=>h),E3.mono (fun _ h _=>h.elim)⟩
   ·
    refine zf 22 (.bool false) rfl ((by congr 1;rw[beq_eq_false_iff_ne];exact h1:(.bool (v.k==1):Value)=_)) (yu ?_);by_cases h3:v.k=3
    ·
     refine zf 32 (.bool true) rfl ((by rw[h3];rfl:(.bool (v.k==3):Value)=_)) ?_;have hraw:v.raw= [yc v.bits]:=by unfold PV.raw;rw[if_pos h3]
     have hrl:v.raw.length=1:=by rw[hraw];rfl
     have hk:v.k.natAbs=3:=by rw[h3];rfl
     refine qa ?_;refine za rfl (zd en24 rfl ((zjv _ v.bits).mono ?_));rintro e w5 ⟨rfl,hb⟩;refine ⟨_,rfl,?_⟩;have E3:=E2.trans (Ext.of_below hb No);refine za rfl (zd en24 rfl ((zjv _ (yc (ya v.bits))).mono ?_));rintro e w6 ⟨rfl,hb⟩;refine ⟨_,rfl,?_⟩;have E4:=E3.trans (Ext.of_below hb No);refine zf 37 (.int .u64 ((yc v.bits:Nat):Int)) rfl ((by rw[yiq hbits]:(.int .u64 ((yc (ya (yc (ya v.bits))):Nat):Int):Value)=_)) (za rfl (vi (cs:=#[.int .u64 ((yc v.bits:Nat):Int)]) u22 qk zr27 (by decide) rfl (by rw[kc];rfl) ?_));rintro gx wX Bx Ex Gx;have hT:=E4.trans Ex;have hgx:w.heap.size≤gx:=by have:=E4.size;omega
     have OR:wX.ownsRow gx 27 1 (.slice (some ⟨gx,0,none⟩) v.raw.length 1) v.raw.length (ym v.raw):=by rw[hraw];exact owns_one Bx (Nat.le_refl _)
     refine zf 38 (.slice (some ⟨gx,0,none⟩) v.raw.length 1) rfl ((by rw[hrl]:(.slice (some ⟨gx,0,none⟩) 1 1:Value)=_)) ?_;have hsl:Ext (fun q=>w.heap.size≤q) w wX:=hT.noL w.heap.size;have hMt:=hM.ext hT (fun h=>h) (fun h=>h);have hgt:w.heap.size≤gx:=hgx;have hRz:∀z,Ext (Mut [some gm,some gW]) wX z→WordsA (gx+1) z (some ⟨gx,0,none⟩) v.raw:=fun z hz=>oz (qr OR hz (fun q hq h=>by have h2:gx=q:=Option.some.inj hq;rcases h with h | h | h<;>first | exact h.elim | (have:=Option.some.inj h;omega))) (by omega) (qgx hv.limbs.in_ hv.bits (by omega));by_cases hf:top+(2+0+v.raw.length)≤W.length
     ·
      refine za rfl (zd en23 rfl ((zgx lo gm gW cap top 3 0 1 (gx+1) _ W [] v.raw none (some ⟨gx,0,none⟩) hMt (by omega) (Nat.zero_le _) (by omega) hmW (fun z hz=>.nil _ _ _) hRz (fun x hx=>(by cases hx)) hz hf).mono ?_));rintro e w7 ⟨rfl,hMT,hET⟩;refine ⟨_,rfl,(zz ?_)⟩;exact ⟨4*top,0,_,_,rfl,.laid hg (by unfold PV.big;omega) hf,by rw[hk];exact hMT,(hT.mono (Y:=Mut [some gm,some gW]) (fun _ h _=>h.elim)).step hET (fun q hq=>Or.inl hq)⟩
     ·
      refine za rfl (zd en23 rfl ((zwv lo gm gW cap top 3 0 1 (gx+1) _ W [] v.raw none (some ⟨gx,0,none⟩) hMt (by omega) (Nat.zero_le _) (by omega) hmW (fun z hz=>.nil _ _ _) hRz (fun x hx=>(by cases hx)) (by show W.length<top+(2+0+v.raw.length);omega)).mono ?_));rintro e w8 ⟨rfl,hb⟩;refine ⟨_,rfl,?_⟩;have hT2:=hT.trans (Ext.of_below hb No);refine zz ?_;exact ⟨0,5,W,top,rfl,.full hg (by unfold PV.big;omega) (by omega),hM.ext hT2 (fun h=>h) (fun h=>h),hT2.mono (Y:=Mut [some gm,some gW]) (fun _ h _=>h.elim)⟩
    ·
     refine zf 32 (.bool false) rfl ((by congr 1;rw[beq_eq_false_iff_ne];exact h3:(.bool (v.k==3):Value)=_)) (yu ?_);by_cases h4:v.k=4
     ·
      refine zf 43 (.bool true) rfl ((by rw[h4];rfl:(.bool (v.k==4):Value)=_)) ?_;have hraw:v.raw=jo v.s:=by unfold PV.raw;rw[if_neg h3,if_pos h4]
      have hk:v.k.natAbs=4:=by rw[h4];rfl
      have hs4:=PV.good_4 hg h4;have hrl:v.raw.length≤2502:=by rw[hraw,zjq];omega
      refine qa ?_;refine za rfl (zd en25 rfl ((yoq _ v.s hs4).mono ?_));rintro e w9 ⟨⟨gx,rfl,Bx,Gx⟩,hb⟩;refine ⟨_,rfl,?_⟩;have hT:=E2.trans (Ext.of_below hb No);have hgx:w.heap.size≤gx:=by omega
      rw[←hraw] at Bx;have OR:w9.ownsRow gx 27 1 (.slice (some ⟨gx,0,none⟩) v.raw.length v.raw.length) v.raw.length (ym v.raw):=owns_words Bx (by unfold maxLen;omega);refine zf 47 (.slice (some ⟨gx,0,none⟩) v.raw.length v.raw.length) rfl ((by rw[hraw]:(.slice (some ⟨gx,0,none⟩) (jo v.s).length (jo v.s).length:Value)=_)) ?_;have hsl:Ext (fun q=>w.heap.size≤q) w w9:=hT.noL w.heap.size;have hMt:=hM.ext hT (fun h=>h) (fun h=>h);have hgt:w.heap.size≤gx:=hgx;have hRz:∀z,Ext (Mut [some gm,some gW]) w9 z→WordsA (gx+1) z (some ⟨gx,0,none⟩) v.raw:=fun z hz=>oz (qr OR hz (fun q hq h=>by have h2:gx=q:=Option.some.inj hq;rcases h with h | h | h<;>first | exact h.elim | (have:=Option.some.inj h;omega))) (by omega) (qgx hv.limbs.in_ hv.bits (by omega));by_cases hf:top+(2+0+v.raw.length)≤W.length
      ·
       refine za rfl (zd en23 rfl ((zgx lo gm gW cap top 4 0 v.raw.length (gx+1) _ W [] v.raw none (some ⟨gx,0,none⟩) hMt (by omega) (Nat.zero_le _) (by omega) hmW (fun z hz=>.nil _ _ _) hRz (fun x hx=>(by cases hx)) hz hf).mono ?_));rintro e w10 ⟨rfl,hMT,hET⟩;refine ⟨_,rfl,(zz ?_)⟩;exact ⟨4*top,0,_,_,rfl,.laid hg (by unfold PV.big;omega) hf,by rw[hk];exact hMT,(hT.mono (Y:=Mut [some gm,some gW]) (fun _ h _=>h.elim)).step hET (fun q hq=>Or.inl hq)⟩
      ·
       refine za rfl (zd en23 rfl ((zwv lo gm gW cap top 4 0 v.raw.length (gx+1) _ W [] v.raw none (some ⟨gx,0,none⟩) hMt (by omega) (Nat.zero_le _) (by omega) hmW (fun z hz=>.nil _ _ _) hRz (fun x hx=>(by cases hx)) (by show W.length<top+(2+0+v.raw.length);omega)).mono ?_));rintro e w11 ⟨rfl,hb⟩;refine ⟨_,rfl,?_⟩;have hT2:=hT.trans (Ext.of_below hb No);refine zz ?_;exact ⟨0,5,W,top,rfl,.full hg (by unfold PV.big;omega) (by omega),hM.ext hT2 (fun h=>h) (fun h=>h),hT2.mono (Y:=Mut [some gm,some gW]) (fun _ h _=>h.elim)⟩
     ·
      refine zf 43 (.bool false) rfl ((by congr 1;rw[beq_eq_false_iff_ne];exact h4:(.bool (v.k==4):Value)=_)) ?_;have h2:v.k=2:=by have:=PV.good_k hg;omega
      have hg2:=PV.good_2 hg h2;have hxl:v.xs.length≤30:=(qj hg2).2.2.1;have hk:v.k.natAbs=2:=by rw[h2];rfl
      refine zhq ?_;by_cases hl2:v.xs.length<2
      ·
       refine zk 55 (.bool true) rfl ((by rw[decide_eq_true];omega:(.bool (decide ((((v.xs.length:Nat)):Int)<2)):Value)=_)) ?_;obtain ⟨hn1,hn2,hnR⟩:=yxv hg2 hl2;refine qb ?_;refine za rfl (zrk u26 rfl kj rfl B4 rfl rfl (za rfl (zd en26 rfl ((int_any p.a p.c v.xs _ v.neg ((hv.limbs.no E2).nums (by omega)) (by omega)).mono ?_))));rintro e w12 ⟨rfl,hb⟩;refine ⟨_,rfl,?_⟩;have E3:=E2.trans (Ext.of_below hb No);refine zf 59 (.tuple #[.int .i64 (num v.neg v.xs),.int .i64 0]) rfl ((by rw[hg2];unfold intV intE;rw[if_pos rfl,if_pos rfl,if_pos hnR,if_pos hnR]:(.tuple #[.int .i64 (intV (yq v.neg v.xs) (num v.neg v.xs)),.int .i64 (intE (yq v.neg v.xs) (num v.neg v.xs))]:Value)=_)) (zz ?_);refine za rfl (zd en27 rfl ((wsmall_any _ (num v.neg v.xs) hn1 hn2).mono ?_));rintro e w13 ⟨rfl,hb⟩;refine ⟨_,rfl,?_⟩;have E4:=E3.trans (Ext.of_below hb No);refine qa ?_;exact ⟨zdz (num v.neg v.xs),0,W,top,rfl,.small hg (by unfold PV.big;omega) (by unfold PV.small;rw[if_neg h0,if_neg h1]),hM.ext E4 (fun h=>h) (fun h=>h),E4.mono (fun _ h _=>h.elim)⟩
      ·
       refine zk 55 (.bool false) rfl ((by rw[decide_eq_false];omega:(.bool (decide ((((v.xs.length:Nat)):Int)<2)):Value)=_)) ?_;obtain ⟨sg,hsg⟩:∃sg:Nat,sg=if v.neg then 1 else 0:=⟨_,rfl⟩
       have hraw:v.raw=sg::v.xs:=by unfold PV.raw;rw[if_neg h3,if_neg h4,hsg]
       have hrl:v.raw.length=1+v.xs.length:=by rw[hraw,List.length_cons,Nat.add_comm]
       refine jt ?_;by_cases hng:v.neg=true
       ·
        refine zf 68 (.bool true) rfl ((by rw[hng]:(.bool v.neg:Value)=_)) (yt ?_);refine zf 70 (.int .u64 ((sg:Nat):Int)) rfl ((by rw[hsg,if_pos hng];rfl:(.int .u64 1:Value)=_)) (za rfl (vi (cs:=#[.int .u64 ((sg:Nat):Int)]) u22 qk zr27 (by decide) rfl (by rw[kc];rfl) ?_));rintro gy wX Bx Ex Gx;have E5:=E2.trans Ex;have B5:=B4.ext Ex (fun h=>h.elim);have O1:wX.ownsRow w.heap.size 27 1 (.slice (some ⟨gy,0,none⟩) 1 1) 1 (ym [sg]):=owns_one Bx (by omega);refine qc ?_;refine za rfl (zmq (n':=v.raw.length) (xs':=ym v.raw) u22 ymx rfl (by decide) rfl O1 rfl ((hv.limbs.no E5).reads (Nat.le_refl _)) ynx hrl.symm (by rw[hraw];unfold ym;rfl) (by unfold maxLen;omega) (by omega) E5.size ?_);rintro A6 c6 wC OR0 E6 N6;have hT:=E5.step E6 (fun q hq=>Or.inr (own_ge O1 q hq));obtain ⟨gx,_,hA6,_,_,hgx,_⟩:=yyk OR0 (by omega);subst hA6;have OR:=OR0;have hsl:Ext (fun q=>w.heap.size≤q) w wC:=hT.noL w.heap.size;have hMt:=hM.ext hT (fun h=>h) (fun h=>h);have hgt:w.heap.size≤gx:=hgx;have hRz:∀z,Ext (Mut [some gm,some gW]) wC z→WordsA (gx+1) z (some ⟨gx,0,none⟩) v.raw:=fun z hz=>oz (qr OR hz (fun q hq h=>by have h2:gx=q:=Option.some.inj hq;rcases h with h | h | h<;>first | exact h.elim | (have:=Option.some.inj h;omega))) (by omega) (qgx hv.limbs.in_ hv.bits (by omega));by_cases hf:top+(2+0+v.raw.length)≤W.length
        ·
         refine za rfl (zd en23 rfl ((zgx lo gm gW cap top 2 0 c6 (gx+1) _ W [] v.raw none (some ⟨gx,0,none⟩) hMt (by omega) (Nat.zero_le _) (by omega) hmW (fun z hz=>.nil _ _ _) hRz (fun x hx=>(by cases hx)) hz hf).mono ?_));rintro e w14 ⟨rfl,hMT,hET⟩;refine ⟨_,rfl,(yx ?_)⟩;exact ⟨4*top,0,_,_,rfl,.laid hg (by unfold PV.big;omega) hf,by rw[hk];exact hMT,(hT.mono (Y:=Mut [some gm,some gW]) (fun _ h _=>h.elim)).step hET (fun q hq=>Or.inl hq)⟩
        ·
         refine za rfl (zd en23 rfl ((zwv lo gm gW cap top 2 0 c6 (gx+1) _ W [] v.raw none (some ⟨gx,0,none⟩) hMt (by omega) (Nat.zero_le _) (by omega) hmW (fun z hz=>.nil _ _ _) hRz (fun x hx=>(by cases hx)) (by show W.length<top+(2+0+v.raw.length);omega)).mono ?_));rintro e w15 ⟨rfl,hb⟩;refine ⟨_,rfl,?_⟩;have hT2:=hT.trans (Ext.of_below hb No);refine yx ?_;exact ⟨0,5,W,top,rfl,.full hg (by unfold PV.big;omega) (by omega),hM.ext hT2 (fun h=>h) (fun h=>h),hT2.mono (Y:=Mut [some gm,some gW]) (fun _ h _=>h.elim)⟩
       ·
        refine zf 68 (.bool false) rfl ((by rw[Bool.eq_false_iff.2 hng]:(.bool v.neg:Value)=_)) (qa ?_);refine zf 70 (.int .u64 ((sg:Nat):Int)) rfl ((by rw[hsg,if_neg hng];rfl:(.int .u64 0:Value)=_)) (za rfl (vi (cs:=#[.int .u64 ((sg:Nat):Int)]) u22 qk zr27 (by decide) rfl (by rw[kc];rfl) ?_));rintro gy wX Bx Ex Gx;have E5:=E2.trans Ex;have B5:=B4.ext Ex (fun h=>h.elim);have O1:wX.ownsRow w.heap.size 27 1 (.slice (some ⟨gy,0,none⟩) 1 1) 1 (ym [sg]):=owns_one Bx (by omega);refine qc ?_;refine za rfl (zmq (n':=v.raw.length) (xs':=ym v.raw) u22 ymx rfl (by decide) rfl O1 rfl ((hv.limbs.no E5).reads (Nat.le_refl _)) ynx hrl.symm (by rw[hraw];unfold ym;rfl) (by unfold maxLen;omega) (by omega) E5.size ?_);rintro A6 c6 wC OR0 E6 N6;have hT:=E5.step E6 (fun q hq=>Or.inr (own_ge O1 q hq));obtain ⟨gx,_,hA6,_,_,hgx,_⟩:=yyk OR0 (by omega);subst hA6;have OR:=OR0;have hsl:Ext (fun q=>w.heap.size≤q) w wC:=hT.noL w.heap.size;have hMt:=hM.ext hT (fun h=>h) (fun h=>h);have hgt:w.heap.size≤gx:=hgx;have hRz:∀z,Ext (Mut [some gm,some gW]) wC z→WordsA (gx+1) z (some ⟨gx,0,none⟩) v.raw:=fun z hz=>oz (qr OR hz (fun q hq h=>by have h2:gx=q:=Option.some.inj hq;rcases h with h | h | h<;>first | exact h.elim | (have:=Option.some.inj h;omega))) (by omega) (qgx hv.limbs.in_ hv.bits (by omega));by_cases hf:top+(2+0+v.raw.length)≤W.length
        ·
         refine za rfl (zd en23 rfl ((zgx lo gm gW cap top 2 0 c6 (gx+1) _ W [] v.raw none (some ⟨gx,0,none⟩) hMt (by omega) (Nat.zero_le _) (by omega) hmW (fun z hz=>.nil _ _ _) hRz (fun x hx=>(by cases hx)) hz hf).mono ?_));rintro e w16 ⟨rfl,hMT,hET⟩;refine ⟨_,rfl,(yx ?_)⟩;exact ⟨4*top,0,_,_,rfl,.laid hg (by unfold PV.big;omega) hf,by rw[hk];exact hMT,(hT.mono (Y:=Mut [some gm,some gW]) (fun _ h _=>h.elim)).step hET (fun q hq=>Or.inl hq)⟩
        ·
         refine za rfl (zd en23 rfl ((zwv lo gm gW cap top 2 0 c6 (gx+1) _ W [] v.raw none (some ⟨gx,0,none⟩) hMt (by omega) (Nat.zero_le _) (by omega) hmW (fun z hz=>.nil _ _ _) hRz (fun x hx=>(by cases hx)) (by show W.length<top+(2+0+v.raw.length);omega)).mono ?_));rintro e w17 ⟨rfl,hb⟩;refine ⟨_,rfl,?_⟩;have hT2:=hT.trans (Ext.of_below hb No);refine yx ?_;exact ⟨0,5,W,top,rfl,.full hg (by unfold PV.big;omega) (by omega),hM.ext hT2 (fun h=>h) (fun h=>h),hT2.mono (Y:=Mut [some gm,some gW]) (fun _ h _=>h.elim)⟩
 ·
  have hg':v.good=false:=Bool.eq_false_iff.2 hg;refine zk 11 (.bool true) rfl ((by rw[hg'];rfl:(.bool (!v.good):Value)=_)) (zz ?_);exact ⟨0,3,W,top,rfl,.bad hg',hM.ext E2 (fun h=>h) (fun h=>h),E2.mono (fun _ h _=>h.elim)⟩
end
end Go.Proofs.YtebjkmjfcijebaaGreat
