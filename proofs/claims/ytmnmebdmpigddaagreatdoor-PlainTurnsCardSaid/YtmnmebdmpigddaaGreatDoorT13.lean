/- Texts of this claim. -/
import Derived.Test.YtmnmebdmpigddaaGreatDoorT12
set_option maxRecDepth 100000
namespace Go.Proofs.YtmnmebdmpigddaaGreatDoor
open Go.RowKit
theorem Below.drewN {B:Nat} {a w:World} (h:Below B a w) (n:Nat):Below B a (w.drewN n):=⟨h.os,h.tape,h.output,h.size,h.block⟩
@[irreducible] def cmpO (ok:Bool) (i j:Int):Int:=if ok then ypx i j else 0
theorem cmp_pos {xs ys:List Nat}:oe (val B18 xs) (val B18 ys)=ypx (num false xs) (num false ys):=by
 rw[ke,ke];unfold ypx oe sgn;by_cases h1:val B18 xs<val B18 ys
 · simp[h1]
 · by_cases h2:val B18 ys<val B18 xs<;>simp[h1,h2]
theorem cmp_neg {xs ys:List Nat}:oe (val B18 ys) (val B18 xs)=ypx (num true xs) (num true ys):=by
 rw[ke,ke];unfold ypx oe sgn;by_cases h1:val B18 ys<val B18 xs
 · simp[h1]
 · by_cases h2:val B18 xs<val B18 ys<;>simp[h1,h2]
theorem cmp_lt {xs ys:List Nat} (hg:zr true xs=true):ypx (num true xs) (num false ys)= -1:=by
 have h:=neg_num hg;have h1:num true xs<0:=by simpa using h
 have h2:(0:Int)≤num false ys:=by rw[ke];unfold sgn;simp
 unfold ypx;rw[if_pos (by omega)]
theorem cmp_gt {xs ys:List Nat} (hk:zr true ys=true):ypx (num false xs) (num true ys)=1:=by
 have h:=neg_num hk;have h1:num true ys<0:=by simpa using h
 have h2:(0:Int)≤num false xs:=by rw[ke];unfold sgn;simp
 unfold ypx;rw[if_neg (by omega),if_pos (by omega)]
section
variable (A B:Option Addr) (c d:Nat) (xs ys:List Nat) (w:World)
theorem neg_any (neg:Bool) (hx:Nums w A xs) (hl:xs.length≤9223372036854775807) :
 Calls Tryz.prog 48 #[.agg #[.bool neg,.slice A xs.length c]] w (zhv w (if zr neg xs then-num neg xs else 0)):=by
 cases h:zr neg xs
 · exact neg_bad A c xs w neg hx hl h
 · exact neg_good A c xs w neg hx h
set_option maxHeartbeats 1000000 in
theorem cmp_bad_x (n1 n2:Bool) (hx:Nums w A xs) (hl:xs.length≤9223372036854775807) (hg:zr n1 xs=false) :
 Calls Tryz.prog 40 #[.agg #[.bool n1,.slice A xs.length c],.agg #[.bool n2,.slice B ys.length d]] w fun e w'=>e= .returned (.int .i64 0)∧Below w.heap.size w w':=by
 go_enter Tryz.func40,Tryz.ntmps40
 go_wp2_with fail
 refine (yr n1 c _ A xs hl ((hx.alloc _).alloc _)).mono ?_;rintro e w1 ⟨rfl,hb1⟩;have L1:Below w.heap.size w w1:=(((Below.refl _ _).alloc (Nat.le_refl _) _).alloc (by simp) _).trans (hb1.mono (by simp;omega));go_wp2_with fail
 go_ret
 exact ⟨rfl,L1⟩
set_option maxHeartbeats 1000000 in
theorem cmp_bad_y (n1 n2:Bool) (hx:Nums w A xs) (hy:Nums w B ys) (hl:ys.length≤9223372036854775807) (hg:zr n1 xs=true) (hk:zr n2 ys=false) :
 Calls Tryz.prog 40 #[.agg #[.bool n1,.slice A xs.length c],.agg #[.bool n2,.slice B ys.length d]] w fun e w'=>e= .returned (.int .i64 0)∧Below w.heap.size w w':=by
 obtain ⟨_,_,hlx,_⟩:=yv hg;go_enter Tryz.func40,Tryz.ntmps40
 go_wp2_with fail
 refine (yr n1 c _ A xs (by omega) ((hx.alloc _).alloc _)).mono ?_;rintro e w1 ⟨rfl,hb1⟩;have Y1:=(Blk.new (w.alloc (.cells #[.bool n1,.slice A xs.length c] 24)) 24 #[.bool n2,.slice B ys.length d]).below hb1 (by simp);have L1:Below w.heap.size w w1:=(((Below.refl _ _).alloc (Nat.le_refl _) _).alloc (by simp) _).trans (hb1.mono (by simp;omega));simp only[World.size_alloc] at Y1
 obtain ⟨y0,y1,y2,y3⟩:=Y1.two;go_wp2_with fail
 refine (yr n2 d _ B ys hl (hy.below L1 (Nat.le_refl _))).mono ?_;rintro e w2 ⟨rfl,hb2⟩;have L2:=L1.trans (hb2.mono L1.size);go_wp2_with fail
 go_ret
 exact ⟨rfl,L2⟩
set_option maxHeartbeats 1000000 in
theorem cmp_good (n1 n2:Bool) (hx:Nums w A xs) (hy:Nums w B ys) (hg:zr n1 xs=true) (hk:zr n2 ys=true) :
 Calls Tryz.prog 40 #[.agg #[.bool n1,.slice A xs.length c],.agg #[.bool n2,.slice B ys.length d]] w fun e w'=>e= .returned (.int .i64 (ypx (num n1 xs) (num n2 ys)))∧Below w.heap.size w w':=by
 obtain ⟨hs,hn,hlx,_⟩:=yv hg;obtain ⟨ht,hm,hly,_⟩:=yv hk;cases n1<;>cases n2
 case false.false=>
  have HV:=Lib.hid (cmp_pos (xs:=xs) (ys:=ys));go_enter Tryz.func40,Tryz.ntmps40
  go_wp2_with fail
  refine (yr false c _ A xs (by omega) ((hx.alloc _).alloc _)).mono ?_;rintro e w1 ⟨rfl,hb1⟩;have X1:=(Blk.first w 24 #[.bool false,.slice A xs.length c] (.cells #[.bool false,.slice B ys.length d] 24)).below hb1 (by simp;omega);have Y1:=(Blk.new (w.alloc (.cells #[.bool false,.slice A xs.length c] 24)) 24 #[.bool false,.slice B ys.length d]).below hb1 (by simp);have L1:Below w.heap.size w w1:=(((Below.refl _ _).alloc (Nat.le_refl _) _).alloc (by simp) _).trans (hb1.mono (by simp;omega));simp only[World.size_alloc] at X1 Y1
  clear hb1;obtain ⟨y0,y1,y2,y3⟩:=Y1.two;go_wp2_with fail
  refine (yr false d _ B ys (by omega) (hy.below L1 (Nat.le_refl _))).mono ?_;rintro e w2 ⟨rfl,hb2⟩;have X2:=X1.below hb2 X1.lt;have Y2:=Y1.below hb2 Y1.lt;have L2:=L1.trans (hb2.mono L1.size);clear y0 y1 y2 y3 X1 Y1 L1 hb2;obtain ⟨x0,x1,x2,x3⟩:=X2.two;obtain ⟨y0,y1,y2,y3⟩:=Y2.two;go_wp2_with fail
  refine (qgk A B c d xs ys _ (hx.below L2 (Nat.le_refl _)) (hy.below L2 (Nat.le_refl _)) hs ht hn hm (by omega) (by omega)).mono ?_;rintro e w3 ⟨rfl,n,rfl⟩;rw[HV.out];go_wp2_with fail
  go_ret
  exact ⟨rfl,Below.drewN L2 n⟩
 case true.true=>
  have HV:=Lib.hid (cmp_neg (xs:=xs) (ys:=ys));go_enter Tryz.func40,Tryz.ntmps40
  go_wp2_with fail
  refine (yr true c _ A xs (by omega) ((hx.alloc _).alloc _)).mono ?_;rintro e w1 ⟨rfl,hb1⟩;have X1:=(Blk.first w 24 #[.bool true,.slice A xs.length c] (.cells #[.bool true,.slice B ys.length d] 24)).below hb1 (by simp;omega);have Y1:=(Blk.new (w.alloc (.cells #[.bool true,.slice A xs.length c] 24)) 24 #[.bool true,.slice B ys.length d]).below hb1 (by simp);have L1:Below w.heap.size w w1:=(((Below.refl _ _).alloc (Nat.le_refl _) _).alloc (by simp) _).trans (hb1.mono (by simp;omega));simp only[World.size_alloc] at X1 Y1
  clear hb1;obtain ⟨y0,y1,y2,y3⟩:=Y1.two;go_wp2_with fail
  refine (yr true d _ B ys (by omega) (hy.below L1 (Nat.le_refl _))).mono ?_;rintro e w2 ⟨rfl,hb2⟩;have X2:=X1.below hb2 X1.lt;have Y2:=Y1.below hb2 Y1.lt;have L2:=L1.trans (hb2.mono L1.size);clear y0 y1 y2 y3 X1 Y1 L1 hb2;obtain ⟨x0,x1,x2,x3⟩:=X2.two;obtain ⟨y0,y1,y2,y3⟩:=Y2.two;go_wp2_with fail
  refine (qgk B A d c ys xs _ (hy.below L2 (Nat.le_refl _)) (hx.below L2 (Nat.le_refl _)) ht hs hm hn (by omega) (by omega)).mono ?_;rintro e w3 ⟨rfl,n,rfl⟩;rw[HV.out];go_wp2_with fail
  go_ret
  exact ⟨rfl,Below.drewN L2 n⟩
 case true.false=>
  have HV:=Lib.hid (cmp_lt (xs:=xs) (ys:=ys) hg);go_enter Tryz.func40,Tryz.ntmps40
  go_wp2_with fail
  refine (yr true c _ A xs (by omega) ((hx.alloc _).alloc _)).mono ?_;rintro e w1 ⟨rfl,hb1⟩;have X1:=(Blk.first w 24 #[.bool true,.slice A xs.length c] (.cells #[.bool false,.slice B ys.length d] 24)).below hb1 (by simp;omega);have Y1:=(Blk.new (w.alloc (.cells #[.bool true,.slice A xs.length c] 24)) 24 #[.bool false,.slice B ys.length d]).below hb1 (by simp);have L1:Below w.heap.size w w1:=(((Below.refl _ _).alloc (Nat.le_refl _) _).alloc (by simp) _).trans (hb1.mono (by simp;omega));simp only[World.size_alloc] at X1 Y1
  clear hb1;obtain ⟨y0,y1,y2,y3⟩:=Y1.two;go_wp2_with fail
  refine (yr false d _ B ys (by omega) (hy.below L1 (Nat.le_refl _))).mono ?_;rintro e w2 ⟨rfl,hb2⟩;have X2:=X1.below hb2 X1.lt;have Y2:=Y1.below hb2 Y1.lt;have L2:=L1.trans (hb2.mono L1.size);clear y0 y1 y2 y3 X1 Y1 L1 hb2;obtain ⟨x0,x1,x2,x3⟩:=X2.two;obtain ⟨y0,y1,y2,y3⟩:=Y2.two;go_wp2_with fail
  go_ret
  exact ⟨xe HV.out.symm,L2⟩
 case false.true=>
  have HV:=Lib.hid (cmp_gt (xs:=xs) (ys:=ys) hk);go_enter Tryz.func40,Tryz.ntmps40
  go_wp2_with fail
  refine (yr false c _ A xs (by omega) ((hx.alloc _).alloc _)).mono ?_;rintro e w1 ⟨rfl,hb1⟩;have X1:=(Blk.first w 24 #[.bool false,.slice A xs.length c] (.cells #[.bool true,.slice B ys.length d] 24)).below hb1 (by simp;omega);have Y1:=(Blk.new (w.alloc (.cells #[.bool false,.slice A xs.length c] 24)) 24 #[.bool true,.slice B ys.length d]).below hb1 (by simp);have L1:Below w.heap.size w w1:=(((Below.refl _ _).alloc (Nat.le_refl _) _).alloc (by simp) _).trans (hb1.mono (by simp;omega));simp only[World.size_alloc] at X1 Y1
  clear hb1;obtain ⟨y0,y1,y2,y3⟩:=Y1.two;go_wp2_with fail
  refine (yr true d _ B ys (by omega) (hy.below L1 (Nat.le_refl _))).mono ?_;rintro e w2 ⟨rfl,hb2⟩;have X2:=X1.below hb2 X1.lt;have Y2:=Y1.below hb2 Y1.lt;have L2:=L1.trans (hb2.mono L1.size);clear y0 y1 y2 y3 X1 Y1 L1 hb2;obtain ⟨x0,x1,x2,x3⟩:=X2.two;obtain ⟨y0,y1,y2,y3⟩:=Y2.two;go_wp2_with fail
  go_ret
  exact ⟨xe HV.out.symm,L2⟩
theorem cmp_any (n1 n2:Bool) (hx:Nums w A xs) (hy:Nums w B ys) (hl:xs.length≤9223372036854775807) (hl':ys.length≤9223372036854775807) :
 Calls Tryz.prog 40 #[.agg #[.bool n1,.slice A xs.length c],.agg #[.bool n2,.slice B ys.length d]] w fun e w'=>e= .returned (.int .i64 (cmpO (zr n1 xs&&zr n2 ys) (num n1 xs) (num n2 ys)))∧Below w.heap.size w w':=by
 unfold cmpO;cases hg:zr n1 xs
 · exact cmp_bad_x A B c d xs ys w n1 n2 hx hl hg
 cases hk:zr n2 ys
 · exact cmp_bad_y A B c d xs ys w n1 n2 hx hy hl' hg hk
 exact cmp_good A B c d xs ys w n1 n2 hx hy hg hk
end
theorem Per.nums8N {X:Nat→Prop} {w:World} {A:Option Addr} {xs:List Nat} (h:Nums8 w A xs) (hx:∀q,A=some q→ ¬X q.block):Per X w (fun b=>Nums8 b A xs):=fun b hb=>
 ⟨h.1,fun h0=>by
  obtain ⟨g,o,rfl,hg,hc⟩:=h.2 h0;exact ⟨g,o,rfl,Nat.lt_of_lt_of_le hg hb.size,fun k hk=>(hb.cell (p:=⟨g,o+k,none⟩) hg (hx ⟨g,o,none⟩ rfl)).trans (hc k hk)⟩⟩
theorem Per.nums80 {w:World} {A:Option Addr} {xs:List Nat} (h:Nums8 w A xs):Per No w (fun b=>Nums8 b A xs):=Per.nums8N h (fun _ _=>id)
theorem Per.own8X {X:Nat→Prop} {w:World} {base c:Nat} {A:Option Addr} {xs:List Nat} (h:Own8 w base A c xs) (hx:∀k,X k→k<base):Per X w (fun b=>Nums8 b A xs):=Per.nums8N h.nums (fun q hq e=>by have:=hx _ e;have:=(h.ge q hq).1;omega)
theorem zix {j:Int} (h0:j≠0):0<(tens j).length:=by rw[jl];exact zfv (by decide) (by omega)
theorem rofI {i:Int} (A:Option Addr) (c:Nat) (w:World) (hi:i.natAbs<B18^30) (hx:Nums w A (limbs i)):Calls Tryz.prog 85 #[.agg #[.bool (decide (i<0)),.slice A (limbs i).length c]] w (ypq w i):=by
 have h:=rof_any (decide (i<0)) A c (limbs i) w hx (vb hi);rwa [ji] at h
theorem rgoodI {i:Int} (A:Option Addr) (c:Nat) (w:World) (hi:i.natAbs<B18^30) (hx:Nums w A (limbs i)):Calls Tryz.prog 42 #[.agg #[.bool (decide (i<0)),.slice A (limbs i).length c]] w fun e w'=>e= .returned (.bool true)∧Below w.heap.size w w':=by
 have h:=qsq (decide (i<0)) c w A (limbs i) (by have:=ve hi;omega) hx;rwa [vb hi] at h
theorem nth_nat (xs:List Nat) (k:Nat):nth xs k=((xs.getD k 0:Nat):Int):=by unfold nth;rfl
end Go.Proofs.YtmnmebdmpigddaaGreatDoor
namespace Go.Proofs.YtmnmebdmpigddaaGreatDoor
open Go.RowKit
theorem dqz161 {P:Prop} (h:P:=by
 rcases Nat.lt_or_ge i.natAbs (10^k) with h | h
 · exact h
 · have:=Nat.div_pos h hp;omega):P:=h
theorem add_step (m n k:Nat) :
 ((m%10^k+n%10^k)/10^k+m/10^k%10+n/10^k%10)%10=(m+n)/10^k%10∧
 ((m%10^k+n%10^k)/10^k+m/10^k%10+n/10^k%10)/10=(m%10^(k+1)+n%10^(k+1))/10^(k+1):=by
 have hp:0<10^k:=Nat.pow_pos (by decide);have e:(m+n)/10^k=m/10^k+n/10^k+(m%10^k+n%10^k)/10^k:=by
  have h1:=Nat.div_add_mod m (10^k);have h2:=Nat.div_add_mod n (10^k);have h3:m+n=(m%10^k+n%10^k)+10^k*(m/10^k+n/10^k):=by rw[Nat.mul_add];omega
  rw[h3,Nat.add_mul_div_left _ _ hp];omega
 have e2:(m%10^(k+1)+n%10^(k+1))=(m%10^k+n%10^k)+10^k*(m/10^k%10+n/10^k%10):=by
  rw[Nat.pow_succ,Nat.mod_mul,Nat.mod_mul,Nat.mul_add];omega
 constructor
 · rw[e];omega
 · rw[e2,Nat.pow_succ,←Nat.div_div_eq_div_mul,Nat.add_mul_div_left _ _ hp];congr 1
   omega
def bor (m n k:Nat):Nat:=if m%10^k<n%10^k then 1 else 0
theorem bor_le (m n k:Nat):bor m n k≤1:=by unfold bor;split<;>omega
theorem sub_div (P m n:Nat) (hp:0<P) (h:n≤m):(m-n)/P+n/P+(if m%P<n%P then 1 else 0)=m/P:=by
 have h1:=Nat.div_add_mod m P;have h2:=Nat.div_add_mod n P;have h3:=Nat.mod_lt m hp;have h4:=Nat.mod_lt n hp;generalize m/P=M at *
 generalize n/P=N at *
 generalize m%P=m0 at *
 generalize n%P=n0 at *
 by_cases hb:m0<n0
 · rw[if_pos hb];have hN:N<M:=by
    rcases Nat.lt_or_ge N M with h5 | h5
    · exact h5
    · have:=Nat.mul_le_mul_left P h5;omega
   obtain ⟨D,rfl⟩:∃D,M=N+1+D:=⟨M-(N+1),by omega⟩;have e:m-n=(P+m0-n0)+P*D:=by
    have:P*(N+1+D)=P*N+P+P*D:=by rw[Nat.mul_add,Nat.mul_add,Nat.mul_one]
    omega
   rw[e,Nat.add_mul_div_left _ _ hp,Nat.div_eq_of_lt (by omega)];omega
 · rw[if_neg hb];have hN:N≤M:=by
    rcases Nat.lt_or_ge M N with h5 | h5
    · have:=Nat.mul_le_mul_left P h5;rw[Nat.mul_succ] at this;omega
    · exact h5
   obtain ⟨D,rfl⟩:∃D,M=N+D:=⟨M-N,by omega⟩;have e:m-n=(m0-n0)+P*D:=by
    have:P*(N+D)=P*N+P*D:=by rw[Nat.mul_add]
    omega
   rw[e,Nat.add_mul_div_left _ _ hp,Nat.div_eq_of_lt (by omega)];omega
theorem sub_step (m n k:Nat) (h:n≤m) :
 (m/10^k%10+10-bor m n k-n/10^k%10)%10=(m-n)/10^k%10∧1-(m/10^k%10+10-bor m n k-n/10^k%10)/10=bor m n (k+1)∧
 n/10^k%10+bor m n k≤m/10^k%10+10:=by
 have hp:0<10^k:=Nat.pow_pos (by decide);have e1:=sub_div (10^k) m n hp h;have hb:=bor_le m n k;refine ⟨?_,?_,by omega⟩
 · unfold bor at hb ⊢;generalize (if m%10^k<n%10^k then 1 else 0)=c at *
   omega
 · have hm:m%10^(k+1)=m%10^k+10^k*(m/10^k%10):=by rw[Nat.pow_succ,Nat.mod_mul]
   have hn:n%10^(k+1)=n%10^k+10^k*(n/10^k%10):=by rw[Nat.pow_succ,Nat.mod_mul]
   have h3:=Nat.mod_lt m hp;have h4:=Nat.mod_lt n hp;have ha:m/10^k%10<10:=Nat.mod_lt _ (by decide);have hb':n/10^k%10<10:=Nat.mod_lt _ (by decide);unfold bor;rw[hm,hn];generalize m/10^k%10=a at *
   generalize n/10^k%10=b at *
   generalize m%10^k=m0 at *
   generalize n%10^k=n0 at *
   generalize 10^k=P at *
   rcases Nat.lt_trichotomy a b with hab | hab | hab
   · have:P*(a+1)≤P*b:=Nat.mul_le_mul_left P hab;rw[Nat.mul_add,Nat.mul_one] at this;rw[if_pos (by omega:m0+P*a<n0+P*b)];split<;>omega
   · subst hab;by_cases hc:m0<n0
     · rw[if_pos hc,if_pos (by omega)];omega
     · rw[if_neg hc,if_neg (by omega)];omega
   · have:P*(b+1)≤P*a:=Nat.mul_le_mul_left P hab;rw[Nat.mul_add,Nat.mul_one] at this;rw[if_neg (by omega:¬m0+P*a<n0+P*b)];split<;>omega
theorem ynx {i:Int} {k:Nat} (h:(tens i).length≤k):i.natAbs/10^k=0:=by
 rw[jl] at h;exact Nat.div_eq_of_lt ((qg (by decide) _ _).1 h)
def RetTens (W:World) (i:Int) (e:Ending) (w':World):Prop:=∃A c,e= .returned (.slice A (tens i).length c)∧Own8 w' W.heap.size A c (tens i)∧Below W.heap.size W w'
theorem qtq (i j:Int) (k:Nat) {cv s:Int} (hc:cv=(((i.natAbs%10^k+j.natAbs%10^k)/10^k:Nat):Int)) (hs:s=cv+nth (tens i) k+nth (tens j) k) :
 pad k (i.natAbs+j.natAbs)++ [(s%10).toNat]=pad (k+1) (i.natAbs+j.natAbs)∧s/10=(((i.natAbs%10^(k+1)+j.natAbs%10^(k+1))/10^(k+1):Nat):Int):=by
 obtain ⟨h1,h2⟩:=add_step i.natAbs j.natAbs k;rw[zpk,zpk] at hs;rw[ymx,←h1,←h2];subst hc;subst hs;refine ⟨?_,by omega⟩;congr 2
theorem carry_le (m n k:Nat):(m%10^k+n%10^k)/10^k≤1:=by
 have hp:0<10^k:=Nat.pow_pos (by decide);have h3:=Nat.mod_lt m hp;have h4:=Nat.mod_lt n hp;rw[Nat.div_le_iff_le_mul_add_pred hp];omega
theorem plus_end (i j:Int) (k:Nat) {cv:Int} (hc:cv=(((i.natAbs%10^k+j.natAbs%10^k)/10^k:Nat):Int)) (h1:(tens i).length≤k) (h2:(tens j).length≤k) :
 pad k (i.natAbs+j.natAbs)++ [cv.toNat]=pad (k+1) (i.natAbs+j.natAbs)∧val 10 (pad (k+1) (i.natAbs+j.natAbs))=i.natAbs+j.natAbs:=by
 have a1:=ynx h1;have a2:=ynx h2;obtain ⟨h3,_⟩:=add_step i.natAbs j.natAbs k;rw[a1,a2] at h3;have hcl:=carry_le i.natAbs j.natAbs k;constructor
 · rw[ymx,←h3];generalize (i.natAbs%10^k+j.natAbs%10^k)/10^k=q at *
   subst hc;congr 2
   omega
 · rw[vez];have hp:0<10^k:=Nat.pow_pos (by decide);have b1:i.natAbs<10^k:=by
    exact dqz161
   have b2:j.natAbs<10^k:=by
    rcases Nat.lt_or_ge j.natAbs (10^k) with h | h
    · exact h
    · have:=Nat.div_pos h hp;omega
   exact Nat.mod_eq_of_lt (by rw[Nat.pow_succ];omega)
theorem minus_step (i j:Int) (k:Nat) (h:j.natAbs≤i.natAbs) {cv s:Int} (hc:cv=((bor i.natAbs j.natAbs k:Nat):Int)) (hs:s=nth (tens i) k+10-cv-nth (tens j) k) :
 pad k (i.natAbs-j.natAbs)++ [(s%10).toNat]=pad (k+1) (i.natAbs-j.natAbs)∧1-s/10=((bor i.natAbs j.natAbs (k+1):Nat):Int)∧0≤s:=by
 obtain ⟨h1,h2,h3⟩:=sub_step i.natAbs j.natAbs k h;have hb:=bor_le i.natAbs j.natAbs k;rw[zpk,zpk] at hs;rw[ymx,←h1,←h2];have e:s=((i.natAbs/10^k%10+10-bor i.natAbs j.natAbs k-j.natAbs/10^k%10:Nat):Int):=by
  subst hc;subst hs;omega
 have hlt:i.natAbs/10^k%10+10-bor i.natAbs j.natAbs k-j.natAbs/10^k%10<20:=by
  have:=Nat.mod_lt (i.natAbs/10^k) (by decide:0<10);omega
 generalize i.natAbs/10^k%10+10-bor i.natAbs j.natAbs k-j.natAbs/10^k%10=q at *
 subst e;refine ⟨?_,by omega,by omega⟩;congr 2
theorem minus_end (i j:Int) (k:Nat) (h1:(tens i).length≤k):val 10 (pad k (i.natAbs-j.natAbs))=i.natAbs-j.natAbs:=by
 rw[vez];have a1:=ynx h1;have hp:0<10^k:=Nat.pow_pos (by decide);have b1:i.natAbs<10^k:=by
  exact dqz161
 exact Nat.mod_eq_of_lt (by omega)
set_option maxHeartbeats 1000000 in
theorem rplusrow_any (A B:Option Addr) (c d:Nat) (i j q:Int) (w:World) (hx:Nums8 w A (tens i)) (hy:Nums8 w B (tens j)) (hl:(tens i).length≤1000000) (hl':(tens j).length≤1000000) (hq:i.natAbs+j.natAbs=q.natAbs) :
 Calls Tryz.prog 132 #[.slice A (tens i).length c,.slice B (tens j).length d] w (RetTens w q):=by
 have HQ:=Lib.hid hq;have HSX:=Lib.hid (xm i);have HSY:=Lib.hid (xm j);clear hq;go_enter Tryz.func132,Tryz.ntmps132
 go_wp2_with fail
 go_loopw [5,6,7,8] (fun dv cv iv _ wr=>∃(k:Nat) (A':Option Addr) (c':Nat) (zs:List Nat) (u:Int),k≤1000000∧iv= .int .i64 k∧dv= .slice A' zs.length c'∧cv= .int .u8 u∧0≤u∧u≤1∧zs.length≤k∧Own8 wr w.heap.size A' c' zs∧
  Hid (u=(((i.natAbs%10^k+j.natAbs%10^k)/10^k:Nat):Int))∧Hid (zs=pad k (i.natAbs+j.natAbs))∧Below w.heap.size w wr) (fun _ _ iv _ _=>1000000-(intOf iv).toNat)
 case atStart=>exact ⟨0,none,0,[],0,by omega,rfl,rfl,rfl,by omega,by omega,by simp,Own8.nil _ _,by show _=_;simp[Nat.mod_one],rfl,Below.refl _ _⟩
 case round=>
  obtain ⟨k,A',c',zs,u,hk,rfl,rfl,rfl,hu0,hu1,hzl,hown,HU,HZ,hbel⟩:=hrel;have hxr:Nums8 wr A (tens i):=hx.below hbel (Nat.le_refl _);have hyr:Nums8 wr B (tens j):=hy.below hbel (Nat.le_refl _);have hsz:=hbel.size;have hnx:=yc (tens i) k;have hny:=yc (tens j) k;have hnx9:=qx (by omega) HSX.out k;have hny9:=qx (by omega) HSY.out k;by_cases hka:k<(tens i).length
  · obtain ⟨b,o,rfl,hb,hc⟩:=hxr.2 (by omega);have hcell:=hc k hka;have hm1:(k:Int)<((tens i).length:Int):=by omega
    clear hc;by_cases hkb:k<(tens j).length
    · obtain ⟨b',o',rfl,hb',hc'⟩:=hyr.2 (by omega);have hcell':=hc' k hkb;have hm2:(k:Int)<((tens j).length:Int):=by omega
      clear hc';have hstep:=qtq i j k (s:=(u+nth (tens i) k+nth (tens j) k)) HU.out rfl;have hw8:0≤(u+nth (tens i) k+nth (tens j) k):=by omega
      have hw9:(u+nth (tens i) k+nth (tens j) k)<20:=by omega
      have e1:(u+nth (tens i) k+nth (tens j) k)%10=((((u+nth (tens i) k+nth (tens j) k)%10).toNat:Nat):Int):=by omega
      have hC:=xv wr _ _ e1;have HC:=Lib.hid hC;have H8:Hid (∀x∈ [((u+nth (tens i) k+nth (tens j) k)%10).toNat],x<256):=by intro x hx';simp only[List.mem_cons,List.not_mem_nil,or_false] at hx';omega
      have HN:Hid (zs.length+ [((u+nth (tens i) k+nth (tens j) k)%10).toNat].length≤17592186044416):=by show zs.length+1≤_;omega
      have HST:=Lib.hid hstep;clear e1 hC hstep;go_wp2_with (at_builtin;go_loud (refine kw rfl (.tmp 42) (.tmp 45) rfl w.heap.size A' c' zs rfl (hown.alloc _) [((u+nth (tens i) k+nth (tens j) k)%10).toNat] ⟨wr.heap.size,0,none⟩ 1 1 rfl rfl (by exact HC.out) H8.out HN.out (by simp;omega) (fun A3 c3 w3 hown3 hg3=>?_)))
      go_roundw
      case rel=>exact ⟨k+1,A3,c3,zs++ [((u+nth (tens i) k+nth (tens j) k)%10).toNat],_,by omega,by go_num,by simp,rfl,by omega,by omega,by simp;omega,hown3,HST.out.2,by show _=_;rw[HZ.out];exact HST.out.1,Below.own8 (hbel.alloc (by omega) _) (hown.alloc _) (by simp;omega) hg3⟩
      case measure=>simp[intOf];omega
    · have hm2:¬(k:Int)<((tens j).length:Int):=by omega
      have h0:=gn (tens j) k (by omega);have HS0:Hid (u+nth (tens i) k=u+nth (tens i) k+nth (tens j) k):=by show _=_;rw[h0];omega
      clear h0;have hstep:=qtq i j k (s:=(u+nth (tens i) k)) HU.out HS0.out;have hw8:0≤(u+nth (tens i) k):=by omega
      have hw9:(u+nth (tens i) k)<20:=by omega
      have e1:(u+nth (tens i) k)%10=((((u+nth (tens i) k)%10).toNat:Nat):Int):=by omega
      have hC:=xv wr _ _ e1;have HC:=Lib.hid hC;have H8:Hid (∀x∈ [((u+nth (tens i) k)%10).toNat],x<256):=by intro x hx';simp only[List.mem_cons,List.not_mem_nil,or_false] at hx';omega
      have HN:Hid (zs.length+ [((u+nth (tens i) k)%10).toNat].length≤17592186044416):=by show zs.length+1≤_;omega
      have HST:=Lib.hid hstep;clear e1 hC hstep;go_wp2_with (at_builtin;go_loud (refine kw rfl (.tmp 42) (.tmp 45) rfl w.heap.size A' c' zs rfl (hown.alloc _) [((u+nth (tens i) k)%10).toNat] ⟨wr.heap.size,0,none⟩ 1 1 rfl rfl (by exact HC.out) H8.out HN.out (by simp;omega) (fun A3 c3 w3 hown3 hg3=>?_)))
      go_roundw
      case rel=>exact ⟨k+1,A3,c3,zs++ [((u+nth (tens i) k)%10).toNat],_,by omega,by go_num,by simp,rfl,by omega,by omega,by simp;omega,hown3,HST.out.2,by show _=_;rw[HZ.out];exact HST.out.1,Below.own8 (hbel.alloc (by omega) _) (hown.alloc _) (by simp;omega) hg3⟩
      case measure=>simp[intOf];omega
  · have hm1:¬(k:Int)<((tens i).length:Int):=by omega
    have h0:=gn (tens i) k (by omega);by_cases hkb:k<(tens j).length
    · obtain ⟨b',o',rfl,hb',hc'⟩:=hyr.2 (by omega);have hcell':=hc' k hkb;have hm2:(k:Int)<((tens j).length:Int):=by omega
      have HS0:Hid (u+nth (tens j) k=u+nth (tens i) k+nth (tens j) k):=by show _=_;rw[h0];omega
      clear hc' h0;have hstep:=qtq i j k (s:=(u+nth (tens j) k)) HU.out HS0.out;have hw8:0≤(u+nth (tens j) k):=by omega
      have hw9:(u+nth (tens j) k)<20:=by omega
      have e1:(u+nth (tens j) k)%10=((((u+nth (tens j) k)%10).toNat:Nat):Int):=by omega
      have hC:=xv wr _ _ e1;have HC:=Lib.hid hC;have H8:Hid (∀x∈ [((u+nth (tens j) k)%10).toNat],x<256):=by intro x hx';simp only[List.mem_cons,List.not_mem_nil,or_false] at hx';omega
      have HN:Hid (zs.length+ [((u+nth (tens j) k)%10).toNat].length≤17592186044416):=by show zs.length+1≤_;omega
      have HST:=Lib.hid hstep;clear e1 hC hstep;go_wp2_with (at_builtin;go_loud (refine kw rfl (.tmp 42) (.tmp 45) rfl w.heap.size A' c' zs rfl (hown.alloc _) [((u+nth (tens j) k)%10).toNat] ⟨wr.heap.size,0,none⟩ 1 1 rfl rfl (by exact HC.out) H8.out HN.out (by simp;omega) (fun A3 c3 w3 hown3 hg3=>?_)))
      go_roundw
      case rel=>exact ⟨k+1,A3,c3,zs++ [((u+nth (tens j) k)%10).toNat],_,by omega,by go_num,by simp,rfl,by omega,by omega,by simp;omega,hown3,HST.out.2,by show _=_;rw[HZ.out];exact HST.out.1,Below.own8 (hbel.alloc (by omega) _) (hown.alloc _) (by simp;omega) hg3⟩
      case measure=>simp[intOf];omega
    · have hm2:¬(k:Int)<((tens j).length:Int):=by omega
      have hend:=plus_end i j k HU.out (by omega) (by omega);have e1:u=(u.toNat:Int):=by omega
      have hC:=xv wr _ _ e1;have HC:=Lib.hid hC;have H8:Hid (∀x∈ [u.toNat],x<256):=by intro x hx';simp only[List.mem_cons,List.not_mem_nil,or_false] at hx';omega
      have HN:Hid (zs.length+ [u.toNat].length≤17592186044416):=by show zs.length+1≤_;omega
      have HE:=Lib.hid hend;clear e1 hC hend h0;go_wp2_with (at_builtin;go_loud (refine kw rfl (.tmp 49) (.tmp 51) rfl w.heap.size A' c' zs rfl (hown.alloc _) [u.toNat] ⟨wr.heap.size,0,none⟩ 1 1 rfl rfl (by exact HC.out) H8.out HN.out (by simp;omega) (fun A3 c3 w3 hown3 hg3=>?_));refine Hid.out ?_)
      refine Lib.hid ?_;have hb3:=Below.own8 (hbel.alloc (by omega) _) (hown.alloc _) (by simp;omega) hg3;obtain ⟨ds,hds⟩:∃ds,ds=zs++ [u.toNat]:=⟨_,rfl⟩;rw[←hds] at hown3;have hll:zs.length+1=ds.length:=by rw[hds];simp
      rw[hll];have hvz:val 10 ds=q.natAbs:=by rw[hds,HZ.out,HE.out.1,HE.out.2,HQ.out]
      have hsm:small 10 ds:=by rw[hds,HZ.out,HE.out.1];exact yrv _ _
      have hlen3:ds.length≤1048576:=by rw[hds];simp;omega
      have HV:=Lib.hid hvz;have HSM:=Lib.hid hsm;have HL3:=Lib.hid hlen3;clear hvz hsm hlen3 hds HE HC H8 HN hll;go_wp2_with (go_at_call 106;refine (qsv w.heap.size A3 c3 ds q _ hown3 HSM.out HV.out HL3.out).mono ?_;rintro e w4 ⟨rfl,hown4,rfl⟩)
      go_ret
      exact ⟨A3,c3,rfl,hown4,hb3⟩
set_option maxHeartbeats 1000000 in
theorem yxx (A B:Option Addr) (c d:Nat) (i j q:Int) (w:World) (hx:Nums8 w A (tens i)) (hy:Nums8 w B (tens j)) (hl:(tens i).length≤1048576) (hl':(tens j).length≤1048576) (hle:j.natAbs≤i.natAbs) (hq:i.natAbs-j.natAbs=q.natAbs) :
 Calls Tryz.prog 134 #[.slice A (tens i).length c,.slice B (tens j).length d] w (RetTens w q):=by
 have HQ:=Lib.hid hq;have HLE:=Lib.hid hle;have HSX:=Lib.hid (xm i);have HSY:=Lib.hid (xm j);clear hq hle;go_enter Tryz.func134,Tryz.ntmps134
 go_wp2_with fail
 go_loopw [5,6,7,8] (fun dv cv iv _ wr=>∃(k:Nat) (A':Option Addr) (c':Nat) (zs:List Nat) (u:Int),k≤(tens i).length∧iv= .int .i64 k∧dv= .slice A' zs.length c'∧cv= .int .u8 u∧0≤u∧u≤1∧zs.length≤k∧Own8 wr w.heap.size A' c' zs∧
  Hid (u=((bor i.natAbs j.natAbs k:Nat):Int))∧Hid (zs=pad k (i.natAbs-j.natAbs))∧Below w.heap.size w wr) (fun _ _ iv _ _=>1048576-(intOf iv).toNat)
 case atStart=>exact ⟨0,none,0,[],0,by omega,rfl,rfl,rfl,by omega,by omega,by simp,Own8.nil _ _,by show _=_;simp[bor,Nat.mod_one],rfl,Below.refl _ _⟩
 case round=>
  obtain ⟨k,A',c',zs,u,hk,rfl,rfl,rfl,hu0,hu1,hzl,hown,HU,HZ,hbel⟩:=hrel;have hxr:Nums8 wr A (tens i):=hx.below hbel (Nat.le_refl _);have hyr:Nums8 wr B (tens j):=hy.below hbel (Nat.le_refl _);have hsz:=hbel.size;have hnx:=yc (tens i) k;have hny:=yc (tens j) k;have hnx9:=qx (by omega) HSX.out k;have hny9:=qx (by omega) HSY.out k;by_cases hka:k<(tens i).length
  · obtain ⟨b,o,rfl,hb,hc⟩:=hxr.2 (by omega);have hcell:=hc k hka;have hm1:(k:Int)<((tens i).length:Int):=by omega
    clear hc;by_cases hkb:k<(tens j).length
    · obtain ⟨b',o',rfl,hb',hc'⟩:=hyr.2 (by omega);have hcell':=hc' k hkb;have hm2:(k:Int)<((tens j).length:Int):=by omega
      clear hc';have hstep:=minus_step i j k HLE.out (s:=(nth (tens i) k+10-u-nth (tens j) k)) HU.out rfl;have hw8:0≤(nth (tens i) k+10-u-nth (tens j) k):=hstep.2.2;have hw9:(nth (tens i) k+10-u-nth (tens j) k)<20:=by omega
      have e1:(nth (tens i) k+10-u-nth (tens j) k)%10=((((nth (tens i) k+10-u-nth (tens j) k)%10).toNat:Nat):Int):=by omega
      have hC:=xv wr _ _ e1;have HC:=Lib.hid hC;have H8:Hid (∀x∈ [((nth (tens i) k+10-u-nth (tens j) k)%10).toNat],x<256):=by intro x hx';simp only[List.mem_cons,List.not_mem_nil,or_false] at hx';omega
      have HN:Hid (zs.length+ [((nth (tens i) k+10-u-nth (tens j) k)%10).toNat].length≤17592186044416):=by show zs.length+1≤_;omega
      have hq0:0≤1-(nth (tens i) k+10-u-nth (tens j) k)/10:=by omega
      have HST:=Lib.hid hstep;clear e1 hC hstep;go_wp2_with (at_builtin;go_loud (refine kw rfl (.tmp 32) (.tmp 35) rfl w.heap.size A' c' zs rfl (hown.alloc _) [((nth (tens i) k+10-u-nth (tens j) k)%10).toNat] ⟨wr.heap.size,0,none⟩ 1 1 rfl rfl (by exact HC.out) H8.out HN.out (by simp;omega) (fun A3 c3 w3 hown3 hg3=>?_)))
      go_roundw
      case rel=>exact ⟨k+1,A3,c3,zs++ [((nth (tens i) k+10-u-nth (tens j) k)%10).toNat],_,by omega,by go_num,by simp,rfl,by omega,by omega,by simp;omega,hown3,HST.out.2.1,by show _=_;rw[HZ.out];exact HST.out.1,Below.own8 (hbel.alloc (by omega) _) (hown.alloc _) (by simp;omega) hg3⟩
      case measure=>simp[intOf];omega
    · have hm2:¬(k:Int)<((tens j).length:Int):=by omega
      have h0:=gn (tens j) k (by omega);have HS0:Hid (nth (tens i) k+10-u=nth (tens i) k+10-u-nth (tens j) k):=by show _=_;rw[h0];omega
      clear h0;have hstep:=minus_step i j k HLE.out (s:=(nth (tens i) k+10-u)) HU.out HS0.out;have hw8:0≤(nth (tens i) k+10-u):=hstep.2.2;have hw9:(nth (tens i) k+10-u)<20:=by omega
      have e1:(nth (tens i) k+10-u)%10=((((nth (tens i) k+10-u)%10).toNat:Nat):Int):=by omega
      have hC:=xv wr _ _ e1;have HC:=Lib.hid hC;have H8:Hid (∀x∈ [((nth (tens i) k+10-u)%10).toNat],x<256):=by intro x hx';simp only[List.mem_cons,List.not_mem_nil,or_false] at hx';omega
      have HN:Hid (zs.length+ [((nth (tens i) k+10-u)%10).toNat].length≤17592186044416):=by show zs.length+1≤_;omega
      have hq0:0≤1-(nth (tens i) k+10-u)/10:=by omega
      have HST:=Lib.hid hstep;clear e1 hC hstep;go_wp2_with (at_builtin;go_loud (refine kw rfl (.tmp 32) (.tmp 35) rfl w.heap.size A' c' zs rfl (hown.alloc _) [((nth (tens i) k+10-u)%10).toNat] ⟨wr.heap.size,0,none⟩ 1 1 rfl rfl (by exact HC.out) H8.out HN.out (by simp;omega) (fun A3 c3 w3 hown3 hg3=>?_)))
      go_roundw
      case rel=>exact ⟨k+1,A3,c3,zs++ [((nth (tens i) k+10-u)%10).toNat],_,by omega,by go_num,by simp,rfl,by omega,by omega,by simp;omega,hown3,HST.out.2.1,by show _=_;rw[HZ.out];exact HST.out.1,Below.own8 (hbel.alloc (by omega) _) (hown.alloc _) (by simp;omega) hg3⟩
      case measure=>simp[intOf];omega
  · have hm1:¬(k:Int)<((tens i).length:Int):=by omega
    have hend:=minus_end i j k (by omega);have hvz:val 10 zs=q.natAbs:=by rw[HZ.out,hend,HQ.out]
    have hsm:small 10 zs:=by rw[HZ.out];exact yrv _ _
    have HV:=Lib.hid hvz;have HSM:=Lib.hid hsm;clear hvz hsm hend;go_wp2_with (go_at_call 106;refine (qsv w.heap.size A' c' zs q _ hown HSM.out HV.out (by omega)).mono ?_;rintro e w4 ⟨rfl,hown4,rfl⟩)
    go_ret
    exact ⟨A',c',rfl,hown4,hbel⟩
end Go.Proofs.YtmnmebdmpigddaaGreatDoor
namespace Go.Proofs.YtmnmebdmpigddaaGreatDoor
open Go.RowKit
theorem qoz {xs ys:List Nat} (hs:small 10 xs) (hm:xg ys) (h:xs.length<ys.length):oe (val 10 xs) (val 10 ys)= -1∧oe (val 10 ys) (val 10 xs)=1:=by
 have:=kh (by decide:2≤10) hs hm h;unfold oe;exact ⟨if_pos this,by rw[if_neg (by omega),if_pos this]⟩
theorem vcq {xs ys:List Nat} (hs:small 10 xs) (h:xs.length=ys.length) {k:Nat} (hk:k<xs.length) (hd:∀j,k+1≤j→nth xs j=nth ys j) (hlt:nth xs k<nth ys k) :
 oe (val 10 xs) (val 10 ys)= -1∧oe (val 10 ys) (val 10 xs)=1:=by
 have:=ygk hs h hk (fun j hj _=>(ycv _ _ _ _).1 (hd j hj)) ((nth_lt_iff _ _ _ _).1 hlt);unfold oe;exact ⟨if_pos this,by rw[if_neg (by omega),if_pos this]⟩
theorem cmp_same10 {xs ys:List Nat} (h:xs.length=ys.length) (hd:∀j,0≤j→nth xs j=nth ys j):oe (val 10 xs) (val 10 ys)=0:=by
 exact dqz84
set_option maxRecDepth 100000 in
set_option maxHeartbeats 400000 in
theorem rsizes_any (A B:Option Addr) (c d:Nat) (xs ys:List Nat) (w:World) (hx:Nums8 w A xs) (hy:Nums8 w B ys) (hs:small 10 xs) (ht:small 10 ys) (hn:xg xs) (hm:xg ys)
 (hl:xs.length≤1048576) (hl':ys.length≤1048576) :
 Calls Tryz.prog 133 #[.slice A xs.length c,.slice B ys.length d] w fun e w'=>e= .returned (.int .i64 (oe (val 10 xs) (val 10 ys)))∧ ∃n,w'=w.drewN n:=by
 by_cases hlen:xs.length=ys.length
 · have hne:¬(xs.length:Int)<(ys.length:Int):=by omega
   have hne2:¬(ys.length:Int)<(xs.length:Int):=by omega
   have HL:=Lib.hid hlen;clear hlen;go_enter Tryz.func133,Tryz.ntmps133
   go_wp2
   go_loopw [5] (fun v wr=>∃k:Nat,k≤xs.length∧v= .int .i64 ((k:Int)-1)∧(∀j,k≤j→nth xs j=nth ys j)∧ ∃n,wr=w.drewN n) (fun v _=>(intOf v+1).toNat)
   case atStart=>exact ⟨xs.length,Nat.le_refl _,rfl,fun j hj=>by rw[gn xs j hj,gn ys j (by rw[←HL.out];exact hj)],0,rfl⟩
   case round=>
    obtain ⟨k,hk,rfl,hz,n,rfl⟩:=hrel;have HZ:=Lib.hid hz;clear hz;by_cases hk0:k=0
    · subst hk0;go_wp2
      go_ret
      exact ⟨xe (cmp_same10 HL.out HZ.out).symm,n,rfl⟩
    · obtain ⟨m,rfl⟩:∃m,k=m+1:=⟨k-1,by omega⟩;obtain ⟨b,o,rfl,hb,hc⟩:=hx.2 (by omega);obtain ⟨b',o',rfl,hb',hc'⟩:=hy.2 (by rw[←HL.out];omega);have hcell:=hc m (by omega);have hcell':=hc' m (by rw[←HL.out];omega);have hm1:(m:Int)<(xs.length:Int):=by omega
      have hm2:(m:Int)<(ys.length:Int):=by have:=HL.out;omega
      have hm0:(0:Int)≤(m:Int):=by omega
      clear hc hc';rcases Int.lt_trichotomy (nth xs m) (nth ys m) with h | h | h
      · have hdl:decide (nth xs m<nth ys m)=true:=by simpa using h
        have H:=Lib.hid h;clear h;go_wp2
        go_quiet (fail)
        go_wp2
        go_ret
        exact ⟨xe (vcq hs HL.out (by omega) HZ.out H.out).1.symm,_,by simp only[World.drewN_drewN];rfl⟩
      · have hd1:decide (nth xs m<nth ys m)=false:=by simp[h]
        have hd2:decide (nth ys m<nth xs m)=false:=by simp[h]
        have H:=Lib.hid h;clear h;go_wp2
        go_quiet (fail)
        go_wp2
        go_quiet (fail)
        go_wp2
        go_roundw
        case rel=>exact ⟨m,by omega,rfl,fun j hj=>by
         by_cases e:j=m
         · rw[e];exact H.out
         · exact HZ.out j (by omega),_,by first | rfl | (simp only[World.drewN_drewN];rfl)⟩
        case measure=>simp[intOf]
      · have hd1:decide (nth xs m<nth ys m)=false:=by simp;omega
        have hd2:decide (nth ys m<nth xs m)=true:=by simpa using h
        have H:=Lib.hid h;clear h;go_wp2
        go_quiet (fail)
        go_wp2
        go_quiet (fail)
        go_wp2
        go_ret
        exact ⟨xe (vcq ht HL.out.symm (by have:=HL.out;omega) (fun j hj=>(HZ.out j hj).symm) H.out).2.symm,_,by simp only[World.drewN_drewN];rfl⟩
 · rcases Nat.lt_or_ge xs.length ys.length with h | h
   · have hlt:(xs.length:Int)<(ys.length:Int):=by omega
     go_enter Tryz.func133,Tryz.ntmps133
     go_wp2
     go_ret
     exact ⟨xe (qoz hs hm h).1.symm,0,rfl⟩
   · have hlt:¬(xs.length:Int)<(ys.length:Int):=by omega
     have hlt2:(ys.length:Int)<(xs.length:Int):=by omega
     go_enter Tryz.func133,Tryz.ntmps133
     go_wp2
     go_ret
     exact ⟨xe (qoz ht hn (by omega)).2.symm,0,rfl⟩
theorem rsizes_tens (A B:Option Addr) (c d:Nat) (i j:Int) (w:World) (hx:Nums8 w A (tens i)) (hy:Nums8 w B (tens j)) (hl:(tens i).length≤1048576) (hl':(tens j).length≤1048576) :
 Calls Tryz.prog 133 #[.slice A (tens i).length c,.slice B (tens j).length d] w fun e w'=>e= .returned (.int .i64 (oe i.natAbs j.natAbs))∧ ∃n,w'=w.drewN n:=by
 have h:=rsizes_any A B c d (tens i) (tens j) w hx hy (xm i) (xm j) (by rw[jl];exact xt (by decide) _) (by rw[jl];exact xt (by decide) _) hl hl';rwa [val_tens,val_tens] at h
def NumsI (w:World) (A:Option Addr) (xs:List Nat):Prop:=
 (∀k,nth xs k<9223372036854775808)∧(0<xs.length→ ∃b o,A=some ⟨b,o,none⟩∧b<w.heap.size∧ ∀k,k<xs.length→w.cell? ⟨b,o+k,none⟩=some (.int .i64 (nth xs k)))
def qrk (ys:List Nat) (j:Nat):Value:=.int .i64 (nth ys j)
def RowI (w:World) (g n:Nat) (ys:List Nat):Prop:=w.rowIs g 3 n (qrk ys)∧ys.length≤n
section
variable {w w':World} {g n:Nat} {ys:List Nat}
theorem RowI.cell (h:RowI w g n ys) {j:Nat} (hj:j<n):w.cell? ⟨g,j,none⟩=some (.int .i64 (nth ys j)):=h.1.cell hj
theorem RowI.frozen (h:RowI w g n ys) (j:Nat):w.frozen? ⟨g,j,none⟩=false:=h.1.frozen j
theorem RowI.lt (h:RowI w g n ys):g<w.heap.size:=h.1.lt
theorem RowI.made (w:World) (n:Nat):RowI (w.alloc (.cells (madeCells #[.int .i64 0] n) 3)) w.heap.size n []:=
 ⟨(World.rowIs_made w _ n _).congr fun i _=>by unfold qrk;rw[ysz],Nat.zero_le _⟩
theorem RowI.snoc (h:RowI w g n ys) (v:Nat) (hn:ys.length<n):RowI (w.setCell ⟨g,ys.length,none⟩ (.int .i64 (v:Int))) g n (ys++ [v]):=
 ⟨(h.1.set ys.length _).congr fun i _=>by unfold qrk;rw[nth_snoc];split<;>rfl,by simp;omega⟩
theorem RowI.snocInt (h:RowI w g n ys) (v:Int) (h0:0≤v) {k:Nat} (hk:ys.length=k) (hn:k<n):RowI (w.setCell ⟨g,k,none⟩ (.int .i64 v)) g n (ys++ [v.toNat]):=by
 exact dqz89
theorem RowI.set (h:RowI w g n ys) (i v:Nat) (hi:i<ys.length):RowI (w.setCell ⟨g,i,none⟩ (.int .i64 (v:Int))) g n (ys.set i v):=
 ⟨(h.1.set i _).congr fun j _=>by unfold qrk;rw[qkz _ _ _ hi];split<;>rfl,by simpa using h.2⟩
theorem RowI.setInt (h:RowI w g n ys) (v:Int) (h0:0≤v) {i:Nat} (hi:i<ys.length):RowI (w.setCell ⟨g,i,none⟩ (.int .i64 v)) g n (ys.set i v.toNat):=by
 exact dqz95
theorem RowI.of_block (h:RowI w g n ys) (e:w'.heap[g]? =w.heap[g]?):RowI w' g n ys:=⟨h.1.of_block e,h.2⟩
theorem RowI.alloc (h:RowI w g n ys) (o:Obj):RowI (w.alloc o) g n ys:=⟨h.1.alloc o,h.2⟩
theorem RowI.drew (h:RowI w g n ys):RowI w.drew g n ys:=h
theorem RowI.drewN (h:RowI w g n ys) (k:Nat):RowI (w.drewN k) g n ys:=h
theorem RowI.setOther (h:RowI w g n ys) {a:Addr} (ha:g≠a.block) (v:Value):RowI (w.setCell a v) g n ys:=⟨h.1.setOther ha v,h.2⟩
theorem RowI.below {B:Nat} (h:RowI w g n ys) (hb:Below B w w') (hg:g<B):RowI w' g n ys:=h.of_block (hb.block g hg)
theorem RowI.fill (h:RowI w g n ys):RowI w g n (ys++List.replicate (n-ys.length) 0):=by
 refine ⟨h.1.congr fun i hi=>?_,by have:=h.2;simp;omega⟩;unfold qrk nth;exact dqz46
end
def OwnI (w:World) (base:Nat) (A:Option Addr) (c:Nat) (xs:List Nat):Prop:=
 w.ownsRow base 3 1 (.slice A xs.length c) xs.length (xs.map fun x:Nat=>Value.int .i64 (x:Int))∧ ∀x∈xs,x<9223372036854775808
section
variable {w w':World} {base:Nat} {A:Option Addr} {c:Nat} {xs:List Nat}
theorem nth_boundI (h:∀x∈xs,x<9223372036854775808) (k:Nat):nth xs k<9223372036854775808:=by
 exact dqz54
theorem OwnI.nums (h:OwnI w base A c xs):NumsI w A xs:=by
 refine ⟨nth_boundI h.2,fun h0=>?_⟩;exact dqz15
theorem OwnI.nil (w:World) (base:Nat):OwnI w base none 0 []:=⟨World.ownsRow_nil _ _ _ _,fun _ h=>by cases h⟩
theorem OwnI.of_row {g n:Nat} {ys:List Nat} (h:RowI w g n ys) (hb:base≤g) (hc:n≤maxLen) (hx:xs.length≤n) (he:∀j,j<xs.length→nth ys j=nth xs j) (h64:∀x∈xs,x<9223372036854775808):OwnI w base (some ⟨g,0,none⟩) n xs:=by
 obtain ⟨⟨cur,hh,hsz,hcell⟩,hle⟩:=h;refine ⟨⟨by simp,.inr ⟨g,n,cur,rfl,hb,hh,hx,hc,by omega,?_⟩⟩,h64⟩;apply List.ext_getElem?
 intro j;rw[List.getElem?_take];by_cases hj:j<xs.length
 · rw[if_pos (by omega)];have h1:=hcell j (by omega);rw[Array.getElem?_toList,h1];unfold qrk;rw[he j hj];simp[nth,hj]
 · rw[if_neg (by omega),List.getElem?_eq_none (by simpa using Nat.le_of_not_lt hj)]
theorem OwnI.kept {row:Option Nat} (h:OwnI w base A c xs) (hg:w.grownBy w' row) (hne:(Value.slice A xs.length c).ownBlock=none∨(Value.slice A xs.length c).ownBlock≠row):OwnI w' base A c xs:=⟨h.1.kept hg hne,h.2⟩
theorem OwnI.below {B:Nat} (h:OwnI w base A c xs) (hb:Below B w w') (hB:w.heap.size≤B):OwnI w' base A c xs:=
 h.kept (row:=none) ⟨hb.os,hb.tape,hb.output,hb.size,fun k hk _=>hb.block k (by omega)⟩ (by cases (Value.slice A xs.length c).ownBlock<;>simp)
theorem OwnI.alloc (h:OwnI w base A c xs) (o:Obj):OwnI (w.alloc o) base A c xs:=⟨h.1.alloc o,h.2⟩
theorem OwnI.drew (h:OwnI w base A c xs):OwnI w.drew base A c xs:=h
theorem OwnI.drewN (h:OwnI w base A c xs) (k:Nat):OwnI (w.drewN k) base A c xs:=h
theorem OwnI.mono {b':Nat} (h:OwnI w base A c xs) (hb:b'≤base):OwnI w b' A c xs:=by
 exact dqz69
theorem OwnI.setCell (h:OwnI w base A c xs) {p:Addr} (hp:∀q,A=some q→q.block≠p.block) (u:Value):OwnI (w.setCell p u) base A c xs:=by
 exact dqz40
theorem OwnI.setBelow (h:OwnI w base A c xs) {p:Addr} (hp:p.block<base) (u:Value):OwnI (w.setCell p u) base A c xs:=
 ⟨ownsRow_setCell_below h.1 hp u,h.2⟩
theorem OwnI.set2 (h:OwnI w base A c xs) {g:Nat} {t:TypeId} {x y:Value} (hb:Blk w g t #[x,y]) (ht:3≠t) (u v:Value):OwnI ((w.setCell ⟨g,0,none⟩ u).setCell ⟨g,1,none⟩ v) base A c xs:=by
 exact dqz63
theorem OwnI.ge (h:OwnI w base A c xs):∀q,A=some q→base≤q.block∧q.block<w.heap.size:=by
 intro q hq;subst hq;exact h.1.lt q.block rfl
theorem NumsI.keep (h:NumsI w A xs) (hs:w.heap.size≤w'.heap.size) (hk:∀p:Addr,p.block<w.heap.size→w'.cell? p=w.cell? p):NumsI w' A xs:=
 ⟨h.1,fun h0=>by
  obtain ⟨b,o,rfl,hb,hc⟩:=h.2 h0;exact ⟨b,o,rfl,by omega,fun k hk'=>(hk _ hb).trans (hc k hk')⟩⟩
theorem NumsI.alloc (h:NumsI w A xs) (o:Obj):NumsI (w.alloc o) A xs:=h.keep (by simp) fun p hp=>World.cell?_alloc_lt w o p hp
theorem NumsI.drew (h:NumsI w A xs):NumsI w.drew A xs:=h
theorem NumsI.drewN (h:NumsI w A xs) (k:Nat):NumsI (w.drewN k) A xs:=h
theorem NumsI.below {B:Nat} (h:NumsI w A xs) (hb:Below B w w') (hB:w.heap.size≤B):NumsI w' A xs:=h.keep hb.size fun _ hp=>hb.cell (by omega)
theorem NumsI.setCell (h:NumsI w A xs) {p:Addr} (hp:∀q,A=some q→q.block≠p.block) (u:Value):NumsI (w.setCell p u) A xs:=
 ⟨h.1,fun h0=>by
  obtain ⟨b,o,rfl,hb,hc⟩:=h.2 h0;refine ⟨b,o,rfl,by simpa [World.setCell] using hb,fun k hk'=>?_⟩;rw[World.cell?_setCell_other _ _ _ _ (fun e=>hp _ rfl (by rw[e]))];exact hc k hk'⟩
end
/-! ### copy into a new row -/
/-! ### append of new words to a slice of the call's own -/
theorem OwnI.of_owns {w:World} {base n:Nat} {v:Value} {xs:List Nat} (h:w.ownsRow base 3 1 v n (xs.map fun x:Nat=>Value.int .i64 (x:Int))) (h64:∀x∈xs,x<9223372036854775808) :
 ∃A c,v= .slice A xs.length c∧OwnI w base A c xs:=by
 have hn:xs.length=n:=by simpa using h.1
 subst hn;rcases h.2 with ⟨rfl,hz⟩ | ⟨g,cap,cur,rfl,r⟩
 · exact ⟨none,0,by rw[hz],by rw[List.eq_nil_of_length_eq_zero hz];exact OwnI.nil _ _⟩
 · exact dqz166
theorem OwnI.cut {w:World} {base:Nat} {A:Option Addr} {c:Nat} {xs:List Nat} (h:OwnI w base A c xs) (hc:xs≠ []) {k:Nat} (hk:k≤xs.length):OwnI w base A c (xs.take k):=by
 exact dqz11
theorem RowI.nums {w':World} {g len:Nat} {zs:List Nat} (h:RowI w' g len zs) (hz:zs.length=len) (h64:∀x∈zs,x<9223372036854775808):NumsI w' (some ⟨g,0,none⟩) zs:=
 ⟨nth_boundI h64,fun _=>⟨g,0,rfl,h.lt,fun k hk=>by rw[Nat.zero_add];exact h.cell (by omega)⟩⟩
def inR (v:Int):Prop:=-9223372036854775808≤v∧v≤9223372036854775807
instance (v:Int):Decidable (inR v):=by unfold inR;infer_instance
@[irreducible] def intV (ok:Bool) (v:Int):Int:=if ok then (if inR v then v else 0) else 0
@[irreducible] def intE (ok:Bool) (v:Int):Int:=if ok then (if inR v then 0 else 7) else 3
def RetInt (W:World) (ok:Bool) (v:Int) (e:Ending) (w':World):Prop:=e= .returned (.tuple #[.int .i64 (intV ok v),.int .i64 (intE ok v)])∧Below W.heap.size W w'
section
variable (A:Option Addr) (c:Nat) (xs:List Nat) (w:World)
end
end Go.Proofs.YtmnmebdmpigddaaGreatDoor
namespace Go.Proofs.YtmnmebdmpigddaaGreatDoor
open Go.RowKit
@[irreducible] def smV (i:Int):Int:=if inR i then i else 0
def RetSmall (W:World) (i:Int) (e:Ending) (w':World):Prop:=e= .returned (.tuple #[.int .i64 (smV i),.bool (decide (inR i))])∧Below W.heap.size W w'
end Go.Proofs.YtmnmebdmpigddaaGreatDoor
